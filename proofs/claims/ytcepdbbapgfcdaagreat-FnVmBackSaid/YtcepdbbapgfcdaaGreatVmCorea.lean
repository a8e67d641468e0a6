/- Walks. -/
import Derived.WalkKit
import Derived.Deep.Draws
import Derived.Test.YtcepdbbapgfcdaaGreatProg
import Derived.WalkLawsBesides
import Derived.WalkSpells
import Derived.Lib.Hide
import Derived.Deep.QuietTactic
import Derived.BigQuiet
import Derived.Lib.SplitLaws
import Derived.OwnWalk
import Derived.OwnWalkIn
import Derived.WalkSmall
import Derived.Deep.RegionLaw
import Derived.Deep.AppendLies
import Derived.Laws.Rows
import Derived.ArgAppend
import Derived.Lib.SlBytesRow
set_option maxRecDepth 100000
set_option maxHeartbeats 4000000
set_option linter.unusedSimpArgs false
set_option linter.unusedVariables false
namespace Go.Proofs.YtcepdbbapgfcdaaGreat
def Zs(p:Prop):Prop:=p
theorem Zs.o{p:Prop}(h:Zs p):p:=h
theorem Ys{p:Prop}(h:p):Zs p:=h
end Go.Proofs.YtcepdbbapgfcdaaGreat
namespace Go.Proofs.YtcepdbbapgfcdaaGreat.M
structure Kind where
 kind:Int
 name:ByteArray
structure Tag where
 kind:Int
 name:ByteArray
structure Ins where
 op:Int
 a:Int
 name:ByteArray
 member:ByteArray
structure SMap where
 at_:Int
 locals:List Tag
 stack:List Tag
structure Field where
 name:ByteArray
 kind:Kind
structure Method where
 name:ByteArray
 args:List Kind
 ret:Kind
 locals:Int
 stack:Int
 code:List Ins
 maps:List SMap
structure Class where
 name:ByteArray
 aQ:ByteArray
 fields:List Field
 methods:List Method
structure Ask where
 name:ByteArray
 keeper:Int
structure gy where
 owns:List Class
 asks:List Ask
abbrev au:=List gy
structure Ref where
 keeper:Int
 name:ByteArray
theorem Ref.jd{a b:Ref}:a=b↔a.keeper=b.keeper∧a.name=b.name:=by
 cases a;cases b;simp
theorem Kind.jd{a b:Kind}:a=b↔a.kind=b.kind∧a.name=b.name:=by
 cases a;cases b;simp
theorem Tag.jd{a b:Tag}:a=b↔a.kind=b.kind∧a.name=b.name:=by
 cases a;cases b;simp
theorem Ins.jd{a b:Ins}:a=b↔a.op=b.op∧a.a=b.a∧a.name=b.name∧a.member=b.member:=by
 cases a;cases b;simp
instance:DecidableEq Ref:=fun _ _=>decidable_of_iff' _ Ref.jd
instance:DecidableEq Kind:=fun _ _=>decidable_of_iff' _ Kind.jd
instance:DecidableEq Tag:=fun _ _=>decidable_of_iff' _ Tag.jd
instance:DecidableEq Ins:=fun _ _=>decidable_of_iff' _ Ins.jd
theorem Field.jd{a b:Field}:a=b↔a.name=b.name∧a.kind=b.kind:=by
 cases a;cases b;simp
instance:DecidableEq Field:=fun _ _=>decidable_of_iff' _ Field.jd
def letter(c:UInt8):Bool:=decide (97≤c.toNat)&&decide (c.toNat≤122)
def aY(s:ByteArray):Bool:=decide (1≤s.size)&&decide (s.size≤6)&&s.data.toList.all letter
abbrev none_:ByteArray:=⟨#[]⟩
def jq(k:Kind):Bool:=(k.kind==1&&decide (k.name=none_))|| (k.kind==2&&aY k.name)
def oH(t:Tag):Bool:=
 if t.kind=0∨t.kind=1∨t.kind=3 then decide (t.name=none_)else if t.kind=2 then aY t.name else false
def mO(op:Int):Int:=if op=1 then -9999 else 0
def nZ(op:Int):Int:=if op=1 then 9999 else if op=2∨op=3 then 5 else 15
def isNum(op:Int):Bool:=op==1 || op==2 || op==3 || op==11 || op==12 || op==13
def lW(op:Int):Bool:=op==6 || op==15
def oD(op:Int):Bool:=op==7 || op==8 || op==9
def qX(op:Int):Bool:=op==4 || op==5 || op==10 || op==14
def jV(i:Ins):Bool:=
 if isNum i.op then decide (i.name=none_)&&decide (i.member=none_)&&decide (mO i.op≤i.a)&&decide (i.a≤nZ i.op)
 else if lW i.op then decide (i.a=0)&&decide (i.member=none_)&&aY i.name
 else if oD i.op then decide (i.a=0)&&aY i.name&&aY i.member
 else if qX i.op then decide (i.a=0)&&decide (i.name=none_)&&decide (i.member=none_)
 else false
def uF(l:List Tag):Bool:=l.all oH
def jC(m:Method)(i:Ins):Bool:=
 jV i&&(if i.op=2∨i.op=3 then decide (i.a<m.locals)else if i.op=11∨i.op=12∨i.op=13 then decide (i.a<m.code.length)else true)
def codeOk(m:Method):Bool:=decide (1≤m.code.length)&&decide (m.code.length≤16)&&m.code.all (jC m)
def uX(m:Method)(f:SMap):Bool:=
 decide (f.at_ <m.code.length)&&decide ((f.locals.length:Int)=m.locals)&&decide ((f.stack.length:Int)≤m.stack)&&uF f.locals&&uF f.stack
def mJ(m:Method):Int→List SMap→Bool
 |_,[]=>true
 |last,f::r=>decide (last<f.at_)&&uX m f&&mJ m f.at_ r
def wT(m:Method):Bool:=decide (m.maps.length≤5)&&mJ m 0 m.maps
def uZ(m:Method):Bool:=
 aY m.name&&decide (m.args.length≤3)&&jq m.ret&&m.args.all jq&&
 decide ((m.args.length:Int)+1≤m.locals)&&decide (m.locals≤6)&&decide (1≤m.stack)&&decide (m.stack≤5)&&codeOk m&&wT m
def dU{α:Type}(name:α→ByteArray)(ok:α→Bool):List α→List ByteArray→Bool
 |[],_=>true
 |x::r,seen=>ok x&& !(seen.any fun y=>decide (y=name x))&&dU name ok r (seen++[name x])
def oW(c:Class):Bool:=
 aY c.name&&(decide (c.aQ=none_)|| aY c.aQ)&&decide (c.fields.length≤3)&&decide (c.methods.length≤4)&&
 dU Field.name (fun f=>aY f.name&&jq f.kind) c.fields []&&dU Method.name uZ c.methods []
def has(p:au)(k:Int):Bool:=decide (0≤k)&&decide (k<p.length)
def eP(p:au)(k:gy):Bool:=
 decide (k.owns.length≤5)&&decide (k.asks.length≤4)&&dU Class.name oW k.owns []&&dU Ask.name (fun a=>aY a.name&&has p a.keeper) k.asks []
def bU(p:au):Bool:=decide (1≤p.length)&&decide (p.length≤3)&&p.all (eP p)
def jK(p:au)(k:Int):Option gy:=if 0≤k then p[k.toNat]? else none
def sN(p:au)(r:Ref):Option Nat:=(jK p r.keeper).bind fun k=>k.owns.findIdx? fun c=>c.name=r.name
def cls?(p:au)(r:Ref):Option Class:=(jK p r.keeper).bind fun k=>k.owns.find? fun c=>c.name=r.name
def zI(p:au)(k:Int)(n:ByteArray):Option Int:=(jK p k).bind fun q=>(q.asks.find? fun a=>a.name=n).map Ask.keeper
def owned(p:au)(r:Ref):Bool:=(cls? p r).isSome
def pO:Ref:=⟨0,none_⟩
def jP(p:au)(n:ByteArray):Nat→List Int→Int→List Int×Int
 |0,_,_=>([],3)
 |f+1,asked,k=>match zI p k n with
  |none=>if owned p ⟨k,n⟩then(asked,1)else([],2)
  |some next=>if asked.contains next then([],3)else jP p n f (asked++[next]) next
def path(p:au)(k:Int)(n:ByteArray):List Int×Int:=if has p k then jP p n 4 [k] k else([],2)
def resolve(p:au)(k:Int)(n:ByteArray):Ref×Int:=
 if(path p k n).2=1 then(⟨(path p k n).1.getLastD 0,n⟩,1)else(pO,(path p k n).2)
def aQ(p:au)(r:Ref):ByteArray:=((cls? p r).map Class.aQ).getD none_
def dh(p:au):Nat→Ref→Option (List Ref)
 |0,_=>none
 |f+1,r=>
  if aQ p r=none_ then some [r]
  else if(resolve p r.keeper (aQ p r)).2=1 then(dh p f (resolve p r.keeper (aQ p r)).1).map (r::·)else none
def qc(p:au)(r:Ref):Option (List Ref):=dh p 6 r
def find(p:au)(k:Int)(n:ByteArray):Ref×Int:=
 if(resolve p k n).2=1 then(if(qc p (resolve p k n).1).isSome then((resolve p k n).1,1)else(pO,4))else(pO,(resolve p k n).2)
def iO(p:au)(r:Ref):Bool:=decide ((find p r.keeper r.name).2=1)&&decide ((find p r.keeper r.name).1=r)
def chain(p:au)(r:Ref):List Ref:=if iO p r then(qc p r).getD []else []
def under(p:au)(low top:Ref):Bool:=(chain p low).contains top
def agree(p:au)(a b:Int)(k:Kind):Bool:=
 k.kind==1 || (if(find p a k.name).2=1∧(find p b k.name).2=1 then decide ((find p a k.name).1=(find p b k.name).1)
  else decide ((find p a k.name).2≠1)&&decide ((find p b k.name).2≠1))
def eD(p:au)(a b:Int)(m:Method):Bool:=m.args.all (agree p a b)&&agree p a b m.ret
def mK(c:Class)(n:ByteArray):Option Nat:=c.methods.findIdx? fun m=>m.name=n
def tT(c:Class)(n:ByteArray):Option Nat:=c.fields.findIdx? fun f=>f.name=n
def acW:Class:=⟨none_,none_,[],[]⟩
def cls(p:au)(r:Ref):Class:=(cls? p r).getD acW
def gH(p:au)(low high:Ref)(m:Method):Bool:=
 match(cls p high).methods.find? (fun n=>n.name=m.name)with
 |none=>true
 |some n=>decide (m.ret=n.ret)&&decide (m.args=n.args)&&eD p low.keeper high.keeper m
def kW(p:au)(low high:Ref):Bool:=
 (cls p low).fields.all (fun f=>(tT (cls p high) f.name).isNone)&&(cls p low).methods.all (gH p low high)
def iw(p:au):List Ref→Bool
 |[]=>true
 |low::r=>r.all (kW p low)&&iw p r
def cZ(p:au)(r:Ref):Bool:= !(chain p r).isEmpty&&iw p (chain p r)
end Go.Proofs.YtcepdbbapgfcdaaGreat.M
namespace Go.Proofs.YtcepdbbapgfcdaaGreat
open Go Go.RowKit
theorem aG{w:World}{b o:Nat}{v:Value}(h:w.cell? ⟨b,o,none⟩=some v):b<w.heap.size:=by
 rcases Nat.lt_or_ge b w.heap.size with h1|h1
 · exact h1
 · simp[World.cell?,Array.getElem?_eq_none h1]at h
structure Kp(D:Nat→Prop)(w w':World):Prop where
 os:w'.os=w.os
 tape:w'.tape=w.tape
 output:w'.output=w.output
 size:w.heap.size≤w'.heap.size
 block:∀k,k<w.heap.size→¬D k→w'.heap[k]?=w.heap[k]?
section
variable {D D':Nat→Prop} {w w' a b c:World}
theorem Kp.refl(D:Nat→Prop)(w:World):Kp D w w:=⟨rfl,rfl,rfl,Nat.le_refl _,fun _ _ _=>rfl⟩
theorem Kp.trans(h:Kp D a b)(k:Kp D b c):Kp D a c:=
 ⟨k.os.trans h.os,k.tape.trans h.tape,k.output.trans h.output,Nat.le_trans h.size k.size,
  fun i hi hd=>(k.block i (Nat.lt_of_lt_of_le hi h.size) hd).trans (h.block i hi hd)⟩
theorem Kp.weak(h:Kp D a b)(hD:∀k,k<a.heap.size→D k→D' k):Kp D' a b:=
 ⟨h.os,h.tape,h.output,h.size,fun k hk hd=>h.block k hk fun x=>hd (hD k hk x)⟩
theorem Kp.below(h:Kp D a b)(n:Nat)(hn:n≤a.heap.size)(hD:∀k,k<n→¬D k):Below n a b:=
 ⟨h.os,h.tape,h.output,h.size,fun k hk=>h.block k (by omega) (hD k hk)⟩
theorem Kp.alloc(h:Kp D a b)(o:Obj):Kp D a (b.alloc o):=
 ⟨h.os,h.tape,h.output,by simp;exact Nat.le_succ_of_le h.size,fun k hk hd=>(Below.heap_alloc b o k (Nat.lt_of_lt_of_le hk h.size)).trans (h.block k hk hd)⟩
theorem Kp.drew(h:Kp D a b):Kp D a b.drew:=⟨h.os,h.tape,h.output,h.size,h.block⟩
theorem Kp.drewN(h:Kp D a b)(n:Nat):Kp D a (b.drewN n):=⟨h.os,h.tape,h.output,h.size,h.block⟩
theorem Kp.setCell(h:Kp D a b){p:Addr}(hp:p.block<a.heap.size→D p.block)(v:Value):Kp D a (b.setCell p v):=
 ⟨h.os,h.tape,h.output,by simp[World.setCell];exact h.size,
  fun k hk hd=>(Below.heap_setCell b p v k (fun e=>hd (by subst e;exact hp hk))).trans (h.block k hk hd)⟩
theorem Kp.cell(h:Kp D a b){k o:Nat}(hk:k<a.heap.size)(hd:¬D k):b.cell? ⟨k,o,none⟩=a.cell? ⟨k,o,none⟩:=
 World.cell?_of_block (h.block k hk hd)
theorem Kp.frozen(h:Kp D a b){k o:Nat}(hk:k<a.heap.size)(hd:¬D k):b.frozen? ⟨k,o,none⟩=a.frozen? ⟨k,o,none⟩:=
 World.frozen?_of_block (h.block k hk hd)
abbrev Ext(w w':World):Prop:=Kp (fun _=>False) w w'
theorem Kp.any(h:Ext a b):Kp D a b:=h.weak fun _ _ x=>x.elim
theorem Ext.AB{w w':World}(h:Ext w w'):Below w.heap.size w w':=Kp.below h _ (Nat.le_refl _) fun _ _ x=>x
theorem Kp.aA(h:Ext a b){k o:Nat}{v:Value}(hc:a.cell? ⟨k,o,none⟩=some v):b.cell? ⟨k,o,none⟩=some v:=
 (h.cell (aG hc) (fun x=>x)).trans hc
theorem Kp.iX(h:Kp D a b){k o:Nat}{v:Value}(hc:a.cell? ⟨k,o,none⟩=some v)(hd:¬D k):b.cell? ⟨k,o,none⟩=some v:=
 (h.cell (aG hc) hd).trans hc
theorem Kp.OB{o':Obj}(h:Ext (a.alloc o') b){k o:Nat}{v:Value}(hc:a.cell? ⟨k,o,none⟩=some v):b.cell? ⟨k,o,none⟩=some v:=
 h.aA (((Kp.refl _ _).alloc _:Ext a _).aA hc)
inductive KX(D:Nat→Prop)(w:World):World→Prop
 |r:KX D w w
 |a {b:World} {o:Obj}:KX D w b→KX D w (b.alloc o)
 |d {b:World}:KX D w b→KX D w b.drew
 |n {b:World} {k:Nat}:KX D w b→KX D w (b.drewN k)
 |h {b:World}:Kp D w b→KX D w b
theorem KX.k{D:Nat→Prop}{w b:World}(h:KX D w b):Kp D w b:=by
 induction h with
 |r=>exact Kp.refl _ _
 |a _ ih=>exact ih.alloc _
 |d _ ih=>exact ih.drew
 |n _ ih=>exact ih.drewN _
 |h h=>exact h
theorem kx{D:Nat→Prop}{w b:World}(h:KX D w b:=by repeat (first|assumption|constructor)):Kp D w b:=h.k
theorem KD{W w1:World}(hb:Ext W w1):
    (∀b o,b<W.heap.size→w1.cell? ⟨b,o,none⟩=W.cell? ⟨b,o,none⟩)∧(∀b o,b<W.heap.size→w1.frozen? ⟨b,o,none⟩=W.frozen? ⟨b,o,none⟩):=
 ⟨fun _ _ h=>hb.cell h fun x=>x,fun _ _ h=>hb.frozen h fun x=>x⟩
end
def aC(w:World)(g:Nat)(t:TypeId)(cs:Array Value):Prop:=w.heap[g]?=some (.cells cs t (0,0))
section
variable {w w':World} {g:Nat} {t:TypeId} {cs:Array Value}
theorem aC.lt(h:aC w g t cs):g<w.heap.size:=by
 rcases Nat.lt_or_ge g w.heap.size with bZ|hge
 · exact bZ
 · unfold aC at h;rw[Array.getElem?_eq_none hge]at h;cases h
theorem aC.cell(h:aC w g t cs)(i:Nat):w.cell? ⟨g,i,none⟩=cs[i]?:=by
 unfold aC at h;simp[World.cell?,h]
theorem aC.c(h:aC w g t cs)(i:Nat)(v:Value)(hv:cs[i]?=some v):w.cell? ⟨g,i,none⟩=some v:=(h.cell i).trans hv
theorem aC.frozen(h:aC w g t cs)(i:Nat):w.frozen? ⟨g,i,none⟩=false:=by
 unfold aC at h;simp[World.frozen?,h]
theorem aC.keep(h:aC w g t cs)(hk:w'.heap[g]?=w.heap[g]?):aC w' g t cs:=hk.trans h
theorem aC.ext(h:aC w g t cs)(hb:Ext w w'):aC w' g t cs:=(hb.block g h.lt fun x=>x).trans h
theorem aC.kp{D:Nat→Prop}(h:aC w g t cs)(hb:Kp D w w')(hg:¬D g):aC w' g t cs:=(hb.block g h.lt hg).trans h
theorem aC.new(w:World)(t:TypeId)(cs:Array Value):aC (w.alloc (.cells cs t)) w.heap.size t cs:=by
 unfold aC World.alloc;simp
theorem nu(w:World)(cs:Array Value)(t:TypeId):∃x,x=w.alloc (.cells cs t)∧Ext w x∧aC x w.heap.size t cs:=⟨_,rfl,(Kp.refl _ _).alloc _,aC.new _ _ _⟩
theorem aC.bI(h:aC w g t cs)(i:Nat)(u:Value):aC (w.setCell ⟨g,i,none⟩ u) g t (cs.setIfInBounds i u):=by
 unfold aC at h ⊢;simp[World.setCell,Array.getElem?_modify,h]
end
def ae(w:World)(b o:Nat)(cs:List Value):Prop:=∀j v,cs[j]?=some v→w.cell? ⟨b,o+j,none⟩=some v
abbrev fP(α:Type):=World→(Nat→Prop)→α→List Value→Prop
def SliceOf{α:Type}(k:Nat)(R:fP α)(w:World)(I:Nat→Prop)(v:Value)(xs:List α):Prop:=
 ∃a cap,v=.slice a xs.length cap∧xs.length≤cap∧xs.length≤4294967296∧
  ∀i x,xs[i]?=some x→∃b off cs,a=some ⟨b,off,none⟩∧I b∧R w I x cs∧cs.length=k∧ae w b (off+i*k) cs
theorem ae.keep{w w':World}{b o:Nat}{cs:List Value}(h:ae w b o cs)(hs:∀o v,w.cell? ⟨b,o,none⟩=some v→w'.cell? ⟨b,o,none⟩=some v):ae w' b o cs:=
 fun j v hj=>hs _ _ (h j v hj)
def Same(I:Nat→Prop)(w w':World):Prop:=∀b o v,I b→w.cell? ⟨b,o,none⟩=some v→w'.cell? ⟨b,o,none⟩=some v
theorem Ext.same{I:Nat→Prop}{w w':World}(h:Ext w w'):Same I w w':=fun _ _ _ _ hc=>Kp.aA h hc
theorem Kp.same{I D:Nat→Prop}{w w':World}(h:Kp D w w')(hI:∀b,I b→¬D b):Same I w w':=fun b _ _ hb hc=>h.iX hc (hI b hb)
def bQ{α:Type}(R:fP α):Prop:=∀(w w':World) (I J:Nat→Prop) (x:α) (cs:List Value),Same I w w'→(∀b,I b→J b)→R w I x cs→R w' J x cs
theorem SliceOf.keep{α:Type}{k:Nat}{R:fP α}(hR:bQ R){w w':World}{I J:Nat→Prop}{v:Value}{xs:List α}(h:SliceOf k R w I v xs)
    (hs:Same I w w') (Vd:∀b,I b→J b):SliceOf k R w' J v xs:=by
 obtain⟨a,cap,e,h1,h2,h3⟩:=h;refine⟨a,cap,e,h1,h2,fun i x hx=>?_⟩;obtain⟨b,off,cs',ea,hI,hr,hl,hc⟩:=h3 i x hx;exact⟨b,off,cs',ea,Vd b hI,hR _ _ _ _ _ _ hs Vd hr,hl,hc.keep fun o v=>hs b o v hI⟩
theorem SliceOf.ext{α:Type}{k:Nat}{R:fP α}{w w':World}{I:Nat→Prop}{v:Value}{xs:List α}(h:SliceOf k R w I v xs)(hR:bQ R)(hE:Ext w w'):SliceOf k R w' I v xs:=
 h.keep hR (Ext.same hE) fun _ h=>h
theorem SliceOf.get{α:Type}{k:Nat}{R:fP α}{w:World}{I:Nat→Prop}{a:Option Addr}{n cap:Nat}{xs:List α}(h:SliceOf k R w I (.slice a n cap) xs){i:Nat}{x:α}(hx:xs[i]?=some x):
    ∃b off cs,a=some ⟨b,off,none⟩∧I b∧R w I x cs∧cs.length=k∧ae w b (off+i*k) cs:=by
 obtain⟨a',cap',e,h1,h2,h3⟩:=h;cases e;exact h3 i x hx
theorem SliceOf.form{α:Type}{k:Nat}{R:fP α}{w:World}{I:Nat→Prop}{v:Value}{xs:List α}(h:SliceOf k R w I v xs):
    ∃a cap,v=.slice a xs.length cap∧xs.length≤cap∧xs.length≤4294967296:=by
 obtain⟨a,cap,e,h1,h2,_⟩:=h;exact⟨a,cap,e,h1,h2⟩
theorem SliceOf.nil{α:Type}(k:Nat)(R:fP α)(w:World)(I:Nat→Prop):SliceOf k R w I (.slice none 0 0) ([]:List α):=
 ⟨none,0,rfl,Nat.le_refl _,by simp,fun i x hx=>by simp at hx⟩
theorem SliceOf.take{α:Type}{k:Nat}{R:fP α}{w:World}{I:Nat→Prop}{a:Option Addr}{n cap:Nat}{xs:List α}(h:SliceOf k R w I (.slice a n cap) xs){i:Nat}(hi:i≤xs.length):
    SliceOf k R w I (.slice a i cap) (xs.take i):=by
 obtain⟨a',cap',e,h1,h2,h3⟩:=h;cases e;refine⟨a,cap,by rw[List.length_take,Nat.min_eq_left hi],by rw[List.length_take];omega,by rw[List.length_take];omega,fun j x hx=>?_⟩;rw[List.getElem?_take]at hx;split at hx
 · exact h3 j x hx
 · cases hx
def jm:fP M.Kind:=fun _ _ x cs=>cs=[.int .i64 x.kind,.string x.name]
def eB:fP M.Tag:=fun _ _ x cs=>cs=[.int .i64 x.kind,.string x.name]
def tH:fP M.Ins:=fun _ _ x cs=>cs=[.int .i64 x.op,.int .i64 x.a,.string x.name,.string x.member]
def A7:fP M.Ref:=fun _ _ x cs=>cs=[.int .i64 x.keeper,.string x.name]
def lC:fP M.Ask:=fun _ _ x cs=>cs=[.string x.name,.int .i64 x.keeper]
def eO:fP M.Field:=fun _ _ x cs=>cs=[.string x.name,.int .i64 x.kind.kind,.string x.kind.name]
def iZ:fP Int:=fun _ _ x cs=>cs=[.int .i64 x]
def gM:fP M.SMap:=fun w I x cs=>∃vl vs,cs=[.int .i64 x.at_,vl,vs]∧SliceOf 2 eB w I vl x.locals∧SliceOf 2 eB w I vs x.stack
def aH:fP M.Method:=fun w I x cs=>∃va vc vm,cs=[.string x.name,va,.int .i64 x.ret.kind,.string x.ret.name,.int .i64 x.locals,.int .i64 x.stack,vc,vm]∧
 SliceOf 2 jm w I va x.args∧SliceOf 4 tH w I vc x.code∧SliceOf 3 gM w I vm x.maps
def aX:fP M.Class:=fun w I x cs=>∃vf vm,cs=[.string x.name,.string x.aQ,vf,vm]∧SliceOf 3 eO w I vf x.fields∧SliceOf 8 aH w I vm x.methods
def az:fP M.gy:=fun w I x cs=>∃vo va,cs=[vo,va]∧SliceOf 4 aX w I vo x.owns∧SliceOf 2 lC w I va x.asks
theorem aH.form{w:World}{I:Nat→Prop}{x:M.Method}{cs:List Value}(h:aH w I x cs):∃a1 c1 a2 c2 a3 c3,
    cs=[.string x.name,.slice a1 x.args.length c1,.int .i64 x.ret.kind,.string x.ret.name,.int .i64 x.locals,.int .i64 x.stack,.slice a2 x.code.length c2,.slice a3 x.maps.length c3]:=by
 obtain⟨_,_,_,rfl,h1,h2,h3⟩:=h;obtain⟨a1,c1,rfl,_⟩:=h1.form;obtain⟨a2,c2,rfl,_⟩:=h2.form;obtain⟨a3,c3,rfl,_⟩:=h3.form;exact⟨a1,c1,a2,c2,a3,c3,rfl⟩
theorem aX.form{w:World}{I:Nat→Prop}{x:M.Class}{cs:List Value}(h:aX w I x cs):∃a1 c1 a2 c2,
    cs=[.string x.name,.string x.aQ,.slice a1 x.fields.length c1,.slice a2 x.methods.length c2]:=by
 obtain⟨_,_,rfl,h1,h2⟩:=h;obtain⟨a1,c1,rfl,_⟩:=h1.form;obtain⟨a2,c2,rfl,_⟩:=h2.form;exact⟨a1,c1,a2,c2,rfl⟩
theorem az.form{w:World}{I:Nat→Prop}{x:M.gy}{cs:List Value}(h:az w I x cs):∃a1 c1 a2 c2,
    cs=[.slice a1 x.owns.length c1,.slice a2 x.asks.length c2]:=by
 obtain⟨_,_,rfl,h1,h2⟩:=h;obtain⟨a1,c1,rfl,_⟩:=h1.form;obtain⟨a2,c2,rfl,_⟩:=h2.form;exact⟨a1,c1,a2,c2,rfl⟩
theorem gM.form{w:World}{I:Nat→Prop}{x:M.SMap}{cs:List Value}(h:gM w I x cs):∃a1 c1 a2 c2,
    cs=[.int .i64 x.at_,.slice a1 x.locals.length c1,.slice a2 x.stack.length c2]:=by
 obtain⟨_,_,rfl,h1,h2⟩:=h;obtain⟨a1,c1,rfl,_⟩:=h1.form;obtain⟨a2,c2,rfl,_⟩:=h2.form;exact⟨a1,c1,a2,c2,rfl⟩
theorem jm.stays:bQ jm:=fun _ _ _ _ _ _ _ _ h=>h
theorem eB.stays:bQ eB:=fun _ _ _ _ _ _ _ _ h=>h
theorem tH.stays:bQ tH:=fun _ _ _ _ _ _ _ _ h=>h
theorem A7.stays:bQ A7:=fun _ _ _ _ _ _ _ _ h=>h
theorem lC.stays:bQ lC:=fun _ _ _ _ _ _ _ _ h=>h
theorem eO.stays:bQ eO:=fun _ _ _ _ _ _ _ _ h=>h
theorem iZ.stays:bQ iZ:=fun _ _ _ _ _ _ _ _ h=>h
theorem gM.stays:bQ gM:=fun _ _ _ _ _ _ hs hI ⟨vl,vs,e,h1,h2⟩=>⟨vl,vs,e,h1.keep eB.stays hs hI,h2.keep eB.stays hs hI⟩
theorem aH.stays:bQ aH:=fun _ _ _ _ _ _ hs hI ⟨va,vc,vm,e,h1,h2,h3⟩=>
 ⟨va,vc,vm,e,h1.keep jm.stays hs hI,h2.keep tH.stays hs hI,h3.keep gM.stays hs hI⟩
theorem aX.stays:bQ aX:=fun _ _ _ _ _ _ hs hI ⟨vf,vm,e,h1,h2⟩=>⟨vf,vm,e,h1.keep eO.stays hs hI,h2.keep aH.stays hs hI⟩
theorem az.stays:bQ az:=fun _ _ _ _ _ _ hs hI ⟨vo,va,e,h1,h2⟩=>⟨vo,va,e,h1.keep aX.stays hs hI,h2.keep lC.stays hs hI⟩
theorem ae.two{w:World}{b o:Nat}{x y:Value}(h:ae w b o [x,y]):w.cell? ⟨b,o,none⟩=some x∧w.cell? ⟨b,o+1,none⟩=some y:=
 ⟨by simpa using h 0 x rfl,h 1 y rfl⟩
theorem ae.one{w:World}{b o:Nat}{x:Value}(h:ae w b o [x]):w.cell? ⟨b,o,none⟩=some x:=by simpa using h 0 x rfl
theorem ae.three{w:World}{b o:Nat}{x y z:Value}(h:ae w b o [x,y,z]):
    w.cell? ⟨b,o,none⟩=some x∧w.cell? ⟨b,o+1,none⟩=some y∧w.cell? ⟨b,o+2,none⟩=some z:=
 ⟨by simpa using h 0 x rfl,h 1 y rfl,h 2 z rfl⟩
theorem ae.four{w:World}{b o:Nat}{x y z u:Value}(h:ae w b o [x,y,z,u]):
    w.cell? ⟨b,o,none⟩=some x∧w.cell? ⟨b,o+1,none⟩=some y∧w.cell? ⟨b,o+2,none⟩=some z∧w.cell? ⟨b,o+3,none⟩=some u:=
 ⟨by simpa using h 0 x rfl,h 1 y rfl,h 2 z rfl,h 3 u rfl⟩
theorem ae.eight{w:World}{b o:Nat}{x0 x1 x2 x3 x4 x5 x6 x7:Value}(h:ae w b o [x0,x1,x2,x3,x4,x5,x6,x7]):
    w.cell? ⟨b,o,none⟩=some x0∧w.cell? ⟨b,o+1,none⟩=some x1∧w.cell? ⟨b,o+2,none⟩=some x2∧w.cell? ⟨b,o+3,none⟩=some x3∧
    w.cell? ⟨b,o+4,none⟩=some x4∧w.cell? ⟨b,o+5,none⟩=some x5∧w.cell? ⟨b,o+6,none⟩=some x6∧w.cell? ⟨b,o+7,none⟩=some x7:=
 ⟨by simpa using h 0 x0 rfl,h 1 x1 rfl,h 2 x2 rfl,h 3 x3 rfl,h 4 x4 rfl,h 5 x5 rfl,h 6 x6 rfl,h 7 x7 rfl⟩
theorem ae.ext{w w':World}{b o:Nat}{cs:List Value}(h:ae w b o cs)(hb:Ext w w'):ae w' b o cs:=fun j v hj=>hb.aA (h j v hj)
theorem ae.kp{D:Nat→Prop}{w w':World}{b o:Nat}{cs:List Value}(h:ae w b o cs)(hk:Kp D w w')(hD:¬D b):ae w' b o cs:=fun j v hj=>hk.iX (h j v hj) hD
end Go.Proofs.YtcepdbbapgfcdaaGreat
namespace Go.Proofs.YtcepdbbapgfcdaaGreat
open Go Go.RowKit
def BytesAt(W:World)(v:Value)(zs:List Int):Prop:=
 (v=.slice none 0 0∧zs=[])∨∃a cap,v=.slice (some a) zs.length cap∧zs.length≤cap∧(∀i,i<zs.length→W.cell? (a.add i)=some (.int .u8 (zs.getD i 0)))∧∀n∈zs,0≤n∧n<256
theorem BytesAt.form{W:World}{v:Value}{zs:List Int}(h:BytesAt W v zs):∃a cap,v=.slice a zs.length cap:=by
 rcases h with⟨rfl,rfl⟩|⟨a,cap,rfl,_⟩
 · exact⟨none,0,rfl⟩
 · exact⟨_,_,rfl⟩
theorem xq{W:World}{a:Addr}{v:Value}(h:W.cell? a=some v):a.block<W.heap.size:=by
 rcases Nat.lt_or_ge a.block W.heap.size with h1|h1
 · exact h1
 · simp[World.cell?,Array.getElem?_eq_none h1]at h
theorem BytesAt.ext{W W':World}{v:Value}{zs:List Int}(h:BytesAt W v zs)(hE:Ext W W'):BytesAt W' v zs:=by
 rcases h with h|⟨a,cap,h1,h2,h3,h4⟩
 · exact .inl h
 · exact .inr ⟨a,cap,h1,h2,fun i hi=>(World.cell?_of_block (hE.block _ (xq (h3 i hi)) fun x=>x)).trans (h3 i hi),h4⟩
theorem Bi{zs:List Int}(h:∀n∈zs,0≤n∧n<256){i:Nat}(hi:i<zs.length):0≤zs.getD i 0∧zs.getD i 0<256:=by
 have e:zs.getD i 0=zs[i]:=by simp[List.getD,List.getElem?_eq_getElem hi]
 rw[e];exact h _ (List.getElem_mem _)
def Ox(f:FuncId):Prop:=∀(W:World) (v:Value) (zs:List Int),BytesAt W v zs→Calls Tryz.prog f #[v] W fun e W'=>e=.returned (.bool true)∧Ext W W'
theorem ag{a b:Bool}(h:a=b):Ending.returned (.bool a)=.returned (.bool b):=by rw[h]
theorem fK(s:ByteArray):s.toList.isEmpty=decide (s=M.none_):=by
 rw[ByteArray.toList_eq];obtain⟨⟨l⟩⟩:=s;cases l<;>simp[M.none_]
theorem CP(s:ByteArray)(k:Nat)(h:k<s.size):s.data.toList.take (k+1)=s.data.toList.take k++[s[k]]:=by
 rw[List.take_succ_eq_append_getElem (by simpa using h)];rfl
theorem Ao(s:ByteArray)(k:Nat)(h:k<s.size)(hc:M.letter s[k]=false):M.aY s=false:=by
 have hm:s[k]∈s.data.toList:=by simp[ByteArray.getElem_eq_getElem_data]
 unfold M.aY;rw[List.all_eq_false.2 ⟨_,hm,by simp[hc]⟩];simp
theorem E8{c:UInt8}(h:(c.toNat:Int)<97):M.letter c=false:=by
 unfold M.letter;rw[decide_eq_false (by omega)];rfl
theorem E9{c:UInt8}(h:(c.toNat:Int)<97∨122<(c.toNat:Int)):M.letter c=false:=by
 unfold M.letter;rcases h with h|h
 · rw[decide_eq_false (by omega)];rfl
 · rw[decide_eq_false (p:=c.toNat≤122) (by omega)];simp
theorem Fa{c:UInt8}(h:97≤(c.toNat:Int)∧(c.toNat:Int)≤122):M.letter c=true:=by
 unfold M.letter;rw[decide_eq_true (by omega),decide_eq_true (by omega)];rfl
theorem AJ(s:ByteArray)(w:World):
    Calls Tryz.prog 43 #[.string s] w fun e w'=>e=.returned (.bool (M.aY s))∧w=w':=by
 by_cases h1:s.size<1
 · go_enter Tryz.func43,Tryz.ntmps43;go_wp2;go_ret;exact⟨ag (by unfold M.aY;rw[decide_eq_false (by omega)];rfl),rfl⟩
 by_cases h2:6<s.size
 · go_enter Tryz.func43,Tryz.ntmps43;go_wp2;go_ret;exact⟨ag (by unfold M.aY;rw[decide_eq_false (p:=s.size≤6) (by omega)];simp),rfl⟩
 go_enter Tryz.func43,Tryz.ntmps43;go_wp2;go_loop [3] (fun i=>∃k:Nat,k≤s.size∧i=.int .i64 k∧(s.data.toList.take k).all M.letter=true) (fun i=>s.size - (intOf i).toNat)
 case atStart=>exact⟨0,Nat.zero_le _,rfl,by simp⟩
 case round =>
  obtain⟨k,hk,rfl,sj⟩:=hrel;have HA:=Ys sj;clear sj;by_cases bZ:k<s.size
  · go_wp2
    · go_ret;exact⟨ag (Ao s k bZ (E9 (by assumption))).symm,rfl⟩
    · go_round
      case rel=>
       refine⟨k+1,by omega,by go_num,?_⟩;rw[CP s k bZ,List.all_append,HA.o];simp[Fa (c:=s[k]) (by assumption)]
      case measure=>simp[intOf];omega
    · go_ret;exact⟨ag (Ao s k bZ (E8 (by assumption))).symm,rfl⟩
  · go_wp2;go_ret;refine⟨ag ?_,rfl⟩;have h:=HA.o;rw[List.take_of_length_le (by simp;omega)]at h;unfold M.aY;rw[h,decide_eq_true (by omega),decide_eq_true (by omega)];rfl
theorem fZ(s:ByteArray)(w:World):
    Calls Tryz.prog 25 #[.string s] w fun e w'=>e=.returned (.bool (M.aY s))∧w=w':=by
 go_enter Tryz.func25,Tryz.ntmps25;go_wp2_with (go_at_call 43;refine(AJ _ _).mono ?_;rintro e w' ⟨rfl,rfl⟩);go_ret;exact⟨rfl,rfl⟩
theorem JH(n:Int)(w:World):
    Calls Tryz.prog 26 #[.int .i64 n] w fun e w'=>e=.returned (.bool (decide (-9999≤n)&&decide (n≤9999)))∧w=w':=by
 go_enter Tryz.func26,Tryz.ntmps26;go_wp2
 · go_ret;exact⟨ag (by rw[decide_eq_true (p:= -9999≤n) (by omega)];rfl),rfl⟩
 · go_ret;exact⟨ag (by rw[decide_eq_false (p:= -9999≤n) (by omega)];rfl),rfl⟩
theorem DL(n:Int)(w:World):
    Calls Tryz.prog 50 #[.int .i64 n] w fun e w'=>e=.returned (.agg #[.int .i64 1,.int .i64 n])∧Ext w w':=by
 go_enter Tryz.func50,Tryz.ntmps50;go_wp2;refine bodyPost_ret (v:=.agg #[.int .i64 1,.int .i64 n]) (by simp[results,Tryz.results50,go_sem]) rfl ?_;exact⟨rfl,((Kp.refl _ _).alloc _)⟩
theorem Lx(w:World):
    Calls Tryz.prog 92 #[] w fun e w'=>e=.returned (.agg #[.int .i64 3,.int .i64 0])∧Ext w w':=by
 go_enter Tryz.func92,Tryz.ntmps92;go_wp2;refine bodyPost_ret (v:=.agg #[.int .i64 3,.int .i64 0]) (by simp[results,Tryz.results92,go_sem]) rfl ?_;exact⟨rfl,((Kp.refl _ _).alloc _)⟩
def VN(k:M.Kind)(e:Ending):Prop:=(M.jq k=true∧∃t x,e=.returned (.iface t x))∨(M.jq k=false∧e=.returned .nilIface)
theorem WV{n:ByteArray}(h:n.toList.isEmpty=true):M.jq ⟨1,n⟩=true:=by
 rw[fK]at h;simp[M.jq,h]
theorem Ub{n:ByteArray}(h:n.toList.isEmpty=false):M.jq ⟨1,n⟩=false:=by
 rw[fK]at h;simp[M.jq,h]
theorem WW{k:Int}{n:ByteArray}(h1:k=2):M.jq ⟨k,n⟩=M.aY n:=by
 subst h1;simp[M.jq]
theorem WU{k:Int}{n:ByteArray}(h1:¬k=1)(h2:¬k=2):M.jq ⟨k,n⟩=false:=by
 simp[M.jq,h1,h2]
theorem UK(k:M.Kind)(w:World):
    Calls Tryz.prog 76 #[.agg #[.int .i64 k.kind,.string k.name]] w fun e w'=>VN k e∧Ext w w':=by
 obtain⟨kk,kn⟩:=k;by_cases h1:kk=1
 · subst h1;cases hn:kn.toList.isEmpty
   · go_enter Tryz.func76,Tryz.ntmps76;go_wp2;go_ret;exact⟨.inr ⟨Ub hn,rfl⟩,((Kp.refl _ _).alloc _)⟩
   · go_enter Tryz.func76,Tryz.ntmps76;go_wp2;go_ret;exact⟨.inl ⟨WV hn,_,_,rfl⟩,((Kp.refl _ _).alloc _)⟩
 · by_cases h2:kk=2
   · have HN:=Ys (WW (n:=kn) h2);cases hb:M.aY kn
     all_goals
      have HB:=Ys hb;clear hb;go_enter Tryz.func76,Tryz.ntmps76;go_wp2_with (go_at_call 43;refine(AJ _ _).mono ?_;rintro e w' ⟨rfl,rfl⟩;rw[HB.o]);go_ret
     · exact⟨.inr ⟨by rw[HN.o,HB.o],rfl⟩,((Kp.refl _ _).alloc _)⟩
     · exact⟨.inl ⟨by rw[HN.o,HB.o],_,_,rfl⟩,((Kp.refl _ _).alloc _)⟩
   · go_enter Tryz.func76,Tryz.ntmps76;go_wp2;go_ret;exact⟨.inr ⟨WU h1 h2,rfl⟩,((Kp.refl _ _).alloc _)⟩
theorem Bw(k:M.Kind)(w:World):
    Calls Tryz.prog 36 #[.agg #[.int .i64 k.kind,.string k.name]] w fun e w'=>e=.returned (.bool (M.jq k))∧Ext w w':=by
 go_enter Tryz.func36,Tryz.ntmps36;go_wp2_with fail;refine(UK k _).mono ?_;rintro e w1 ⟨⟨hk,t,x,rfl⟩|⟨hk,rfl⟩,hB⟩
 · go_wp2;go_ret;exact⟨ag hk.symm,(by repeat (first|assumption|exact Kp.refl _ _|apply Kp.alloc|apply Kp.drew|apply Kp.drewN|refine Kp.trans ?_ (by assumption)))⟩
 · go_wp2;go_ret;exact⟨ag hk.symm,(by repeat (first|assumption|exact Kp.refl _ _|apply Kp.alloc|apply Kp.drew|apply Kp.drewN|refine Kp.trans ?_ (by assumption)))⟩
theorem JU{k:Int}{n:ByteArray}(h:k=0∨k=1∨k=3):M.oH ⟨k,n⟩=n.toList.isEmpty:=by
 unfold M.oH;rw[if_pos h,fK]
theorem Xn{k:Int}{n:ByteArray}(h:k=2):M.oH ⟨k,n⟩=M.aY n:=by
 subst h;rfl
theorem Xo{k:Int}{n:ByteArray}(h0:¬k=0)(h1:¬k=1)(h2:¬k=2)(h3:¬k=3):M.oH ⟨k,n⟩=false:=by
 simp[M.oH,h0,h1,h2,h3]
theorem aaE(k:M.Tag)(w:World):
    Calls Tryz.prog 32 #[.agg #[.int .i64 k.kind,.string k.name]] w fun e w'=>e=.returned (.bool (M.oH k))∧Ext w w':=by
 obtain⟨kk,kn⟩:=k;by_cases h0:kk=0
 · have HT:=Ys (JU (n:=kn) (.inl h0));go_enter Tryz.func32,Tryz.ntmps32;go_wp2;go_ret;exact⟨ag HT.o.symm,((Kp.refl _ _).alloc _)⟩
 by_cases h1:kk=1
 · have HT:=Ys (JU (n:=kn) (.inr (.inl h1)));go_enter Tryz.func32,Tryz.ntmps32;go_wp2;go_ret;exact⟨ag HT.o.symm,((Kp.refl _ _).alloc _)⟩
 by_cases h3:kk=3
 · have HT:=Ys (JU (n:=kn) (.inr (.inr h3)));go_enter Tryz.func32,Tryz.ntmps32;go_wp2;go_ret;exact⟨ag HT.o.symm,((Kp.refl _ _).alloc _)⟩
 by_cases h2:kk=2
 · have HT:=Ys (Xn (n:=kn) h2);go_enter Tryz.func32,Tryz.ntmps32;go_wp2_with (go_at_call 25;refine(fZ _ _).mono ?_;rintro e w' ⟨rfl,rfl⟩);go_ret;exact⟨ag HT.o.symm,((Kp.refl _ _).alloc _)⟩
 · go_enter Tryz.func32,Tryz.ntmps32;go_wp2;go_ret;exact⟨ag (Xo h0 h1 h2 h3).symm,((Kp.refl _ _).alloc _)⟩
end Go.Proofs.YtcepdbbapgfcdaaGreat
namespace Go.Proofs.YtcepdbbapgfcdaaGreat
open Go
namespace M
def bs(l:List UInt8):ByteArray:=⟨⟨l⟩⟩
theorem A9{a b:List UInt8}(h:bs a=bs b):a=b:=by
 have:=congrArg (fun s:ByteArray=>s.data.toList) h;exact this
def gW:List UInt8→List UInt8→List (List UInt8)
 |cur,[]=>[cur]
 |cur,c::r=>if c=32 then cur::gW [] r else gW (cur++[c]) r
def words(s:ByteArray):List ByteArray:=(gW [] s.data.toList).map bs
theorem pK:∀(a cur:List UInt8),32 ∉ a→gW cur a=[cur++a]
 |[],cur,_=>by simp[gW]
 |c::r,cur,h=>by
  have h1:c≠32:=fun e=>h (by simp[e]);rw[gW,if_neg h1,pK r _ (fun e=>h (by simp[e]))];simp
theorem jH:∀(a b cur:List UInt8),32 ∉ a→gW cur (a++32::b)=(cur++a)::gW [] b
 |[],b,cur,_=>by simp[gW]
 |c::r,b,cur,h=>by
  have h1:c≠32:=fun e=>h (by simp[e]);rw[List.cons_append,gW,if_neg h1,jH r b _ (fun e=>h (by simp[e]))];simp
theorem Ob(a:List UInt8):∀cur,gW cur a≠[]:=by
 induction a with
 |nil=>intro cur h;simp[gW]at h
 |cons c r ih=>
  intro cur h;rw[gW]at h;split at h
  · cases h
  · exact ih _ h
def digit(n:Int):List UInt8:=[UInt8.ofNat (48+n.toNat)]
structure UY where
 kind:Int
 keeper:Int
 name:ByteArray
 dst:Int
deriving DecidableEq
def x9(c:UY):Bool:=decide (0≤c.keeper)&&(decide (c.keeper≤2)&&(aY c.name&&(if c.kind=3 then decide (0≤c.dst)&&decide (c.dst≤2)else(decide (c.kind=2)|| decide (c.kind=4))&&decide (c.dst=0))))
def YK:List UInt8:=[116,97,107,101]
def abu:List UInt8:=[97,115,107]
def XX:List UInt8:=[102,114,101,101]
def DD(c:UY):List UInt8:=
 if c.kind=2 then YK++32::(digit c.keeper++32::c.name.data.toList)
 else if c.kind=3 then abu++32::(digit c.keeper++32::(c.name.data.toList++32::digit c.dst))
 else if c.kind=4 then XX++32::(digit c.keeper++32::c.name.data.toList)
 else []
def lq(c:UY):ByteArray:=if x9 c then bs (DD c)else bs []
theorem rJ{s:ByteArray}(h:aY s=true):(32:UInt8)∉ s.data.toList:=by
 intro hm;unfold aY at h;simp only[Bool.and_eq_true,List.all_eq_true]at h;have:=h.2 _ hm;revert this;decide
theorem nW{n:Int}(h0:0≤n)(h2:n≤2):(32:UInt8)∉ digit n:=by
 have:n=0∨n=1∨n=2:=by omega
 rcases this with rfl|rfl|rfl<;>decide
theorem xy{m n:Int}(h0:0≤n)(h2:n≤2)(g0:0≤m)(g2:m≤2)(h:digit m=digit n):m=n:=by
 have a:n=0∨n=1∨n=2:=by omega
 have b:m=0∨m=1∨m=2:=by omega
 rcases a with rfl|rfl|rfl<;>rcases b with rfl|rfl|rfl<;>first|rfl|exact absurd h (by decide)
theorem oh{c:UY}(h:x9 c=true):0≤c.keeper∧c.keeper≤2∧aY c.name=true∧((c.kind=3∧0≤c.dst∧c.dst≤2)∨((c.kind=2∨c.kind=4)∧c.dst=0)):=by
 unfold x9 at h;simp only[Bool.and_eq_true,decide_eq_true_eq]at h;obtain⟨h1,h2,h3,h4⟩:=h;refine⟨h1,h2,h3,?_⟩;split at h4
 · rename_i h5;simp only[Bool.and_eq_true,decide_eq_true_eq]at h4;exact .inl ⟨h5,h4⟩
 · simp only[Bool.and_eq_true,Bool.or_eq_true,decide_eq_true_eq]at h4;exact .inr h4
theorem F8{c:UY}(h:x9 c=true)(hk:c.kind=2):words (lq c)=[bs YK,bs (digit c.keeper),c.name]:=by
 obtain⟨h1,h2,h3, -⟩:=oh h;unfold lq words;rw[if_pos h];unfold DD;rw[if_pos hk];simp only[bs];rw[jH _ _ _ (by decide),jH _ _ _ (nW h1 h2),pK _ _ (rJ h3)];rfl
theorem F7{c:UY}(h:x9 c=true)(hk:c.kind=4):words (lq c)=[bs XX,bs (digit c.keeper),c.name]:=by
 obtain⟨h1,h2,h3, -⟩:=oh h;unfold lq words;rw[if_pos h];unfold DD;rw[if_neg (by omega),if_neg (by omega),if_pos hk];simp only[bs];rw[jH _ _ _ (by decide),jH _ _ _ (nW h1 h2),pK _ _ (rJ h3)];rfl
theorem Iw{c:UY}(h:x9 c=true)(hk:c.kind=3):words (lq c)=[bs abu,bs (digit c.keeper),c.name,bs (digit c.dst)]:=by
 obtain⟨h1,h2,h3,h4⟩:=oh h;have h5:0≤c.dst∧c.dst≤2:=by omega
 unfold lq words;rw[if_pos h];unfold DD;rw[if_neg (by omega),if_pos hk];simp only[bs];rw[jH _ _ _ (by decide),jH _ _ _ (nW h1 h2),jH _ _ _ (rJ h3),pK _ _ (nW h5.1 h5.2)];rfl
theorem KF{c d:UY}(hc:x9 c=true)(hd:x9 d=true)(h:lq c=lq d):c=d:=by
 obtain⟨c1,c2,c3,c4⟩:=oh hc;obtain⟨d1,d2,d3,d4⟩:=oh hd;have hw:words (lq c)=words (lq d):=by rw[h]
 have key:c.kind=d.kind∧c.keeper=d.keeper∧c.name=d.name∧c.dst=d.dst:=by
  rcases c4 with⟨ck,c5,c6⟩|⟨ck|ck,c5⟩<;>rcases d4 with⟨dk,d5,d6⟩|⟨dk|dk,d5⟩<;>
   simp only[Iw hc,F8 hc,F7 hc,Iw hd,F8 hd,F7 hd,ck,dk]at hw<;>
   simp only[List.cons.injEq,List.nil_eq,List.cons_ne_nil,and_false,and_true]at hw
  · exact⟨by omega,xy d1 d2 c1 c2 (A9 hw.2.1),hw.2.2.1,xy d5 d6 c5 c6 (A9 hw.2.2.2)⟩
  · exact⟨by omega,xy d1 d2 c1 c2 (A9 hw.2.1),hw.2.2,by omega⟩
  · exact absurd (A9 hw.1) (by decide)
  · exact absurd (A9 hw.1) (by decide)
  · exact⟨by omega,xy d1 d2 c1 c2 (A9 hw.2.1),hw.2.2,by omega⟩
 obtain⟨a1,a2,a3,a4⟩:=c;obtain⟨b1,b2,b3,b4⟩:=d;simp only at key;obtain⟨rfl,rfl,rfl,rfl⟩:=key;rfl
def Says(s:ByteArray):Option UY→Prop
 |some c=>x9 c=true∧lq c=s
 |none=>¬∃c,x9 c=true∧lq c=s
theorem Says.one{s:ByteArray}:∀{a b:Option UY},Says s a→Says s b→a=b
 |none,none,_,_=>rfl
 |none,some c,h,k=>absurd ⟨c,k⟩ h
 |some c,none,h,k=>absurd ⟨c,h⟩ k
 |some c,some d,h,k=>by rw[KF h.1 k.1 (h.2.trans k.2.symm)]
end M
end Go.Proofs.YtcepdbbapgfcdaaGreat
namespace Go.Proofs.YtcepdbbapgfcdaaGreat
open Go Go.RowKit
theorem ny(n lo hi:Int)(w:World):
    Calls Tryz.prog 113 #[.int .i64 n,.int .i64 lo,.int .i64 hi] w fun e w'=>e=.returned (.bool (decide (lo≤n)&&decide (n≤hi)))∧w=w':=by
 go_enter Tryz.func113,Tryz.ntmps113;go_wp2
 · go_ret;exact⟨ag (by rw[decide_eq_true (p:=lo≤n) (by omega)];rfl),rfl⟩
 · go_ret;exact⟨ag (by rw[decide_eq_false (p:=lo≤n) (by omega)];rfl),rfl⟩
theorem eT(s:ByteArray)(w:World):
    Calls Tryz.prog 129 #[.string s] w fun e w'=>e=.returned (.bool (M.aY s))∧w=w':=by
 by_cases h1:s.size=0
 · have Z0:((s.size:Int)==0)=true:=by simp[h1]
   go_enter Tryz.func129,Tryz.ntmps129;go_wp2;go_ret;exact⟨ag (by unfold M.aY;rw[decide_eq_false (by omega)];rfl),rfl⟩
 have Z0:((s.size:Int)==0)=false:=beq_eq_false_iff_ne.2 (by omega);by_cases h2:6<s.size
 · go_enter Tryz.func129,Tryz.ntmps129;go_wp2;go_ret;exact⟨ag (by unfold M.aY;rw[decide_eq_false (p:=s.size≤6) (by omega)];simp),rfl⟩
 go_enter Tryz.func129,Tryz.ntmps129;go_wp2;go_loop [3] (fun i=>∃k:Nat,k≤s.size∧i=.int .i64 k∧(s.data.toList.take k).all M.letter=true) (fun i=>s.size - (intOf i).toNat)
 case atStart=>exact⟨0,Nat.zero_le _,rfl,by simp⟩
 case round =>
  obtain⟨k,hk,rfl,sj⟩:=hrel;have HA:=Ys sj;clear sj;by_cases bZ:k<s.size
  · go_wp2
    · go_ret;exact⟨ag (Ao s k bZ (E9 (by assumption))).symm,rfl⟩
    · go_round
      case rel=>
       refine⟨k+1,by omega,by go_num,?_⟩;rw[CP s k bZ,List.all_append,HA.o];simp[Fa (c:=s[k]) (by assumption)]
      case measure=>simp[intOf];omega
    · go_ret;exact⟨ag (Ao s k bZ (E8 (by assumption))).symm,rfl⟩
  · go_wp2;go_ret;refine⟨ag ?_,rfl⟩;have h:=HA.o;rw[List.take_of_length_le (by simp;omega)]at h;unfold M.aY;rw[h,decide_eq_true (by omega),decide_eq_true (by omega)];rfl
def Elem(t e k:Nat):Prop:=∃i z bytes,Tryz.prog.underlying t=some (.slice e)∧Tryz.prog.info? e=some i∧i.zero=some z∧i.size=k∧i.bytes=bytes∧z.cells.size=k∧0<k∧bytes≤4096
theorem iF{t e k:Nat}{z:Value}{bytes:Nat}(ht:Tryz.prog.underlying t=some (.slice e))(hi:(Tryz.prog.info? e).map (fun i=>(i.zero,i.size,i.bytes))=some (some z,k,bytes))
    (hz:z.cells.size=k) (hk:0<k) (hb:bytes≤4096):Elem t e k:=by
 obtain⟨i,h1,h2,h3,h4⟩:=info_parts hi;exact⟨i,z,bytes,ht,h1,h2,h3,h4,hz,hk,hb⟩
theorem Et:Elem 26 3 1:=iF (z:=.int .i64 0) (bytes:=8) Tryz.underlying26 (by kernel_rfl) rfl (by decide) (by decide)
theorem Sv:Elem 151 40 2:=iF (z:=.agg #[.int .i64 0,.string ⟨#[]⟩]) (bytes:=24) Tryz.underlying151 (by kernel_rfl) rfl (by decide) (by decide)
theorem aD{D:Nat→Prop}{a b:World}{base e k n:Nat}{v:Value}{xs:List Value}(h:a.ownsRow base e k v n xs)(hk:Kp D a b)(hD:∀g,v.ownBlock=some g→base≤g→¬D g):b.ownsRow base e k v n xs:=by
 refine⟨h.1,?_⟩;rcases h.2 with h4|⟨g,cap,cur,rfl,hg,hb,rest⟩
 · exact .inl h4
 · exact .inr ⟨g,cap,cur,rfl,hg,(hk.block g (Array.getElem?_eq_some_iff.1 hb).1 (hD g rfl hg)).trans hb,rest⟩
theorem cO{w:World}{base e k n:Nat}{v:Value}{xs:List Value}(h:w.ownsRow base e k v n xs)(hn:0<n):
    ∃g cap,v=.slice (some ⟨g,0,none⟩) n cap∧base≤g∧g<w.heap.size∧n≤cap:=by
 rcases h.2 with⟨_,h4⟩|⟨g',c',cur,hv,hg,OP,hle,_⟩
 · omega
 · exact⟨g',c',hv,hg,(Array.getElem?_eq_some_iff.1 OP).1,hle⟩
theorem Kp.own{D D':Nat→Prop}{w a b:World}(h:Kp D w a)(hk:Kp D' a b)(hD:∀k,D' k→w.heap.size≤k):Kp D w b:=
 ⟨hk.os.trans h.os,hk.tape.trans h.tape,hk.output.trans h.output,Nat.le_trans h.size hk.size,
  fun k Br hd=>(hk.block k (Nat.lt_of_lt_of_le Br h.size) (fun x=>absurd (hD k x) (Nat.not_le.2 Br))).trans (h.block k Br hd)⟩
theorem ru{t e k:Nat}(E:Elem t e k)(w:World){ops:Array Oper}{rest:List Oper}{o:Oper}{a:Act}{Q:Exit→Act→World→Prop}(H8:o.guard=none)(s x:Operand)
    (ho:o.op=.call {callee:=.builtin .append,args:=#[s,x],argTypes:=#[t,t]}) (base:Nat) (v:Value) (n:Nat) (xs:List Value) (hs:a.eval s=v) (dX:w.ownsRow base e k v n xs)
    (g c:Nat) (news:List Value) (hx:a.eval x=.slice (some ⟨g,0,none⟩) 1 c) (hl:news.length=k) (EM:ae w g 0 news) (h1:∀u∈news,u.oneCell'=true)
    (hn:n+1≤4294967296) (ko:base≤w.heap.size)
    (h:∀v' w',w'.ownsRow base e k v' (n+1) (xs++news)→Kp (fun b=>v.ownBlock=some b) w w'→(∃g' c',v'=.slice (some ⟨g',0,none⟩) (n+1) c'∧base≤g'∧g'<w'.heap.size)→wpList Tryz.prog ops Q rest (a.put o.dst v') w'):
    wpList Tryz.prog ops Q (o::rest) a w:=by
 obtain⟨i,z,bytes,ht,hi,hz,j6,PT,Qb,hk,hb⟩:=E;refine wpList_append_own w H8 s x t ho base e i z k bytes ht hi hz j6 PT Qb hk v n xs hs dX ⟨g,0,none⟩ 1 c news hx (by omega) ?_ h1 (by unfold maxLen;omega) ?_ ko ?_
 · intro j u hj;have:=EM j u hj;rw[Nat.zero_add]at this;unfold Addr.add;split
   · rename_i Vl;subst Vl;exact this
   · simpa using this
 · have:(n+1)*bytes≤4294967296*4096:=Nat.mul_le_mul hn hb;omega
 · intro v' w' h2 h3 _;refine h v' w' h2 ⟨h3.os,h3.tape,h3.output,h3.size,fun k hk hd=>h3.block k hk (fun e=>hd e.symm)⟩ ?_;rcases h2.2 with⟨_,h4⟩|⟨g',c',cur,hv,hg,OP,_⟩
   · omega
   · exact⟨g',c',hv,hg,(Array.getElem?_eq_some_iff.1 OP).1⟩
theorem xX{F:Fence}{nf:Nat}{t e k:Nat}(E:Elem t e k)(w:World){ops:Array Oper}{rest:List Oper}{o:Oper}{a:Act}{Q:Exit→Act→World→Prop}(H8:o.guard=none)(s x:Operand)
    (ho:o.op=.call {callee:=.builtin .append,args:=#[s,x],argTypes:=#[t,t]}) (base:Nat) (v:Value) (n:Nat) (xs:List Value) (hs:a.eval s=v) (dX:w.ownsRow base e k v n xs)
    (g c:Nat) (news:List Value) (hx:a.eval x=.slice (some ⟨g,0,none⟩) 1 c) (hl:news.length=k) (EM:ae w g 0 news) (h1:∀u∈news,u.oneCell'=true)
    (hn:n+1≤4294967296) (ko:base≤w.heap.size)
    (h:∀v' w',w'.ownsRow base e k v' (n+1) (xs++news)→Kp (fun b=>v.ownBlock=some b) w w'→(∃g' c',v'=.slice (some ⟨g',0,none⟩) (n+1) c'∧base≤g'∧g'<w'.heap.size)→wpListIn F nf Tryz.prog ops Q rest (a.put o.dst v') w'):
    wpListIn F nf Tryz.prog ops Q (o::rest) a w:=by
 obtain⟨i,z,bytes,ht,hi,hz,j6,PT,Qb,hk,hb⟩:=E;refine wpListIn_append_own w H8 s x t ho base e i z k bytes ht hi hz j6 PT Qb hk v n xs hs dX ⟨g,0,none⟩ 1 c news hx (by omega) ?_ h1 (by unfold maxLen;omega) ?_ ko ?_
 · intro j u hj;have:=EM j u hj;rw[Nat.zero_add]at this;unfold Addr.add;split
   · rename_i Vl;subst Vl;exact this
   · simpa using this
 · have:(n+1)*bytes≤4294967296*4096:=Nat.mul_le_mul hn hb;omega
 · intro v' w' h2 h3 _;refine h v' w' h2 ⟨h3.os,h3.tape,h3.output,h3.size,fun k hk hd=>h3.block k hk (fun e=>hd e.symm)⟩ ?_;rcases h2.2 with⟨_,h4⟩|⟨g',c',cur,hv,hg,OP,_⟩
   · omega
   · exact⟨g',c',hv,hg,(Array.getElem?_eq_some_iff.1 OP).1⟩
theorem Lp{α β:Type}(f:α→β)(l:List α):l.map f=l.flatMap fun x=>[f x]:=by
 induction l with
 |nil=>rfl
 |cons x r ih=>rw[List.map_cons,List.flatMap_cons,ih];rfl
theorem SliceOf.iy{α:Type}{k:Nat}{R:fP α}{w:World}{I:Nat→Prop}{base e n:Nat}{v:Value}{cs:List Value}(enc:α→List Value){l:List α}(dX:w.ownsRow base e k v n cs)
    (hn:n=l.length) (bO:cs=l.flatMap enc) (GR:∀x∈l,(enc x).length=k) (hR:∀x∈l,R w I x (enc x)) (hI:∀b,base≤b→b<w.heap.size→I b) (hlen:l.length≤4294967296):SliceOf k R w I v l:=by
 have flat:∀(l:List α),(∀x∈l,(enc x).length=k)→∀i x,l[i]?=some x→∀j u,(enc x)[j]?=some u→(l.flatMap enc)[i*k+j]?=some u:=by
  intro l;induction l with
  |nil=>intro _ i x h;simp at h
  | cons y r ih =>
   intro hy i x hx j u hj;have hyk:=hy y (by simp);rw[List.flatMap_cons];cases i with
   |zero=>
    simp at hx;subst hx;rw[List.getElem?_append_left (by rw[Nat.zero_mul,Nat.zero_add];exact(List.getElem?_eq_some_iff.1 hj).1),Nat.zero_mul,Nat.zero_add];exact hj
   |succ i=>
    rw[List.getElem?_append_right (by rw[hyk,Nat.succ_mul];omega),hyk,show(i+1)*k+j - k=i*k+j from by rw[Nat.succ_mul];omega];exact ih (fun z hz=>hy z (by simp[hz])) i x (by simpa using hx) j u hj
 subst hn bO;rcases dX.2 with⟨rfl,h0⟩|⟨g,cap,cur,rfl,hg,hb,hle,_,j6,Vo⟩
 · have:l=[]:=List.length_eq_zero_iff.1 h0;subst this;exact SliceOf.nil _ _ _ _
 · refine⟨_,cap,rfl,hle,hlen,fun i x hx=>⟨g,0,enc x,rfl,hI g hg (Array.getElem?_eq_some_iff.1 hb).1,hR x (List.mem_of_getElem? hx),GR x (List.mem_of_getElem? hx),?_⟩⟩;intro j u hj;have:=flat l GR i x hx j u hj;rw[←Vo,List.getElem?_take]at this;split at this
   · simp only[World.cell?,hb];simpa [Nat.zero_add]using this
   · cases this
theorem qh:Elem 43 32 2:=iF (z:=.agg #[.int .i64 0,.int .i64 0]) (bytes:=16) Tryz.underlying43 (by kernel_rfl) rfl (by decide) (by decide)
theorem ae.gX{w:World}{b:Nat}{t:TypeId}{cs:Array Value}(h:aC w b t cs):ae w b 0 cs.toList:=by
 intro j v hj;rw[Nat.zero_add];exact h.c j v (by simpa using hj)
theorem ae.fB{W:World}{g:Nat}(t:TypeId)(cs:Array Value)(h:W.heap.size=g):ae (W.alloc (.cells cs t)) g 0 cs.toList:=by
 subst h;exact ae.gX (aC.new W t cs)
theorem bV{w:World}{base e k n:Nat}{v:Value}{xs:List Value}(h:w.ownsRow base e k v n xs):∃a c,v=.slice a n c:=by
 rcases h.2 with⟨rfl,rfl⟩|⟨g,c,cur,rfl,_⟩
 · exact⟨_,_,rfl⟩
 · exact⟨_,_,rfl⟩
theorem kJ{w:World}{base e k n:Nat}{v:Value}{xs:List Value}(h:w.ownsRow base e k v n xs){g:Nat}(hg:v.ownBlock=some g):base≤g∧g<w.heap.size:=h.lt g hg
theorem Dp{t e k:Nat}(E:Elem t e k){ops:Array Oper}{o:Oper}{a:Act}{w:World}{K:Act→World→Prop}{Q:Exit→Act→World→Prop}{E':Prop}(H8:o.guard=none)(s x:Operand)
    (ho:o.op=.call {callee:=.builtin .append,args:=#[s,x],argTypes:=#[t,t]}) (base:Nat) (v:Value) (n:Nat) (xs:List Value) (hs:a.eval s=v) (dX:w.ownsRow base e k v n xs)
    (g c:Nat) (news:List Value) (hx:a.eval x=.slice (some ⟨g,0,none⟩) 1 c) (hl:news.length=k) (EM:ae w g 0 news) (h1:∀u∈news,u.oneCell'=true)
    (hn:n+1≤4294967296) (ko:base≤w.heap.size)
    (h:∀g' c' w',w'.ownsRow base e k (.slice (some ⟨g',0,none⟩) (n+1) c') (n+1) (xs++news)→Kp (fun b=>v.ownBlock=some b) w w'→(v.ownBlock=some g'∨w.heap.size=g')→K (a.put o.dst (.slice (some ⟨g',0,none⟩) (n+1) c')) w'):
    if Region.wanted o (yielded ops a.tmps)=true then Oper.wp Tryz.prog o a w K Q else E':=by
 obtain⟨i,z,bytes,ht,hi,hz,j6,PT,Qb,hk,hb⟩:=E;refine step_append_lies w H8 s x t ho base e i z k bytes ht hi hz j6 PT Qb hk v n xs hs dX ⟨g,0,none⟩ 1 c news hx (by omega) ?_ h1 (by omega) (by unfold maxLen;omega) ?_ ko w.heap.size rfl ?_
 · intro j u hj;have:=EM j u hj;rw[Nat.zero_add]at this;unfold Addr.add;split
   · rename_i Vl;subst Vl;exact this
   · simpa using this
 · have:(n+1)*bytes≤4294967296*4096:=Nat.mul_le_mul hn hb;omega
 · intro g' c' w' h2 h3 h4 h5;exact h g' c' w' h2 ⟨h3.os,h3.tape,h3.output,h3.size,fun k hk hd=>h3.block k hk (fun e=>hd e.symm)⟩ (h4.imp id Eq.symm)
theorem aB{t e k:Nat}(E:Elem t e k){ops:Array Oper}{rest:List Oper}{o:Oper}{a:Act}{w:World}{Q:Exit→Act→World→Prop}(H8:o.guard=none)(s x:Operand)
    (ho:o.op=.call {callee:=.builtin .append,args:=#[s,x],argTypes:=#[t,t]}) (base:Nat) (v:Value) (n:Nat) (xs:List Value) (hs:a.eval s=v) (dX:w.ownsRow base e k v n xs)
    (g c:Nat) (news:List Value) (hx:a.eval x=.slice (some ⟨g,0,none⟩) 1 c) (hl:news.length=k) (EM:ae w g 0 news) (h1:∀u∈news,u.oneCell'=true)
    (hn:n+1≤4294967296) (ko:base≤w.heap.size)
    (h:∀g' c' w',w'.ownsRow base e k (.slice (some ⟨g',0,none⟩) (n+1) c') (n+1) (xs++news)→Kp (fun b=>v.ownBlock=some b) w w'→(v.ownBlock=some g'∨w.heap.size=g')→wpList Tryz.prog ops Q rest (a.put o.dst (.slice (some ⟨g',0,none⟩) (n+1) c')) w'):
    wpList Tryz.prog ops Q (o::rest) a w:=by
 obtain⟨i,z,bytes,ht,hi,hz,j6,PT,Qb,hk,hb⟩:=E;refine wpList_append_lies w H8 s x t ho base e i z k bytes ht hi hz j6 PT Qb hk v n xs hs dX ⟨g,0,none⟩ 1 c news hx (by omega) ?_ h1 (by omega) (by unfold maxLen;omega) ?_ ko w.heap.size rfl ?_
 · intro j u hj;have:=EM j u hj;rw[Nat.zero_add]at this;unfold Addr.add;split
   · rename_i Vl;subst Vl;exact this
   · simpa using this
 · have:(n+1)*bytes≤4294967296*4096:=Nat.mul_le_mul hn hb;omega
 · intro g' c' w' h2 h3 h4 h5;exact h g' c' w' h2 ⟨h3.os,h3.tape,h3.output,h3.size,fun k hk hd=>h3.block k hk (fun e=>hd e.symm)⟩ (h4.imp id Eq.symm)
theorem Dn(w:World)(k o:Nat)(T:TypeId)(cs:Array Value)(vs:Value)(n:Nat)(most:Int)(hB:aC w k T cs)(h0:cs[o]?=some vs)(h1:cs[o+1]?=some (.int .i64 most))(hv:∃a c,vs=.slice a n c)(x y:Int)(bZ:most≤(n:Int)):
    Calls Tryz.prog 125 #[.pointer (some ⟨k,o,none⟩),.agg #[.int .i64 x,.int .i64 y]] w fun e w'=>e=.returned (.bool false)∧Ext w w':=by
 obtain⟨a,c,rfl⟩:=hv;have c0:=hB.c o _ h0;have c1:=hB.c (o+1) _ h1;have hz:=aG c0;clear hB h0 h1;go_enter Tryz.func125,Tryz.ntmps125;go_wp2;go_quiet (fail);go_wp2;go_ret;exact⟨rfl,kx⟩
theorem N7(w:World)(k o B:Nat)(T:TypeId)(cs:Array Value)(vs:Value)(n:Nat)(xs:List Value)(most:Int)(hB:aC w k T cs)(h0:cs[o]?=some vs)(h1:cs[o+1]?=some (.int .i64 most))
    (x y:Int) (own:w.ownsRow B 32 2 vs n xs) (hn:n≤1000) (bZ:(n:Int)<most) (oC:vs.ownBlock≠some k) (hb:B≤w.heap.size):
    Calls Tryz.prog 125 #[.pointer (some ⟨k,o,none⟩),.agg #[.int .i64 x,.int .i64 y]] w fun e w'=>
     e=.returned (.bool true)∧∃g c,w'.ownsRow B 32 2 (.slice (some ⟨g,0,none⟩) (n+1) c) (n+1) (xs++[.int .i64 x,.int .i64 y])∧(vs.ownBlock=some g∨w.heap.size≤g)∧
      aC w' k T (cs.setIfInBounds o (.slice (some ⟨g,0,none⟩) (n+1) c))∧Kp (fun b=>b=k∨vs.ownBlock=some b) w w':=by
 obtain⟨a,c,rfl⟩:=bV own;have c0:=hB.c o _ h0;have c1:=hB.c (o+1) _ h1;have f0:=hB.frozen o;have hz:=aG c0;have HB:=Ys hB;have HO:=Ys own;have kN:=Ys oC;have H0:=Ys h0;clear hB h0 h1 own oC;have aap:(most≤(n:Int))=False:=by simp;omega
 have OW:n+1≤4294967296:=by omega
 have hE:∀W,Ext w W→W.ownsRow B 32 2 (.slice a n c) n xs:=fun W hW=>aD HO.o hW fun _ _ _ x=>x;have HE:=Ys hE;clear hE;go_enter Tryz.func125,Tryz.ntmps125;go_wp2;go_quiet (fail);go_wp2;clear c1 aap;go_region_law (refine Dp qh rfl (.tmp 19) (.tmp 21) rfl B (.slice a n c) n xs rfl (HE.o _ kx) (w.heap.size+1) 1 [.int .i64 x,.int .i64 y] (by simp[Act.eval]) rfl (ae.fB _ _ (by simp)) (by simp[Value.oneCell']) OW (by simp;omega) ?_;intro g c' w1 Mj lU Rn;have hB1:=(HB.o.ext kx).kp lU kN.o;have d0:=hB1.c o _ H0.o;have e0:=hB1.frozen o;have z1:=hB1.lt;have vJ:=Ys hB1;have U6:=Ys Mj;have Ce:=Ys lU;have HG1:=Ys Rn;clear Mj lU Rn hB1 c0 f0 hz)
 all_goals
  go_wp2;go_ret;refine⟨rfl,g,c',aD U6.o ((Kp.refl (·=k) _).setCell (fun _=>rfl) _) (fun q hq _ e=>?_),?_,vJ.o.bI _ _,?_⟩
  · cases hq;have e':g=k:=e;subst e';rcases HG1.o with h|h
    · exact kN.o h
    · have:=HB.o.lt;simp at h;omega
  · rcases HG1.o with h|h
    · exact .inl h
    · right;simp at h;omega
  · refine Kp.setCell (Kp.trans ((kx:Ext w _).any) (Ce.o.weak fun b _ hb=>.inr hb)) (fun _=>.inl rfl) _
structure kv(w:World)(rb:Nat)(v:Value)(zs:List Int)(p:Nat):Prop where
 blk:aC w rb 96 #[v,.int .i64 p]
 ZO:BytesAt w v zs
 own:zs.length≠0→∀a n c,v=.slice (some a) n c→a.block≠rb
 len:zs.length≤2000
theorem add_block(a:Addr)(i:Nat):(a.add i).block=a.block:=by
 unfold Addr.add;split<;>rfl
theorem BytesAt.kp{D:Nat→Prop}{W W':World}{v:Value}{zs:List Int}(h:BytesAt W v zs)(hk:Kp D W W')(hD:zs.length≠0→∀a n c,v=.slice (some a) n c→¬D a.block):BytesAt W' v zs:=by
 rcases h with h|⟨a,cap,h1,h2,h3,h4⟩
 · exact .inl h
 · exact .inr ⟨a,cap,h1,h2,fun i hi=>(World.cell?_of_block (hk.block _ (xq (h3 i hi)) (by rw[add_block];exact hD (by omega) a _ _ h1))).trans (h3 i hi),h4⟩
theorem kv.ext{w w':World}{rb p:Nat}{v:Value}{zs:List Int}(h:kv w rb v zs p)(hE:Ext w w'):kv w' rb v zs p:=
 ⟨h.blk.ext hE,h.ZO.ext hE,h.own,h.len⟩
theorem kv.next{w:World}{rb p:Nat}{v:Value}{zs:List Int}(h:kv w rb v zs p)(q:Nat):kv (w.setCell ⟨rb,1,none⟩ (.int .i64 q)) rb v zs q∧Kp (·=rb) w (w.setCell ⟨rb,1,none⟩ (.int .i64 q)):=by
 have hk:Kp (·=rb) w (w.setCell ⟨rb,1,none⟩ (.int .i64 q)):=(Kp.refl (·=rb) w).setCell (p:=⟨rb,1,none⟩) (fun _=>rfl) _;exact⟨⟨h.blk.bI 1 _,h.ZO.kp hk (fun h0 a n c e=>h.own h0 a n c e),h.own,h.len⟩,hk⟩
def XU(n:Int)(e:Ending):Prop:=∃k:Nat,e=.returned (.int .i64 k)∧(k=0∨(k:Int)<n)
theorem Oh{a b:Int}(ha:0≤a)(PR:a<9223372036854775808)(hb:0≤b)(iU:b<9223372036854775808):0≤bits .xor .i64 a b:=by
 obtain⟨x,rfl⟩:∃x:Nat,a=x:=⟨a.toNat,by omega⟩;obtain⟨y,rfl⟩:∃y:Nat,b=y:=⟨b.toNat,by omega⟩;have hx:x ^^^ y<2 ^ 63:=Nat.xor_lt_two_pow (by omega) (by omega);have h1:(BitVec.ofInt 64 (x:Int)).toNat=x:=by
  rw[BitVec.ofInt_natCast,BitVec.toNat_ofNat];exact Nat.mod_eq_of_lt (by omega)
 have h2:(BitVec.ofInt 64 (y:Int)).toNat=y:=by
  rw[BitVec.ofInt_natCast,BitVec.toNat_ofNat];exact Nat.mod_eq_of_lt (by omega)
 have h3:bits .xor .i64 (x:Int) (y:Int)=IntKind.i64.wrap (((BitVec.ofInt 64 (x:Int)^^^ BitVec.ofInt 64 (y:Int)).toNat:Nat):Int):=rfl;rw[h3,BitVec.toNat_xor,h1,h2];simp only[IntKind.wrap,IntKind.bits,IntKind.signed];have:((2:Int)^ 63)=9223372036854775808:=by decide
 simp;omega
theorem LJ{n r:Int}(h0:0≤r)(h:r<n):XU n (.returned (.int .i64 r)):=⟨r.toNat,by rw[Int.toNat_of_nonneg h0],.inr (by omega)⟩
theorem dM(w:World)(rb p:Nat)(v:Value)(zs:List Int)(n:Int)(h:kv w rb v zs p)(hp:p≤1000000)(hn:n≤1000000000):
    Calls Tryz.prog 41 #[.pointer (some ⟨rb,0,none⟩),.int .i64 n] w fun e w'=>XU n e∧kv w' rb v zs (p+1)∧Kp (·=rb) w w':=by
 obtain⟨va,vc,rfl⟩:=h.ZO.form;have c0:=h.blk.c 0 (.slice va zs.length vc) rfl;have c1:=h.blk.c 1 (.int .i64 p) rfl;have f1:=h.blk.frozen 1;have cz:=h.blk.lt;have OX:=h.next (p+1);have HN:=Ys OX;have HR:=Ys h;have hlen:=h.len;clear OX h;by_cases h1:n<1
 · go_enter Tryz.func41,Tryz.ntmps41;go_wp2_with fail;go_ret;exact⟨⟨0,rfl,.inl rfl⟩,HN.o⟩
 by_cases h0:zs.length=0
 · obtain rfl:=List.length_eq_zero_iff.1 h0;go_enter Tryz.func41,Tryz.ntmps41;go_wp2_with fail;go_ret;exact⟨⟨0,rfl,.inl rfl⟩,HN.o⟩
 have V8:((zs.length:Int)==0)=false:=beq_eq_false_iff_ne.2 (by omega);rcases HR.o.ZO with⟨-,e⟩|⟨a,cap,e1,dn,hc,hb⟩
 · subst e;simp at h0
 cases e1;have hcW:∀i,i<zs.length→(w.setCell ⟨rb,1,none⟩ (.int .i64 ((p:Int)+1))).cell? (a.add i)=some (.int .u8 (zs.getD i 0)):=fun i hi=>by
  have hk:Kp (·=rb) w (w.setCell ⟨rb,1,none⟩ (.int .i64 ((p:Int)+1))):=(Kp.refl (·=rb) w).setCell (p:=⟨rb,1,none⟩) (fun _=>rfl) _;exact(World.cell?_of_block (hk.block _ (xq (hc i hi)) (by rw[add_block];exact HR.o.own h0 a _ _ rfl))).trans (hc i hi)
 by_cases hk:p<zs.length
 · have ci:=hcW p hk;have wD:=Bi hb hk;obtain⟨x,hx⟩:∃x,zs.getD p 0=x:=⟨_,rfl⟩;rw[hx]at ci wD;obtain⟨sG,zt⟩:=wD;clear hcW hc hb hx;go_enter Tryz.func41,Tryz.ntmps41;go_wp2_with fail;go_ret;exact⟨LJ (Int.emod_nonneg _ (by omega)) (Int.emod_lt_of_pos _ (by omega)),HN.o⟩
 · obtain⟨i,hi⟩:∃i,p % zs.length=i:=⟨_,rfl⟩;obtain⟨j,hj⟩:∃j,(p*7+3)% zs.length=j:=⟨_,rfl⟩;obtain⟨q,hq⟩:∃q,p / zs.length=q:=⟨_,rfl⟩;have hil:i<zs.length:=by rw[←hi];exact Nat.mod_lt _ (by omega)
   have hjl:j<zs.length:=by rw[←hj];exact Nat.mod_lt _ (by omega)
   have hqp:q≤p:=by rw[←hq];exact Nat.div_le_self _ _
   have ci:=hcW i hil;have cj:=hcW j hjl;have wD:=Bi hb hil;have hbj:=Bi hb hjl;obtain⟨x,hx⟩:∃x,zs.getD i 0=x:=⟨_,rfl⟩;obtain⟨y,hy⟩:∃y,zs.getD j 0=y:=⟨_,rfl⟩;rw[hx]at ci wD;rw[hy]at cj hbj;have e1:(p:Int)% (zs.length:Int)=i:=by rw[←hi];simp
   have e2:((p:Int)*7+3)% (zs.length:Int)=j:=by rw[←hj];simp
   have e3:(p:Int)/ (zs.length:Int)=q:=by rw[←hq];simp
   obtain⟨sG,zt⟩:=wD;obtain⟨hy0,hy1⟩:=hbj;clear hcW hc hb hx hy hi hj hq;go_enter Tryz.func41,Tryz.ntmps41;go_wp2_with fail;go_quiet (fail);go_wp2_with fail;have hX:0≤bits BinOp.xor IntKind.i64 (x*131+y*1117+p*29+q*53) ((x*131+y*1117+p*29+q*53)/ 64):=Oh (by omega) (by omega) (by omega) (by omega);go_ret;exact⟨LJ (Int.tmod_nonneg _ hX) (Int.tmod_lt_of_pos _ (by omega)),HN.o.1.ext ((Kp.refl _ _).drewN _),HN.o.2.drewN _⟩
def BX(e:Ending):Prop:=∃b,e=.returned (.bool b)
theorem UE(w:World)(rb p:Nat)(v:Value)(zs:List Int)(n:Int)(h:kv w rb v zs p)(hp:p≤1000000)(hn:n≤1000000000)(H9: -1000000000≤n):
    Calls Tryz.prog 38 #[.pointer (some ⟨rb,0,none⟩),.int .i64 n] w fun e w'=>BX e∧kv w' rb v zs (p+1)∧Kp (·=rb) w w':=by
 have HP:=Ys (dM w rb p v zs n h hp hn);clear h;go_enter Tryz.func38,Tryz.ntmps38;go_wp2_with fail;refine HP.o.mono ?_;rintro e w1 ⟨⟨k,rfl, -⟩,hR⟩;have HR:=Ys hR;clear hR;go_wp2_with fail;go_ret;exact⟨⟨_,rfl⟩,HR.o⟩
theorem Xl(w:World)(v:Value)(zs:List Int)(h:BytesAt w v zs):
    Calls Tryz.prog 20 #[v] w fun e w'=>(∃rb v' zs',e=.returned (.pointer (some ⟨rb,0,none⟩))∧w.heap.size≤rb∧kv w' rb v' zs' 0)∧Ext w w':=by
 obtain⟨va,vc,rfl⟩:=h.form;by_cases hl:2000<zs.length
 · rcases h with⟨-,rfl⟩|⟨a,cap,e1,dn,hc,hb⟩
   · simp at hl
   cases e1;have HB:Zs (BytesAt w (.slice (some a) 2000 vc) (zs.take 2000)):=Ys (.inr ⟨a,vc,by rw[List.length_take,Nat.min_eq_left (by omega)],by rw[List.length_take];omega,fun i hi=>by
    rw[List.length_take]at hi;rw[hc i (by omega)];simp only[List.getD,List.getElem?_take];rw[if_pos (by omega)],fun n hn=>hb n (List.mem_of_mem_take hn)⟩)
   have HZ:Zs (a.block<w.heap.size):=Ys (by have:=xq (hc 0 (by omega));rwa[add_block]at this);clear hc hb;go_enter Tryz.func20,Tryz.ntmps20;go_wp2_with fail;go_ret;refine⟨⟨w.heap.size,_,zs.take 2000,rfl,Nat.le_refl _,aC.new _ _ _,HB.o.ext ((Kp.refl _ _).alloc _),fun _ a' n c e=>?_,by rw[List.length_take];omega⟩,kx⟩;cases e;have:=HZ.o;omega
 · have HB:=Ys h;have HZ:Zs (∀a n c,Value.slice va zs.length vc=.slice (some a) n c→zs.length≠0→a.block<w.heap.size):=Ys (fun a n c e h0=>by
    rcases h with⟨-,rfl⟩|⟨a',cap,e1,dn,hc,hb⟩
    · simp at h0
    · cases e;cases e1;have:=xq (hc 0 (by omega));rwa[add_block]at this)
   clear h;go_enter Tryz.func20,Tryz.ntmps20;go_wp2_with fail;go_ret;exact⟨⟨w.heap.size,_,zs,rfl,Nat.le_refl _,aC.new _ _ _,HB.o.ext ((Kp.refl _ _).alloc _),fun h0 a n c e=>Nat.ne_of_lt (HZ.o a n c e h0),by omega⟩,kx⟩
def CX(t k:Nat):Prop:=∃fs,Tryz.prog.underlying t=some (.struct fs)∧(Tryz.prog.info? t).map (·.size)=some k
theorem CX.is{t k:Nat}(h:CX t k)(w:World):(isAgg t).run Tryz.prog w=.ok true w∧(sizeOf t).run Tryz.prog w=.ok k w:=by
 obtain⟨fs,h1,h2⟩:=h;cases hq:Tryz.prog.info? t with
 |none=>rw[hq]at h2;cases h2
 |some i=>
  rw[hq]at h2;have I5:i.size=k:=by simpa using h2
  subst I5;constructor
  · unfold isAgg;rw[Sem.run_bind,run_underlying h1 w];simp
  · simp[sizeOf,typeInfo,hq]
theorem oO{t k:Nat}(h:CX t k){w:World}{b o:Nat}{cs:List Value}(hc:ae w b o cs)(hl:cs.length=k):(loadVar t ⟨b,o,none⟩).run Tryz.prog w=.ok (.agg cs.toArray) w:=by
 subst hl;obtain⟨h1,h2⟩:=h.is w;have h3:=run_loadCells_list (P:=Tryz.prog) w ⟨b,o,none⟩ cs (fun j v hv=>by
  have:=hc j v hv;unfold Addr.add;split
  · rename_i h0;subst h0;simpa using this
  · exact this)
 simp[loadVar,Sem.run_bind,h1,h2,h3]
theorem aT{t k:Nat}(h:CX t k){fn:Func}{p:Tmp}(hf:fn.results=#[.cell p t])(tmps:Array Value)(w:World)(b:Nat)(hp:tmps.getD p undef=.pointer (some ⟨b,0,none⟩))(cs:List Value)(hc:ae w b 0 cs)(hl:cs.length=k):
    (results fn tmps).run Tryz.prog w=.ok (.agg cs.toArray) w:=by
 have hp':tmps[p]?.getD undef=.pointer (some ⟨b,0,none⟩):=by simpa using hp
 simp[results,hf,hp',asAddr,oO h hc hl]
theorem ai{t k:Nat}(h:CX t k){fn:Func}{p q:Tmp}(hf:fn.results=#[.cell p t,.tmp q])(tmps:Array Value)(w:World)(b:Nat)(hp:tmps.getD p undef=.pointer (some ⟨b,0,none⟩))(cs:List Value)(hc:ae w b 0 cs)(hl:cs.length=k):
    (results fn tmps).run Tryz.prog w=.ok (.tuple #[.agg cs.toArray,tmps.getD q undef]) w:=by
 have hp':tmps[p]?.getD undef=.pointer (some ⟨b,0,none⟩):=by simpa using hp
 simp[results,hf,hp',asAddr,oO h hc hl]
theorem OA:CX 40 2:=⟨_,Tryz.underlying40,by kernel_rfl⟩
theorem MV:CX 54 8:=⟨_,Tryz.underlying54,by kernel_rfl⟩
theorem zG:CX 42 3:=⟨_,Tryz.underlying42,by kernel_rfl⟩
theorem rV:CX 166 5:=⟨_,Tryz.underlying166,by kernel_rfl⟩
theorem zH:CX 32 2:=⟨_,Tryz.underlying32,by kernel_rfl⟩
theorem dV:CX 34 6:=⟨_,Tryz.underlying34,by kernel_rfl⟩
theorem Ba(w:World)(x:Int)(h0:0≤x)(h1:x<256):
    (convert 22 9 (.slice (some ⟨w.heap.size,0,none⟩) 1 1)).run Tryz.prog (w.alloc (.cells #[.int .u8 x] 5))=.ok (.string (M.bs [UInt8.ofNat x.toNat])) (w.alloc (.cells #[.int .u8 x] 5)):=by
 refine Lib.run_convert_whole (P:=Tryz.prog) _ 22 5 9 Tryz.underlying22 Tryz.underlying5 Tryz.underlying9 w.heap.size 0 (M.bs [UInt8.ofNat x.toNat]) ?_ 1;intro i hi;have hi0:i=0:=by
  have:(M.bs [UInt8.ofNat x.toNat]).size=1:=rfl;omega
 subst hi0;rw[(aC.new w 5 #[.int .u8 x]).cell];have hm:x.toNat % 256=x.toNat:=Nat.mod_eq_of_lt (by omega);have hx:((x.toNat:Nat):Int)=x:=Int.toNat_of_nonneg h0;have e:(M.bs [UInt8.ofNat x.toNat])[0]=UInt8.ofNat x.toNat:=rfl;simp[e,UInt8.toNat_ofNat',hm,hx]
theorem DC(l:List UInt8):(M.bs l).size=l.length:=by simp[M.bs,ByteArray.size]
theorem LW(n:Int)(w:World)(h0: -9223372036854775808≤n)(h1:n≤9223372036854775807):
    Calls Tryz.prog 137 #[.int .i64 n] w fun e w'=>(∃t,e=.returned (.string t)∧(0≤n→n≤2→t=M.bs (M.digit n))∧9*(t.size:Int)≤n.natAbs+18)∧Ext w w':=by
 go_enter Tryz.func137,Tryz.ntmps137;go_wp2;go_loopw [0,3] (fun i o wr=>∃(k:Int) (t:ByteArray),i=.int .i64 k∧o=.string t∧k≤n∧((k=n∧t.size=0)∨0≤k∧9*(t.size:Int)+k≤n)∧Zs (n≤2→k=n∧t=⟨#[]⟩)∧Ext w wr) (fun i _ _=>(intOf i).toNat)
 case atStart=>exact⟨n,⟨#[]⟩,rfl,rfl,Int.le_refl _,.inl ⟨rfl,rfl⟩,Ys (fun _=>⟨rfl,rfl⟩),Kp.refl _ _⟩
 case round=>
  obtain⟨k,t,rfl,rfl,hk,uP,HT,hE⟩:=hrel;have HE:=Ys hE;clear hE;have ht:t.size≤1030000000000000000:=by omega
  by_cases h9:9<k
  · have c1:=Ba wr (48+k % 10) (by omega) (by omega);have hz:=DC [UInt8.ofNat (48+k % 10).toNat];simp only[List.length_singleton]at hz;go_wp2_with fail;go_round
    case rel=>exact⟨k / 10,_,rfl,rfl,by omega,.inr ⟨by omega,by rw[ByteArray.size_append,hz];omega⟩,Ys (fun _=>by omega),HE.o.trans ((Kp.refl _ _).alloc _)⟩
    case measure=>simp[intOf];omega
  · have c1:=Ba wr ((48+k)% 256) (by omega) (by omega);have hz:=DC [UInt8.ofNat ((48+k)% 256).toNat];simp only[List.length_singleton]at hz;go_wp2_with fail;go_ret;refine⟨⟨_,rfl,fun g0 g2=>?_,by rw[ByteArray.size_append,hz];omega⟩,HE.o.trans ((Kp.refl _ _).alloc _)⟩;obtain⟨rfl,rfl⟩:=HT.o g2;have:k=0∨k=1∨k=2:=by omega
    rcases this with rfl|rfl|rfl<;>rfl
theorem NZ(n:Int)(w:World)(h0: -9223372036854775807≤n)(h1:n≤9223372036854775807):
    Calls Tryz.prog 117 #[.int .i64 n] w fun e w'=>(∃t,e=.returned (.string t)∧(0≤n→n≤2→t=M.bs (M.digit n))∧9*(t.size:Int)≤n.natAbs+27)∧Ext w w':=by
 by_cases h:n<0
 · have hz:(ByteArray.mk #[45]).size=1:=rfl;go_enter Tryz.func117,Tryz.ntmps117;go_wp2_with fail;refine(LW _ _ (by omega) (by omega)).mono ?_;rintro e w1 ⟨⟨t,rfl, -,ht⟩,hE⟩;go_wp2_with fail;go_ret;exact⟨⟨_,rfl,fun g _=>by omega,by rw[ByteArray.size_append,hz];omega⟩,hE⟩
 · go_enter Tryz.func117,Tryz.ntmps117;go_wp2_with fail;refine(LW _ _ (by omega) (by omega)).mono ?_;rintro e w1 ⟨⟨t,rfl,ht,hs⟩,hE⟩;go_wp2_with fail;go_ret;exact⟨⟨_,rfl,ht,by omega⟩,hE⟩
def Oy(m:Nat)(e:Ending):Prop:=∃t:ByteArray,e=.returned (.string t)∧t.size≤m
theorem Xk(w:World)(rb p:Nat)(v:Value)(zs:List Int)(s:ByteArray)(h:kv w rb v zs p)(hp:p≤900000)(hs:s.size≤100000000):
    Calls Tryz.prog 80 #[.pointer (some ⟨rb,0,none⟩),.string s] w fun e w'=>Oy (s.size+1) e∧(∃q,q≤p+4∧kv w' rb v zs q)∧Kp (·=rb) w w':=by
 have AY:=Ys (dM w rb p v zs (s.size+1) h (by omega) (by omega));clear h;go_enter Tryz.func80,Tryz.ntmps80;go_wp2_with fail;refine AY.o.mono ?_;rintro e w1 ⟨⟨k,rfl,hk⟩,hR1,lU⟩;have qJ:k≤s.size:=by omega
 have C9:=Ys (dM w1 rb (p+1) v zs 256 hR1 (by omega) (by omega));have Ce:=Ys lU;clear hR1 lU hk;go_wp2_with fail;refine C9.o.mono ?_;rintro e w2 ⟨⟨c,rfl,hc⟩,Dg,af⟩;obtain⟨w3,jw⟩:∃w3,w3=w2.alloc (.cells #[.int .i64 32,.int .i64 48,.int .i64 49,.int .i64 57,.int .i64 45,.int .i64 97,.int .i64 35,.int .i64 63,.int .i64 33,.int .i64 47,.int .i64 c] 3):=⟨_,rfl⟩;have dm:Ext w2 w3:=by rw[jw];exact kx
 have fM:Zs (aC w3 w2.heap.size 3 #[.int .i64 32,.int .i64 48,.int .i64 49,.int .i64 57,.int .i64 45,.int .i64 97,.int .i64 35,.int .i64 63,.int .i64 33,.int .i64 47,.int .i64 c]):=Ys (by rw[jw];exact aC.new _ _ _);have HP3:=Ys (dM w3 rb (p+1+1) v zs 11 (Dg.ext dm) (by omega) (by omega));have lN:=Ys ((Ce.o.trans af).trans dm.any);have HZ:Zs (rb<w2.heap.size):=Ys Dg.blk.lt;have mq:=Ys jw;clear Dg af dm jw;go_wp2_with fail;rw[←mq.o];refine HP3.o.mono ?_;rintro e w4 ⟨⟨j,rfl,hj⟩,Tf,mZ⟩;have hj2:j<11:=by omega
 have vM:=fM.o.kp mZ (by have:=HZ.o;omega);obtain⟨d,hd,hd0,OT⟩:∃d:Int,w4.cell? ⟨w2.heap.size,j,none⟩=some (.int .i64 d)∧0≤d∧d<256:=by
  have ou:=vM.cell j;have:j=0∨j=1∨j=2∨j=3∨j=4∨j=5∨j=6∨j=7∨j=8∨j=9∨j=10:=by omega
  rcases this with rfl|rfl|rfl|rfl|rfl|rfl|rfl|rfl|rfl|rfl|rfl
  all_goals first|exact⟨_,ou,by omega,by omega⟩|skip
 have yH:=Ys Tf;have zk:=Ys (lN.o.trans mZ);have hdz:=aG hd;clear Tf mZ vM hj hc;have HCV:=Ba w4 d hd0 OT;obtain⟨w5,ji⟩:∃w5,w5=w4.alloc (.cells #[.int .u8 d] 5):=⟨_,rfl⟩;have dC:Ext w4 w5:=by rw[ji];exact kx
 have MI:=Ys (dM w5 rb (p+1+1+1) v zs 3 (yH.o.ext dC) (by omega) (by omega));have oJ:=Ys (zk.o.trans dC.any);have zm:=Ys ji;clear dC ji;go_wp2_with fail;rw[←zm.o];refine MI.o.mono ?_;rintro e w6 ⟨⟨m,rfl,hm⟩,hR6,Bj⟩;have Dx:Zs (∃q,q≤p+4∧kv w6 rb v zs q):=Ys ⟨_,by omega,hR6⟩;have Gc:=Ys (oJ.o.trans Bj);clear hR6 Bj hdz hd AY C9 HP3 MI HCV;obtain⟨u,hu⟩:∃u,M.bs [UInt8.ofNat d.toNat]=u:=⟨_,rfl⟩;have huz:u.size=1:=by rw[←hu];rfl
 rw[hu];have z1:(s.extract 0 k).size=k:=by rw[ByteArray.size_extract];omega
 have z2:(s.extract k s.size).size=s.size - k:=by rw[ByteArray.size_extract];omega
 have z3:(s.extract (k+1) s.size).size=s.size - (k+1):=by rw[ByteArray.size_extract];omega
 have Ym:m=0∨m=1∨m=2:=by omega
 clear hm hu hd0 OT;rcases Ym with rfl|rfl|rfl
 · go_wp2_with fail;go_quiet (fail);go_wp2_with fail;go_ret;refine⟨⟨_,rfl,?_⟩,?_,Gc.o.drewN _⟩
   · simp only[ByteArray.size_append,huz,z1,z2,z3];omega
   · obtain⟨q,hq,hr⟩:=Dx.o;exact⟨q,hq,hr.ext ((Kp.refl _ _).drewN _)⟩
 · by_cases WA:k<s.size
   · go_wp2_with fail;go_quiet (fail);go_wp2_with fail;go_ret;refine⟨⟨_,rfl,?_⟩,?_,Gc.o.drewN _⟩
     · simp only[ByteArray.size_append,huz,z1,z2,z3];omega
     · obtain⟨q,hq,hr⟩:=Dx.o;exact⟨q,hq,hr.ext ((Kp.refl _ _).drewN _)⟩
   · go_wp2_with fail;go_ret;exact⟨⟨_,rfl,by omega⟩,Dx.o,Gc.o⟩
 · by_cases WA:k<s.size
   · go_wp2_with fail;go_quiet (fail);go_wp2_with fail;go_ret;refine⟨⟨_,rfl,?_⟩,?_,Gc.o.drewN _⟩
     · simp only[ByteArray.size_append,huz,z1,z2,z3];omega
     · obtain⟨q,hq,hr⟩:=Dx.o;exact⟨q,hq,hr.ext ((Kp.refl _ _).drewN _)⟩
   · go_wp2_with fail;go_ret;exact⟨⟨_,rfl,by omega⟩,Dx.o,Gc.o⟩
theorem xg{a b:ByteArray}(h:(a.toList==b.toList)=true):a=b:=by
 have h2:=beq_iff_eq.1 h;rw[ByteArray.toList_eq,ByteArray.toList_eq]at h2;exact ByteArray.ext (Array.toList_inj.1 h2)
def abr(s:ByteArray)(e:Ending):Prop:=∃n b,e=.returned (.tuple #[.int .i64 n,.bool b])∧(b=true→0≤n→n≤2→s=M.bs (M.digit n))∧ -100000≤n∧n≤100000
theorem l7(s:ByteArray)(w:World)(hs:s.size≤4000000000):
    Calls Tryz.prog 128 #[.string s] w fun e w'=>abr s e∧Ext w w':=by
 by_cases hz:s.size=0
 · go_enter Tryz.func128,Tryz.ntmps128;go_wp2_with fail;go_ret2;exact⟨⟨_,_,rfl,fun h=>by(cases h),by omega,by omega⟩,Kp.refl _ _⟩
 by_cases hm:((s[0]'(by omega)).toNat:Int)=45
 · skip;by_cases hb:s.size=1∨5<s.size
   · go_enter Tryz.func128,Tryz.ntmps128;go_wp2_with fail
     all_goals (go_ret2;exact⟨⟨_,_,rfl,fun h=>by(cases h),by omega,by omega⟩,Kp.refl _ _⟩)
   have uN:((s.size:Int)==1)=false:=beq_eq_false_iff_ne.2 (by omega);have iU:decide ((5:Int)<s.size)=false:=decide_eq_false (by omega);go_enter Tryz.func128,Tryz.ntmps128;go_wp2_with fail;go_loopw [4,6] (fun n i wr=>∃(k:Nat) (x:Int) (p:Int),1≤k∧k≤s.size∧i=.int .i64 k∧n=.int .i64 x∧0≤x∧x+1≤p∧Zs (p=10 ^ (k - 1))∧Ext w wr) (fun _ i _=>s.size - (intOf i).toNat)
   case atStart=>exact⟨1,0,1,by omega,by omega,rfl,rfl,by omega,by omega,Ys (by simp),Kp.refl _ _⟩
   case round=>
    obtain⟨k,x,p,Vn,WA,rfl,rfl,sG,hxp,HP,hE⟩:=hrel;have HE:=Ys hE;clear hE;have hp:p≤10000:=by
     rw[HP.o];have h1:(10 ^ (k - 1):Nat)≤10 ^ 4:=Nat.pow_le_pow_right (by omega) (by omega);have h2:((10 ^ (k - 1):Nat):Int)≤((10 ^ 4:Nat):Int):=Int.ofNat_le.2 h1;simpa using h2
    by_cases bZ:k<s.size
    · go_wp2_with fail
      all_goals first
       |(go_ret2;exact⟨⟨_,_,rfl,fun h=>by(cases h),by omega,by omega⟩,HE.o⟩)
       |skip
      go_round
      case rel=>
       refine⟨k+1,_,p*10,by omega,by omega,by go_num,rfl,by omega,by omega,Ys ?_,HE.o⟩;rw[HP.o,show k+1 - 1=(k - 1)+1 by omega,Int.pow_succ]
      case measure=>simp[intOf];omega
    · go_wp2_with fail;refine(NZ _ _ (by omega) (by omega)).mono ?_;rintro e w1 ⟨⟨t,rfl,ht, -⟩,bA⟩;have HT:=Ys ht;clear ht;cases hb:(t.toList==s.toList)
      · go_wp2_with fail;go_ret2;exact⟨⟨_,_,rfl,fun h=>by(cases h),by omega,by omega⟩,HE.o.trans bA⟩
      · have HTS:=Ys (xg hb);go_wp2_with fail;go_ret2;exact⟨⟨_,_,rfl,fun _ g0 g2=>by rw[←HTS.o];exact HT.o g0 g2,by omega,by omega⟩,HE.o.trans bA⟩
 · have PZ:(((s[0]'(by omega)).toNat:Int)==45)=false:=beq_eq_false_iff_ne.2 hm;by_cases hb:s.size=0∨4<s.size
   · go_enter Tryz.func128,Tryz.ntmps128;go_wp2_with fail
     all_goals (go_ret2;exact⟨⟨_,_,rfl,fun h=>by(cases h),by omega,by omega⟩,Kp.refl _ _⟩)
   have uN:((s.size:Int)==0)=false:=beq_eq_false_iff_ne.2 (by omega);have iU:decide ((4:Int)<s.size)=false:=decide_eq_false (by omega);go_enter Tryz.func128,Tryz.ntmps128;go_wp2_with fail;go_loopw [4,6] (fun n i wr=>∃(k:Nat) (x:Int) (p:Int),0≤k∧k≤s.size∧i=.int .i64 k∧n=.int .i64 x∧0≤x∧x+1≤p∧Zs (p=10 ^ (k - 0))∧Ext w wr) (fun _ i _=>s.size - (intOf i).toNat)
   case atStart=>exact⟨0,0,1,by omega,by omega,rfl,rfl,by omega,by omega,Ys (by simp),Kp.refl _ _⟩
   case round=>
    obtain⟨k,x,p,Vn,WA,rfl,rfl,sG,hxp,HP,hE⟩:=hrel;have HE:=Ys hE;clear hE;have hp:p≤10000:=by
     rw[HP.o];have h1:(10 ^ (k - 0):Nat)≤10 ^ 4:=Nat.pow_le_pow_right (by omega) (by omega);have h2:((10 ^ (k - 0):Nat):Int)≤((10 ^ 4:Nat):Int):=Int.ofNat_le.2 h1;simpa using h2
    by_cases bZ:k<s.size
    · go_wp2_with fail
      all_goals first
       |(go_ret2;exact⟨⟨_,_,rfl,fun h=>by(cases h),by omega,by omega⟩,HE.o⟩)
       |skip
      go_round
      case rel=>
       refine⟨k+1,_,p*10,by omega,by omega,by go_num,rfl,by omega,by omega,Ys ?_,HE.o⟩;rw[HP.o,show k+1 - 0=(k - 0)+1 by omega,Int.pow_succ]
      case measure=>simp[intOf];omega
    · go_wp2_with fail;refine(NZ _ _ (by omega) (by omega)).mono ?_;rintro e w1 ⟨⟨t,rfl,ht, -⟩,bA⟩;have HT:=Ys ht;clear ht;cases hb:(t.toList==s.toList)
      · go_wp2_with fail;go_ret2;exact⟨⟨_,_,rfl,fun h=>by(cases h),by omega,by omega⟩,HE.o.trans bA⟩
      · have HTS:=Ys (xg hb);go_wp2_with fail;go_ret2;exact⟨⟨_,_,rfl,fun _ g0 g2=>by rw[←HTS.o];exact HT.o g0 g2,by omega,by omega⟩,HE.o.trans bA⟩
end Go.Proofs.YtcepdbbapgfcdaaGreat
namespace Go.Proofs.YtcepdbbapgfcdaaGreat.M
structure kT where
 of:Ref
 at_:Int
def nR(p:au)(n:ByteArray):List Ref→Option kT
 |[]=>none
 |c::r=>match mK (cls p c) n with
  |some i=>some ⟨c,i⟩
  |none=>nR p n r
def pick(p:au)(r:Ref)(n:ByteArray):Option kT:=if cZ p r then nR p n (chain p r)else none
def bN(p:au)(k:Int)(n m:ByteArray):Ref×Int:=
 if has p k&&aY n&&aY m then
  (if(find p k n).2=1 then(if cZ p (find p k n).1 then((find p k n).1,1)else(pO,4))else(pO,2))
 else(pO,2)
end Go.Proofs.YtcepdbbapgfcdaaGreat.M
