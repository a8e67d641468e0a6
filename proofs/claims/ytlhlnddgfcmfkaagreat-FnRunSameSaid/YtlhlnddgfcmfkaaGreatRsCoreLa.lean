/- Walks. -/
import Derived.WalkKit
import Derived.Deep.Draws
import Derived.Lib.Hide
import Derived.Test.YtlhlnddgfcmfkaaGreatProg
import Derived.WalkLawsBesides
import Derived.WalkSpells
import Derived.Deep.QuietTactic
import Derived.BigQuiet
import Derived.Lib.SplitLaws
import Derived.OwnWalk
import Derived.OwnWalkIn
import Derived.WalkSmall
import Derived.Laws.Rows
import Derived.ArgAppend
set_option maxRecDepth 100000
set_option maxHeartbeats 4000000
set_option linter.all false
namespace Go.Proofs.YtlhlnddgfcmfkaaGreat
def Zz(p:Prop):Prop:=p
theorem Zz.o{p:Prop}(a:Zz p):p:=a
theorem Zy{p:Prop}(a:p):Zz p:=a
theorem Zx{p:Prop}(a:p:=by repeat (first|with_reducible exact Kp.refl _ _|with_reducible assumption|with_reducible refine Kp.alloc ?_ _|with_reducible refine Kp.drew ?_|with_reducible refine Kp.drewN ?_ _|with_reducible refine Kp.setCell ?_ (fun a=>absurd a (by simp<;>omega)) _|with_reducible refine Kp.trans ?_ (by with_reducible assumption)|exact Kp.refl _ _|assumption|refine Kp.alloc ?_ _|refine Kp.drew ?_|refine Kp.drewN ?_ _|(refine Kp.setCell ?_ (fun a=>absurd a (by simp;done)) _)|(refine Kp.setCell ?_ (fun a=>absurd a (by simp;omega)) _)|refine Kp.trans ?_ (by assumption))):p:=a
theorem Zw{p:Prop}(a:p:=by repeat (first|with_reducible assumption|with_reducible exact Kp.refl _ _|apply Kp.alloc|apply Kp.drew|apply Kp.drewN|refine Kp.setCell ?_ (fun a=>absurd a (by simp<;>omega)) _|assumption|refine Kp.trans ?_ (by assumption)|exact Kp.refl _ _)):p:=a
theorem Zv{p:Prop}(a:p:=by repeat (first|assumption|exact Kp.refl _ _|apply Kp.alloc|apply Kp.drew|apply Kp.drewN|refine Kp.trans ?_ (by assumption))):p:=a
theorem Zu{p:Prop}(a:p:=by with_reducible assumption):p:=a
theorem Zt{p:Prop}(a:p:=by simp[Value.oneCell']):p:=a
theorem Zs{p:Prop}(a:p:=by simp<;>omega):p:=a
theorem Zr{p:Prop}(a:p:=by simp;omega):p:=a
theorem Zq{p:Prop}(a:p:=by simp;done):p:=a
theorem Zp{p:Prop}(a:p:=by assumption):p:=a
theorem Zo{p:Prop}(a:p:=by kernel_rfl):p:=a
theorem Zn{p:Prop}(a:p:=by decide):p:=a
theorem Zm{p:Prop}(a:p:=by omega):p:=a
theorem Zl{p:Prop}(a:p:=by simp):p:=a
instance cz1:Coe Nat Value:=⟨fun n=>.int .i64 n⟩
instance cz2:Coe Int Value:=⟨.int .i64⟩
instance cz3:Coe ByteArray Value:=⟨.string⟩
instance cz4:Coe Unit Value:=⟨fun _=>.slice none 0 0⟩
instance cz5:CoeDep String "" Value:=⟨.string ⟨#[]⟩⟩
instance cz6 (b:Nat):CoeDep (Option Nat) (some b) Value:=⟨.pointer (some ⟨b,0,none⟩)⟩
instance cz7 (b n c:Nat):CoeDep (Nat×Nat×Nat) (b,n,c) Value:=⟨.slice (some ⟨b,0,none⟩) n c⟩
instance cz9:Coe World Nat:=⟨fun w=>w.heap.size⟩
instance cza (b k:Nat):CoeDep (Nat×Nat) (b,k) Addr:=⟨⟨b,k,none⟩⟩
instance czb (b k:Nat):CoeDep (Option (Nat×Nat)) (some (b,k)) Value:=⟨.pointer (some ⟨b,k,none⟩)⟩
instance czc (w:World) (k:Nat):CoeDep (World×Nat) (w,k) Addr:=⟨⟨w.heap.size,k,none⟩⟩
instance czd (w:World):CoeDep (Option World) (some w) Value:=⟨.pointer (some ⟨w.heap.size,0,none⟩)⟩
instance cze (w:World) (n c:Nat):CoeDep (World×Nat×Nat) (w,n,c) Value:=⟨.slice (some ⟨w.heap.size,0,none⟩) n c⟩
instance czf (w:World) (k:Nat):CoeDep (Option (World×Nat)) (some (w,k)) Value:=⟨.pointer (some ⟨w.heap.size,k,none⟩)⟩
theorem Ry(e:World):∃a,a=e:=⟨e,rfl⟩
instance cz8:Coe Nat Addr:=⟨fun b=>⟨b,0,none⟩⟩
theorem RA{P G:Prop}(c:G)(b:Zz G->P:=by(intro a;(try simp only[Exit.inBlock,Exit.then]);(first|exact bodyPost_ret (results_none rfl _ _ _) rfl a.o|exact bodyPost_end (results_none rfl _ _ _) rfl a.o))):P:=b (Zy c)
end Go.Proofs.YtlhlnddgfcmfkaaGreat
namespace Go.Proofs.YtlhlnddgfcmfkaaGreat.M
structure Kind where
 kind:Int
 name:ByteArray
structure Tag where
 kind:Int
 name:ByteArray
structure Ins where
 op:Int
 a:Int
 name:ByteArray
 member:ByteArray
structure SMap where
 at_:Int
 locals:List Tag
 stack:List Tag
structure Field where
 name:ByteArray
 kind:Kind
structure Method where
 name:ByteArray
 args:List Kind
 ret:Kind
 locals:Int
 stack:Int
 code:List Ins
 maps:List SMap
structure Class where
 name:ByteArray
 jl:ByteArray
 fields:List Field
 methods:List Method
structure Ask where
 name:ByteArray
 keeper:Int
structure nk where
 owns:List Class
 asks:List Ask
abbrev hZ:=List nk
structure Ref where
 keeper:Int
 name:ByteArray
theorem Ref.nX{a b:Ref}:a=b↔a.keeper=b.keeper∧a.name=b.name:=by
 cases a;cases b;simp
theorem Kind.nX{a b:Kind}:a=b↔a.kind=b.kind∧a.name=b.name:=by
 cases a;cases b;simp
theorem Tag.nX{a b:Tag}:a=b↔a.kind=b.kind∧a.name=b.name:=by
 cases a;cases b;simp
theorem Ins.nX{a b:Ins}:a=b↔a.op=b.op∧a.a=b.a∧a.name=b.name∧a.member=b.member:=by
 cases a;cases b;simp
instance:DecidableEq Ref:=fun _ _=>decidable_of_iff' _ Ref.nX
instance:DecidableEq Kind:=fun _ _=>decidable_of_iff' _ Kind.nX
instance:DecidableEq Tag:=fun _ _=>decidable_of_iff' _ Tag.nX
instance:DecidableEq Ins:=fun _ _=>decidable_of_iff' _ Ins.nX
theorem Field.nX{a b:Field}:a=b↔a.name=b.name∧a.kind=b.kind:=by
 cases a;cases b;simp
instance:DecidableEq Field:=fun _ _=>decidable_of_iff' _ Field.nX
def letter(c:UInt8):Bool:=decide (97<=c.toNat)&&decide (c.toNat<=122)
def jC(s:ByteArray):Bool:=decide (1<=s.size)&&decide (s.size<=6)&&s.data.toList.all letter
abbrev none_:ByteArray:=⟨#[]⟩
def lD(k:Kind):Bool:=(k.kind==1&&decide (k.name=none_))|| (k.kind==2&&jC k.name)
def rU(t:Tag):Bool:=
 if t.kind=0∨t.kind=1∨t.kind=3 then decide (t.name=none_)else if t.kind=2 then jC t.name else false
def pQ(op:Int):Int:=if op=1 then -9999 else 0
def qI(op:Int):Int:=if op=1 then 9999 else if op=2∨op=3 then 5 else 15
def isNum(op:Int):Bool:=op==1 || op==2 || op==3 || op==11 || op==12 || op==13
def oO(op:Int):Bool:=op==6 || op==15
def pM(op:Int):Bool:=op==7 || op==8 || op==9
def qU(op:Int):Bool:=op==4 || op==5 || op==10 || op==14
def lv(i:Ins):Bool:=
 if isNum i.op then decide (i.name=none_)&&decide (i.member=none_)&&decide (pQ i.op<=i.a)&&decide (i.a<=qI i.op)
 else if oO i.op then decide (i.a=0)&&decide (i.member=none_)&&jC i.name
 else if pM i.op then decide (i.a=0)&&jC i.name&&jC i.member
 else if qU i.op then decide (i.a=0)&&decide (i.name=none_)&&decide (i.member=none_)
 else false
def vg(l:List Tag):Bool:=l.all rU
def nO(m:Method)(i:Ins):Bool:=
 lv i&&(if i.op=2∨i.op=3 then decide (i.a<m.locals)else if i.op=11∨i.op=12∨i.op=13 then decide (i.a<m.code.length)else true)
def codeOk(m:Method):Bool:=decide (1<=m.code.length)&&decide (m.code.length<=16)&&m.code.all (nO m)
def uP(m:Method)(f:SMap):Bool:=
 decide (f.at_ <m.code.length)&&decide ((f.locals.length:Int)=m.locals)&&decide ((f.stack.length:Int)<=m.stack)&&vg f.locals&&vg f.stack
def kL(m:Method):Int->List SMap->Bool
 |_,[]=>true
 |last,f::r=>decide (last<f.at_)&&uP m f&&kL m f.at_ r
def rR(m:Method):Bool:=decide (m.maps.length<=5)&&kL m 0 m.maps
def nJ(m:Method):Bool:=
 jC m.name&&decide (m.args.length<=3)&&lD m.ret&&m.args.all lD&&
 decide ((m.args.length:Int)+1<=m.locals)&&decide (m.locals<=6)&&decide (1<=m.stack)&&decide (m.stack<=5)&&codeOk m&&rR m
def jI{α:Type}(name:α->ByteArray)(ok:α->Bool):List α->List ByteArray->Bool
 |[],_=>true
 |x::r,seen=>ok x&& !(seen.any fun y=>decide (y=name x))&&jI name ok r (seen++[name x])
def nV(c:Class):Bool:=
 jC c.name&&(decide (c.jl=none_)|| jC c.jl)&&decide (c.fields.length<=3)&&decide (c.methods.length<=4)&&
 jI Field.name (fun f=>jC f.name&&lD f.kind) c.fields []&&jI Method.name nJ c.methods []
def has(p:hZ)(k:Int):Bool:=decide (0<=k)&&decide (k<p.length)
def kr(p:hZ)(k:nk):Bool:=
 decide (k.owns.length<=5)&&decide (k.asks.length<=4)&&jI Class.name nV k.owns []&&jI Ask.name (fun a=>jC a.name&&has p a.keeper) k.asks []
def kU(p:hZ):Bool:=decide (1<=p.length)&&decide (p.length<=3)&&p.all (kr p)
def pI(p:hZ)(k:Int):Option nk:=if 0<=k then p[k.toNat]? else none
def vS(p:hZ)(r:Ref):Option Nat:=(pI p r.keeper).bind fun k=>k.owns.findIdx? fun c=>c.name=r.name
def cls?(p:hZ)(r:Ref):Option Class:=(pI p r.keeper).bind fun k=>k.owns.find? fun c=>c.name=r.name
def zh(p:hZ)(k:Int)(n:ByteArray):Option Int:=(pI p k).bind fun q=>(q.asks.find? fun a=>a.name=n).map Ask.keeper
def owned(p:hZ)(r:Ref):Bool:=(cls? p r).isSome
def vB:Ref:=⟨0,none_⟩
def mG(p:hZ)(n:ByteArray):Nat->List Int->Int->List Int×Int
 |0,_,_=>([],3)
 |f+1,asked,k=>match zh p k n with
  |none=>if owned p ⟨k,n⟩then(asked,1)else([],2)
  |some next=>if asked.contains next then([],3)else mG p n f (asked++[next]) next
def path(p:hZ)(k:Int)(n:ByteArray):List Int×Int:=if has p k then mG p n 4 [k] k else([],2)
def resolve(p:hZ)(k:Int)(n:ByteArray):Ref×Int:=
 if(path p k n).2=1 then(⟨(path p k n).1.getLastD 0,n⟩,1)else(vB,(path p k n).2)
def jl(p:hZ)(r:Ref):ByteArray:=((cls? p r).map Class.jl).getD none_
def kv(p:hZ):Nat->Ref->Option (List Ref)
 |0,_=>none
 |f+1,r=>
  if jl p r=none_ then some [r]
  else if(resolve p r.keeper (jl p r)).2=1 then(kv p f (resolve p r.keeper (jl p r)).1).map (r::·)else none
def uo(p:hZ)(r:Ref):Option (List Ref):=kv p 6 r
def find(p:hZ)(k:Int)(n:ByteArray):Ref×Int:=
 if(resolve p k n).2=1 then(if(uo p (resolve p k n).1).isSome then((resolve p k n).1,1)else(vB,4))else(vB,(resolve p k n).2)
def nH(p:hZ)(r:Ref):Bool:=decide ((find p r.keeper r.name).2=1)&&decide ((find p r.keeper r.name).1=r)
def chain(p:hZ)(r:Ref):List Ref:=if nH p r then(uo p r).getD []else []
def under(p:hZ)(low top:Ref):Bool:=(chain p low).contains top
def agree(p:hZ)(a b:Int)(k:Kind):Bool:=
 k.kind==1 || (if(find p a k.name).2=1∧(find p b k.name).2=1 then decide ((find p a k.name).1=(find p b k.name).1)
  else decide ((find p a k.name).2≠1)&&decide ((find p b k.name).2≠1))
def kP(p:hZ)(a b:Int)(m:Method):Bool:=m.args.all (agree p a b)&&agree p a b m.ret
def og(c:Class)(n:ByteArray):Option Nat:=c.methods.findIdx? fun m=>m.name=n
def wu(c:Class)(n:ByteArray):Option Nat:=c.fields.findIdx? fun f=>f.name=n
def Rf:Class:=⟨none_,none_,[],[]⟩
def cls(p:hZ)(r:Ref):Class:=(cls? p r).getD Rf
def lX(p:hZ)(low high:Ref)(m:Method):Bool:=
 match(cls p high).methods.find? (fun n=>n.name=m.name)with
 |none=>true
 |some n=>decide (m.ret=n.ret)&&decide (m.args=n.args)&&kP p low.keeper high.keeper m
def pE(p:hZ)(low high:Ref):Bool:=
 (cls p low).fields.all (fun f=>(wu (cls p high) f.name).isNone)&&(cls p low).methods.all (lX p low high)
def mq(p:hZ):List Ref->Bool
 |[]=>true
 |low::r=>r.all (pE p low)&&mq p r
def kg(p:hZ)(r:Ref):Bool:= !(chain p r).isEmpty&&mq p (chain p r)
end Go.Proofs.YtlhlnddgfcmfkaaGreat.M
namespace Go.Proofs.YtlhlnddgfcmfkaaGreat
open Go Go.RowKit Tryz
theorem iY{w:World}{b d:Nat}{v:Value}(c:w.cell? (b,d)=some v):b<w:=by
 rcases Nat.lt_or_ge b w with a|a
 . exact a
 . simp[World.cell?,Array.getElem?_eq_none a]at c
structure Kp(D:Nat->Prop)(w w':World):Prop where
 os:w'.os=w.os
 tape:w'.tape=w.tape
 output:w'.output=w.output
 size:w.heap.size<=w'.heap.size
 block:∀k,k<w.heap.size->¬D k->w'.heap[k]?=w.heap[k]?
section
variable {D D':Nat->Prop} {w w' a b c:World}
theorem Kp.refl(D:Nat->Prop)(w:World):Kp D w w:=⟨rfl,rfl,rfl,Nat.le_refl _,fun _ _ _=>rfl⟩
theorem Kp.rr{D:Nat->Prop}{w:World}:Kp D w w:=Kp.refl D w
theorem Kp.trans(d:Kp D a b)(k:Kp D b c):Kp D a c:=
 ⟨k.os.trans d.os,k.tape.trans d.tape,k.output.trans d.output,Nat.le_trans d.size k.size,
  fun g f e=>(k.block g (Nat.lt_of_lt_of_le f d.size) e).trans (d.block g f e)⟩
theorem Kp.weak(d:Kp D a b)(f:∀c,c<a.heap.size->D c->D' c):Kp D' a b:=
 ⟨d.os,d.tape,d.output,d.size,fun c e g=>d.block c e fun h=>g (f c e h)⟩
theorem Kp.below(c:Kp D a b)(n:Nat)(g:n<=a)(e:∀d,d<n->¬D d):Below n a b:=
 ⟨c.os,c.tape,c.output,c.size,fun d f=>c.block d Zm (e d f)⟩
theorem Kp.alloc(c:Kp D a b)(f:Obj):Kp D a (b.alloc f):=
 ⟨c.os,c.tape,c.output,by simp;exact Nat.le_succ_of_le c.size,fun e d g=>(Below.heap_alloc b f e (Nat.lt_of_lt_of_le d c.size)).trans (c.block e d g)⟩
theorem Kp.drew(c:Kp D a b):Kp D a b.drew:=⟨c.os,c.tape,c.output,c.size,c.block⟩
theorem Kp.drewN(c:Kp D a b)(n:Nat):Kp D a (b.drewN n):=⟨c.os,c.tape,c.output,c.size,c.block⟩
theorem Kp.setCell(c:Kp D a b){p:Addr}(h:p.block<a->D p.block)(v:Value):Kp D a (b.setCell p v):=
 ⟨c.os,c.tape,c.output,by simp[World.setCell];exact c.size,
  fun f e d=>(Below.heap_setCell b p v f (fun g=>d (by subst g;exact h e))).trans (c.block f e d)⟩
theorem Kp.cell(d:Kp D a b){k c:Nat}(f:k<a)(e:¬D k):b.cell? (k,c)=a.cell? (k,c):=
 World.cell?_of_block (d.block k f e)
theorem Kp.frozen(d:Kp D a b){k c:Nat}(f:k<a)(e:¬D k):b.frozen? (k,c)=a.frozen? (k,c):=
 World.frozen?_of_block (d.block k f e)
abbrev Ext(w w':World):Prop:=Kp (fun _=>False) w w'
theorem Kp.any(c:Ext a b):Kp D a b:=c.weak fun _ _ d=>d.elim
theorem Ext.NL{w w':World}(a:Ext w w'):Below w w w':=Kp.below a _ (Nat.le_refl _) fun _ _ b=>b
theorem Kp.jb(e:Ext a b){k d:Nat}{v:Value}(c:a.cell? (k,d)=some v):b.cell? (k,d)=some v:=
 (e.cell (iY c) (fun f=>f)).trans c
theorem Kp.lW(e:Kp D a b){k d:Nat}{v:Value}(c:a.cell? (k,d)=some v)(f:¬D k):b.cell? (k,d)=some v:=
 (e.cell (iY c) f).trans c
theorem Kp.JL{f:Obj}(d:Ext (a.alloc f) b){k c:Nat}{v:Value}(e:a.cell? (k,c)=some v):b.cell? (k,c)=some v:=
 d.jb (((Kp.refl _ _).alloc _:Ext a _).jb e)
inductive KX(D:Nat->Prop)(w:World):World->Prop
 |r:KX D w w
 |a {b:World} {o:Obj}:KX D w b->KX D w (b.alloc o)
 |d {b:World}:KX D w b->KX D w b.drew
 |n {b:World} {k:Nat}:KX D w b->KX D w (b.drewN k)
 |h {b:World}:Kp D w b->KX D w b
theorem KX.k{D:Nat->Prop}{w b:World}(h:KX D w b):Kp D w b:=by
 induction h with
 |r=>exact Kp.refl _ _
 |a _ c=>exact c.alloc _
 |d _ c=>exact c.drew
 |n _ c=>exact c.drewN _
 |h h=>exact h
theorem kx{D:Nat->Prop}{w b:World}(a:KX D w b:=by repeat (first|assumption|constructor)):Kp D w b:=a.k
theorem GM{W d:World}(f:Ext W d):(∀b a,b<W.heap.size->d.cell? ⟨b,a,none⟩=W.cell? ⟨b,a,none⟩)∧(∀b a,b<W.heap.size->d.frozen? ⟨b,a,none⟩=W.frozen? ⟨b,a,none⟩):=
 ⟨fun _ _ c=>f.cell c fun e=>e,fun _ _ c=>f.frozen c fun e=>e⟩
end
theorem je{p0 a:Prop}(h0:p0)(b:a):Zz p0∧Zz a:=⟨Zy h0,Zy b⟩
theorem jy{p0 a b:Prop}(h0:p0)(c:a)(d:b):Zz p0∧Zz a∧Zz b:=⟨Zy h0,Zy c,Zy d⟩
theorem jV{p0 a b c:Prop}(h0:p0)(d:a)(e:b)(f:c):Zz p0∧Zz a∧Zz b∧Zz c:=⟨Zy h0,Zy d,Zy e,Zy f⟩
theorem mr{p0 a b c d:Prop}(h0:p0)(e:a)(f:b)(g:c)(h:d):Zz p0∧Zz a∧Zz b∧Zz c∧Zz d:=⟨Zy h0,Zy e,Zy f,Zy g,Zy h⟩
theorem nZ{p0 a b c d e:Prop}(h0:p0)(f:a)(g:b)(h:c)(i:d)(j:e):Zz p0∧Zz a∧Zz b∧Zz c∧Zz d∧Zz e:=⟨Zy h0,Zy f,Zy g,Zy h,Zy i,Zy j⟩
theorem qh{p0 a b c d e f:Prop}(h0:p0)(g:a)(h:b)(i:c)(j:d)(k:e)(l:f):Zz p0∧Zz a∧Zz b∧Zz c∧Zz d∧Zz e∧Zz f:=⟨Zy h0,Zy g,Zy h,Zy i,Zy j,Zy k,Zy l⟩
theorem xJ{p0 a b c d e f g:Prop}(h0:p0)(h:a)(i:b)(j:c)(k:d)(l:e)(m:f)(n:g):Zz p0∧Zz a∧Zz b∧Zz c∧Zz d∧Zz e∧Zz f∧Zz g:=⟨Zy h0,Zy h,Zy i,Zy j,Zy k,Zy l,Zy m,Zy n⟩
theorem vL{p0 a b c d e f g h:Prop}(h0:p0)(i:a)(j:b)(k:c)(l:d)(m:e)(n:f)(o:g)(p:h):Zz p0∧Zz a∧Zz b∧Zz c∧Zz d∧Zz e∧Zz f∧Zz g∧Zz h:=⟨Zy h0,Zy i,Zy j,Zy k,Zy l,Zy m,Zy n,Zy o,Zy p⟩
def hV(w:World)(g:Nat)(t:TypeId)(cs:Array Value):Prop:=w.heap[g]?=some (.cells cs t (0,0))
section
variable {w w':World} {g:Nat} {t:TypeId} {cs:Array Value}
theorem hV.lt(a:hV w g t cs):g<w:=by
 rcases Nat.lt_or_ge g w with c|b
 . exact c
 . unfold hV at a;rw[Array.getElem?_eq_none b]at a;cases a
theorem hV.cell(a:hV w g t cs)(i:Nat):w.cell? (g,i)=cs[i]?:=by
 unfold hV at a;simp[World.cell?,a]
theorem hV.c(a:hV w g t cs)(i:Nat)(v:Value)(b:cs[i]?=some v):w.cell? (g,i)=some v:=(a.cell i).trans b
theorem hV.frozen(a:hV w g t cs)(i:Nat):w.frozen? (g,i)=false:=by
 unfold hV at a;simp[World.frozen?,a]
def O5(w:World)(g:Nat):List Nat->List Value->Prop
 |i::r,v::l=>w.cell? ⟨g,i,none⟩=some v∧O5 w g r l
 |_,_=>True
def O4{T:Type}(W:T->World)(g:Nat):List Nat->List Value->Prop
 |i::r,v::l=>(∀z,(W z).cell? ⟨g,i,none⟩=some v)∧O4 W g r l
 |_,_=>True
def Qy(w:World)(g:Nat):List Nat->Prop
 |i::r=>w.frozen? ⟨g,i,none⟩=false∧Qy w g r
 |_=>True
theorem O5.of{w:World}{g:Nat}:∀(n k:Nat) (l:List Value),(∀a b,l[a]?=some b->w.cell? ⟨g,k+a,none⟩=some b)->O5 w g (List.range' k n) l
 |0,_,_,_=>by simp[O5]
 |n+1,k,[],_=>by simp[List.range'_succ,O5]
 |n+1,k,b::l,h=>by
  rw[List.range'_succ];exact⟨h 0 b rfl,O5.of n (k+1) l fun a d c=>by have:=h (a+1) d c;rwa[Nat.add_right_comm,<-Nat.add_assoc]at*⟩
theorem O4.of{d:Type}{W:d->World}{g:Nat}:∀(n k:Nat) (l:List Value),(∀a b,l[a]?=some b->∀c,(W c).cell? ⟨g,k+a,none⟩=some b)->O4 W g (List.range' k n) l
 |0,_,_,_=>by simp[O4]
 |n+1,k,[],_=>by simp[List.range'_succ,O4]
 |n+1,k,b::l,h=>by
  rw[List.range'_succ];exact⟨h 0 b rfl,O4.of n (k+1) l fun a f e c=>by have:=h (a+1) f e c;rwa[Nat.add_right_comm,<-Nat.add_assoc]at*⟩
theorem Qy.of{w:World}{g:Nat}(b:∀i,w.frozen? ⟨g,i,none⟩=false):∀a:List Nat,Qy w g a
 |[]=>trivial
 |i::a=>⟨b i,Qy.of b a⟩
theorem hV.ca(a:hV w g t cs):g<w∧O5 w g [0,1,2,3,4,5,6,7,8,9,10,11] cs.toList:=
 ⟨a.lt,O5.of 12 0 _ fun c d b=>by rw[Nat.zero_add];exact a.c c d (by rw[<-Array.getElem?_toList];exact b)⟩
theorem hV.lL{c:Type}{W:c->World}(b:∀a,hV (W a) g t cs):(∀a,g<(W a).heap.size)∧O4 W g [0,1,2,3,4,5,6,7,8,9,10,11] cs.toList:=
 ⟨fun a=>(b a).lt,O4.of 12 0 _ fun e f d a=>by rw[Nat.zero_add];exact(b a).c e f (by rw[<-Array.getElem?_toList];exact d)⟩
theorem hV.fz(a:hV w g t cs):Qy w g [0,1,2,3,4,5,6,7,8,9,10,11]:=Qy.of (fun b=>a.frozen b) _
theorem hV.keep(a:hV w g t cs)(b:w'.heap[g]?=w.heap[g]?):hV w' g t cs:=b.trans a
theorem hV.ext(a:hV w g t cs)(b:Ext w w'):hV w' g t cs:=(b.block g a.lt fun c=>c).trans a
theorem hV.kp{D:Nat->Prop}(a:hV w g t cs)(b:Kp D w w')(c:¬D g):hV w' g t cs:=(b.block g a.lt c).trans a
theorem hV.new(w:World)(t:TypeId)(cs:Array Value):hV (w.alloc (.cells cs t)) w t cs:=by
 unfold hV World.alloc;simp
theorem nu(w:World)(cs:Array Value)(t:TypeId):∃a,a=w.alloc (.cells cs t)∧Ext w a∧hV a w t cs:=⟨_,rfl,(Kp.refl _ _).alloc _,hV.new _ _ _⟩
theorem hV.jk(a:hV w g t cs)(i:Nat)(b:Value):hV (w.setCell (g,i) b) g t (cs.setIfInBounds i b):=by
 unfold hV at a ⊢;simp[World.setCell,Array.getElem?_modify,a]
end
def hH(w:World)(b o:Nat)(cs:List Value):Prop:=∀j v,cs[j]?=some v->w.cell? ⟨b,o+j,none⟩=some v
abbrev l6(α:Type):=World->(Nat->Prop)->α->List Value->Prop
def SliceOf{α:Type}(k:Nat)(R:l6 α)(w:World)(I:Nat->Prop)(v:Value)(xs:List α):Prop:=
 ∃a cap,v=.slice a xs.length cap∧xs.length<=cap∧xs.length<=4294967296∧
  ∀i x,xs[i]?=some x->∃b off cs,a=some ⟨b,off,none⟩∧I b∧R w I x cs∧cs.length=k∧hH w b (off+i*k) cs
theorem hH.keep{w d:World}{b a:Nat}{cs:List Value}(e:hH w b a cs)(g:∀a c,w.cell? ⟨b,a,none⟩=some c->d.cell? ⟨b,a,none⟩=some c):hH d b a cs:=
 fun h c f=>g _ _ (e h c f)
def Same(I:Nat->Prop)(w w':World):Prop:=∀b o v,I b->w.cell? ⟨b,o,none⟩=some v->w'.cell? ⟨b,o,none⟩=some v
theorem Ext.same{I:Nat->Prop}{w a:World}(b:Ext w a):Same I w a:=fun _ _ _ _ c=>Kp.jb b c
theorem Kp.same{I D:Nat->Prop}{w b:World}(c:Kp D w b)(hI:∀a,I a->¬D a):Same I w b:=fun a _ _ d e=>c.lW e (hI a d)
def jL{α:Type}(R:l6 α):Prop:=∀(w w':World) (I J:Nat->Prop) (x:α) (cs:List Value),Same I w w'->(∀b,I b->J b)->R w I x cs->R w' J x cs
theorem SliceOf.keep{α:Type}{k:Nat}{R:l6 α}(hR:jL R){w e:World}{I J:Nat->Prop}{v:Value}{xs:List α}(l:SliceOf k R w I v xs)(d:Same I w e) (c:∀a,I a->J a):SliceOf k R e J v xs:=by
 obtain⟨f,g,i,m,n,o⟩:=l;refine⟨f,g,i,m,n,fun t y s=>?_⟩;obtain⟨a,x,h,j,b,r,q,p⟩:=o t y s;exact⟨a,x,h,j,c a b,hR _ _ _ _ _ _ d c r,q,p.keep fun u v=>d a u v b⟩
theorem SliceOf.ext{α:Type}{k:Nat}{R:l6 α}{w b:World}{I:Nat->Prop}{v:Value}{xs:List α}(a:SliceOf k R w I v xs)(hR:jL R)(c:Ext w b):SliceOf k R b I v xs:=
 a.keep hR (Ext.same c) fun _ a=>a
theorem SliceOf.get{α:Type}{k:Nat}{R:l6 α}{w:World}{I:Nat->Prop}{a:Option Addr}{n e:Nat}{xs:List α}(g:SliceOf k R w I (.slice a n e) xs){i:Nat}{x:α}(j:xs[i]?=some x):∃b d c,a=some ⟨b,d,none⟩∧I b∧R w I x c∧c.length=k∧hH w b (d+i*k) c:=by
 obtain⟨l,m,f,o,p,h⟩:=g;cases f;exact h i x j
theorem SliceOf.form{α:Type}{k:Nat}{R:l6 α}{w:World}{I:Nat->Prop}{v:Value}{xs:List α}(d:SliceOf k R w I v xs):∃b a,v=.slice b xs.length a∧xs.length<=a∧xs.length<=4294967296:=by
 obtain⟨b,a,c,e,f,_⟩:=d;exact⟨b,a,c,e,f⟩
theorem SliceOf.nil{α:Type}(k:Nat)(R:l6 α)(w:World)(I:Nat->Prop):SliceOf k R w I () ([]:List α):=
 ⟨none,0,rfl,Nat.le_refl _,by simp,fun b c a=>by simp at a⟩
theorem SliceOf.take{α:Type}{k:Nat}{R:l6 α}{w:World}{I:Nat->Prop}{a:Option Addr}{n c:Nat}{xs:List α}(e:SliceOf k R w I (.slice a n c) xs){i:Nat}(g:i<=xs.length):SliceOf k R w I (.slice a i c) (xs.take i):=by
 obtain⟨l,m,d,o,p,f⟩:=e;cases d;refine⟨a,c,by rw[List.length_take,Nat.min_eq_left g],by rw[List.length_take];omega,by rw[List.length_take];omega,fun h j b=>?_⟩;rw[List.getElem?_take]at b;split at b
 . exact f h j b
 . cases b
def l7:l6 M.Kind:=fun _ _ x cs=>cs=[.int .i64 x.kind,.string x.name]
def kE:l6 M.Tag:=fun _ _ x cs=>cs=[.int .i64 x.kind,.string x.name]
def uE:l6 M.Ins:=fun _ _ x cs=>cs=[.int .i64 x.op,.int .i64 x.a,.string x.name,.string x.member]
def xu:l6 M.Ref:=fun _ _ x cs=>cs=[.int .i64 x.keeper,.string x.name]
def rW:l6 M.Ask:=fun _ _ x cs=>cs=[.string x.name,.int .i64 x.keeper]
def lh:l6 M.Field:=fun _ _ x cs=>cs=[.string x.name,.int .i64 x.kind.kind,.string x.kind.name]
def oQ:l6 Int:=fun _ _ x cs=>cs=[.int .i64 x]
def kX:l6 M.SMap:=fun w I x cs=>∃vl vs,cs=[.int .i64 x.at_,vl,vs]∧SliceOf 2 kE w I vl x.locals∧SliceOf 2 kE w I vs x.stack
def jd:l6 M.Method:=fun w I x cs=>∃va vc vm,cs=[.string x.name,va,.int .i64 x.ret.kind,.string x.ret.name,.int .i64 x.locals,.int .i64 x.stack,vc,vm]∧
 SliceOf 2 l7 w I va x.args∧SliceOf 4 uE w I vc x.code∧SliceOf 3 kX w I vm x.maps
def jv:l6 M.Class:=fun w I x cs=>∃vf vm,cs=[.string x.name,.string x.jl,vf,vm]∧SliceOf 3 lh w I vf x.fields∧SliceOf 8 jd w I vm x.methods
def jc:l6 M.nk:=fun w I x cs=>∃vo va,cs=[vo,va]∧SliceOf 4 jv w I vo x.owns∧SliceOf 2 rW w I va x.asks
theorem jd.form{w:World}{I:Nat->Prop}{x:M.Method}{cs:List Value}(g:jd w I x cs):∃a d b e c f,cs=[.string x.name,.slice a x.args.length d,.int .i64 x.ret.kind,.string x.ret.name,.int .i64 x.locals,.int .i64 x.stack,.slice b x.code.length e,.slice c x.maps.length f]:=by
 obtain⟨_,_,_,rfl,h,i,j⟩:=g;obtain⟨a,d,rfl,_⟩:=h.form;obtain⟨b,e,rfl,_⟩:=i.form;obtain⟨c,f,rfl,_⟩:=j.form;exact⟨a,d,b,e,c,f,rfl⟩
theorem jv.form{w:World}{I:Nat->Prop}{x:M.Class}{cs:List Value}(e:jv w I x cs):∃a c b d,cs=[.string x.name,.string x.jl,.slice a x.fields.length c,.slice b x.methods.length d]:=by
 obtain⟨_,_,rfl,f,g⟩:=e;obtain⟨a,c,rfl,_⟩:=f.form;obtain⟨b,d,rfl,_⟩:=g.form;exact⟨a,c,b,d,rfl⟩
theorem jc.form{w:World}{I:Nat->Prop}{x:M.nk}{cs:List Value}(e:jc w I x cs):∃a c b d,cs=[.slice a x.owns.length c,.slice b x.asks.length d]:=by
 obtain⟨_,_,rfl,f,g⟩:=e;obtain⟨a,c,rfl,_⟩:=f.form;obtain⟨b,d,rfl,_⟩:=g.form;exact⟨a,c,b,d,rfl⟩
theorem kX.form{w:World}{I:Nat->Prop}{x:M.SMap}{cs:List Value}(e:kX w I x cs):∃a c b d,cs=[.int .i64 x.at_,.slice a x.locals.length c,.slice b x.stack.length d]:=by
 obtain⟨_,_,rfl,f,g⟩:=e;obtain⟨a,c,rfl,_⟩:=f.form;obtain⟨b,d,rfl,_⟩:=g.form;exact⟨a,c,b,d,rfl⟩
theorem l7.stays:jL l7:=fun _ _ _ _ _ _ _ _ a=>a
theorem kE.stays:jL kE:=fun _ _ _ _ _ _ _ _ a=>a
theorem uE.stays:jL uE:=fun _ _ _ _ _ _ _ _ a=>a
theorem xu.stays:jL xu:=fun _ _ _ _ _ _ _ _ a=>a
theorem rW.stays:jL rW:=fun _ _ _ _ _ _ _ _ a=>a
theorem lh.stays:jL lh:=fun _ _ _ _ _ _ _ _ a=>a
theorem oQ.stays:jL oQ:=fun _ _ _ _ _ _ _ _ a=>a
theorem kX.stays:jL kX:=fun _ _ _ _ _ _ b a ⟨c,vs,e,h1,h2⟩=>⟨c,vs,e,h1.keep kE.stays b a,h2.keep kE.stays b a⟩
theorem jd.stays:jL jd:=fun _ _ _ _ _ _ b a ⟨c,vc,vm,e,h1,h2,h3⟩=>
 ⟨c,vc,vm,e,h1.keep l7.stays b a,h2.keep uE.stays b a,h3.keep kX.stays b a⟩
theorem jv.stays:jL jv:=fun _ _ _ _ _ _ b a ⟨c,vm,e,h1,h2⟩=>⟨c,vm,e,h1.keep lh.stays b a,h2.keep jd.stays b a⟩
theorem jc.stays:jL jc:=fun _ _ _ _ _ _ b a ⟨c,va,e,h1,h2⟩=>⟨c,va,e,h1.keep jv.stays b a,h2.keep rW.stays b a⟩
theorem hH.two{w:World}{b a:Nat}{x y:Value}(c:hH w b a [x,y]):w.cell? (b,a)=some x∧w.cell? (b,a+1)=some y:=
 ⟨by simpa using c 0 x rfl,c 1 y rfl⟩
theorem hH.one{w:World}{b a:Nat}{x:Value}(c:hH w b a [x]):w.cell? (b,a)=some x:=by simpa using c 0 x rfl
theorem hH.three{w:World}{b a:Nat}{x y z:Value}(c:hH w b a [x,y,z]):w.cell? (b,a)=some x∧w.cell? (b,a+1)=some y∧w.cell? (b,a+2)=some z:=
 ⟨by simpa using c 0 x rfl,c 1 y rfl,c 2 z rfl⟩
theorem hH.four{w:World}{b a:Nat}{x y z d:Value}(c:hH w b a [x,y,z,d]):w.cell? (b,a)=some x∧w.cell? (b,a+1)=some y∧w.cell? (b,a+2)=some z∧w.cell? (b,a+3)=some d:=
 ⟨by simpa using c 0 x rfl,c 1 y rfl,c 2 z rfl,c 3 d rfl⟩
theorem hH.eight{w:World}{b a:Nat}{d e f g h i j k:Value}(c:hH w b a [d,e,f,g,h,i,j,k]):w.cell? (b,a)=some d∧w.cell? (b,a+1)=some e∧w.cell? (b,a+2)=some f∧w.cell? (b,a+3)=some g∧w.cell? (b,a+4)=some h∧w.cell? (b,a+5)=some i∧w.cell? (b,a+6)=some j∧w.cell? (b,a+7)=some k:=
 ⟨by simpa using c 0 d rfl,c 1 e rfl,c 2 f rfl,c 3 g rfl,c 4 h rfl,c 5 i rfl,c 6 j rfl,c 7 k rfl⟩
theorem hH.ext{w c:World}{b a:Nat}{cs:List Value}(d:hH w b a cs)(e:Ext w c):hH c b a cs:=fun g h f=>e.jb (d g h f)
theorem hH.kp{D:Nat->Prop}{w c:World}{b a:Nat}{cs:List Value}(d:hH w b a cs)(g:Kp D w c)(e:¬D b):hH c b a cs:=fun h i f=>g.lW (d h i f) e
theorem jf{D:Nat->Prop}{w:World}:Kp D w w.drew:=(Kp.refl D w).drew
theorem jr{D:Nat->Prop}{w:World}(a:Obj):Kp D w (w.alloc a):=(Kp.refl D w).alloc a
end Go.Proofs.YtlhlnddgfcmfkaaGreat
namespace Go.Proofs.YtlhlnddgfcmfkaaGreat
open Go Go.RowKit Tryz
theorem hQ{a b:Bool}(c:a=b):Ending.returned (.bool a)=.returned (.bool b):=by rw[c]
theorem lZ(s:ByteArray):s.toList.isEmpty=decide (s=M.none_):=by
 rw[ByteArray.toList_eq];obtain⟨⟨a⟩⟩:=s;cases a<;>simp[M.none_]
theorem BS(s:ByteArray)(k:Nat)(a:k<s.size):s.data.toList.take (k+1)=s.data.toList.take k++[s[k]]:=by
 rw[List.take_succ_eq_append_getElem (by simpa using a)];rfl
theorem Ad(s:ByteArray)(k:Nat)(c:k<s.size)(a:M.letter s[k]=false):M.jC s=false:=by
 have b:s[k]∈s.data.toList:=by simp[ByteArray.getElem_eq_getElem_data]
 unfold M.jC;rw[List.all_eq_false.2 ⟨_,b,by simp[a]⟩];simp
theorem Dh{c:UInt8}(a:(c.toNat:Int)<97):M.letter c=false:=by
 unfold M.letter;rw[decide_eq_false Zm];rfl
theorem Di{c:UInt8}(a:(c.toNat:Int)<97∨122<(c.toNat:Int)):M.letter c=false:=by
 unfold M.letter;rcases a with a|a
 . rw[decide_eq_false Zm];rfl
 . rw[decide_eq_false (p:=c.toNat<=122) Zm];simp
theorem Dj{c:UInt8}(a:97<=(c.toNat:Int)∧(c.toNat:Int)<=122):M.letter c=true:=by
 unfold M.letter;rw[decide_eq_true Zm,decide_eq_true Zm];rfl
theorem Ar{s:ByteArray}{w:World}:Calls prog 63 #[s] w fun g h=>g=.returned (.bool (M.jC s))∧w=h:=by
 by_cases i:s.size<1
 . go_enter func63,ntmps63;go_wp2;go_ret;exact⟨hQ (by unfold M.jC;rw[decide_eq_false Zm];rfl),rfl⟩
 by_cases j:6<s.size
 . go_enter func63,ntmps63;go_wp2;go_ret;exact⟨hQ (by unfold M.jC;rw[decide_eq_false (p:=s.size<=6) Zm];simp),rfl⟩
 go_enter func63,ntmps63;go_wp2;go_loop [3] (fun c=>∃a:Nat,a<=s.size∧c=.int .i64 a∧(s.data.toList.take a).all M.letter=true) (fun c=>s.size - (intOf c).toNat)
 case atStart=>exact⟨0,Nat.zero_le _,rfl,by simp⟩
 case round =>
  obtain⟨a,k,rfl,f⟩:=hrel;have d:=Zy f;clear f;by_cases b:a<s.size
  . go_wp2
    . go_ret;exact⟨hQ (Ad s a b (Di Zp)).symm,rfl⟩
    . go_round
      case rel=>
       refine⟨a+1,by omega,by go_num,?_⟩;rw[BS s a b,List.all_append,d.o];simp[Dj (c:=s[a]) Zp]
      case measure=>simp[intOf];omega
    . go_ret;exact⟨hQ (Ad s a b (Dh Zp)).symm,rfl⟩
  . go_wp2;go_ret;refine⟨hQ ?_,rfl⟩;have e:=d.o;rw[List.take_of_length_le Zr]at e;unfold M.jC;rw[e,decide_eq_true Zm,decide_eq_true Zm];rfl
theorem mE(s:ByteArray)(w:World):Calls prog 22 #[s] w fun a b=>a=.returned (.bool (M.jC s))∧w=b:=by
 go_enter func22,ntmps22;go_wp2_with (go_at_call 63;refine(Ar).mono ?_;rintro a b ⟨rfl,rfl⟩);go_ret;exact⟨rfl,rfl⟩
theorem Gc(n:Int)(w:World):Calls prog 41 #[n] w fun a b=>a=.returned (.bool (decide (-9999<=n)&&decide (n<=9999)))∧w=b:=by
 go_enter func41,ntmps41;go_wp2
 . go_ret;exact⟨hQ (by rw[decide_eq_true (p:= -9999<=n) Zm];rfl),rfl⟩
 . go_ret;exact⟨hQ (by rw[decide_eq_false (p:= -9999<=n) Zm];rfl),rfl⟩
theorem CE(n:Int){w:World}:Calls prog 100 #[n] w fun a b=>a=.returned (.agg #[.int .i64 1,n])∧Ext w b:=by
 go_enter func100,ntmps100;go_wp2;refine bodyPost_ret (v:=.agg #[.int .i64 1,n]) (by simp[results,results100,go_sem]) rfl ?_;exact⟨rfl,(jr _)⟩
theorem Hr{w:World}:Calls prog 126 #[] w fun a b=>a=.returned (.agg #[.int .i64 3,.int .i64 0])∧Ext w b:=by
 go_enter func126,ntmps126;go_wp2;refine bodyPost_ret (v:=.agg #[.int .i64 3,.int .i64 0]) (by simp[results,results126,go_sem]) rfl ?_;exact⟨rfl,(jr _)⟩
def NY(k:M.Kind)(e:Ending):Prop:=(M.lD k=true∧∃t x,e=.returned (.iface t x))∨(M.lD k=false∧e=.returned .nilIface)
theorem Ou{n:ByteArray}(a:n.toList.isEmpty=true):M.lD ⟨1,n⟩=true:=by
 rw[lZ]at a;simp[M.lD,a]
theorem MJ{n:ByteArray}(a:n.toList.isEmpty=false):M.lD ⟨1,n⟩=false:=by
 rw[lZ]at a;simp[M.lD,a]
theorem Ov{k:Int}{n:ByteArray}(a:k=2):M.lD ⟨k,n⟩=M.jC n:=by
 subst a;simp[M.lD]
theorem Ot{k:Int}{n:ByteArray}(a:¬k=1)(b:¬k=2):M.lD ⟨k,n⟩=false:=by
 simp[M.lD,a,b]
theorem NC(k:M.Kind){w:World}:Calls prog 175 #[.agg #[k.kind,k.name]] w fun d i=>NY k d∧Ext w i:=by
 obtain⟨kk,b⟩:=k;by_cases e:kk=1
 . subst e;cases h:b.toList.isEmpty
   . go_enter func175,ntmps175;go_wp2;go_ret;exact⟨.inr ⟨MJ h,rfl⟩,(jr _)⟩
   . go_enter func175,ntmps175;go_wp2;go_ret;exact⟨.inl ⟨Ou h,_,_,rfl⟩,(jr _)⟩
 . by_cases f:kk=2
   . have c:=Zy (Ov (n:=b) f);cases g:M.jC b
     all_goals
      have a:=Zy g;clear g;go_enter func175,ntmps175;go_wp2_with (go_at_call 63;refine(Ar).mono ?_;rintro d i ⟨rfl,rfl⟩;rw[a.o]);go_ret
     . exact⟨.inr ⟨by rw[c.o,a.o],rfl⟩,(jr _)⟩
     . exact⟨.inl ⟨by rw[c.o,a.o],_,_,rfl⟩,(jr _)⟩
   . go_enter func175,ntmps175;go_wp2;go_ret;exact⟨.inr ⟨Ot e f,rfl⟩,(jr _)⟩
theorem AU(k:M.Kind){w:World}:Calls prog 149 #[.agg #[k.kind,k.name]] w fun b c=>b=.returned (.bool (M.lD k))∧Ext w c:=by
 go_enter func149,ntmps149;go_wp2_with fail;refine(NC k).mono ?_;rintro b f ⟨⟨a,e,g,rfl⟩|⟨a,rfl⟩,d⟩
 . go_wp2;go_ret;exact⟨hQ a.symm,Zv⟩
 . go_wp2;go_ret;exact⟨hQ a.symm,Zv⟩
theorem Gu{k:Int}{n:ByteArray}(a:k=0∨k=1∨k=3):M.rU ⟨k,n⟩=n.toList.isEmpty:=by
 unfold M.rU;rw[if_pos a,lZ]
theorem OU{k:Int}{n:ByteArray}(a:k=2):M.rU ⟨k,n⟩=M.jC n:=by
 subst a;rfl
theorem OV{k:Int}{n:ByteArray}(h0:¬k=0)(a:¬k=1)(b:¬k=2)(c:¬k=3):M.rU ⟨k,n⟩=false:=by
 simp[M.rU,h0,a,b,c]
theorem Qs(k:M.Tag){w:World}:Calls prog 218 #[.agg #[k.kind,k.name]] w fun c h=>c=.returned (.bool (M.rU k))∧Ext w h:=by
 obtain⟨kk,b⟩:=k;by_cases d:kk=0
 . have a:=Zy (Gu (n:=b) (.inl d));go_enter func218,ntmps218;go_wp2;go_ret;exact⟨hQ a.symm,(jr _)⟩
 by_cases e:kk=1
 . have a:=Zy (Gu (n:=b) (.inr (.inl e)));go_enter func218,ntmps218;go_wp2;go_ret;exact⟨hQ a.symm,(jr _)⟩
 by_cases g:kk=3
 . have a:=Zy (Gu (n:=b) (.inr (.inr g)));go_enter func218,ntmps218;go_wp2;go_ret;exact⟨hQ a.symm,(jr _)⟩
 by_cases f:kk=2
 . have a:=Zy (OU (n:=b) f);go_enter func218,ntmps218;go_wp2_with (go_at_call 22;refine(mE _ _).mono ?_;rintro c h ⟨rfl,rfl⟩);go_ret;exact⟨hQ a.symm,(jr _)⟩
 . go_enter func218,ntmps218;go_wp2;go_ret;exact⟨hQ (OV d e f g).symm,(jr _)⟩
open Go Tryz
namespace M
def bs(l:List UInt8):ByteArray:=⟨⟨l⟩⟩
theorem Az{a b:List UInt8}(c:bs a=bs b):a=b:=by
 have:=congrArg (fun d:ByteArray=>d.data.toList) c;exact this
def mM:List UInt8->List UInt8->List (List UInt8)
 |cur,[]=>[cur]
 |cur,c::r=>if c=32 then cur::mM [] r else mM (cur++[c]) r
def words(s:ByteArray):List ByteArray:=(mM [] s.data.toList).map bs
theorem tT:∀(a b:List UInt8),32 ∉ a->mM b a=[b++a]
 |[],b,_=>by simp[mM]
 |c::r,b,h=>by
  have e:c≠32:=fun d=>h (by simp[d]);rw[mM,if_neg e,tT r _ (fun d=>h (by simp[d]))];simp
theorem oP:∀(a b d:List UInt8),32 ∉ a->mM d (a++32::b)=(d++a)::mM [] b
 |[],b,d,_=>by simp[mM]
 |c::r,b,d,h=>by
  have f:c≠32:=fun e=>h (by simp[e]);rw[List.cons_append,mM,if_neg f,oP r b _ (fun e=>h (by simp[e]))];simp
theorem Jy(a:List UInt8):∀c,mM c a≠[]:=by
 induction a with
 |nil=>intro c b;simp[mM]at b
 |cons e f d=>
  intro c b;rw[mM]at b;split at b
  . cases b
  . exact d _ b
def digit(n:Int):List UInt8:=[UInt8.ofNat (48+n.toNat)]
structure NU where
 kind:Int
 keeper:Int
 name:ByteArray
 dst:Int
deriving DecidableEq
def yV(c:NU):Bool:=decide (0<=c.keeper)&&(decide (c.keeper<=2)&&(jC c.name&&(if c.kind=3 then decide (0<=c.dst)&&decide (c.dst<=2)else(decide (c.kind=2)|| decide (c.kind=4))&&decide (c.dst=0))))
def Pm:List UInt8:=[116,97,107,101]
def QO:List UInt8:=[97,115,107]
def Pd:List UInt8:=[102,114,101,101]
def Cv(c:NU):List UInt8:=
 if c.kind=2 then Pm++32::(digit c.keeper++32::c.name.data.toList)
 else if c.kind=3 then QO++32::(digit c.keeper++32::(c.name.data.toList++32::digit c.dst))
 else if c.kind=4 then Pd++32::(digit c.keeper++32::c.name.data.toList)
 else []
def qF(c:NU):ByteArray:=if yV c then bs (Cv c)else bs []
theorem uW{s:ByteArray}(a:jC s=true):(32:UInt8)∉ s.data.toList:=by
 intro b;unfold jC at a;simp only[Bool.and_eq_true,List.all_eq_true]at a;have:=a.2 _ b;revert this;decide
theorem sI{n:Int}(h0:0<=n)(a:n<=2):(32:UInt8)∉ digit n:=by
 have:n=0∨n=1∨n=2:=by omega
 rcases this with rfl|rfl|rfl<;>decide
theorem yB{m n:Int}(h0:0<=n)(f:n<=2)(d:0<=m)(e:m<=2)(c:digit m=digit n):m=n:=by
 have a:n=0∨n=1∨n=2:=by omega
 have b:m=0∨m=1∨m=2:=by omega
 rcases a with rfl|rfl|rfl<;>rcases b with rfl|rfl|rfl<;>first|rfl|exact absurd c Zn
theorem sN{c:NU}(b:yV c=true):0<=c.keeper∧c.keeper<=2∧jC c.name=true∧((c.kind=3∧0<=c.dst∧c.dst<=2)∨((c.kind=2∨c.kind=4)∧c.dst=0)):=by
 unfold yV at b;simp only[Bool.and_eq_true,decide_eq_true_eq]at b;obtain⟨d,e,f,a⟩:=b;refine⟨d,e,f,?_⟩;split at a
 . rename_i g;simp only[Bool.and_eq_true,decide_eq_true_eq]at a;exact .inl ⟨g,a⟩
 . simp only[Bool.and_eq_true,Bool.or_eq_true,decide_eq_true_eq]at a;exact .inr a
theorem En{c:NU}(a:yV c=true)(f:c.kind=2):words (qF c)=[bs Pm,bs (digit c.keeper),c.name]:=by
 obtain⟨b,d,e,-⟩:=sN a;unfold qF words;rw[if_pos a];unfold Cv;rw[if_pos f];simp only[bs];rw[oP _ _ _ Zn,oP _ _ _ (sI b d),tT _ _ (uW e)];rfl
theorem Em{c:NU}(a:yV c=true)(f:c.kind=4):words (qF c)=[bs Pd,bs (digit c.keeper),c.name]:=by
 obtain⟨b,d,e,-⟩:=sN a;unfold qF words;rw[if_pos a];unfold Cv;rw[if_neg Zm,if_neg Zm,if_pos f];simp only[bs];rw[oP _ _ _ Zn,oP _ _ _ (sI b d),tT _ _ (uW e)];rfl
theorem Fv{c:NU}(a:yV c=true)(g:c.kind=3):words (qF c)=[bs QO,bs (digit c.keeper),c.name,bs (digit c.dst)]:=by
 obtain⟨d,e,f,h⟩:=sN a;have b:0<=c.dst∧c.dst<=2:=by omega
 unfold qF words;rw[if_pos a];unfold Cv;rw[if_neg Zm,if_pos g];simp only[bs];rw[oP _ _ _ Zn,oP _ _ _ (sI d e),oP _ _ _ (uW f),tT _ _ (sI b.1 b.2)];rfl
theorem GQ{c d:NU}(b:yV c=true)(e:yV d=true)(s:qF c=qF d):c=d:=by
 obtain⟨f,g,B,o⟩:=sN b;obtain⟨i,j,C,q⟩:=sN e;have a:words (qF c)=words (qF d):=by rw[s]
 have n:c.kind=d.kind∧c.keeper=d.keeper∧c.name=d.name∧c.dst=d.dst:=by
  rcases o with⟨h,l,p⟩|⟨h|h,l⟩<;>rcases q with⟨k,m,r⟩|⟨k|k,m⟩<;>
   simp only[Fv b,En b,Em b,Fv e,En e,Em e,h,k]at a<;>
   simp only[List.cons.injEq,List.nil_eq,List.cons_ne_nil,and_false,and_true]at a
  . exact⟨by omega,yB i j f g (Az a.2.1),a.2.2.1,yB m r l p (Az a.2.2.2)⟩
  . exact⟨by omega,yB i j f g (Az a.2.1),a.2.2,by omega⟩
  . exact absurd (Az a.1) Zn
  . exact absurd (Az a.1) Zn
  . exact⟨by omega,yB i j f g (Az a.2.1),a.2.2,by omega⟩
 obtain⟨t,u,v,w⟩:=c;obtain⟨x,y,z,A⟩:=d;simp only at n;obtain⟨rfl,rfl,rfl,rfl⟩:=n;rfl
def Says(s:ByteArray):Option NU->Prop
 |some c=>yV c=true∧qF c=s
 |none=>¬∃c,yV c=true∧qF c=s
theorem Says.one{s:ByteArray}:∀{a b:Option NU},Says s a->Says s b->a=b
 |none,none,_,_=>rfl
 |none,some c,h,k=>absurd ⟨c,k⟩ h
 |some c,none,h,k=>absurd ⟨c,h⟩ k
 |some c,some d,h,k=>by rw[GQ h.1 k.1 (h.2.trans k.2.symm)]
end M
end Go.Proofs.YtlhlnddgfcmfkaaGreat
namespace Go.Proofs.YtlhlnddgfcmfkaaGreat
open Go Go.RowKit Tryz
def Elem(t e k:Nat):Prop:=∃i z bytes,Tryz.prog.underlying t=some (.slice e)∧Tryz.prog.info? e=some i∧i.zero=some z∧i.size=k∧i.bytes=bytes∧z.cells.size=k∧0<k∧bytes<=4096
theorem kN{t e k:Nat}{z:Value}{bytes:Nat}(j:prog.underlying t=some (.slice e))(h:(prog.info? e).map (fun a=>(a.zero,a.size,a.bytes))=some (some z,k,bytes))(l:z.cells.size=k) (i:0<k) (g:bytes<=4096):Elem t e k:=by
 obtain⟨a,b,c,d,f⟩:=info_parts h;exact⟨a,z,bytes,j,b,c,d,f,l,i,g⟩
theorem zO:Elem 26 3 1:=kN (z:=.int .i64 0) (bytes:=8) underlying26 Zo rfl Zn Zn
theorem Mg:Elem 130 63 2:=kN (z:=.agg #[.int .i64 0, ""]) (bytes:=24) underlying130 Zo rfl Zn Zn
theorem Kp.grown{D:Nat->Prop}{w a b:World}{row:Option Nat}(d:Kp D w a)(e:a.grownBy b row)(i:∀c,row=some c->c<w.heap.size->D c):Kp D w b:=
 ⟨e.os.trans d.os,e.tape.trans d.tape,e.output.trans d.output,Nat.le_trans d.size e.size,
  fun c f g=>(e.block c (Nat.lt_of_lt_of_le f d.size) (fun h=>g (i c h.symm f))).trans (d.block c f g)⟩
theorem iZ{D:Nat->Prop}{a b:World}{base e k n:Nat}{v:Value}{xs:List Value}(d:a.ownsRow base e k v n xs)(m:Kp D a b)(l:∀c,v.ownBlock=some c->base<=c->¬D c):b.ownsRow base e k v n xs:=by
 refine⟨d.1,?_⟩;rcases d.2 with j|⟨c,h,i,rfl,g,f,o⟩
 . exact .inl j
 . exact .inr ⟨c,h,i,rfl,g,(m.block c (Array.getElem?_eq_some_iff.1 f).1 (l c rfl g)).trans f,o⟩
theorem jS{w:World}{base e k n:Nat}{v:Value}{xs:List Value}(f:w.ownsRow base e k v n xs)(o:0<n):∃a b,v=.slice (some ⟨a,0,none⟩) n b∧base<=a∧a<w.heap.size∧n<=b:=by
 rcases f.2 with⟨_,m⟩|⟨d,c,l,j,h,g,i,_⟩
 . omega
 . exact⟨d,c,j,h,(Array.getElem?_eq_some_iff.1 g).1,i⟩
theorem Kp.own{D D':Nat->Prop}{w a b:World}(c:Kp D w a)(e:Kp D' a b)(g:∀d,D' d->w.heap.size<=d):Kp D w b:=
 ⟨e.os.trans c.os,e.tape.trans c.tape,e.output.trans c.output,Nat.le_trans c.size e.size,
  fun d f h=>(e.block d (Nat.lt_of_lt_of_le f c.size) (fun i=>absurd (g d i) (Nat.not_le.2 f))).trans (c.block d f h)⟩
theorem uS{t e k:Nat}(r:Elem t e k)(w:World){q:Array Oper}{rest:List Oper}{j:Oper}{a:Act}{Q:Exit->Act->World->Prop}(G:j.guard=none)(s x:Operand)
    (M:j.op=.call {callee:=.builtin .append,args:=#[s,x],argTypes:=#[t,t]}) (base:Nat) (v:Value) (n:Nat) (xs:List Value) (O:a.eval s=v) (N:w.ownsRow base e k v n xs)
    (g c:Nat) (h:List Value) (T:a.eval x=.slice (some ⟨g,0,none⟩) 1 c) (hl:h.length=k) (L:hH w g 0 h) (z:∀o∈h,o.oneCell'=true)
    (K:n+1<=4294967296) (C:base<=w)
    (y:∀i b,b.ownsRow base e k i (n+1) (xs++h)->Kp (fun u=>v.ownBlock=some u) w b->(∃d l,i=.slice (some ⟨d,0,none⟩) (n+1) l∧base<=d∧d<b.heap.size)->wpList prog q Q rest (a.put j.dst i) b):
    wpList prog q Q (j::rest) a w:=by
 obtain⟨W,Y,bytes,R,H,U,P,D,V,m,A⟩:=r;refine wpList_append_own w G s x t M base e W Y k bytes R H U P D V m v n xs O N g 1 c h T Zm ?_ z (by unfold maxLen;omega) ?_ C ?_
 . intro X o I;have:=L X o I;rw[Nat.zero_add]at this;unfold Addr.add;split
   . rename_i J;subst J;exact this
   . simpa using this
 . have:(n+1)*bytes<=4294967296*4096:=Nat.mul_le_mul K A;omega
 . intro i b p f _;refine y i b p ⟨f.os,f.tape,f.output,f.size,fun k m E=>f.block k m (fun e=>E e.symm)⟩ ?_;rcases p.2 with⟨_,h4⟩|⟨d,l,Z,S,F,B,_⟩
   . omega
   . exact⟨d,l,S,F,(Array.getElem?_eq_some_iff.1 B).1⟩
theorem yR{F:Fence}{q:Nat}{t e k:Nat}(u:Elem t e k)(w:World){r:Array Oper}{rest:List Oper}{j:Oper}{a:Act}{Q:Exit->Act->World->Prop}(I:j.guard=none)(s x:Operand)
    (O:j.op=.call {callee:=.builtin .append,args:=#[s,x],argTypes:=#[t,t]}) (base:Nat) (v:Value) (n:Nat) (xs:List Value) (R:a.eval s=v) (P:w.ownsRow base e k v n xs)
    (g c:Nat) (h:List Value) (V:a.eval x=.slice (some ⟨g,0,none⟩) 1 c) (hl:h.length=k) (N:hH w g 0 h) (A:∀o∈h,o.oneCell'=true)
    (M:n+1<=4294967296) (D:base<=w)
    (z:∀i b,b.ownsRow base e k i (n+1) (xs++h)->Kp (fun y=>v.ownBlock=some y) w b->(∃d l,i=.slice (some ⟨d,0,none⟩) (n+1) l∧base<=d∧d<b.heap.size)->wpListIn F q prog r Q rest (a.put j.dst i) b):
    wpListIn F q prog r Q (j::rest) a w:=by
 obtain⟨Y,aa,bytes,T,J,W,S,E,X,m,B⟩:=u;refine wpListIn_append_own w I s x t O base e Y aa k bytes T J W S E X m v n xs R P g 1 c h V Zm ?_ A (by unfold maxLen;omega) ?_ D ?_
 . intro Z o K;have:=N Z o K;rw[Nat.zero_add]at this;unfold Addr.add;split
   . rename_i L;subst L;exact this
   . simpa using this
 . have:(n+1)*bytes<=4294967296*4096:=Nat.mul_le_mul M B;omega
 . intro i b p f _;refine z i b p ⟨f.os,f.tape,f.output,f.size,fun k m G=>f.block k m (fun e=>G e.symm)⟩ ?_;rcases p.2 with⟨_,h4⟩|⟨d,l,ae,U,H,C,_⟩
   . omega
   . exact⟨d,l,U,H,(Array.getElem?_eq_some_iff.1 C).1⟩
theorem Hj{α c:Type}{f:α->c}{l:List α}:l.map f=l.flatMap fun a=>[f a]:=by
 induction l with
 |nil=>rfl
 |cons a d b=>rw[List.map_cons,List.flatMap_cons,b];rfl
theorem SliceOf.lJ{α:Type}{k:Nat}{R:l6 α}{w:World}{I:Nat->Prop}{base e n:Nat}{v:Value}{cs:List Value}(enc:α->List Value){l:List α}(B:w.ownsRow base e k v n cs)(A:n=l.length) (u:cs=l.flatMap enc) (m:∀a∈l,(enc a).length=k) (hR:∀a∈l,R w I a (enc a)) (hI:∀h,base<=h->h<w.heap.size->I h) (z:l.length<=4294967296):SliceOf k R w I v l:=by
 have r:∀(l:List α),(∀a∈l,(enc a).length=k)->∀b a,l[b]?=some a->∀c f,(enc a)[c]?=some f->(l.flatMap enc)[b*k+c]?=some f:=by
  intro l;induction l with
  |nil=>intro _ b a s;simp at s
  | cons F K E =>
   intro o b a d c f g;have p:=o F Zl;rw[List.flatMap_cons];cases b with
   |zero=>
    simp at d;subst d;rw[List.getElem?_append_left (by rw[Nat.zero_mul,Nat.zero_add];exact(List.getElem?_eq_some_iff.1 g).1),Nat.zero_mul,Nat.zero_add];exact g
   |succ b=>
    rw[List.getElem?_append_right (by rw[p,Nat.succ_mul];omega),p,show(b+1)*k+c - k=b*k+c from by rw[Nat.succ_mul];omega];exact E (fun G D=>o G (by simp[D])) b a (by simpa using d) c f g
 subst A u;rcases B.2 with⟨rfl,t⟩|⟨i,q,H,rfl,x,j,y,_,J,C⟩
 . have:l=[]:=List.length_eq_zero_iff.1 t;subst this;exact SliceOf.nil _ _ _ _
 . refine⟨_,q,rfl,y,z,fun b a d=>⟨i,0,enc a,rfl,hI i x (Array.getElem?_eq_some_iff.1 j).1,hR a (List.mem_of_getElem? d),m a (List.mem_of_getElem? d),?_⟩⟩;intro c f g;have:=r l m b a d c f g;rw[<-C,List.getElem?_take]at this;split at this
   . simp only[World.cell?,j];simpa [Nat.zero_add]using this
   . cases this
end Go.Proofs.YtlhlnddgfcmfkaaGreat
namespace Go.Proofs.YtlhlnddgfcmfkaaGreat.M
structure rE where
 of:Ref
 at_:Int
def sD(p:hZ)(n:ByteArray):List Ref->Option rE
 |[]=>none
 |c::r=>match og (cls p c) n with
  |some i=>some ⟨c,i⟩
  |none=>sD p n r
def pick(p:hZ)(r:Ref)(n:ByteArray):Option rE:=if kg p r then sD p n (chain p r)else none
def jN(p:hZ)(k:Int)(n m:ByteArray):Ref×Int:=
 if has p k&&jC n&&jC m then
  (if(find p k n).2=1 then(if kg p (find p k n).1 then((find p k n).1,1)else(vB,4))else(vB,2))
 else(vB,2)
structure ry where
 of:Ref
 at_:Int
 kind:Kind
def Pn:Kind:=⟨0,none_⟩
def wZ:ry:=⟨vB,0,Pn⟩
def kQ(of:Ref):List Field->List ry->List ry
 |[],acc=>acc
 |f::r,acc=>kQ of r (acc++[⟨of,acc.length,f.kind⟩])
def ll(p:hZ):List Ref->List ry->List ry
 |[],acc=>acc
 |c::r,acc=>ll p r (kQ c (cls p c).fields acc)
def layout(p:hZ)(r:Ref):List ry:=if kg p r then ll p (chain p r).reverse []else []
def oU(p:hZ)(of:Ref):List Ref->Nat->Nat
 |[],n=>n
 |c::r,n=>if c=of then n else oU p of r (n+(cls p c).fields.length)
def ou(p:hZ)(of low:Ref):Nat:=oU p of (chain p low).reverse 0
def fieldName(p:hZ)(r:Ref)(f:ry):ByteArray:=(((cls p f.of).fields[(f.at_ - ou p f.of r).toNat]?).map Field.name).getD none_
def rO(p:hZ)(k:Int)(m:ByteArray)(r:Ref):List ry->ry×Int
 |[]=>(wZ,3)
 |f::l=>if fieldName p r f=m then(if agree p k f.of.keeper f.kind then(f,1)else(wZ,4))else rO p k m r l
def get(p:hZ)(k:Int)(n m:ByteArray):ry×Int:=
 if(jN p k n m).2=1 then rO p k m (jN p k n m).1 (layout p (jN p k n m).1)else(wZ,(jN p k n m).2)
def O3:Method:=⟨none_,[],Pn,0,0,[],[]⟩
def p9:rE:=⟨vB,0⟩
def method?(p:hZ)(m:rE):Option Method:=if 0<=m.at_ then(cls p m.of).methods[m.at_.toNat]? else none
def method(p:hZ)(m:rE):Method:=(method? p m).getD O3
def call(p:hZ)(k:Int)(n m:ByteArray):rE×Int:=
 if(jN p k n m).2=1 then
  (match pick p (jN p k n m).1 m with
  |none=>(p9,3)
  |some x=>if kP p k x.of.keeper (method p x)then(x,1)else(p9,4))
 else(p9,(jN p k n m).2)
def ky(p:hZ)(m:rE):Bool:=kg p m.of&&decide (0<=m.at_)&&decide (m.at_ <(cls p m.of).methods.length)
structure oM where
 locals:List Tag
 stack:List Tag
def Er:Tag:=⟨0,none_⟩
def nK:Tag:=⟨1,none_⟩
def Gb:Tag:=⟨3,none_⟩
def lH(n:ByteArray):Tag:=⟨2,n⟩
def l8(k:Kind):Tag:=if lD k then⟨k.kind,k.name⟩else Er
def may(p:hZ)(k:Int)(a b:Tag):Bool:=
 if b.kind=0∨a=b then true else if b.kind≠2 then false else if a.kind=3 then true else if a.kind≠2 then false
 else decide ((find p k a.name).2=1)&&decide ((find p k b.name).2=1)&&under p (find p k a.name).1 (find p k b.name).1
def uU(s:oM):Option (Tag×oM):=s.stack.getLast?.map fun t=>(t,⟨s.locals,s.stack.dropLast⟩)
def oN(p:hZ)(k:Int)(t:Tag)(s:oM):Option oM:=(uU s).bind fun x=>if may p k x.1 t then some x.2 else none
def xL(s:oM):Option oM:=(uU s).bind fun x=>if x.1.kind=2∨x.1.kind=3 then some x.2 else none
def nP(m:Method)(t:Tag)(s:oM):Option oM:=if m.stack<=s.stack.length then none else some ⟨s.locals,s.stack++[t]⟩
def oC(p:hZ)(k:Int):List Tag->List Tag->Bool
 |a::r,b::l=>may p k a b&&oC p k r l
 |_,_=>true
def mH(p:hZ)(k:Int)(s:oM)(f:SMap):Bool:=decide (f.stack.length=s.stack.length)&&oC p k s.locals f.locals&&oC p k s.stack f.stack
def BO(m:Method)(at_:Int):Option SMap:=m.maps.find? fun f=>f.at_=at_
def nG(p:hZ)(k:Int)(m:Method)(tgt:Int)(s:oM):Option oM:=
 (BO m tgt).bind fun f=>if mH p k s f then some s else none
def si(p:hZ)(k:Int)(m:Method)(goes:Bool)(at_:Int)(s:oM):Option oM:=
 match BO m at_ with
 |none=>if goes then some s else none
 |some f=>if goes&& !mH p k s f then none else some ⟨f.locals,f.stack⟩
def oW(p:hZ)(k:Int):List Kind->oM->Option oM
 |[],s=>some s
 |a::r,s=>(oN p k (l8 a) s).bind (oW p k r)
def jM(p:hZ)(k:Int)(m:Method)(i:Ins)(s:oM):Option oM:=
 if i.op=1 then nP m nK s
 else if i.op=2 then(s.locals[i.a.toNat]?).bind fun t=>if t.kind=0 then none else nP m t s
 else if i.op=3 then(uU s).map fun x=>⟨x.2.locals.set i.a.toNat x.1,x.2.stack⟩
 else if i.op=4 then(oN p k nK s).bind fun s1=>(oN p k nK s1).bind (nP m nK)
 else if i.op=5 then nP m Gb s
 else if i.op=6 then nP m (lH i.name) s
 else if i.op=7 then(if(get p k i.name i.member).2=1 then(oN p k (lH i.name) s).bind (nP m (l8 (get p k i.name i.member).1.kind))else none)
 else if i.op=8 then(if(get p k i.name i.member).2=1 then(oN p k (l8 (get p k i.name i.member).1.kind) s).bind (oN p k (lH i.name))else none)
 else if i.op=9 then(if(call p k i.name i.member).2=1 then
     (oW p k (method p (call p k i.name i.member).1).args.reverse s).bind fun s1=>(oN p k (lH i.name) s1).bind (nP m (l8 (method p (call p k i.name i.member).1).ret))else none)
 else if i.op=10 then oN p k (l8 m.ret) s
 else if i.op=11 then(oN p k nK s).bind (nG p k m i.a)
 else if i.op=12 then(xL s).bind (nG p k m i.a)
 else if i.op=13 then nG p k m i.a s
 else if i.op=14 then oN p k nK s
 else(xL s).bind (nP m (lH i.name))
def nE(p:hZ)(k:Int)(m:Method):List Ins->Nat->Bool->oM->List oM->Sum Int (List oM)
 |[],at_,goes,_,known=>if goes then .inl (at_+1)else .inr known
 | i :: r, at_, goes, s, known =>
  match si p k m goes at_ s with
  |none=>.inl (at_+1)
  |some s1=>match jM p k m i s1 with
   |none=>.inl (at_+1)
   |some s2=>nE p k m r (at_+1) (decide (i.op≠10)&&decide (i.op≠13)) s2 (known++[s1])
def CB(x:rE)(m:Method):oM:=⟨(lH x.of.name::m.args.map l8)++List.replicate (m.locals.toNat - (m.args.length+1)) Er,[]⟩
def look(p:hZ)(x:rE):List oM×Int:=
 match nE p x.of.keeper (method p x) (method p x).code 0 true (CB x (method p x)) []with
 | .inl n=>([],n)
 | .inr l=>(l,0)
def right(p:hZ)(x:rE):Bool:=decide ((look p x).2=0)
structure Val where
 kind:Int
 n:Int
theorem Val.nX{a b:Val}:a=b↔a.kind=b.kind∧a.n=b.n:=by
 cases a;cases b;simp
instance:DecidableEq Val:=fun _ _=>decidable_of_iff' _ Val.nX
structure qL where
 of:Ref
 fields:List Val
structure Fr where
 of:rE
 pc:Int
 locals:List Val
 stack:List Val
structure St where
 status:Int
 frames:List Fr
 heap:List qL
 outs:List Int
 back:Val
def lQ:Val:=⟨0,0⟩
def qH:Val:=⟨3,0⟩
def mF(n:Int):Val:=⟨1,n⟩
def EK:St:=⟨0,[],[],[],lQ⟩
def nQ(n:Int):Bool:=decide (-9999<=n)&&decide (n<=9999)
def ko(v:Val)(objs:Nat):Bool:=
 if v.kind=0∨v.kind=3 then decide (v.n=0)else if v.kind=1 then nQ v.n else if v.kind=2 then decide (0<=v.n)&&decide (v.n<objs)else false
def oV(p:hZ)(h:List qL):Bool:=
 decide (h.length<=12)&&h.all fun o=>kg p o.of&&decide (o.fields.length=(layout p o.of).length)&&o.fields.all (ko · h.length)
def uX(h:List qL)(n:Int):Ref:=((h[n.toNat]?).map qL.of).getD vB
def hasType(p:hZ)(k:Int)(h:List qL)(v:Val)(t:Kind):Bool:=
 if t.kind=1 then decide (v.kind=1)else if v.kind=3 then true else if v.kind≠2 then false
 else decide ((find p k t.name).2=1)&&under p (uX h v.n) (find p k t.name).1
def kZ(p:hZ)(f:Fr)(objs:Nat):Bool:=
 ky p f.of&&decide (0<=f.pc)&&decide (f.pc<(method p f.of).code.length)&&decide ((f.locals.length:Int)=(method p f.of).locals)&&
 decide ((f.stack.length:Int)<=(method p f.of).stack)&&f.locals.all (ko · objs)&&f.stack.all (ko · objs)
def Cq(p:hZ)(s:St):Bool:=
 decide (1<=s.status)&&decide (s.status<=10)&&decide (s.heap.length<=12)&&decide (s.outs.length<=40)&&decide (s.frames.length<=8)&&
 (decide (0<s.frames.length)==decide (s.status=1))&&s.outs.all nQ&&s.frames.all (kZ p · s.heap.length)&&oV p s.heap&&ko s.back s.heap.length
def DK(s:St)(f:Fr->Fr):St:={s with frames:=s.frames.dropLast++(s.frames.getLast?.map f).toList}
def top(s:St):Fr:=s.frames.getLastD ⟨p9,0,[],[]⟩
def jump(p:hZ)(tgt:Int)(s:St):Int×St:=
 if((method p (top s).of).code.length:Int)<=tgt then(10,s)else(1,DK s fun f=>{f with pc:=tgt})
def next(p:hZ)(s:St):Int×St:=jump p ((top s).pc+1) s
def push(p:hZ)(v:Val)(s:St):Int×St:=
 if(method p (top s).of).stack<=(top s).stack.length then(10,s)else next p (DK s fun f=>{f with stack:=f.stack++[v]})
def nL(c:Nat)(s:St):Option (List Val×St):=
 if(top s).stack.length<c then none
 else some ((top s).stack.drop ((top s).stack.length - c),DK s fun f=>{f with stack:=f.stack.take (f.stack.length - c)})
def pop(s:St):Option (Val×St):=(nL 1 s).map fun x=>(x.1.headD lQ,x.2)
def qg(p:hZ)(n:ByteArray)(s:St):Ref×Bool:=
 ((find p (top s).of.of.keeper n).1,decide ((find p (top s).of.of.keeper n).2=1)&&kg p (find p (top s).of.of.keeper n).1)
def fresh(p:hZ)(r:Ref):qL:=⟨r,(layout p r).map fun f=>if f.kind.kind=1 then mF 0 else qH⟩
def create(p:hZ)(r:Ref)(s:St):Val×St:=(⟨2,s.heap.length⟩,{s with heap:=s.heap++[fresh p r]})
def object(p:hZ)(v:Val)(t:Ref)(s:St):Int:=
 if v.kind=3 then 3 else if v.kind≠2 then 10 else if under p (uX s.heap v.n) t then 1 else 10
def pq(p:hZ)(k:Int)(h:List qL):List Val->List Kind->Bool
 |v::r,t::l=>hasType p k h v t&&pq p k h r l
 |_,_=>true
def enter(p:hZ)(lk:Bool)(x:rE)(vs:List Val)(s:St):Int×St:=
 if 8<=s.frames.length then(7,s)
 else if lk&& !right p x then(5,s)
 else if pq p x.of.keeper s.heap vs (⟨2,x.of.name⟩::(method p x).args)then
  (1,{s with frames:=s.frames++[⟨x,0,vs++List.replicate ((method p x).locals.toNat - vs.length) lQ,[]⟩]})
 else(10,s)
def end_(c:Int)(s:St):St:=if c=1 then s else{s with status:=c,frames:=[]}
def qo(h:List qL)(n:Int):List Val:=((h[n.toNat]?).map qL.fields).getD []
def mU(h:List qL)(n a:Int)(v:Val):List qL:=h.modify n.toNat fun o=>{o with fields:=o.fields.set a.toNat v}
def jF (p : hZ) (lk : Bool) (i : Ins) (s : St) : Int × St :=
 if i.op=1 then push p (mF i.a) s
 else if i.op=2 then(if(((top s).locals[i.a.toNat]?).getD lQ).kind=0 then(10,s)else push p (((top s).locals[i.a.toNat]?).getD lQ) s)
 else if i.op=3 then(match pop s with
  |none=>(10,s)
  |some (v,s1)=>next p (DK s1 fun f=>{f with locals:=f.locals.set i.a.toNat v}))
 else if i.op=4 then(match nL 2 s with
  |some ([a,b],s1)=>if a.kind=1∧b.kind=1 then(if nQ (a.n+b.n)then push p (mF (a.n+b.n)) s1 else(9,s1))else(10,s1)
  |_=>(10,s))
 else if i.op=5 then push p qH s
 else if i.op=6 then(if(qg p i.name s).2 then(if 12<=s.heap.length then(8,s)else push p (create p (qg p i.name s).1 s).1 (create p (qg p i.name s).1 s).2)else(4,s))
 else if i.op = 7 then (if (get p (top s).of.of.keeper i.name i.member).2 = 1 then
     (match pop s with
     |none=>(10,s)
     | some (v, s1) =>
      if object p v (get p (top s).of.of.keeper i.name i.member).1.of s1=1 then
       push p (((qo s1.heap v.n)[(get p (top s).of.of.keeper i.name i.member).1.at_.toNat]?).getD lQ) s1
      else(object p v (get p (top s).of.of.keeper i.name i.member).1.of s1,s1))
  else(4,s))
 else if i.op = 8 then (if (get p (top s).of.of.keeper i.name i.member).2 = 1 then
     (match nL 2 s with
     | some ([o, v], s1) =>
      if hasType p (get p (top s).of.of.keeper i.name i.member).1.of.keeper s1.heap v (get p (top s).of.of.keeper i.name i.member).1.kind then
       (if object p o (get p (top s).of.of.keeper i.name i.member).1.of s1=1 then
        next p {s1 with heap:=mU s1.heap o.n (get p (top s).of.of.keeper i.name i.member).1.at_ v}
       else(object p o (get p (top s).of.of.keeper i.name i.member).1.of s1,s1))
      else(10,s1)
     |_=>(10,s))
  else(4,s))
 else if i.op = 9 then (if (call p (top s).of.of.keeper i.name i.member).2 = 1 then
     (match nL ((method p (call p (top s).of.of.keeper i.name i.member).1).args.length+1) s with
     | some (vs, s1) =>
      if object p (vs.headD lQ) (call p (top s).of.of.keeper i.name i.member).1.of s1=1 then
       (match pick p (uX s1.heap (vs.headD lQ).n) i.member with
       |some x=>enter p lk x vs s1
       |none=>(10,s1))
      else(object p (vs.headD lQ) (call p (top s).of.of.keeper i.name i.member).1.of s1,s1)
     |none=>(10,s))
  else(4,s))
 else if i.op = 10 then (match pop s with
  |none=>(10,s)
  |some (v,s1)=>if hasType p (top s).of.of.keeper s1.heap v (method p (top s).of).ret then
      (if s1.frames.length=1 then(2,{s1 with back:=v})else push p v {s1 with frames:=s1.frames.dropLast})
   else(10,s1))
 else if i.op=11 then(match pop s with
  |none=>(10,s)
  |some (v,s1)=>if v.kind=1 then(if v.n=0 then jump p i.a s1 else next p s1)else(10,s1))
 else if i.op=12 then(match pop s with
  |none=>(10,s)
  |some (v,s1)=>if v.kind=2∨v.kind=3 then(if v.kind=3 then jump p i.a s1 else next p s1)else(10,s1))
 else if i.op=13 then jump p i.a s
 else if i.op=14 then(match pop s with
  |none=>(10,s)
  |some (v,s1)=>if v.kind=1 then next p (if s1.outs.length<40 then{s1 with outs:=s1.outs++[v.n]}else s1)else(10,s1))
 else (match pop s with
  |none=>(10,s)
  |some (v,s1)=>if v.kind=2∨v.kind=3 then
      (if v.kind=3 then push p v s1
      else if(qg p i.name s1).2 then(if under p (uX s1.heap v.n) (qg p i.name s1).1 then push p v s1 else(6,s1))else(4,s1))
   else(10,s1))
def Ru:Ins:=⟨0,0,none_,none_⟩
def stepped(p:hZ)(lk:Bool)(s:St):Int×St:=jF p lk (((method p (top s).of).code[(top s).pc.toNat]?).getD Ru) s
def step(p:hZ)(lk:Bool)(s:St):St:=if s.status=1 then end_ (stepped p lk s).1 (stepped p lk s).2 else s
def steps(p:hZ)(lk:Bool):Nat->St->St
 |0,s=>s
 |f+1,s=>if s.status=1 then steps p lk f (step p lk s)else s
def pF(m:Method)(args:List Int):Bool:=decide (m.args.length=args.length)&&m.args.all fun k=>decide (k.kind=1)
def pG:St:=⟨4,[],[],[],lQ⟩
def start (p : hZ) (lk : Bool) (k : Int) (n m : ByteArray) (args : List Int) : St :=
 if (find p k n).2 = 1 ∧ kg p (find p k n).1 = true then
  (if(call p k n m).2=1∧pF (method p (call p k n m).1) args=true then
   end_ (enter p lk (call p k n m).1 (⟨2,0⟩::args.map mF) ⟨1,[],[fresh p (find p k n).1],[],lQ⟩).1
    (enter p lk (call p k n m).1 (⟨2,0⟩::args.map mF) ⟨1,[],[fresh p (find p k n).1],[],lQ⟩).2
  else pG)
 else pG
def qD(p:hZ)(lk:Bool)(k:Int)(n m:ByteArray)(args:List Int):St:=
 if kU p&&has p k&&jC n&&jC m&&args.all nQ then start p lk k n m args else EK
def yh(p:hZ)(lk:Bool)(s:St)(fuel:Int):St:=
 if decide (fuel<=400)&&kU p&&Cq p s then steps p lk fuel.toNat s else EK
end Go.Proofs.YtlhlnddgfcmfkaaGreat.M
namespace Go.Proofs.YtlhlnddgfcmfkaaGreat
open Go Go.RowKit Tryz
def BytesAt(W:World)(v:Value)(zs:List Int):Prop:=
 (v=.slice none 0 0∧zs=[])∨∃a cap,v=.slice (some a) zs.length cap∧zs.length<=cap∧(∀i,i<zs.length->W.cell? (a.add i)=some (.int .u8 (zs.getD i 0)))∧∀n∈zs,0<=n∧n<256
theorem BytesAt.form{W:World}{v:Value}{c:List Int}(d:BytesAt W v c):∃a b,v=.slice a c.length b:=by
 rcases d with⟨rfl,rfl⟩|⟨a,b,rfl,_⟩
 . exact⟨none,0,rfl⟩
 . exact⟨_,_,rfl⟩
theorem yo{W:World}{a:Addr}{v:Value}(c:W.cell? a=some v):a.block<W:=by
 rcases Nat.lt_or_ge a.block W with b|b
 . exact b
 . simp[World.cell?,Array.getElem?_eq_none b]at c
theorem BytesAt.ext{W b:World}{v:Value}{f:List Int}(a:BytesAt W v f)(l:Ext W b):BytesAt b v f:=by
 rcases a with a|⟨g,h,i,j,c,k⟩
 . exact .inl a
 . exact .inr ⟨g,h,i,j,fun e d=>(World.cell?_of_block (l.block _ (yo (c e d)) fun m=>m)).trans (c e d),k⟩
theorem AR{a:List Int}(d:∀b∈a,0<=b∧b<256){i:Nat}(e:i<a.length):0<=a.getD i 0∧a.getD i 0<256:=by
 have c:a.getD i 0=a[i]:=by simp[List.getD,List.getElem?_eq_getElem e]
 rw[c];exact d _ (List.getElem_mem _)
def QL(f:FuncId):Prop:=∀(W:World) (v:Value) (zs:List Int),BytesAt W v zs->Calls Tryz.prog f #[v] W fun e W'=>e=.returned (.bool true)∧Ext W W'
def ym(t k:Nat):Prop:=∃fs,Tryz.prog.underlying t=some (.struct fs)∧(Tryz.prog.info? t).map (·.size)=some k
theorem ym.is{t k:Nat}(c:ym t k)(w:World):(isAgg t).run prog w=.ok true w∧(sizeOf t).run prog w=.ok k w:=by
 obtain⟨g,d,a⟩:=c;cases b:prog.info? t with
 |none=>rw[b]at a;cases a
 |some f=>
  rw[b]at a;have e:f.size=k:=by simpa using a
  subst e;constructor
  . unfold isAgg;rw[Sem.run_bind,run_underlying d w];simp
  . simp[sizeOf,typeInfo,b]
theorem qJ{t k:Nat}(c:ym t k){w:World}{b a:Nat}{cs:List Value}(h:hH w b a cs)(hl:cs.length=k):(loadVar t (b,a)).run prog w=.ok (.agg cs.toArray) w:=by
 subst hl;obtain⟨e,f⟩:=c.is w;have g:=run_loadCells_list (P:=prog) w (b,a) cs (fun j l i=>by
  have:=h j l i;unfold Addr.add;split
  . rename_i d;subst d;simpa using this
  . exact this)
 simp[loadVar,Sem.run_bind,e,f,g]
theorem Iy{t k:Nat}(e:ym t k){c:Oper}{a:Act}{w:World}{K:Act->World->Prop}{Q:Exit->Act->World->Prop}(x:Operand)(h:c.op=.load t x)(b d:Nat) (i:a.eval x=.pointer (some ⟨b,d,none⟩)) (cs:List Value) (g:hH w b d cs) (hl:cs.length=k) (f:K (a.put c.dst (.agg cs.toArray)) w):c.wp prog a w K Q:=by
 unfold Oper.wp execOp;simp only[h,i,Instr.loadAt,Instr.sureAddr,Sem.run_bind,Sem.run_pure,Result.andThen_ok,qJ e g hl];exact f
theorem Cr{t k:Nat}(f:ym t k){e:Array Oper}{rest:List Oper}{c:Oper}{a:Act}{w:World}{Q:Exit->Act->World->Prop}(j:c.guard=none){x:Operand}(l:c.op=.load t x){b d:Nat} (m:a.eval x=.pointer (some ⟨b,d,none⟩)) {cs:List Value} (i:hH w b d cs) (hl:cs.length=k) (g:wpList prog e Q rest (a.put c.dst (.agg cs.toArray)) w):wpList prog e Q (c::rest) a w:=
 wpList_plain j fun _ h=>Iy f x l b d m cs i hl (h _ _ g)
theorem jw{t k:Nat}(c:ym t k){fn:Func}{p:Tmp}(e:fn.results=#[.cell p t]){a:Array Value}{w:World}(b:Nat)(f:a.getD p undef=.pointer (some ⟨b,0,none⟩))(cs:List Value)(d:hH w b 0 cs)(hl:cs.length=k):(results fn a).run prog w=.ok (.agg cs.toArray) w:=by
 have g:a[p]?.getD undef=.pointer (some ⟨b,0,none⟩):=by simpa using f
 simp[results,e,g,asAddr,qJ c d hl]
theorem ja{t k:Nat}(c:ym t k){fn:Func}{p q:Tmp}(e:fn.results=#[.cell p t,.tmp q]){a:Array Value}{w:World}(b:Nat)(f:a.getD p undef=.pointer (some ⟨b,0,none⟩))(cs:List Value)(d:hH w b 0 cs)(hl:cs.length=k):(results fn a).run prog w=.ok (.tuple #[.agg cs.toArray,a.getD q undef]) w:=by
 have g:a[p]?.getD undef=.pointer (some ⟨b,0,none⟩):=by simpa using f
 simp[results,e,g,asAddr,qJ c d hl]
theorem Fz:ym 63 2:=⟨_,underlying63,by kernel_rfl⟩
theorem CR:ym 141 8:=⟨_,underlying141,by kernel_rfl⟩
theorem zK:ym 65 3:=⟨_,underlying65,by kernel_rfl⟩
theorem vG:ym 213 5:=⟨_,underlying213,by kernel_rfl⟩
theorem zL:ym 37 2:=⟨_,underlying37,by kernel_rfl⟩
theorem lG:ym 39 6:=⟨_,underlying39,by kernel_rfl⟩
theorem Kp.yQ{D:Nat->Prop}{w:World}{b:Nat}(a:D b)(c d e f g h i j:Value):Kp D w ((((((((w.setCell b c).setCell (b,1) d).setCell (b,2) e).setCell (b,3) f).setCell (b,4) g).setCell (b,5) h).setCell (b,6) i).setCell (b,7) j):=
 (((((((((Kp.refl D w).setCell (p:=⟨b,0,none⟩) (fun _=>a) c).setCell (p:=⟨b,1,none⟩) (fun _=>a) d).setCell (p:=⟨b,2,none⟩) (fun _=>a) e).setCell (p:=⟨b,3,none⟩) (fun _=>a) f).setCell (p:=⟨b,4,none⟩) (fun _=>a) g).setCell (p:=⟨b,5,none⟩) (fun _=>a) h).setCell (p:=⟨b,6,none⟩) (fun _=>a) i).setCell (p:=⟨b,7,none⟩) (fun _=>a) j)
theorem hV.yQ{w:World}{b:Nat}{t:TypeId}{u0 u1 u2 u3 u4 u5 u6 u7:Value}(j:hV w b t #[u0,u1,u2,u3,u4,u5,u6,u7])(a c d e f g h i:Value):hV ((((((((w.setCell b a).setCell (b,1) c).setCell (b,2) d).setCell (b,3) e).setCell (b,4) f).setCell (b,5) g).setCell (b,6) h).setCell (b,7) i) b t #[a,c,d,e,f,g,h,i]:=by
 have k:hV (w.setCell b a) b t #[a,u1,u2,u3,u4,u5,u6,u7]:=j.jk 0 a;have l:hV ((w.setCell b a).setCell (b,1) c) b t #[a,c,u2,u3,u4,u5,u6,u7]:=k.jk 1 c;have m:hV (((w.setCell b a).setCell (b,1) c).setCell (b,2) d) b t #[a,c,d,u3,u4,u5,u6,u7]:=l.jk 2 d;have n:hV ((((w.setCell b a).setCell (b,1) c).setCell (b,2) d).setCell (b,3) e) b t #[a,c,d,e,u4,u5,u6,u7]:=m.jk 3 e;have o:hV (((((w.setCell b a).setCell (b,1) c).setCell (b,2) d).setCell (b,3) e).setCell (b,4) f) b t #[a,c,d,e,f,u5,u6,u7]:=n.jk 4 f;have p:hV ((((((w.setCell b a).setCell (b,1) c).setCell (b,2) d).setCell (b,3) e).setCell (b,4) f).setCell (b,5) g) b t #[a,c,d,e,f,g,u6,u7]:=o.jk 5 g;have q:hV (((((((w.setCell b a).setCell (b,1) c).setCell (b,2) d).setCell (b,3) e).setCell (b,4) f).setCell (b,5) g).setCell (b,6) h) b t #[a,c,d,e,f,g,h,u7]:=p.jk 6 h;have r:hV ((((((((w.setCell b a).setCell (b,1) c).setCell (b,2) d).setCell (b,3) e).setCell (b,4) f).setCell (b,5) g).setCell (b,6) h).setCell (b,7) i) b t #[a,c,d,e,f,g,h,i]:=q.jk 7 i;exact r
end Go.Proofs.YtlhlnddgfcmfkaaGreat
namespace Go.Proofs.YtlhlnddgfcmfkaaGreat.M
theorem qQ{α:Type}{name:α->ByteArray}{ok:α->Bool}:∀{l:List α} {seen:List ByteArray},jI name ok l seen=true->∀b∈l,ok b=true
 |[],_,_=>by simp
 |y::r,seen,h=>by
  unfold jI at h;simp only[Bool.and_eq_true]at h;intro b a;rcases List.mem_cons.1 a with rfl|a
  . exact h.1.1
  . exact qQ h.2 b a
theorem AX{p:hZ}(a:kU p=true):1<=p.length∧p.length<=3:=by
 unfold kU at a;simp only[Bool.and_eq_true,decide_eq_true_eq]at a;exact⟨a.1.1,a.1.2⟩
theorem E5{p:hZ}(b:kU p=true){k:Int}{q:nk}(a:pI p k=some q):kr p q=true:=by
 unfold kU at b;simp only[Bool.and_eq_true]at b;unfold pI at a;split at a
 . exact List.all_eq_true.1 b.2 q (List.mem_of_getElem? a)
 . cases a
theorem Cy{p:hZ}{k:Int}:has p k=true↔0<=k∧k<p.length:=by
 unfold has;simp
theorem Db{p:hZ}(g:kU p=true){k:Int}{n:ByteArray}{q:Int}(a:zh p k n=some q):has p q=true:=by
 unfold zh at a;rw[Option.bind_eq_some_iff]at a;obtain⟨h,f,c⟩:=a;rw[Option.map_eq_some_iff]at c;obtain⟨d,e,rfl⟩:=c;have b:=E5 g f;unfold kr at b;simp only[Bool.and_eq_true]at b;have:=qQ b.2 d (List.mem_of_find?_eq_some e);simp only[Bool.and_eq_true]at this;exact this.2
theorem Hs{p:hZ}(r:Ref):(vS p r).isSome=owned p r:=by
 unfold vS owned cls?;cases pI p r.keeper with
 |none=>rfl
 |some a=>
  simp only[Option.bind_some];rw[Bool.eq_iff_iff,List.findIdx?_isSome,List.find?_isSome];simp
theorem AO{p:hZ}{r:Ref}{c:Class}(a:cls? p r=some c):∃e b,pI p r.keeper=some e∧vS p r=some b∧e.owns[b]?=some c∧b<e.owns.length:=by
 unfold cls? at a;rw[Option.bind_eq_some_iff]at a;obtain⟨e,j,f⟩:=a;have d:(e.owns.findIdx? fun c=>decide (c.name=r.name)).isSome=true:=by
  rw[List.findIdx?_isSome,List.any_eq_true];exact⟨c,List.mem_of_find?_eq_some f,by simpa using List.find?_some f⟩
 obtain⟨b,d⟩:=Option.isSome_iff_exists.1 d;refine⟨e,b,j,by unfold vS;rw[j];exact d,?_,?_⟩
 . rw[List.findIdx?_eq_some_iff_getElem]at d;obtain⟨o,k,l⟩:=d;rw[List.getElem?_eq_getElem o];rw[List.find?_eq_some_iff_getElem]at f;obtain⟨n,g,q,h,m⟩:=f;have:b=g:=by
    rcases Nat.lt_trichotomy b g with a|a|a
    . have:=m b a;simp only[Bool.not_eq_true']at this;rw[k]at this;cases this
    . exact a
    . have i:=l g a;rw[h]at i;exact absurd n i
   subst this;rw[h]
 . rw[List.findIdx?_eq_some_iff_getElem]at d;exact d.1
theorem Cw{p:hZ}{r:Ref}{c:Class}(b:cls? p r=some c):0<=r.keeper∧r.keeper<p.length:=by
 obtain⟨e,d,a,_⟩:=AO b;unfold pI at a;split at a
 . have:=(List.getElem?_eq_some_iff.1 a).1;omega
 . cases a
theorem KP{p:hZ}{l:List Int}(d:l.Nodup)(c:∀a∈l,has p a=true):l.length<=p.length:=by
 have b:l ⊆ (List.range p.length).map Int.ofNat:=by
  intro a e;have:=Cy.1 (c a e);exact List.mem_map.2 ⟨a.toNat,List.mem_range.2 Zm,by simp;omega⟩
 have:=d.length_le_of_subset b;simpa using this
theorem Ah{p:hZ}{n:ByteArray}:∀{f:Nat} {a:List Int} {k:Int},a.getLastD 0=k->(mG p n f a k).2=1->owned p ⟨(mG p n f a k).1.getLastD 0,n⟩=true
 |0,_,_,_,h=>by simp[mG]at h
 |f+1,a,k,hl,h=>by
  unfold mG at h ⊢;split at h
  . rename_i c;split at h
    . rename_i b;simp only[b,if_true];rw[hl];exact b
    . simp at h
  . rename_i next c
    split at h
    . simp at h
    . rename_i b;simp only[b,if_false,Bool.false_eq_true];exact Ah Zl h
theorem Jf{p:hZ}{k:Int}{n:ByteArray}(a:(path p k n).2=1):owned p ⟨(path p k n).1.getLastD 0,n⟩=true:=by
 unfold path at a ⊢;split at a
 . rename_i b;rw[if_pos b];exact Ah rfl a
 . simp at a
theorem mK{p:hZ}{k:Int}{n:ByteArray}(b:(resolve p k n).2=1):∃c,cls? p (resolve p k n).1=some c:=by
 unfold resolve at b ⊢;split at b
 . rename_i a;rw[if_pos a];exact Option.isSome_iff_exists.1 (Jf a)
 . rename_i a;exact absurd b a
theorem sU{α:Type}{name:α->ByteArray}{ok:α->Bool}:∀{l r:List α} {seen:List ByteArray},jI name ok (l++r) seen=(jI name ok l seen&&jI name ok r (seen++l.map name))
 |[],r,seen=>by simp[jI]
 |x::l,r,seen=>by
  simp only[List.cons_append,jI,sU (l:=l),Bool.and_assoc,List.map_cons,List.append_assoc,List.nil_append]
theorem wC{α:Type}{name:α->ByteArray}{ok:α->Bool}{l:List α}{k:Nat}{x:α}(a:l[k]?=some x):jI name ok (l.take (k+1)) []=(jI name ok (l.take k) []&&(ok x&& !((l.take k).any fun b=>decide (name b=name x)))):=by
 rw[List.take_add_one,a,sU,List.nil_append];simp only[Option.toList_some,jI,List.any_map,Function.comp_def,Bool.and_true]
theorem yD{α:Type}{name:α->ByteArray}{ok:α->Bool}{l:List α}{k:Nat}(a:jI name ok (l.take k) []=false):jI name ok l []=false:=by
 rw[<-List.take_append_drop k l,sU,a];rfl
theorem Ct{α:Type}{f:α->Bool}{l:List α}{k:Nat}{x:α}(c:l[k]?=some x)(a:f x=false):l.all f=false:=by
 refine Bool.eq_false_iff.2 fun b=>?_;rw[List.all_eq_true.1 b x (List.mem_of_getElem? c)]at a;cases a
theorem CS{α:Type}{f:α->Bool}{l:List α}{k:Nat}{x:α}(b:l[k]?=some x)(a:f x=true)(h0:(l.take k).all f=true):(l.take (k+1)).all f=true:=by
 rw[List.take_add_one,b,List.all_append,h0];simp[a]
def AV(l:List SMap):Int:=(l.getLast?.map SMap.at_).getD 0
theorem tq{m:Method}:∀{l r:List SMap} {a:Int},kL m a (l++r)=(kL m a l&&kL m ((l.getLast?.map SMap.at_).getD a) r)
 |[],r,a=>by simp[kL]
 |x::l,r,a=>by
  simp only[List.cons_append,kL,tq (l:=l),List.getLast?_cons];cases l.getLast?<;>simp[Bool.and_assoc]
theorem KM{m:Method}{l:List SMap}{k:Nat}{x:SMap}(a:l[k]?=some x):kL m 0 (l.take (k+1))=(kL m 0 (l.take k)&&(decide (AV (l.take k)<x.at_)&&uP m x)):=by
 rw[List.take_add_one,a,tq];simp only[Option.toList_some,kL,AV,Bool.and_true];rfl
theorem M6{m:Method}{l:List SMap}{k:Nat}(a:kL m 0 (l.take k)=false):kL m 0 l=false:=by
 rw[<-List.take_append_drop k l,tq,a];rfl
theorem Hk{m:Method}:∀{l:List SMap} {a:Int},0<=a->kL m a l=true->∀b∈l,1<=b.at_
 |[],_,_,_=>by simp
 |x::l,a,ha,h=>by
  unfold kL at h;simp only[Bool.and_eq_true,decide_eq_true_eq]at h;intro b c;rcases List.mem_cons.1 c with rfl|c
  . omega
  . exact Hk Zm h.2 b c
theorem Kz{l:List SMap}{j:Nat}{y:SMap}(a:l[j]?=some y):AV (l.take (j+1))=y.at_:=by
 unfold AV;rw[List.take_add_one,a];simp
theorem Kq{i:Ins}(a:lv i=true):1<=i.op∧i.op<=15:=by
 unfold lv isNum oO pM qU at a;simp only[Bool.or_eq_true,beq_iff_eq]at a;repeat' split at a
 all_goals first|omega|cases a
theorem Fe{c:Method}{k:Nat}{x:SMap}{q2:Bool}(l:c.maps[k]?=some x)(e:kL c 0 (c.maps.take k)=true)(j:(k=0∧q2=false)∨∃b d,k=b+1∧c.maps[b]?=some d∧q2=decide (x.at_<=d.at_)):kL c 0 (c.maps.take (k+1))=((decide (1<=x.at_)&&decide (x.at_<=(c.code.length:Int) - 1))&& !q2&& !((x.locals.length:Int) !=c.locals)&& !decide (c.stack<(x.stack.length:Int))&&x.locals.all rU&&x.stack.all rU):=by
 rw[KM l,e,Bool.true_and];unfold uP vg;have g:(!((x.locals.length:Int) !=c.locals))=decide ((x.locals.length:Int)=c.locals):=by
  by_cases a:(x.locals.length:Int)=c.locals<;>simp[a]
 have h:(!decide (c.stack<(x.stack.length:Int)))=decide ((x.stack.length:Int)<=c.stack):=by
  by_cases a:c.stack<(x.stack.length:Int)
  . rw[decide_eq_true a,decide_eq_false Zm];rfl
  . rw[decide_eq_false a,decide_eq_true Zm];rfl
 have i:(decide (AV (c.maps.take k)<x.at_)&&decide (x.at_ <(c.code.length:Int)))=((decide (1<=x.at_)&&decide (x.at_<=(c.code.length:Int) - 1))&& !q2):=by
  rcases j with⟨rfl,rfl⟩|⟨b,d,rfl,f,rfl⟩
  . rw[show AV (c.maps.take 0)=0 from rfl,Bool.not_false,Bool.and_true];refine Bool.eq_iff_iff.2 ?_;simp only[Bool.and_eq_true,decide_eq_true_eq];omega
  . rw[Kz f];have:=Hk Zm e d (List.mem_of_getElem? (i:=b) (by rw[List.getElem?_take,if_pos Zm,f]));refine Bool.eq_iff_iff.2 ?_;simp only[Bool.and_eq_true,decide_eq_true_eq,Bool.not_eq_true',decide_eq_false_iff_not];omega
 rw[g,h,<-i];simp only[Bool.and_assoc]
theorem vW{p:hZ}:∀(f:Nat) (r:Ref) (l:List Ref),kv p f r=some l->∃d,l=r::d:=by
 intro f;cases f with
 |zero=>intro r l a;simp[kv]at a
 |succ f=>
  intro r l a;unfold kv at a;split at a
  . cases a;exact⟨[],rfl⟩
  . split at a
    . cases b:kv p f (resolve p r.keeper (jl p r)).1 with
      |none=>rw[b]at a;simp at a
      |some c=>rw[b]at a;simp at a;exact⟨c,a.symm⟩
    . cases a
theorem vY {p : hZ} : ∀ (f : Nat) (r : Ref) (l : List Ref), kv p f r = some l -> ∀ b, l.length <= b -> kv p b r = some l := by
 intro f;induction f with
 |zero=>intro r l a;simp[kv]at a
 | succ f h =>
  intro r l a b e;obtain⟨j,rfl⟩:=vW _ _ _ a;cases b with
  |zero=>simp at e
  |succ b=>
   unfold kv at a ⊢;split at a
   . rename_i c;rw[if_pos c];exact a
   . rename_i c;rw[if_neg c];split at a
     . rename_i g;rw[if_pos g];cases d:kv p f (resolve p r.keeper (jl p r)).1 with
       |none=>rw[d]at a;simp at a
       |some i=>
        rw[d]at a;simp at a;subst a;rw[h _ _ d b (by simp at e;omega)];simp
     . cases a
theorem uq {p : hZ} : ∀ (f : Nat) (r : Ref) (l : List Ref), kv p f r = some l -> ∀ b d, l[b]? = some d -> ∃ g, kv p g d = some (l.drop b) := by
 intro f;induction f with
 |zero=>intro r l a;simp[kv]at a
 | succ f h =>
  intro r l a b d c;cases b with
  |zero=>
   obtain⟨j,rfl⟩:=vW _ _ _ a;simp at c;subst c;exact⟨f+1,a⟩
  |succ b=>
   unfold kv at a;split at a
   . cases a;simp at c
   . split at a
     . cases e:kv p f (resolve p r.keeper (jl p r)).1 with
       |none=>rw[e]at a;simp at a
       |some i=>
        rw[e]at a;simp at a;subst a;simpa using h _ _ e b d (by simpa using c)
     . cases a
theorem BB{p:hZ}{f g:Nat}{r:Ref}{a b:List Ref}(e:kv p f r=some a)(h:kv p g r=some b):a=b:=by
 have d:=vY _ _ _ e (max a.length b.length) (Nat.le_max_left _ _);have c:=vY _ _ _ h (max a.length b.length) (Nat.le_max_right _ _);rw[d]at c;exact Option.some.inj c
theorem Et{p:hZ}(f:Nat)(r:Ref)(l:List Ref)(b:kv p f r=some l):l.Nodup:=by
 refine List.pairwise_iff_getElem.2 ?_;intro a i g h m e;obtain⟨j,c⟩:=uq _ _ _ b a l[a] (List.getElem?_eq_getElem g);obtain⟨k,d⟩:=uq _ _ _ b i l[a] (by rw[e];exact List.getElem?_eq_getElem h);have:=congrArg List.length (BB c d);simp at this;omega
theorem KQ{α:Type}{l:List α}(a:l.Nodup):l.reverse.Nodup:=
 List.pairwise_reverse.2 (a.imp fun a=>fun b=>a b.symm)
theorem Bz(p:hZ)(r:Ref):(chain p r).Nodup:=by
 unfold chain;split
 . unfold uo;cases a:kv p 6 r with
   |none=>simp
   |some b=>exact Et _ _ _ a
 . simp
theorem BA{p:hZ}:∀(f:Nat) (r:Ref) (l:List Ref),kv p f r=some l->l.length<=f:=by
 intro f;induction f with
 |zero=>intro r l a;simp[kv]at a
 |succ f c=>
  intro r l a;unfold kv at a;split at a
  . cases a;simp
  . split at a
    . cases b:kv p f (resolve p r.keeper (jl p r)).1 with
      |none=>rw[b]at a;simp at a
      |some d=>rw[b]at a;simp at a;subst a;have:=c _ _ b;simp;omega
    . cases a
theorem vI(p:hZ)(r:Ref):(chain p r).length<=6:=by
 unfold chain;split
 . unfold uo;cases a:kv p 6 r with
   |none=>simp
   |some b=>exact BA _ _ _ a
 . simp
theorem sH(c:Ref):∀(b:List Field) (a:List ry),(kQ c b a).length=a.length+b.length:=by
 intro b;induction b with
 |nil=>intro a;rfl
 |cons e f d=>intro a;unfold kQ;rw[d];simp;omega
theorem Fy(c:Ref):∀(e:List Field) (b:List ry) (i:Nat) (f:ry),(kQ c e b)[i]?=some f→ b[i]?=some f∨∃h d,e[h]?=some d∧i=b.length+h∧f=⟨c,i,d.kind⟩:=by
 intro e;induction e with
 |nil=>intro b i f g;exact .inl g
 |cons d q p=>
  intro b i f g;unfold kQ at g;rcases p _ _ _ g with a|⟨h,l,a,m,n⟩
  . rcases Nat.lt_or_ge i b.length with j|j
    . rw[List.getElem?_append_left j]at a;exact .inl a
    . rw[List.getElem?_append_right j]at a;have o:i - b.length=0:=by
       rcases Nat.eq_zero_or_pos (i - b.length)with k|k
       . exact k
       . rw[List.getElem?_eq_none Zr]at a;cases a
      rw[o]at a;simp at a;refine .inr ⟨0,d,rfl,by omega,?_⟩;rw[<-a,show i=b.length by omega]
  . exact .inr ⟨h+1,l,by simpa using a,by simp at m;omega,n⟩
theorem Es(c:Ref):∀(b:List Field) (a:List ry),∃d,kQ c b a=a++d:=by
 intro b;induction b with
 |nil=>intro a;exact⟨[],by simp[kQ]⟩
 |cons f h g=>
  intro a;unfold kQ;obtain⟨d,e⟩:=g (a++[⟨c,a.length,f.kind⟩]);exact⟨_,by rw[e,List.append_assoc]⟩
theorem FR(p:hZ):∀(c:List Ref) (a:List ry),∃d,ll p c a=a++d:=by
 intro c;induction c with
 |nil=>intro a;exact⟨[],by simp[ll]⟩
 |cons b i g=>
  intro a;unfold ll;obtain⟨d,e⟩:=g (kQ b (cls p b).fields a);obtain⟨h,f⟩:=Es b (cls p b).fields a;exact⟨h++d,by rw[e,f,List.append_assoc]⟩
theorem wV(p:hZ):∀(a K:List Ref) (b:List ry),ll p (a++K) b=ll p K (ll p a b):=by
 intro a;induction a with
 |nil=>intro K b;rfl
 |cons d e c=>intro K b;simp only[List.cons_append,ll];rw[c]
theorem G8(p:hZ):∀(b:List Ref) (e:List ry),b.Nodup->∀(i:Nat) (f:ry),(ll p b e)[i]?=some f→ e[i]?=some f∨∃g∈b,∃d c,(cls p g).fields[d]?=some c∧i=oU p g b e.length+d∧f=⟨g,i,c.kind⟩:=by
 intro b;induction b with
 |nil=>intro e _ i f h;exact .inl h
 |cons g q o=>
  intro e l i f h;unfold ll at h;rw[List.nodup_cons]at l;rcases o _ l.2 _ _ h with a|⟨n,m,d,c,a,j,k⟩
  . rcases Fy _ _ _ _ _ a with a|⟨d,c,a,j,k⟩
    . exact .inl a
    . exact .inr ⟨g,by simp,d,c,a,by simp[oU];exact j,k⟩
  . refine .inr ⟨n,by simp[m],d,c,a,?_,k⟩;unfold oU;rw[if_neg (by rintro rfl;exact l.1 m),<-sH];exact j
theorem yF{p:hZ}{r:Ref}{i:Nat}{f:ry}(b:(layout p r)[i]?=some f):kg p r=true∧f.of∈chain p r∧f.at_=i∧∃c a,(cls p f.of).fields[c]?=some a∧i=ou p f.of r+c∧f.kind=a.kind:=by
 unfold layout at b;split at b
 . rename_i g;rcases G8 p _ _ (KQ (Bz p r)) _ _ b with d|⟨j,h,c,a,d,e,rfl⟩
   . simp at d
   . exact⟨g,List.mem_reverse.1 h,rfl,c,a,d,e,rfl⟩
 . simp at b
theorem FH{p:hZ}{r:Ref}{f:ry}{j:Nat}{a:Field}(b:(cls p f.of).fields[j]?=some a)(c:f.at_=((ou p f.of r+j:Nat):Int)):fieldName p r f=a.name:=by
 unfold fieldName;rw[show(f.at_ - ou p f.of r).toNat=j by omega,b];rfl
end Go.Proofs.YtlhlnddgfcmfkaaGreat.M
