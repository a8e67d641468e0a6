/- Walks. -/
import Derived.WalkKit
import Derived.Deep.Draws
import Derived.Lib.Hide
import Derived.Test.YtlhgbjbkjalfjaaGreatProg
import Derived.WalkLawsBesides
import Derived.WalkSpells
import Derived.Deep.QuietTactic
import Derived.BigQuiet
import Derived.Lib.SplitLaws
import Derived.OwnWalk
import Derived.OwnWalkIn
import Derived.WalkSmall
import Derived.Laws.Rows
import Derived.ArgAppend
set_option maxRecDepth 100000
set_option maxHeartbeats 4000000
set_option linter.all false
namespace Go.Proofs.YtlhgbjbkjalfjaaGreat
variable {d p: Prop}
namespace M
end M
open Go Go.RowKit
abbrev UR:=@Act.put_comm
abbrev Tn:=@And.intro
abbrev VP:=@Array.all_eq_true_iff_forall_mem
abbrev Vx:=@Array.getElem?_eq_getElem
abbrev Ub:=@Array.getElem?_eq_none
abbrev Tg:=@Array.getElem?_eq_some_iff
abbrev VA:=@Array.getElem?_setIfInBounds
abbrev Um:=@Array.replicate_succ
abbrev Ul:=@Array.replicate_zero
abbrev Vt:=@Array.setIfInBounds_comm
abbrev Wl:=@Array.toList_inj
abbrev Wo:=@Below.heap_alloc
abbrev Ty:=@Bool.and_eq_true
abbrev VJ:=@Bool.and_false
abbrev UI:=@Bool.eq_iff_iff
abbrev Vg:=@Bool.false_and
abbrev Vn:=@Bool.false_eq_true
abbrev Vl:=@Bool.not_eq_true'
abbrev VZ:=@Bool.or_eq_true
abbrev WX:=@Bool.true_and
abbrev UW:=@ByteArray.size_append
abbrev VQ:=@ByteArray.size_extract
abbrev Ut:=@ByteArray.toList_eq
abbrev Vi:=@Int.toNat_natCast
abbrev W9:=@Int.toNat_of_nonneg
abbrev TK:=@IntWalk.i64_in
abbrev U0:=@Lib.run_eql_slice_nil
abbrev We:=@List.all_append
abbrev Ws:=@List.all_eq_false
abbrev TY:=@List.all_eq_true
abbrev UK:=@List.any_eq_false
abbrev Wn:=@List.any_eq_true
abbrev Wh:=@List.any_map
abbrev U1:=@List.append_assoc
abbrev Ug:=@List.append_toArray
abbrev TM:=@List.concat_eq_append
abbrev TH:=@List.cons.injEq
abbrev TF:=@List.cons_append
abbrev VG:=@List.contains_iff_mem
abbrev UO:=@List.dropLast_concat_getLast
abbrev Vy:=@List.drop_eq_getElem_cons
abbrev U4:=@List.drop_eq_nil_of_le
abbrev Vm:=@List.drop_of_length_le
abbrev Uh:=@List.drop_succ_cons
abbrev UB:=@List.drop_zero
abbrev TR:=@List.eq_nil_of_length_eq_zero
abbrev TN:=@List.eq_nil_or_concat
abbrev Vk:=@List.find?_append
abbrev VN:=@List.find?_cons_of_neg
abbrev VO:=@List.find?_cons_of_pos
abbrev Wq:=@List.find?_isSome
abbrev VY:=@List.findIdx?_cons
abbrev Uy:=@List.findIdx?_eq_some_iff_getElem
abbrev Vh:=@List.findIdx?_isSome
abbrev Uz:=@List.flatMap_append
abbrev UA:=@List.flatMap_cons
abbrev UZ:=@List.flatten_cons
abbrev Te:=@List.getElem?_append_left
abbrev TS:=@List.getElem?_append_right
abbrev UD:=@List.getElem?_drop
abbrev Ou:=@List.getElem?_eq_getElem
abbrev U9:=@List.getElem?_eq_none
abbrev Tw:=@List.getElem?_eq_some_iff
abbrev V4:=@List.getElem?_map
abbrev VD:=@List.getElem?_modify
abbrev VE:=@List.getElem?_of_mem
abbrev TJ:=@List.getElem?_set_self
abbrev Uu:=@List.getElem?_take
abbrev Vq:=@List.getElem_mem
abbrev Wy:=@List.getElem_of_mem
abbrev TP:=@List.length_append
abbrev TE:=@List.length_cons
abbrev Ui:=@List.length_drop
abbrev UN:=@List.length_eq_zero_iff
abbrev UH:=@List.length_map
abbrev Uj:=@List.length_nil
abbrev Vs:=@List.length_pos_iff
abbrev Vz:=@List.length_replicate
abbrev Va:=@List.length_reverse
abbrev Ux:=@List.length_set
abbrev VI:=@List.length_singleton
abbrev Tj:=@List.length_take
abbrev TB:=@List.map_append
abbrev UU:=@List.map_cons
abbrev VR:=@List.map_nil
abbrev TZ:=@List.mem_append
abbrev VH:=@List.mem_append_right
abbrev Ud:=@List.mem_cons
abbrev TU:=@List.mem_cons_of_mem
abbrev UE:=@List.mem_iff_getElem?
abbrev Vw:=@List.mem_map
abbrev Vr:=@List.mem_map_of_mem
abbrev Vb:=@List.mem_of_find?_eq_some
abbrev RA:=@List.mem_of_getElem?
abbrev Vv:=@List.mem_of_mem_drop
abbrev Uv:=@List.mem_of_mem_take
abbrev UG:=@List.mem_or_eq_of_mem_set
abbrev V6:=@List.mem_range
abbrev U7:=@List.mem_singleton
abbrev TW:=@List.nil_append
abbrev VM:=@List.nodup_append
abbrev Wd:=@List.nodup_cons
abbrev UX:=@List.push_toArray
abbrev VF:=@List.range'_succ
abbrev Wz:=@List.reverse_append
abbrev Tu:=@List.setIfInBounds_toArray
abbrev Tk:=@List.set_cons_succ
abbrev Ti:=@List.set_cons_zero
abbrev UQ:=@List.set_set
abbrev UY:=@List.size_toArray
abbrev TQ:=@List.take_add_one
abbrev V9:=@List.take_append_drop
abbrev TC:=@List.take_length
abbrev TV:=@List.take_of_length_le
abbrev Us:=@List.take_succ_cons
abbrev VT:=@List.take_succ_eq_append_getElem
abbrev UJ:=@List.take_zero
abbrev Ue:=@Nat.add_assoc
abbrev Vf:=@Nat.add_comm
abbrev V7:=@Nat.add_sub_cancel
abbrev U3:=@Nat.add_zero
abbrev Wx:=@Nat.eq_zero_or_pos
abbrev VL:=@Nat.le_of_lt
abbrev T9:=@Nat.le_refl
abbrev UC:=@Nat.le_succ
abbrev Uw:=@Nat.le_succ_of_le
abbrev TL:=@Nat.le_trans
abbrev Tx:=@Nat.lt_of_lt_of_le
abbrev Uc:=@Nat.lt_or_ge
abbrev Vd:=@Nat.lt_succ_self
abbrev V3:=@Nat.lt_trichotomy
abbrev U5:=@Nat.min_eq_left
abbrev Wm:=@Nat.mod_eq_of_lt
abbrev UL:=@Nat.mul_le_mul
abbrev VC:=@Nat.mul_le_mul_right
abbrev V5:=@Nat.mul_one
abbrev Wu:=@Nat.not_lt
abbrev WY:=@Nat.not_lt_zero
abbrev Wi:=@Nat.sub_self
abbrev UT:=@Nat.succ_mul
abbrev Tm:=@Nat.zero_add
abbrev SV:=@Nat.zero_le
abbrev Ua:=@Nat.zero_mul
abbrev VV:=@Option.bind_eq_some_iff
abbrev UM:=@Option.bind_some
abbrev Ve:=@Option.getD_none
abbrev Vp:=@Option.getD_some
abbrev Vu:=@Option.isSome_iff_exists
abbrev VK:=@Option.isSome_map
abbrev VX:=@Option.isSome_none
abbrev VW:=@Option.isSome_some
abbrev Uk:=@Option.map_eq_some_iff
abbrev WZ:=@Option.map_some
abbrev TG:=@Option.some.inj
abbrev TT:=@Option.some.injEq
abbrev Wt:=@Option.toList_some
abbrev Wp:=@Prod.mk.injEq
abbrev U6:=@Result.andThen_ok
abbrev U8:=@Sem.run_bind
abbrev Un:=@World.cell?_of_block
abbrev Vj:=@World.ownsRow_lit
abbrev Tf:=@World.ownsRow_nil
abbrev Tp:=@World.size_alloc
abbrev UF:=@and_true
abbrev SF:=@beq_eq_false_iff_ne
abbrev Uq:=@beq_iff_eq
abbrev TI:=@bne_iff_ne
abbrev Cv:=@bodyPost_ret
abbrev Ur:=@callsIn_wide
abbrev SL:=@decide_eq_false
abbrev Tz:=@decide_eq_true
abbrev Tq:=@decide_eq_true_eq
abbrev VB:=@eq_false
abbrev Ww:=@execOp_put
abbrev TA:=@if_false
abbrev Tt:=@if_neg
abbrev Tv:=@if_pos
abbrev U2:=@if_true
abbrev VU:=@mem_ready
abbrev Uo:=@of_decide_eq_true
abbrev Wv:=@ready_mono
abbrev Uf:=@run_underlying
abbrev V8:=@true_and
abbrev Wj:=@wanted_put
abbrev VS:=@wpList_plain
abbrev TD:=@wpQuiet_nil
abbrev Vo:=@wpStill_nil
def Zz(p:Prop):Prop:=p
theorem Zz.o(a:Zz p):p:=a
theorem Zy(a:p):Zz p:=a
theorem Zx(a:p:=by repeat (first|with_reducible exact Kp.refl _ _|with_reducible assumption|with_reducible refine Kp.alloc ?_ _|with_reducible refine Kp.drew ?_|with_reducible refine Kp.drewN ?_ _|with_reducible refine Kp.setCell ?_ (fun a=>absurd a (by simp<;>omega)) _|with_reducible refine Kp.trans ?_ (by with_reducible assumption)|exact Kp.refl _ _|assumption|refine Kp.alloc ?_ _|refine Kp.drew ?_|refine Kp.drewN ?_ _|(refine Kp.setCell ?_ (fun a=>absurd a (by simp;done)) _)|(refine Kp.setCell ?_ (fun a=>absurd a (by simp;omega)) _)|refine Kp.trans ?_ (by assumption))):p:=a
theorem Zw(a:p:=by repeat (first|with_reducible assumption|with_reducible exact Kp.refl _ _|apply Kp.alloc|apply Kp.drew|apply Kp.drewN|refine Kp.setCell ?_ (fun a=>absurd a (by simp<;>omega)) _|assumption|refine Kp.trans ?_ (by assumption)|exact Kp.refl _ _)):p:=a
theorem Zv(a:p:=by repeat (first|assumption|exact Kp.refl _ _|apply Kp.alloc|apply Kp.drew|apply Kp.drewN|refine Kp.trans ?_ (by assumption))):p:=a
theorem Zu(a:p:=by with_reducible assumption):p:=a
theorem Zt(a:p:=by simp[Value.oneCell']):p:=a
theorem Zs(a:p:=by simp<;>omega):p:=a
theorem Zr(a:p:=by simp;omega):p:=a
theorem Zq(a:p:=by simp;done):p:=a
theorem Zp(a:p:=by assumption):p:=a
theorem Zo(a:p:=by kernel_rfl):p:=a
theorem Zn(a:p:=by decide):p:=a
theorem Zm(a:p:=by omega):p:=a
theorem Zl(a:p:=by simp):p:=a
instance cz1:Coe Nat Value:=⟨fun n=>.int .i64 n⟩
instance cz2:Coe Int Value:=⟨.int .i64⟩
instance cz3:Coe ByteArray Value:=⟨.string⟩
instance cz4:Coe Unit Value:=⟨fun _=>.slice none 0 0⟩
instance cz5:CoeDep String "" Value:=⟨.string ⟨#[]⟩⟩
instance cz6 (b:Nat):CoeDep (Option Nat) (some b) Value:=⟨.pointer (some ⟨b,0,none⟩)⟩
instance cz7 (b n c:Nat):CoeDep (Nat×Nat×Nat) (b,n,c) Value:=⟨.slice (some ⟨b,0,none⟩) n c⟩
instance cz9:Coe World Nat:=⟨fun w=>w.heap.size⟩
instance cza (b k:Nat):CoeDep (Nat×Nat) (b,k) Addr:=⟨⟨b,k,none⟩⟩
instance czb (b k:Nat):CoeDep (Option (Nat×Nat)) (some (b,k)) Value:=⟨.pointer (some ⟨b,k,none⟩)⟩
instance czc (w:World) (k:Nat):CoeDep (World×Nat) (w,k) Addr:=⟨⟨w.heap.size,k,none⟩⟩
instance czd (w:World):CoeDep (Option World) (some w) Value:=⟨.pointer (some ⟨w.heap.size,0,none⟩)⟩
instance cze (w:World) (n c:Nat):CoeDep (World×Nat×Nat) (w,n,c) Value:=⟨.slice (some ⟨w.heap.size,0,none⟩) n c⟩
instance czf (w:World) (k:Nat):CoeDep (Option (World×Nat)) (some (w,k)) Value:=⟨.pointer (some ⟨w.heap.size,k,none⟩)⟩
theorem SS(e:World):∃a,a=e:=⟨e,rfl⟩
instance cz8:Coe Nat Addr:=⟨fun b=>⟨b,0,none⟩⟩
instance czg:Coe (Fin 1) Value:=⟨fun _=>.int .i64 0⟩
def Tc:Fin 1:=0
theorem Ta{P G:Prop}(c:G)(b:Zz G->P:=by(intro a;(try simp only[Exit.inBlock,Exit.then]);(first|exact Cv (results_none rfl _ _ _) rfl a.o|exact bodyPost_end (results_none rfl _ _ _) rfl a.o))):P:=b (Zy c)
theorem SX{b: Prop}(a:b)(c:b->p:=by(intro _;omega)):p:=c a
theorem SY{c: Prop}(a:c)(b:d)(e:c->d->p:=by(intro _ _;omega)):p:=e a b
theorem S9{e C: Prop}(a:d)(b:e)(c:C)(f:d->e->C->p:=by(intro _ _ _;omega)):p:=f a b c
end Go.Proofs.YtlhgbjbkjalfjaaGreat
namespace Go.Proofs.YtlhgbjbkjalfjaaGreat.M
structure Kind where
 kind:Int
 name:ByteArray
structure Tag where
 kind:Int
 name:ByteArray
structure Ins where
 op:Int
 a:Int
 name:ByteArray
 member:ByteArray
structure SMap where
 at_:Int
 locals:List Tag
 stack:List Tag
structure Field where
 name:ByteArray
 kind:Kind
structure Method where
 name:ByteArray
 args:List Kind
 ret:Kind
 locals:Int
 stack:Int
 code:List Ins
 maps:List SMap
structure Class where
 name:ByteArray
 jl:ByteArray
 fields:List Field
 methods:List Method
structure Ask where
 name:ByteArray
 keeper:Int
structure mD where
 owns:List Class
 asks:List Ask
abbrev iZ:=List mD
structure Ref where
 keeper:Int
 name:ByteArray
theorem Ref.lD{a b:Ref}:a=b↔a.keeper=b.keeper/\a.name=b.name:=by
 cases a;cases b;simp
theorem Kind.lD{a b:Kind}:a=b↔a.kind=b.kind/\a.name=b.name:=by
 cases a;cases b;simp
theorem Tag.lD{a b:Tag}:a=b↔a.kind=b.kind/\a.name=b.name:=by
 cases a;cases b;simp
theorem Ins.lD{a b:Ins}:a=b↔a.op=b.op/\a.a=b.a/\a.name=b.name/\a.member=b.member:=by
 cases a;cases b;simp
instance:DecidableEq Ref:=fun _ _=>decidable_of_iff' _ Ref.lD
instance:DecidableEq Kind:=fun _ _=>decidable_of_iff' _ Kind.lD
instance:DecidableEq Tag:=fun _ _=>decidable_of_iff' _ Tag.lD
instance:DecidableEq Ins:=fun _ _=>decidable_of_iff' _ Ins.lD
theorem Field.lD{a b:Field}:a=b↔a.name=b.name/\a.kind=b.kind:=by
 cases a;cases b;simp
instance:DecidableEq Field:=fun _ _=>decidable_of_iff' _ Field.lD
def letter(c:UInt8):Bool:=decide (97<=c.toNat)&&decide (c.toNat<=122)
def jJ(s:ByteArray):Bool:=decide (1<=s.size)&&decide (s.size<=6)&&s.data.toList.all letter
abbrev none_:ByteArray:=⟨#[]⟩
def nN(k:Kind):Bool:=(k.kind==1&&decide (k.name=none_))|| (k.kind==2&&jJ k.name)
def sZ(t:Tag):Bool:=
 if t.kind=0\/t.kind=1\/t.kind=3 then decide (t.name=none_)else if t.kind=2 then jJ t.name else false
def rY(op:Int):Int:=if op=1 then -9999 else 0
def sO(op:Int):Int:=if op=1 then 9999 else if op=2\/op=3 then 5 else 15
def isNum(op:Int):Bool:=op==1 || op==2 || op==3 || op==11 || op==12 || op==13
def qZ(op:Int):Bool:=op==6 || op==15
def sW(op:Int):Bool:=op==7 || op==8 || op==9
def uS(op:Int):Bool:=op==4 || op==5 || op==10 || op==14
def pM(i:Ins):Bool:=
 if isNum i.op then decide (i.name=none_)&&decide (i.member=none_)&&decide (rY i.op<=i.a)&&decide (i.a<=sO i.op)
 else if qZ i.op then decide (i.a=0)&&decide (i.member=none_)&&jJ i.name
 else if sW i.op then decide (i.a=0)&&jJ i.name&&jJ i.member
 else if uS i.op then decide (i.a=0)&&decide (i.name=none_)&&decide (i.member=none_)
 else false
def wZ(l:List Tag):Bool:=l.all sZ
def oP(m:Method)(i:Ins):Bool:=
 pM i&&(if i.op=2\/i.op=3 then decide (i.a<m.locals)else if i.op=11\/i.op=12\/i.op=13 then decide (i.a<m.code.length)else true)
def codeOk(m:Method):Bool:=decide (1<=m.code.length)&&decide (m.code.length<=16)&&m.code.all (oP m)
def xC(m:Method)(f:SMap):Bool:=
 decide (f.at_ <m.code.length)&&decide ((f.locals.length:Int)=m.locals)&&decide ((f.stack.length:Int)<=m.stack)&&wZ f.locals&&wZ f.stack
def rW(m:Method):Int->List SMap->Bool
 |_,[]=>true
 |last,f::r=>decide (last<f.at_)&&xC m f&&rW m f.at_ r
def yo(m:Method):Bool:=decide (m.maps.length<=5)&&rW m 0 m.maps
def uK(m:Method):Bool:=
 jJ m.name&&decide (m.args.length<=3)&&nN m.ret&&m.args.all nN&&
 decide ((m.args.length:Int)+1<=m.locals)&&decide (m.locals<=6)&&decide (1<=m.stack)&&decide (m.stack<=5)&&codeOk m&&yo m
def kW{α:Type}(name:α->ByteArray)(ok:α->Bool):List α->List ByteArray->Bool
 |[],_=>true
 |x::r,seen=>ok x&& !(seen.any fun y=>decide (y=name x))&&kW name ok r (seen++[name x])
def rP(c:Class):Bool:=
 jJ c.name&&(decide (c.jl=none_)|| jJ c.jl)&&decide (c.fields.length<=3)&&decide (c.methods.length<=4)&&
 kW Field.name (fun f=>jJ f.name&&nN f.kind) c.fields []&&kW Method.name uK c.methods []
def has(p:iZ)(k:Int):Bool:=decide (0<=k)&&decide (k<p.length)
def lF(p:iZ)(k:mD):Bool:=
 decide (k.owns.length<=5)&&decide (k.asks.length<=4)&&kW Class.name rP k.owns []&&kW Ask.name (fun a=>jJ a.name&&has p a.keeper) k.asks []
def kQ(p:iZ):Bool:=decide (1<=p.length)&&decide (p.length<=3)&&p.all (lF p)
def pW(p:iZ)(k:Int):Option mD:=if 0<=k then p[k.toNat]? else none
def vZ(p:iZ)(r:Ref):Option Nat:=(pW p r.keeper).bind fun k=>k.owns.findIdx? fun c=>c.name=r.name
def cls?(p:iZ)(r:Ref):Option Class:=(pW p r.keeper).bind fun k=>k.owns.find? fun c=>c.name=r.name
def zK(p:iZ)(k:Int)(n:ByteArray):Option Int:=(pW p k).bind fun q=>(q.asks.find? fun a=>a.name=n).map Ask.keeper
def owned(p:iZ)(r:Ref):Bool:=(cls? p r).isSome
def vL:Ref:=⟨0,none_⟩
def mO(p:iZ)(n:ByteArray):Nat->List Int->Int->List Int×Int
 |0,_,_=>([],3)
 |f+1,asked,k=>match zK p k n with
  |none=>if owned p ⟨k,n⟩then(asked,1)else([],2)
  |some next=>if asked.contains next then([],3)else mO p n f (asked++[next]) next
def path(p:iZ)(k:Int)(n:ByteArray):List Int×Int:=if has p k then mO p n 4 [k] k else([],2)
def resolve(p:iZ)(k:Int)(n:ByteArray):Ref×Int:=
 if(path p k n).2=1 then(⟨(path p k n).1.getLastD 0,n⟩,1)else(vL,(path p k n).2)
def jl(p:iZ)(r:Ref):ByteArray:=((cls? p r).map Class.jl).getD none_
def ky(p:iZ):Nat->Ref->Option (List Ref)
 |0,_=>none
 |f+1,r=>
  if jl p r=none_ then some [r]
  else if(resolve p r.keeper (jl p r)).2=1 then(ky p f (resolve p r.keeper (jl p r)).1).map (r::·)else none
def uC(p:iZ)(r:Ref):Option (List Ref):=ky p 6 r
def find(p:iZ)(k:Int)(n:ByteArray):Ref×Int:=
 if(resolve p k n).2=1 then(if(uC p (resolve p k n).1).isSome then((resolve p k n).1,1)else(vL,4))else(vL,(resolve p k n).2)
def nT(p:iZ)(r:Ref):Bool:=decide ((find p r.keeper r.name).2=1)&&decide ((find p r.keeper r.name).1=r)
def chain(p:iZ)(r:Ref):List Ref:=if nT p r then(uC p r).getD []else []
def under(p:iZ)(low top:Ref):Bool:=(chain p low).contains top
def agree(p:iZ)(a b:Int)(k:Kind):Bool:=
 k.kind==1 || (if(find p a k.name).2=1/\(find p b k.name).2=1 then decide ((find p a k.name).1=(find p b k.name).1)
  else decide ((find p a k.name).2≠1)&&decide ((find p b k.name).2≠1))
def kT(p:iZ)(a b:Int)(m:Method):Bool:=m.args.all (agree p a b)&&agree p a b m.ret
def oC(c:Class)(n:ByteArray):Option Nat:=c.methods.findIdx? fun m=>m.name=n
def wI(c:Class)(n:ByteArray):Option Nat:=c.fields.findIdx? fun f=>f.name=n
def P9:Class:=⟨none_,none_,[],[]⟩
def cls(p:iZ)(r:Ref):Class:=(cls? p r).getD P9
def l9(p:iZ)(low high:Ref)(m:Method):Bool:=
 match(cls p high).methods.find? (fun n=>n.name=m.name)with
 |none=>true
 |some n=>decide (m.ret=n.ret)&&decide (m.args=n.args)&&kT p low.keeper high.keeper m
def pQ(p:iZ)(low high:Ref):Bool:=
 (cls p low).fields.all (fun f=>(wI (cls p high) f.name).isNone)&&(cls p low).methods.all (l9 p low high)
def mH(p:iZ):List Ref->Bool
 |[]=>true
 |low::r=>r.all (pQ p low)&&mH p r
def ko(p:iZ)(r:Ref):Bool:= !(chain p r).isEmpty&&mH p (chain p r)
end Go.Proofs.YtlhgbjbkjalfjaaGreat.M
namespace Go.Proofs.YtlhgbjbkjalfjaaGreat
open Go Go.RowKit Tryz M
theorem jc{w:World}{b d:Nat}{v:Value}(c:w.cell? (b,d)=some v):b<w:=by
 rcases Uc b w with a|a
 . exact a
 . simp[World.cell?,Ub a]at c
structure Kp(D:Nat->Prop)(w w':World):Prop where
 os:w'.os=w.os
 tape:w'.tape=w.tape
 output:w'.output=w.output
 size:w.heap.size<=w'.heap.size
 block:∀k,k<w.heap.size->¬D k->w'.heap[k]?=w.heap[k]?
section
variable {D D':Nat->Prop} {w w' a b c:World}
theorem Kp.refl(D:Nat->Prop)(w:World):Kp D w w:=⟨rfl,rfl,rfl,T9 _,fun _ _ _=>rfl⟩
theorem Kp.rr{D:Nat->Prop}{w:World}:Kp D w w:=Kp.refl D w
theorem Kp.trans(d:Kp D a b)(k:Kp D b c):Kp D a c:=
 ⟨k.os.trans d.os,k.tape.trans d.tape,k.output.trans d.output,TL d.size k.size,
  fun g f e=>(k.block g (Tx f d.size) e).trans (d.block g f e)⟩
theorem Kp.weak(d:Kp D a b)(f:∀c,c<a.heap.size->D c->D' c):Kp D' a b:=
 ⟨d.os,d.tape,d.output,d.size,fun c e g=>d.block c e fun h=>g (f c e h)⟩
theorem Kp.below(c:Kp D a b)(n:Nat)(g:n<=a)(e:∀d,d<n->¬D d):Below n a b:=
 ⟨c.os,c.tape,c.output,c.size,fun d f=>c.block d Zm (e d f)⟩
theorem Kp.alloc(c:Kp D a b)(f:Obj):Kp D a (b.alloc f):=
 ⟨c.os,c.tape,c.output,by simp;exact Uw c.size,fun e d g=>(Wo b f e (Tx d c.size)).trans (c.block e d g)⟩
theorem Kp.drew(c:Kp D a b):Kp D a b.drew:=⟨c.os,c.tape,c.output,c.size,c.block⟩
theorem Kp.drewN(c:Kp D a b)(n:Nat):Kp D a (b.drewN n):=⟨c.os,c.tape,c.output,c.size,c.block⟩
theorem Kp.setCell(c:Kp D a b){p:Addr}(h:p.block<a->D p.block)(v:Value):Kp D a (b.setCell p v):=
 ⟨c.os,c.tape,c.output,by simp[World.setCell];exact c.size,
  fun f e d=>(Below.heap_setCell b p v f (fun g=>d (by subst g;exact h e))).trans (c.block f e d)⟩
theorem SC{g:Nat}(c:Kp (·=g) a b){k:Nat}{v:Value}:Kp (·=g) a (b.setCell (g,k) v):=c.setCell (p:=⟨g,k,none⟩) (fun _=>rfl) v
theorem nH{g:Nat}(c:Kp (·=g) a b:=by(repeat (first|with_reducible exact Kp.rr|with_reducible refine SC ?_))):Kp (·=g) a b:=c
theorem Kp.cell(d:Kp D a b){k c:Nat}(f:k<a)(e:¬D k):b.cell? (k,c)=a.cell? (k,c):=
 Un (d.block k f e)
theorem Kp.frozen(d:Kp D a b){k c:Nat}(f:k<a)(e:¬D k):b.frozen? (k,c)=a.frozen? (k,c):=
 World.frozen?_of_block (d.block k f e)
abbrev Ext(w w':World):Prop:=Kp (fun _=>False) w w'
theorem Kp.any(c:Ext a b):Kp D a b:=c.weak fun _ _ d=>d.elim
theorem Ext.Jd{w w':World}(a:Ext w w'):Below w w w':=Kp.below a _ (T9 _) fun _ _ b=>b
theorem Kp.je(e:Ext a b){k d:Nat}{v:Value}(c:a.cell? (k,d)=some v):b.cell? (k,d)=some v:=
 (e.cell (jc c) (fun f=>f)).trans c
theorem Kp.lL(e:Kp D a b){k d:Nat}{v:Value}(c:a.cell? (k,d)=some v)(f:¬D k):b.cell? (k,d)=some v:=
 (e.cell (jc c) f).trans c
theorem Kp.KD{f:Obj}(d:Ext (a.alloc f) b){k c:Nat}{v:Value}(e:a.cell? (k,c)=some v):b.cell? (k,c)=some v:=
 d.je (((Kp.refl _ _).alloc _:Ext a _).je e)
inductive KX(D:Nat->Prop)(w:World):World->Prop
 |r:KX D w w
 |a {b:World} {o:Obj}:KX D w b->KX D w (b.alloc o)
 |d {b:World}:KX D w b->KX D w b.drew
 |n {b:World} {k:Nat}:KX D w b->KX D w (b.drewN k)
 |h {b:World}:Kp D w b->KX D w b
theorem KX.k{D:Nat->Prop}{w b:World}(h:KX D w b):Kp D w b:=by
 induction h with
 |r=>exact Kp.refl _ _
 |a _ c=>exact c.alloc _
 |d _ c=>exact c.drew
 |n _ c=>exact c.drewN _
 |h h=>exact h
theorem kx{D:Nat->Prop}{w b:World}(a:KX D w b:=by repeat (first|assumption|constructor)):Kp D w b:=a.k
theorem Hu{W d:World}(f:Ext W d):(∀b a,b<W.heap.size->d.cell? ⟨b,a,none⟩=W.cell? ⟨b,a,none⟩)/\(∀b a,b<W.heap.size->d.frozen? ⟨b,a,none⟩=W.frozen? ⟨b,a,none⟩):=
 ⟨fun _ _ c=>f.cell c fun e=>e,fun _ _ c=>f.frozen c fun e=>e⟩
end
theorem jf{p0 a:Prop}(h0:p0)(b:a):Zz p0/\Zz a:=⟨Zy h0,Zy b⟩
theorem jB{p0 a b:Prop}(h0:p0)(c:a)(d:b):Zz p0/\Zz a/\Zz b:=⟨Zy h0,Zy c,Zy d⟩
theorem jU{p0 a b c:Prop}(h0:p0)(d:a)(e:b)(f:c):Zz p0/\Zz a/\Zz b/\Zz c:=⟨Zy h0,Zy d,Zy e,Zy f⟩
theorem ni{p0 a b c d:Prop}(h0:p0)(e:a)(f:b)(g:c)(h:d):Zz p0/\Zz a/\Zz b/\Zz c/\Zz d:=⟨Zy h0,Zy e,Zy f,Zy g,Zy h⟩
theorem nE{p0 a b c d e:Prop}(h0:p0)(f:a)(g:b)(h:c)(i:d)(j:e):Zz p0/\Zz a/\Zz b/\Zz c/\Zz d/\Zz e:=⟨Zy h0,Zy f,Zy g,Zy h,Zy i,Zy j⟩
theorem qA{p0 a b c d e f:Prop}(h0:p0)(g:a)(h:b)(i:c)(j:d)(k:e)(l:f):Zz p0/\Zz a/\Zz b/\Zz c/\Zz d/\Zz e/\Zz f:=⟨Zy h0,Zy g,Zy h,Zy i,Zy j,Zy k,Zy l⟩
theorem wL{p0 a b c d e f g:Prop}(h0:p0)(h:a)(i:b)(j:c)(k:d)(l:e)(m:f)(n:g):Zz p0/\Zz a/\Zz b/\Zz c/\Zz d/\Zz e/\Zz f/\Zz g:=⟨Zy h0,Zy h,Zy i,Zy j,Zy k,Zy l,Zy m,Zy n⟩
theorem sV{p0 a b c d e f g h:Prop}(h0:p0)(i:a)(j:b)(k:c)(l:d)(m:e)(n:f)(o:g)(p:h):Zz p0/\Zz a/\Zz b/\Zz c/\Zz d/\Zz e/\Zz f/\Zz g/\Zz h:=⟨Zy h0,Zy i,Zy j,Zy k,Zy l,Zy m,Zy n,Zy o,Zy p⟩
def hZ(w:World)(g:Nat)(t:TypeId)(cs:Array Value):Prop:=w.heap[g]?=some (.cells cs t (0,0))
section
variable {w w':World} {g:Nat} {t:TypeId} {cs:Array Value}
theorem hZ.lt(a:hZ w g t cs):g<w:=by
 rcases Uc g w with c|b
 . exact c
 . unfold hZ at a;rw[Ub b]at a;cases a
theorem hZ.cell(a:hZ w g t cs)(i:Nat):w.cell? (g,i)=cs[i]?:=by
 unfold hZ at a;simp[World.cell?,a]
theorem hZ.c(a:hZ w g t cs)(i:Nat)(v:Value)(b:cs[i]?=some v):w.cell? (g,i)=some v:=(a.cell i).trans b
theorem hZ.frozen(a:hZ w g t cs)(i:Nat):w.frozen? (g,i)=false:=by
 unfold hZ at a;simp[World.frozen?,a]
def Qd(w:World)(g:Nat):List Nat->List Value->Prop
 |i::r,v::l=>w.cell? ⟨g,i,none⟩=some v/\Qd w g r l
 |_,_=>True
def Qc{T:Type}(W:T->World)(g:Nat):List Nat->List Value->Prop
 |i::r,v::l=>(∀z,(W z).cell? ⟨g,i,none⟩=some v)/\Qc W g r l
 |_,_=>True
def Rx(w:World)(g:Nat):List Nat->Prop
 |i::r=>w.frozen? ⟨g,i,none⟩=false/\Rx w g r
 |_=>True
theorem Qd.of{w:World}{g:Nat}:∀(n k:Nat) (l:List Value),(∀a b,l[a]?=some b->w.cell? ⟨g,k+a,none⟩=some b)->Qd w g (List.range' k n) l
 |0,_,_,_=>by simp[Qd]
 |n+1,k,[],_=>by simp[VF,Qd]
 |n+1,k,b::l,h=>by
  rw[VF];exact⟨h 0 b rfl,Qd.of n (k+1) l fun a d c=>by have:=h (a+1) d c;rwa[Nat.add_right_comm,<-Ue]at*⟩
theorem Qc.of{d:Type}{W:d->World}{g:Nat}:∀(n k:Nat) (l:List Value),(∀a b,l[a]?=some b->∀c,(W c).cell? ⟨g,k+a,none⟩=some b)->Qc W g (List.range' k n) l
 |0,_,_,_=>by simp[Qc]
 |n+1,k,[],_=>by simp[VF,Qc]
 |n+1,k,b::l,h=>by
  rw[VF];exact⟨h 0 b rfl,Qc.of n (k+1) l fun a f e c=>by have:=h (a+1) f e c;rwa[Nat.add_right_comm,<-Ue]at*⟩
theorem Rx.of{w:World}{g:Nat}(b:∀i,w.frozen? ⟨g,i,none⟩=false):∀a:List Nat,Rx w g a
 |[]=>trivial
 |i::a=>⟨b i,Rx.of b a⟩
theorem hZ.ca(a:hZ w g t cs):g<w/\Qd w g [0,1,2,3,4,5,6,7,8,9,10,11] cs.toList:=
 ⟨a.lt,Qd.of 12 0 _ fun c d b=>by rw[Tm];exact a.c c d (by rw[<-Array.getElem?_toList];exact b)⟩
theorem hZ.lC{c:Type}{W:c->World}(b:∀a,hZ (W a) g t cs):(∀a,g<(W a).heap.size)/\Qc W g [0,1,2,3,4,5,6,7,8,9,10,11] cs.toList:=
 ⟨fun a=>(b a).lt,Qc.of 12 0 _ fun e f d a=>by rw[Tm];exact(b a).c e f (by rw[<-Array.getElem?_toList];exact d)⟩
theorem hZ.fz(a:hZ w g t cs):Rx w g [0,1,2,3,4,5,6,7,8,9,10,11]:=Rx.of (fun b=>a.frozen b) _
theorem hZ.keep(a:hZ w g t cs)(b:w'.heap[g]?=w.heap[g]?):hZ w' g t cs:=b.trans a
theorem hZ.ext(a:hZ w g t cs)(b:Ext w w'):hZ w' g t cs:=(b.block g a.lt fun c=>c).trans a
theorem hZ.kp{D:Nat->Prop}(a:hZ w g t cs)(b:Kp D w w')(c:¬D g):hZ w' g t cs:=(b.block g a.lt c).trans a
theorem hZ.new(w:World)(t:TypeId)(cs:Array Value):hZ (w.alloc (.cells cs t)) w t cs:=by
 unfold hZ World.alloc;simp
theorem nu(w:World)(cs:Array Value)(t:TypeId):∃a,a=w.alloc (.cells cs t)/\Ext w a/\hZ a w t cs:=⟨_,rfl,(Kp.refl _ _).alloc _,hZ.new _ _ _⟩
theorem hZ.jy(a:hZ w g t cs)(i:Nat)(b:Value):hZ (w.setCell (g,i) b) g t (cs.setIfInBounds i b):=by
 unfold hZ at a |-;simp[World.setCell,Array.getElem?_modify,a]
end
def hH(w:World)(b o:Nat)(cs:List Value):Prop:=∀j v,cs[j]?=some v->w.cell? ⟨b,o+j,none⟩=some v
abbrev lZ(α:Type):=World->(Nat->Prop)->α->List Value->Prop
def SliceOf{α:Type}(k:Nat)(R:lZ α)(w:World)(I:Nat->Prop)(v:Value)(xs:List α):Prop:=
 ∃a cap,v=.slice a xs.length cap/\xs.length<=cap/\xs.length<=4294967296/\
  ∀i x,xs[i]?=some x->∃b off cs,a=some ⟨b,off,none⟩/\I b/\R w I x cs/\cs.length=k/\hH w b (off+i*k) cs
theorem st2{w:World}{b:Nat}{t:TypeId}{u0 u1:Value}(c:hZ w b t #[u0,u1])(d e:Value):∃a,a=(w.setCell b d).setCell (b,1) e/\hZ a b t #[d,e]/\Kp (·=b) w a:=
 ⟨_,rfl,by have c:=((c.jy 0 d).jy 1 e);simpa using c,nH⟩
theorem SN{w:World}{b:Nat}{t:TypeId}{u0 u1 u2:Value}(c:hZ w b t #[u0,u1,u2])(d e f:Value):∃a,a=((w.setCell b d).setCell (b,1) e).setCell (b,2) f/\hZ a b t #[d,e,f]/\Kp (·=b) w a:=
 ⟨_,rfl,by have c:=(((c.jy 0 d).jy 1 e).jy 2 f);simpa using c,nH⟩
theorem SQ{w:World}{b:Nat}{t:TypeId}{u0 u1 u2 u3 u4:Value}(c:hZ w b t #[u0,u1,u2,u3,u4])(d e f g h:Value):∃a,a=((((w.setCell b d).setCell (b,1) e).setCell (b,2) f).setCell (b,3) g).setCell (b,4) h/\hZ a b t #[d,e,f,g,h]/\Kp (·=b) w a:=
 ⟨_,rfl,by have c:=(((((c.jy 0 d).jy 1 e).jy 2 f).jy 3 g).jy 4 h);simpa using c,nH⟩
theorem Kb{w:World}{b:Nat}{t:TypeId}{u0 u1 u2 u3 u4 u5:Value}(c:hZ w b t #[u0,u1,u2,u3,u4,u5])(d e f g h i:Value):∃a,a=(((((w.setCell b d).setCell (b,1) e).setCell (b,2) f).setCell (b,3) g).setCell (b,4) h).setCell (b,5) i/\hZ a b t #[d,e,f,g,h,i]/\Kp (·=b) w a:=
 ⟨_,rfl,by have c:=((((((c.jy 0 d).jy 1 e).jy 2 f).jy 3 g).jy 4 h).jy 5 i);simpa using c,nH⟩
theorem SI{w:World}{b:Nat}{t:TypeId}{u0 u1 u2 u3 u4 u5 u6 u7:Value}(c:hZ w b t #[u0,u1,u2,u3,u4,u5,u6,u7])(d e f g h i j k:Value):∃a,a=(((((((w.setCell b d).setCell (b,1) e).setCell (b,2) f).setCell (b,3) g).setCell (b,4) h).setCell (b,5) i).setCell (b,6) j).setCell (b,7) k/\hZ a b t #[d,e,f,g,h,i,j,k]/\Kp (·=b) w a:=
 ⟨_,rfl,by have c:=((((((((c.jy 0 d).jy 1 e).jy 2 f).jy 3 g).jy 4 h).jy 5 i).jy 6 j).jy 7 k);simpa using c,nH⟩
theorem OJ{w:World}{b:Nat}{t:TypeId}{u0 u1 u2 u3 u4 u5 u6 u7 u8:Value}(c:hZ w b t #[u0,u1,u2,u3,u4,u5,u6,u7,u8])(d e f g h i j k l:Value):∃a,a=((((((((w.setCell b d).setCell (b,1) e).setCell (b,2) f).setCell (b,3) g).setCell (b,4) h).setCell (b,5) i).setCell (b,6) j).setCell (b,7) k).setCell (b,8) l/\hZ a b t #[d,e,f,g,h,i,j,k,l]/\Kp (·=b) w a:=
 ⟨_,rfl,by have c:=(((((((((c.jy 0 d).jy 1 e).jy 2 f).jy 3 g).jy 4 h).jy 5 i).jy 6 j).jy 7 k).jy 8 l);simpa using c,nH⟩
theorem hH.keep{w d:World}{b a:Nat}{cs:List Value}(e:hH w b a cs)(g:∀a c,w.cell? ⟨b,a,none⟩=some c->d.cell? ⟨b,a,none⟩=some c):hH d b a cs:=
 fun h c f=>g _ _ (e h c f)
def Same(I:Nat->Prop)(w w':World):Prop:=∀b o v,I b->w.cell? ⟨b,o,none⟩=some v->w'.cell? ⟨b,o,none⟩=some v
theorem Ext.same{I:Nat->Prop}{w a:World}(b:Ext w a):Same I w a:=fun _ _ _ _ c=>Kp.je b c
theorem Kp.same{I D:Nat->Prop}{w b:World}(c:Kp D w b)(hI:∀a,I a->¬D a):Same I w b:=fun a _ _ d e=>c.lL e (hI a d)
def jM{α:Type}(R:lZ α):Prop:=∀(w w':World) (I J:Nat->Prop) (x:α) (cs:List Value),Same I w w'->(∀b,I b->J b)->R w I x cs->R w' J x cs
theorem SliceOf.keep{α:Type}{k:Nat}{R:lZ α}(hR:jM R){w e:World}{I J:Nat->Prop}{v:Value}{xs:List α}(l:SliceOf k R w I v xs)(d:Same I w e) (c:∀a,I a->J a):SliceOf k R e J v xs:=by
 obtain⟨f,g,i,m,n,o⟩:=l;refine⟨f,g,i,m,n,fun t y s=>?_⟩;obtain⟨a,x,h,j,b,r,q,p⟩:=o t y s;exact⟨a,x,h,j,c a b,hR _ _ _ _ _ _ d c r,q,p.keep fun u v=>d a u v b⟩
theorem SliceOf.ext{α:Type}{k:Nat}{R:lZ α}{w b:World}{I:Nat->Prop}{v:Value}{xs:List α}(a:SliceOf k R w I v xs)(hR:jM R)(c:Ext w b):SliceOf k R b I v xs:=
 a.keep hR (Ext.same c) fun _ a=>a
theorem SliceOf.get{α:Type}{k:Nat}{R:lZ α}{w:World}{I:Nat->Prop}{a:Option Addr}{n e:Nat}{xs:List α}(g:SliceOf k R w I (.slice a n e) xs){i:Nat}{x:α}(j:xs[i]?=some x):∃b d c,a=some ⟨b,d,none⟩/\I b/\R w I x c/\c.length=k/\hH w b (d+i*k) c:=by
 obtain⟨l,m,f,o,p,h⟩:=g;cases f;exact h i x j
theorem SliceOf.form{α:Type}{k:Nat}{R:lZ α}{w:World}{I:Nat->Prop}{v:Value}{xs:List α}(d:SliceOf k R w I v xs):∃b a,v=.slice b xs.length a/\xs.length<=a/\xs.length<=4294967296:=by
 obtain⟨b,a,c,e,f,_⟩:=d;exact⟨b,a,c,e,f⟩
theorem SliceOf.nil{α:Type}(k:Nat)(R:lZ α)(w:World)(I:Nat->Prop):SliceOf k R w I () ([]:List α):=
 ⟨none,0,rfl,T9 _,by simp,fun b c a=>by simp at a⟩
theorem SliceOf.take{α:Type}{k:Nat}{R:lZ α}{w:World}{I:Nat->Prop}{a:Option Addr}{n c:Nat}{xs:List α}(e:SliceOf k R w I (.slice a n c) xs){i:Nat}(g:i<=xs.length):SliceOf k R w I (.slice a i c) (xs.take i):=by
 obtain⟨l,m,d,o,p,f⟩:=e;cases d;refine⟨a,c,by rw[Tj,U5 g],by rw[Tj];omega,by rw[Tj];omega,fun h j b=>?_⟩;rw[Uu]at b;split at b
 . exact f h j b
 . cases b
def nC:lZ Kind:=fun _ _ x cs=>cs=[.int .i64 x.kind,.string x.name]
def kF:lZ Tag:=fun _ _ x cs=>cs=[.int .i64 x.kind,.string x.name]
def uN:lZ Ins:=fun _ _ x cs=>cs=[.int .i64 x.op,.int .i64 x.a,.string x.name,.string x.member]
def xI:lZ Ref:=fun _ _ x cs=>cs=[.int .i64 x.keeper,.string x.name]
def mQ:lZ M.Ask:=fun _ _ x cs=>cs=[.string x.name,.int .i64 x.keeper]
def lv:lZ M.Field:=fun _ _ x cs=>cs=[.string x.name,.int .i64 x.kind.kind,.string x.kind.name]
def oW:lZ Int:=fun _ _ x cs=>cs=[.int .i64 x]
def kM:lZ SMap:=fun w I x cs=>∃vl vs,cs=[.int .i64 x.at_,vl,vs]/\SliceOf 2 kF w I vl x.locals/\SliceOf 2 kF w I vs x.stack
def jd:lZ M.Method:=fun w I x cs=>∃va vc vm,cs=[.string x.name,va,.int .i64 x.ret.kind,.string x.ret.name,.int .i64 x.locals,.int .i64 x.stack,vc,vm]/\
 SliceOf 2 nC w I va x.args/\SliceOf 4 uN w I vc x.code/\SliceOf 3 kM w I vm x.maps
def jh:lZ Class:=fun w I x cs=>∃vf vm,cs=[.string x.name,.string x.jl,vf,vm]/\SliceOf 3 lv w I vf x.fields/\SliceOf 8 jd w I vm x.methods
def ja:lZ mD:=fun w I x cs=>∃vo va,cs=[vo,va]/\SliceOf 4 jh w I vo x.owns/\SliceOf 2 mQ w I va x.asks
theorem jd.form{w:World}{I:Nat->Prop}{x:M.Method}{cs:List Value}(g:jd w I x cs):∃a d b e c f,cs=[.string x.name,.slice a x.args.length d,.int .i64 x.ret.kind,.string x.ret.name,.int .i64 x.locals,.int .i64 x.stack,.slice b x.code.length e,.slice c x.maps.length f]:=by
 obtain⟨_,_,_,rfl,h,i,j⟩:=g;obtain⟨a,d,rfl,_⟩:=h.form;obtain⟨b,e,rfl,_⟩:=i.form;obtain⟨c,f,rfl,_⟩:=j.form;exact⟨a,d,b,e,c,f,rfl⟩
theorem jh.form{w:World}{I:Nat->Prop}{x:Class}{cs:List Value}(e:jh w I x cs):∃a c b d,cs=[.string x.name,.string x.jl,.slice a x.fields.length c,.slice b x.methods.length d]:=by
 obtain⟨_,_,rfl,f,g⟩:=e;obtain⟨a,c,rfl,_⟩:=f.form;obtain⟨b,d,rfl,_⟩:=g.form;exact⟨a,c,b,d,rfl⟩
theorem ja.form{w:World}{I:Nat->Prop}{x:mD}{cs:List Value}(e:ja w I x cs):∃a c b d,cs=[.slice a x.owns.length c,.slice b x.asks.length d]:=by
 obtain⟨_,_,rfl,f,g⟩:=e;obtain⟨a,c,rfl,_⟩:=f.form;obtain⟨b,d,rfl,_⟩:=g.form;exact⟨a,c,b,d,rfl⟩
theorem kM.form{w:World}{I:Nat->Prop}{x:SMap}{cs:List Value}(e:kM w I x cs):∃a c b d,cs=[.int .i64 x.at_,.slice a x.locals.length c,.slice b x.stack.length d]:=by
 obtain⟨_,_,rfl,f,g⟩:=e;obtain⟨a,c,rfl,_⟩:=f.form;obtain⟨b,d,rfl,_⟩:=g.form;exact⟨a,c,b,d,rfl⟩
theorem nC.stays:jM nC:=fun _ _ _ _ _ _ _ _ a=>a
theorem kF.stays:jM kF:=fun _ _ _ _ _ _ _ _ a=>a
theorem uN.stays:jM uN:=fun _ _ _ _ _ _ _ _ a=>a
theorem xI.stays:jM xI:=fun _ _ _ _ _ _ _ _ a=>a
theorem mQ.stays:jM mQ:=fun _ _ _ _ _ _ _ _ a=>a
theorem lv.stays:jM lv:=fun _ _ _ _ _ _ _ _ a=>a
theorem oW.stays:jM oW:=fun _ _ _ _ _ _ _ _ a=>a
theorem kM.stays:jM kM:=fun _ _ _ _ _ _ b a ⟨c,vs,e,h1,h2⟩=>⟨c,vs,e,h1.keep kF.stays b a,h2.keep kF.stays b a⟩
theorem jd.stays:jM jd:=fun _ _ _ _ _ _ b a ⟨c,vc,vm,e,h1,h2,h3⟩=>
 ⟨c,vc,vm,e,h1.keep nC.stays b a,h2.keep uN.stays b a,h3.keep kM.stays b a⟩
theorem jh.stays:jM jh:=fun _ _ _ _ _ _ b a ⟨c,vm,e,h1,h2⟩=>⟨c,vm,e,h1.keep lv.stays b a,h2.keep jd.stays b a⟩
theorem ja.stays:jM ja:=fun _ _ _ _ _ _ b a ⟨c,va,e,h1,h2⟩=>⟨c,va,e,h1.keep jh.stays b a,h2.keep mQ.stays b a⟩
theorem hH.two{w:World}{b a:Nat}{x y:Value}(c:hH w b a [x,y]):w.cell? (b,a)=some x/\w.cell? (b,a+1)=some y:=
 ⟨by simpa using c 0 x rfl,c 1 y rfl⟩
theorem hH.one{w:World}{b a:Nat}{x:Value}(c:hH w b a [x]):w.cell? (b,a)=some x:=by simpa using c 0 x rfl
theorem hH.three{w:World}{b a:Nat}{x y z:Value}(c:hH w b a [x,y,z]):w.cell? (b,a)=some x/\w.cell? (b,a+1)=some y/\w.cell? (b,a+2)=some z:=
 ⟨by simpa using c 0 x rfl,c 1 y rfl,c 2 z rfl⟩
theorem hH.four{w:World}{b a:Nat}{x y z d:Value}(c:hH w b a [x,y,z,d]):w.cell? (b,a)=some x/\w.cell? (b,a+1)=some y/\w.cell? (b,a+2)=some z/\w.cell? (b,a+3)=some d:=
 ⟨by simpa using c 0 x rfl,c 1 y rfl,c 2 z rfl,c 3 d rfl⟩
theorem hH.eight{w:World}{b a:Nat}{d e f g h i j k:Value}(c:hH w b a [d,e,f,g,h,i,j,k]):w.cell? (b,a)=some d/\w.cell? (b,a+1)=some e/\w.cell? (b,a+2)=some f/\w.cell? (b,a+3)=some g/\w.cell? (b,a+4)=some h/\w.cell? (b,a+5)=some i/\w.cell? (b,a+6)=some j/\w.cell? (b,a+7)=some k:=
 ⟨by simpa using c 0 d rfl,c 1 e rfl,c 2 f rfl,c 3 g rfl,c 4 h rfl,c 5 i rfl,c 6 j rfl,c 7 k rfl⟩
theorem hH.ext{w c:World}{b a:Nat}{cs:List Value}(d:hH w b a cs)(e:Ext w c):hH c b a cs:=fun g h f=>e.je (d g h f)
theorem hH.kp{D:Nat->Prop}{w c:World}{b a:Nat}{cs:List Value}(d:hH w b a cs)(g:Kp D w c)(e:¬D b):hH c b a cs:=fun h i f=>g.lL (d h i f) e
theorem jg{D:Nat->Prop}{w:World}:Kp D w w.drew:=(Kp.refl D w).drew
theorem jw{D:Nat->Prop}{w:World}(a:Obj):Kp D w (w.alloc a):=(Kp.refl D w).alloc a
theorem hQ{a b:Bool}(c:a=b):Ending.returned (.bool a)=.returned (.bool b):=by rw[c]
theorem mh(s:ByteArray):s.toList.isEmpty=decide (s=none_):=by
 rw[Ut];obtain⟨⟨a⟩⟩:=s;cases a<;>simp[none_]
theorem Ct(s:ByteArray)(k:Nat)(a:k<s.size):s.data.toList.take (k+1)=s.data.toList.take k++[s[k]]:=by
 rw[VT (by simpa using a)];rfl
theorem AL(s:ByteArray)(k:Nat)(c:k<s.size)(a:letter s[k]=false):jJ s=false:=by
 have b:s[k]∈s.data.toList:=by simp[ByteArray.getElem_eq_getElem_data]
 unfold jJ;rw[Ws.2 ⟨_,b,by simp[a]⟩];simp
theorem DJ{c:UInt8}(a:(c.toNat:Int)<97):letter c=false:=by
 unfold letter;rw[SL Zm];rfl
theorem DK{c:UInt8}(a:(c.toNat:Int)<97\/122<(c.toNat:Int)):letter c=false:=by
 unfold letter;rcases a with a|a
 . rw[SL Zm];rfl
 . rw[SL (p:=c.toNat<=122) Zm];simp
theorem DL{c:UInt8}(a:97<=(c.toNat:Int)/\(c.toNat:Int)<=122):letter c=true:=by
 unfold letter;rw[Tz Zm,Tz Zm];rfl
theorem Be{s:ByteArray}{w:World}:Calls prog 64 #[s] w fun g h=>g=.returned (.bool (jJ s))/\w=h:=by
 by_cases i:s.size<1
 . go_enter func64,ntmps64;go_wp2;go_ret;exact⟨hQ (by unfold jJ;rw[SL Zm];rfl),rfl⟩
 by_cases j:6<s.size
 . go_enter func64,ntmps64;go_wp2;go_ret;exact⟨hQ (by unfold jJ;rw[SL (p:=s.size<=6) Zm];simp),rfl⟩
 go_enter func64,ntmps64;go_wp2;go_loop [3] (fun c=>∃a:Nat,a<=s.size/\c=.int .i64 a/\(s.data.toList.take a).all letter=true) (fun c=>s.size - (intOf c).toNat)
 case atStart=>exact⟨0,SV _,rfl,by simp⟩
 case round =>
  obtain⟨a,k,rfl,f⟩:=hrel;have d:=Zy f;clear f;by_cases b:a<s.size
  . go_wp2
    . go_ret;exact⟨hQ (AL s a b (DK Zp)).symm,rfl⟩
    . go_round
      case rel=>
       refine⟨a+1,Zm,by go_num,?_⟩;rw[Ct s a b,We,d.o];simp[DL (c:=s[a]) Zp]
      case measure=>simp[intOf];omega
    . go_ret;exact⟨hQ (AL s a b (DJ Zp)).symm,rfl⟩
  . go_wp2;go_ret;refine⟨hQ ?_,rfl⟩;have e:=d.o;rw[TV Zr]at e;unfold jJ;rw[e,Tz Zm,Tz Zm];rfl
theorem mf(s:ByteArray)(w:World):Calls prog 24 #[s] w fun a b=>a=.returned (.bool (jJ s))/\w=b:=by
 go_enter func24,ntmps24;go_wp2_with (go_at_call 64;refine(Be).mono ?_;rintro a b ⟨rfl,rfl⟩);go_ret;exact⟨rfl,rfl⟩
theorem GU(n:Int)(w:World):Calls prog 42 #[n] w fun a b=>a=.returned (.bool (decide (-9999<=n)&&decide (n<=9999)))/\w=b:=by
 go_enter func42,ntmps42;go_wp2
 . go_ret;exact⟨hQ (by rw[Tz (p:= -9999<=n) Zm];rfl),rfl⟩
 . go_ret;exact⟨hQ (by rw[SL (p:= -9999<=n) Zm];rfl),rfl⟩
theorem CY(n:Int){w:World}:Calls prog 89 #[n] w fun a b=>a=.returned (.agg #[.int .i64 1,n])/\Ext w b:=by
 go_enter func89,ntmps89;go_wp2;refine Cv (v:=.agg #[.int .i64 1,n]) (by simp[results,results89,go_sem]) rfl ?_;exact⟨rfl,(jw _)⟩
theorem IE{w:World}:Calls prog 145 #[] w fun a b=>a=.returned (.agg #[.int .i64 3,Tc])/\Ext w b:=by
 go_enter func145,ntmps145;go_wp2;refine Cv (v:=.agg #[.int .i64 3,Tc]) (by simp[results,results145,go_sem]) rfl ?_;exact⟨rfl,(jw _)⟩
def O0(k:Kind)(e:Ending):Prop:=(nN k=true/\∃t x,e=.returned (.iface t x))\/(nN k=false/\e=.returned .nilIface)
theorem Pv{n:ByteArray}(a:n.toList.isEmpty=true):nN ⟨1,n⟩=true:=by
 rw[mh]at a;simp[nN,a]
theorem NH{n:ByteArray}(a:n.toList.isEmpty=false):nN ⟨1,n⟩=false:=by
 rw[mh]at a;simp[nN,a]
theorem Pw{k:Int}{n:ByteArray}(a:k=2):nN ⟨k,n⟩=jJ n:=by
 subst a;simp[nN]
theorem Pt{k:Int}{n:ByteArray}(a:¬k=1)(b:¬k=2):nN ⟨k,n⟩=false:=by
 simp[nN,a,b]
theorem OG(k:Kind){w:World}:Calls prog 189 #[.agg #[k.kind,k.name]] w fun d i=>O0 k d/\Ext w i:=by
 obtain⟨kk,b⟩:=k;by_cases e:kk=1
 . subst e;cases h:b.toList.isEmpty
   . go_enter func189,ntmps189;go_wp2;go_ret;exact⟨.inr ⟨NH h,rfl⟩,(jw _)⟩
   . go_enter func189,ntmps189;go_wp2;go_ret;exact⟨.inl ⟨Pv h,_,_,rfl⟩,(jw _)⟩
 . by_cases f:kk=2
   . have c:=Zy (Pw (n:=b) f);cases g:jJ b
     all_goals
      have a:=Zy g;clear g;go_enter func189,ntmps189;go_wp2_with (go_at_call 64;refine(Be).mono ?_;rintro d i ⟨rfl,rfl⟩;rw[a.o]);go_ret
     . exact⟨.inr ⟨by rw[c.o,a.o],rfl⟩,(jw _)⟩
     . exact⟨.inl ⟨by rw[c.o,a.o],_,_,rfl⟩,(jw _)⟩
   . go_enter func189,ntmps189;go_wp2;go_ret;exact⟨.inr ⟨Pt e f,rfl⟩,(jw _)⟩
theorem Bv(k:Kind){w:World}:Calls prog 148 #[.agg #[k.kind,k.name]] w fun b c=>b=.returned (.bool (nN k))/\Ext w c:=by
 go_enter func148,ntmps148;go_wp2_with fail;refine(OG k).mono ?_;rintro b f ⟨⟨a,e,g,rfl⟩|⟨a,rfl⟩,d⟩
 . go_wp2;go_ret;exact⟨hQ a.symm,Zv⟩
 . go_wp2;go_ret;exact⟨hQ a.symm,Zv⟩
theorem Hc{k:Int}{n:ByteArray}(a:k=0\/k=1\/k=3):sZ ⟨k,n⟩=n.toList.isEmpty:=by
 unfold sZ;rw[Tv a,mh]
theorem PX{k:Int}{n:ByteArray}(a:k=2):sZ ⟨k,n⟩=jJ n:=by
 subst a;rfl
theorem PY{k:Int}{n:ByteArray}(h0:¬k=0)(a:¬k=1)(b:¬k=2)(c:¬k=3):sZ ⟨k,n⟩=false:=by
 simp[sZ,h0,a,b,c]
theorem Rp(k:Tag){w:World}:Calls prog 233 #[.agg #[k.kind,k.name]] w fun c h=>c=.returned (.bool (sZ k))/\Ext w h:=by
 obtain⟨kk,b⟩:=k;by_cases d:kk=0
 . have a:=Zy (Hc (n:=b) (.inl d));go_enter func233,ntmps233;go_wp2;go_ret;exact⟨hQ a.symm,(jw _)⟩
 by_cases e:kk=1
 . have a:=Zy (Hc (n:=b) (.inr (.inl e)));go_enter func233,ntmps233;go_wp2;go_ret;exact⟨hQ a.symm,(jw _)⟩
 by_cases g:kk=3
 . have a:=Zy (Hc (n:=b) (.inr (.inr g)));go_enter func233,ntmps233;go_wp2;go_ret;exact⟨hQ a.symm,(jw _)⟩
 by_cases f:kk=2
 . have a:=Zy (PX (n:=b) f);go_enter func233,ntmps233;go_wp2_with (go_at_call 24;refine(mf _ _).mono ?_;rintro c h ⟨rfl,rfl⟩);go_ret;exact⟨hQ a.symm,(jw _)⟩
 . go_enter func233,ntmps233;go_wp2;go_ret;exact⟨hQ (PY d e f g).symm,(jw _)⟩
open Go Tryz M
namespace M
def bs(l:List UInt8):ByteArray:=⟨⟨l⟩⟩
theorem Bn{a b:List UInt8}(c:bs a=bs b):a=b:=by
 have:=congrArg (fun d:ByteArray=>d.data.toList) c;exact this
def mV:List UInt8->List UInt8->List (List UInt8)
 |cur,[]=>[cur]
 |cur,c::r=>if c=32 then cur::mV [] r else mV (cur++[c]) r
def words(s:ByteArray):List ByteArray:=(mV [] s.data.toList).map bs
theorem ug:∀(a b:List UInt8),32 ∉ a->mV b a=[b++a]
 |[],b,_=>by simp[mV]
 |c::r,b,h=>by
  have e:c≠32:=fun d=>h (by simp[d]);rw[mV,Tt e,ug r _ (fun d=>h (by simp[d]))];simp
theorem pg:∀(a b d:List UInt8),32 ∉ a->mV d (a++32::b)=(d++a)::mV [] b
 |[],b,d,_=>by simp[mV]
 |c::r,b,d,h=>by
  have f:c≠32:=fun e=>h (by simp[e]);rw[TF,mV,Tt f,pg r b _ (fun e=>h (by simp[e]))];simp
theorem Kh(a:List UInt8):∀c,mV c a≠[]:=by
 induction a with
 |nil=>intro c b;simp[mV]at b
 |cons e f d=>
  intro c b;rw[mV]at b;split at b
  . cases b
  . exact d _ b
def digit(n:Int):List UInt8:=[UInt8.ofNat (48+n.toNat)]
structure OW where
 kind:Int
 keeper:Int
 name:ByteArray
 dst:Int
deriving DecidableEq
def zu(c:OW):Bool:=decide (0<=c.keeper)&&(decide (c.keeper<=2)&&(jJ c.name&&(if c.kind=3 then decide (0<=c.dst)&&decide (c.dst<=2)else(decide (c.kind=2)|| decide (c.kind=4))&&decide (c.dst=0))))
def Qt:List UInt8:=[116,97,107,101]
def RQ:List UInt8:=[97,115,107]
def Qm:List UInt8:=[102,114,101,101]
def CR(c:OW):List UInt8:=
 if c.kind=2 then Qt++32::(digit c.keeper++32::c.name.data.toList)
 else if c.kind=3 then RQ++32::(digit c.keeper++32::(c.name.data.toList++32::digit c.dst))
 else if c.kind=4 then Qm++32::(digit c.keeper++32::c.name.data.toList)
 else []
def qO(c:OW):ByteArray:=if zu c then bs (CR c)else bs []
theorem vH{s:ByteArray}(a:jJ s=true):(32:UInt8)∉ s.data.toList:=by
 intro b;unfold jJ at a;simp only[Ty,TY]at a;have:=a.2 _ b;revert this;decide
theorem sN{n:Int}(h0:0<=n)(a:n<=2):(32:UInt8)∉ digit n:=by
 have:n=0\/n=1\/n=2:=Zm
 rcases this with rfl|rfl|rfl<;>decide
theorem yP{m n:Int}(h0:0<=n)(f:n<=2)(d:0<=m)(e:m<=2)(c:digit m=digit n):m=n:=by
 have a:n=0\/n=1\/n=2:=Zm
 have b:m=0\/m=1\/m=2:=Zm
 rcases a with rfl|rfl|rfl<;>rcases b with rfl|rfl|rfl<;>first|rfl|exact absurd c Zn
theorem sS{c:OW}(b:zu c=true):0<=c.keeper/\c.keeper<=2/\jJ c.name=true/\((c.kind=3/\0<=c.dst/\c.dst<=2)\/((c.kind=2\/c.kind=4)/\c.dst=0)):=by
 unfold zu at b;simp only[Ty,Tq]at b;obtain⟨d,e,f,a⟩:=b;refine⟨d,e,f,?_⟩;split at a
 . rename_i g;simp only[Ty,Tq]at a;exact .inl ⟨g,a⟩
 . simp only[Ty,VZ,Tq]at a;exact .inr a
theorem EL{c:OW}(a:zu c=true)(f:c.kind=2):words (qO c)=[bs Qt,bs (digit c.keeper),c.name]:=by
 obtain⟨b,d,e,-⟩:=sS a;unfold qO words;rw[Tv a];unfold CR;rw[Tv f];simp only[bs];rw[pg _ _ _ Zn,pg _ _ _ (sN b d),ug _ _ (vH e)];rfl
theorem EK{c:OW}(a:zu c=true)(f:c.kind=4):words (qO c)=[bs Qm,bs (digit c.keeper),c.name]:=by
 obtain⟨b,d,e,-⟩:=sS a;unfold qO words;rw[Tv a];unfold CR;rw[Tt Zm,Tt Zm,Tv f];simp only[bs];rw[pg _ _ _ Zn,pg _ _ _ (sN b d),ug _ _ (vH e)];rfl
theorem F9{c:OW}(a:zu c=true)(g:c.kind=3):words (qO c)=[bs RQ,bs (digit c.keeper),c.name,bs (digit c.dst)]:=by
 obtain⟨d,e,f,h⟩:=sS a;have b:0<=c.dst/\c.dst<=2:=Zm
 unfold qO words;rw[Tv a];unfold CR;rw[Tt Zm,Tv g];simp only[bs];rw[pg _ _ _ Zn,pg _ _ _ (sN d e),pg _ _ _ (vH f),ug _ _ (sN b.1 b.2)];rfl
theorem Hw{c d:OW}(b:zu c=true)(e:zu d=true)(s:qO c=qO d):c=d:=by
 obtain⟨f,g,B,o⟩:=sS b;obtain⟨i,j,C,q⟩:=sS e;have a:words (qO c)=words (qO d):=by rw[s]
 have n:c.kind=d.kind/\c.keeper=d.keeper/\c.name=d.name/\c.dst=d.dst:=by
  rcases o with⟨h,l,p⟩|⟨h|h,l⟩<;>rcases q with⟨k,m,r⟩|⟨k|k,m⟩<;>
   simp only[F9 b,EL b,EK b,F9 e,EL e,EK e,h,k]at a<;>
   simp only[TH,List.nil_eq,List.cons_ne_nil,and_false,UF]at a
  . exact⟨Zm,yP i j f g (Bn a.2.1),a.2.2.1,yP m r l p (Bn a.2.2.2)⟩
  . exact⟨Zm,yP i j f g (Bn a.2.1),a.2.2,Zm⟩
  . exact absurd (Bn a.1) Zn
  . exact absurd (Bn a.1) Zn
  . exact⟨Zm,yP i j f g (Bn a.2.1),a.2.2,Zm⟩
 obtain⟨t,u,v,w⟩:=c;obtain⟨x,y,z,A⟩:=d;simp only at n;obtain⟨rfl,rfl,rfl,rfl⟩:=n;rfl
def Says(s:ByteArray):Option OW->Prop
 |some c=>zu c=true/\qO c=s
 |none=>¬∃c,zu c=true/\qO c=s
theorem Says.one{s:ByteArray}:∀{a b:Option OW},Says s a->Says s b->a=b
 |none,none,_,_=>rfl
 |none,some c,h,k=>absurd ⟨c,k⟩ h
 |some c,none,h,k=>absurd ⟨c,h⟩ k
 |some c,some d,h,k=>by rw[Hw h.1 k.1 (h.2.trans k.2.symm)]
end M
end Go.Proofs.YtlhgbjbkjalfjaaGreat
namespace Go.Proofs.YtlhgbjbkjalfjaaGreat
open Go Go.RowKit Tryz M
variable {cs xs: List Value}{base e k n t: Nat}{D I: Nat->Prop}{α: Type}{v z: Value}{a b w: World}
def Elem(t e k:Nat):Prop:=∃i z bytes,Tryz.prog.underlying t=some (.slice e)/\Tryz.prog.info? e=some i/\i.zero=some z/\i.size=k/\i.bytes=bytes/\z.cells.size=k/\0<k/\bytes<=4096
theorem kP{bytes:Nat}(j:prog.underlying t=some (.slice e))(h:(prog.info? e).map (fun a=>(a.zero,a.size,a.bytes))=some (some z,k,bytes))(l:z.cells.size=k) (i:0<k) (g:bytes<=4096):Elem t e k:=by
 obtain⟨a,b,c,d,f⟩:=info_parts h;exact⟨a,z,bytes,j,b,c,d,f,l,i,g⟩
theorem Al:Elem 26 3 1:=kP (z:=Tc) (bytes:=8) underlying26 Zo rfl Zn Zn
theorem Nh:Elem 121 60 2:=kP (z:=.agg #[Tc, ""]) (bytes:=24) underlying121 Zo rfl Zn Zn
theorem jb(d:a.ownsRow base e k v n xs)(m:Kp D a b)(l:∀c,v.ownBlock=some c->base<=c->¬D c):b.ownsRow base e k v n xs:=by
 refine⟨d.1,?_⟩;rcases d.2 with j|⟨c,h,i,rfl,g,f,o⟩
 . exact .inl j
 . exact .inr ⟨c,h,i,rfl,g,(m.block c (Tg.1 f).1 (l c rfl g)).trans f,o⟩
theorem jT(f:w.ownsRow base e k v n xs)(o:0<n):∃a b,v=.slice (some ⟨a,0,none⟩) n b/\base<=a/\a<w.heap.size/\n<=b:=by
 rcases f.2 with⟨_,m⟩|⟨d,c,l,j,h,g,i,_⟩
 . omega
 . exact⟨d,c,j,h,(Tg.1 g).1,i⟩
theorem Kp.own{D': Nat->Prop}(c:Kp D w a)(e:Kp D' a b)(g:∀d,D' d->w.heap.size<=d):Kp D w b:=
 ⟨e.os.trans c.os,e.tape.trans c.tape,e.output.trans c.output,TL c.size e.size,
  fun d f h=>(e.block d (Tx f c.size) (fun i=>absurd (g d i) (Nat.not_le.2 f))).trans (c.block d f h)⟩
theorem vC(r:Elem t e k)(w:World){q:Array Oper}{rest:List Oper}{j:Oper}{a:Act}{Q:Exit->Act->World->Prop}(G:j.guard=none)(s x:Operand)
    (M:j.op=.call {callee:=.builtin .append,args:=#[s,x],argTypes:=#[t,t]}) (base:Nat) (v:Value) (n:Nat) (xs:List Value) (O:a.eval s=v) (N:w.ownsRow base e k v n xs)
    (g c:Nat) (h:List Value) (T:a.eval x=.slice (some ⟨g,0,none⟩) 1 c) (hl:h.length=k) (L:hH w g 0 h) (z:∀o∈h,o.oneCell'=true)
    (K:n+1<=4294967296) (C:base<=w)
    (y:∀i b,b.ownsRow base e k i (n+1) (xs++h)->Kp (fun u=>v.ownBlock=some u) w b->(∃d l,i=.slice (some ⟨d,0,none⟩) (n+1) l/\base<=d/\d<b.heap.size)->wpList prog q Q rest (a.put j.dst i) b):
    wpList prog q Q (j::rest) a w:=by
 obtain⟨W,Y,bytes,R,H,U,P,D,V,m,A⟩:=r;refine wpList_append_own w G s x t M base e W Y k bytes R H U P D V m v n xs O N g 1 c h T Zm ?_ z (by unfold maxLen;omega) ?_ C ?_
 . intro X o I;have:=L X o I;rw[Tm]at this;unfold Addr.add;split
   . rename_i J;subst J;exact this
   . simpa using this
 . have:(n+1)*bytes<=4294967296*4096:=UL K A;omega
 . intro i b p f _;refine y i b p ⟨f.os,f.tape,f.output,f.size,fun k m E=>f.block k m (fun e=>E e.symm)⟩ ?_;rcases p.2 with⟨_,h4⟩|⟨d,l,Z,S,F,B,_⟩
   . omega
   . exact⟨d,l,S,F,(Tg.1 B).1⟩
theorem zm{F:Fence}{q:Nat}(u:Elem t e k)(w:World){r:Array Oper}{rest:List Oper}{j:Oper}{a:Act}{Q:Exit->Act->World->Prop}(I:j.guard=none)(s x:Operand)
    (O:j.op=.call {callee:=.builtin .append,args:=#[s,x],argTypes:=#[t,t]}) (base:Nat) (v:Value) (n:Nat) (xs:List Value) (R:a.eval s=v) (P:w.ownsRow base e k v n xs)
    (g c:Nat) (h:List Value) (V:a.eval x=.slice (some ⟨g,0,none⟩) 1 c) (hl:h.length=k) (N:hH w g 0 h) (A:∀o∈h,o.oneCell'=true)
    (M:n+1<=4294967296) (D:base<=w)
    (z:∀i b,b.ownsRow base e k i (n+1) (xs++h)->Kp (fun y=>v.ownBlock=some y) w b->(∃d l,i=.slice (some ⟨d,0,none⟩) (n+1) l/\base<=d/\d<b.heap.size)->wpListIn F q prog r Q rest (a.put j.dst i) b):
    wpListIn F q prog r Q (j::rest) a w:=by
 obtain⟨Y,aa,bytes,T,J,W,S,E,X,m,B⟩:=u;refine wpListIn_append_own w I s x t O base e Y aa k bytes T J W S E X m v n xs R P g 1 c h V Zm ?_ A (by unfold maxLen;omega) ?_ D ?_
 . intro Z o K;have:=N Z o K;rw[Tm]at this;unfold Addr.add;split
   . rename_i L;subst L;exact this
   . simpa using this
 . have:(n+1)*bytes<=4294967296*4096:=UL M B;omega
 . intro i b p f _;refine z i b p ⟨f.os,f.tape,f.output,f.size,fun k m G=>f.block k m (fun e=>G e.symm)⟩ ?_;rcases p.2 with⟨_,h4⟩|⟨d,l,ae,U,H,C,_⟩
   . omega
   . exact⟨d,l,U,H,(Tg.1 C).1⟩
theorem Ir{c: Type}{f:α->c}{l:List α}:l.map f=l.flatMap fun a=>[f a]:=by
 induction l with
 |nil=>rfl
 |cons a d b=>rw[UU,UA,b];rfl
theorem SliceOf.lS{R:lZ α}(enc:α->List Value){l:List α}(B:w.ownsRow base e k v n cs)(A:n=l.length) (u:cs=l.flatMap enc) (m:∀a∈l,(enc a).length=k) (hR:∀a∈l,R w I a (enc a)) (hI:∀h,base<=h->h<w.heap.size->I h) (z:l.length<=4294967296):SliceOf k R w I v l:=by
 have r:∀(l:List α),(∀a∈l,(enc a).length=k)->∀b a,l[b]?=some a->∀c f,(enc a)[c]?=some f->(l.flatMap enc)[b*k+c]?=some f:=by
  intro l;induction l with
  |nil=>intro _ b a s;simp at s
  | cons F K E =>
   intro o b a d c f g;have p:=o F Zl;rw[UA];cases b with
   |zero=>
    simp at d;subst d;rw[Te (by rw[Ua,Tm];exact(Tw.1 g).1),Ua,Tm];exact g
   |succ b=>
    rw[TS (by rw[p,UT];omega),p,show(b+1)*k+c - k=b*k+c from by rw[UT];omega];exact E (fun G D=>o G (by simp[D])) b a (by simpa using d) c f g
 subst A u;rcases B.2 with⟨rfl,t⟩|⟨i,q,H,rfl,x,j,y,_,J,C⟩
 . have:l=[]:=UN.1 t;subst this;exact SliceOf.nil _ _ _ _
 . refine⟨_,q,rfl,y,z,fun b a d=>⟨i,0,enc a,rfl,hI i x (Tg.1 j).1,hR a (RA d),m a (RA d),?_⟩⟩;intro c f g;have:=r l m b a d c f g;rw[<-C,Uu]at this;split at this
   . simp only[World.cell?,j];simpa [Tm]using this
   . cases this
end Go.Proofs.YtlhgbjbkjalfjaaGreat
namespace Go.Proofs.YtlhgbjbkjalfjaaGreat.M
structure rH where
 of:Ref
 at_:Int
def sI(p:iZ)(n:ByteArray):List Ref->Option rH
 |[]=>none
 |c::r=>match oC (cls p c) n with
  |some i=>some ⟨c,i⟩
  |none=>sI p n r
def pick(p:iZ)(r:Ref)(n:ByteArray):Option rH:=if ko p r then sI p n (chain p r)else none
def jP(p:iZ)(k:Int)(n m:ByteArray):Ref×Int:=
 if has p k&&jJ n&&jJ m then
  (if(find p k n).2=1 then(if ko p (find p k n).1 then((find p k n).1,1)else(vL,4))else(vL,2))
 else(vL,2)
structure rF where
 of:Ref
 at_:Int
 kind:Kind
def Qu:Kind:=⟨0,none_⟩
def xD:rF:=⟨vL,0,Qu⟩
def kU(of:Ref):List Field->List rF->List rF
 |[],acc=>acc
 |f::r,acc=>kU of r (acc++[⟨of,acc.length,f.kind⟩])
def lG(p:iZ):List Ref->List rF->List rF
 |[],acc=>acc
 |c::r,acc=>lG p r (kU c (cls p c).fields acc)
def layout(p:iZ)(r:Ref):List rF:=if ko p r then lG p (chain p r).reverse []else []
def pq(p:iZ)(of:Ref):List Ref->Nat->Nat
 |[],n=>n
 |c::r,n=>if c=of then n else pq p of r (n+(cls p c).fields.length)
def oI(p:iZ)(of low:Ref):Nat:=pq p of (chain p low).reverse 0
def fieldName(p:iZ)(r:Ref)(f:rF):ByteArray:=(((cls p f.of).fields[(f.at_ - oI p f.of r).toNat]?).map Field.name).getD none_
def rT(p:iZ)(k:Int)(m:ByteArray)(r:Ref):List rF->rF×Int
 |[]=>(xD,3)
 |f::l=>if fieldName p r f=m then(if agree p k f.of.keeper f.kind then(f,1)else(xD,4))else rT p k m r l
def get(p:iZ)(k:Int)(n m:ByteArray):rF×Int:=
 if(jP p k n m).2=1 then rT p k m (jP p k n m).1 (layout p (jP p k n m).1)else(xD,(jP p k n m).2)
def Qb:Method:=⟨none_,[],Qu,0,0,[],[]⟩
def qw:rH:=⟨vL,0⟩
def method?(p:iZ)(m:rH):Option Method:=if 0<=m.at_ then(cls p m.of).methods[m.at_.toNat]? else none
def method(p:iZ)(m:rH):Method:=(method? p m).getD Qb
def call(p:iZ)(k:Int)(n m:ByteArray):rH×Int:=
 if(jP p k n m).2=1 then
  (match pick p (jP p k n m).1 m with
  |none=>(qw,3)
  |some x=>if kT p k x.of.keeper (method p x)then(x,1)else(qw,4))
 else(qw,(jP p k n m).2)
def kC(p:iZ)(m:rH):Bool:=ko p m.of&&decide (0<=m.at_)&&decide (m.at_ <(cls p m.of).methods.length)
structure oV where
 locals:List Tag
 stack:List Tag
def EO:Tag:=⟨0,none_⟩
def nV:Tag:=⟨1,none_⟩
def GR:Tag:=⟨3,none_⟩
def lN(n:ByteArray):Tag:=⟨2,n⟩
def mr(k:Kind):Tag:=if nN k then⟨k.kind,k.name⟩else EO
def may(p:iZ)(k:Int)(a b:Tag):Bool:=
 if b.kind=0\/a=b then true else if b.kind≠2 then false else if a.kind=3 then true else if a.kind≠2 then false
 else decide ((find p k a.name).2=1)&&decide ((find p k b.name).2=1)&&under p (find p k a.name).1 (find p k b.name).1
def vF(s:oV):Option (Tag×oV):=s.stack.getLast?.map fun t=>(t,⟨s.locals,s.stack.dropLast⟩)
def oZ(p:iZ)(k:Int)(t:Tag)(s:oV):Option oV:=(vF s).bind fun x=>if may p k x.1 t then some x.2 else none
def xY(s:oV):Option oV:=(vF s).bind fun x=>if x.1.kind=2\/x.1.kind=3 then some x.2 else none
def nY(m:Method)(t:Tag)(s:oV):Option oV:=if m.stack<=s.stack.length then none else some ⟨s.locals,s.stack++[t]⟩
def oJ(p:iZ)(k:Int):List Tag->List Tag->Bool
 |a::r,b::l=>may p k a b&&oJ p k r l
 |_,_=>true
def mP(p:iZ)(k:Int)(s:oV)(f:SMap):Bool:=decide (f.stack.length=s.stack.length)&&oJ p k s.locals f.locals&&oJ p k s.stack f.stack
def Cq(m:Method)(at_:Int):Option SMap:=m.maps.find? fun f=>f.at_=at_
def nS(p:iZ)(k:Int)(m:Method)(tgt:Int)(s:oV):Option oV:=
 (Cq m tgt).bind fun f=>if mP p k s f then some s else none
def sD(p:iZ)(k:Int)(m:Method)(goes:Bool)(at_:Int)(s:oV):Option oV:=
 match Cq m at_ with
 |none=>if goes then some s else none
 |some f=>if goes&& !mP p k s f then none else some ⟨f.locals,f.stack⟩
def pF(p:iZ)(k:Int):List Kind->oV->Option oV
 |[],s=>some s
 |a::r,s=>(oZ p k (mr a) s).bind (pF p k r)
def jN(p:iZ)(k:Int)(m:Method)(i:Ins)(s:oV):Option oV:=
 if i.op=1 then nY m nV s
 else if i.op=2 then(s.locals[i.a.toNat]?).bind fun t=>if t.kind=0 then none else nY m t s
 else if i.op=3 then(vF s).map fun x=>⟨x.2.locals.set i.a.toNat x.1,x.2.stack⟩
 else if i.op=4 then(oZ p k nV s).bind fun s1=>(oZ p k nV s1).bind (nY m nV)
 else if i.op=5 then nY m GR s
 else if i.op=6 then nY m (lN i.name) s
 else if i.op=7 then(if(get p k i.name i.member).2=1 then(oZ p k (lN i.name) s).bind (nY m (mr (get p k i.name i.member).1.kind))else none)
 else if i.op=8 then(if(get p k i.name i.member).2=1 then(oZ p k (mr (get p k i.name i.member).1.kind) s).bind (oZ p k (lN i.name))else none)
 else if i.op=9 then(if(call p k i.name i.member).2=1 then
     (pF p k (method p (call p k i.name i.member).1).args.reverse s).bind fun s1=>(oZ p k (lN i.name) s1).bind (nY m (mr (method p (call p k i.name i.member).1).ret))else none)
 else if i.op=10 then oZ p k (mr m.ret) s
 else if i.op=11 then(oZ p k nV s).bind (nS p k m i.a)
 else if i.op=12 then(xY s).bind (nS p k m i.a)
 else if i.op=13 then nS p k m i.a s
 else if i.op=14 then oZ p k nV s
 else(xY s).bind (nY m (lN i.name))
def nR(p:iZ)(k:Int)(m:Method):List Ins->Nat->Bool->oV->List oV->Sum Int (List oV)
 |[],at_,goes,_,known=>if goes then .inl (at_+1)else .inr known
 | i :: r, at_, goes, s, known =>
  match sD p k m goes at_ s with
  |none=>.inl (at_+1)
  |some s1=>match jN p k m i s1 with
   |none=>.inl (at_+1)
   |some s2=>nR p k m r (at_+1) (decide (i.op≠10)&&decide (i.op≠13)) s2 (known++[s1])
def CX(x:rH)(m:Method):oV:=⟨(lN x.of.name::m.args.map mr)++List.replicate (m.locals.toNat - (m.args.length+1)) EO,[]⟩
def look(p:iZ)(x:rH):List oV×Int:=
 match nR p x.of.keeper (method p x) (method p x).code 0 true (CX x (method p x)) []with
 | .inl n=>([],n)
 | .inr l=>(l,0)
def right(p:iZ)(x:rH):Bool:=decide ((look p x).2=0)
structure Val where
 kind:Int
 n:Int
theorem Val.lD{a b:Val}:a=b↔a.kind=b.kind/\a.n=b.n:=by
 cases a;cases b;simp
instance:DecidableEq Val:=fun _ _=>decidable_of_iff' _ Val.lD
structure qG where
 of:Ref
 fields:List Val
structure Fr where
 of:rH
 pc:Int
 locals:List Val
 stack:List Val
structure St where
 status:Int
 frames:List Fr
 heap:List qG
 outs:List Int
 back:Val
def lX:Val:=⟨0,0⟩
def qQ:Val:=⟨3,0⟩
def mM(n:Int):Val:=⟨1,n⟩
def Kt:St:=⟨0,[],[],[],lX⟩
def nZ(n:Int):Bool:=decide (-9999<=n)&&decide (n<=9999)
def jS(v:Val)(objs:Nat):Bool:=
 if v.kind=0\/v.kind=3 then decide (v.n=0)else if v.kind=1 then nZ v.n else if v.kind=2 then decide (0<=v.n)&&decide (v.n<objs)else false
def pE(p:iZ)(h:List qG):Bool:=
 decide (h.length<=12)&&h.all fun o=>ko p o.of&&decide (o.fields.length=(layout p o.of).length)&&o.fields.all (jS · h.length)
def vI(h:List qG)(n:Int):Ref:=((h[n.toNat]?).map qG.of).getD vL
def hasType(p:iZ)(k:Int)(h:List qG)(v:Val)(t:Kind):Bool:=
 if t.kind=1 then decide (v.kind=1)else if v.kind=3 then true else if v.kind≠2 then false
 else decide ((find p k t.name).2=1)&&under p (vI h v.n) (find p k t.name).1
def kZ(p:iZ)(f:Fr)(objs:Nat):Bool:=
 kC p f.of&&decide (0<=f.pc)&&decide (f.pc<(method p f.of).code.length)&&decide ((f.locals.length:Int)=(method p f.of).locals)&&
 decide ((f.stack.length:Int)<=(method p f.of).stack)&&f.locals.all (jS · objs)&&f.stack.all (jS · objs)
def CO(p:iZ)(s:St):Bool:=
 decide (1<=s.status)&&decide (s.status<=10)&&decide (s.heap.length<=12)&&decide (s.outs.length<=40)&&decide (s.frames.length<=8)&&
 (decide (0<s.frames.length)==decide (s.status=1))&&s.outs.all nZ&&s.frames.all (kZ p · s.heap.length)&&pE p s.heap&&jS s.back s.heap.length
def Eg(s:St)(f:Fr->Fr):St:={s with frames:=s.frames.dropLast++(s.frames.getLast?.map f).toList}
def top(s:St):Fr:=s.frames.getLastD ⟨qw,0,[],[]⟩
def jump(p:iZ)(tgt:Int)(s:St):Int×St:=
 if((method p (top s).of).code.length:Int)<=tgt then(10,s)else(1,Eg s fun f=>{f with pc:=tgt})
def next(p:iZ)(s:St):Int×St:=jump p ((top s).pc+1) s
def push(p:iZ)(v:Val)(s:St):Int×St:=
 if(method p (top s).of).stack<=(top s).stack.length then(10,s)else next p (Eg s fun f=>{f with stack:=f.stack++[v]})
def nk(c:Nat)(s:St):Option (List Val×St):=
 if(top s).stack.length<c then none
 else some ((top s).stack.drop ((top s).stack.length - c),Eg s fun f=>{f with stack:=f.stack.take (f.stack.length - c)})
def pop(s:St):Option (Val×St):=(nk 1 s).map fun x=>(x.1.headD lX,x.2)
def pY(p:iZ)(n:ByteArray)(s:St):Ref×Bool:=
 ((find p (top s).of.of.keeper n).1,decide ((find p (top s).of.of.keeper n).2=1)&&ko p (find p (top s).of.of.keeper n).1)
def fresh(p:iZ)(r:Ref):qG:=⟨r,(layout p r).map fun f=>if f.kind.kind=1 then mM 0 else qQ⟩
def create(p:iZ)(r:Ref)(s:St):Val×St:=(⟨2,s.heap.length⟩,{s with heap:=s.heap++[fresh p r]})
def object(p:iZ)(v:Val)(t:Ref)(s:St):Int:=
 if v.kind=3 then 3 else if v.kind≠2 then 10 else if under p (vI s.heap v.n) t then 1 else 10
def pK(p:iZ)(k:Int)(h:List qG):List Val->List Kind->Bool
 |v::r,t::l=>hasType p k h v t&&pK p k h r l
 |_,_=>true
def enter(p:iZ)(lk:Bool)(x:rH)(vs:List Val)(s:St):Int×St:=
 if 8<=s.frames.length then(7,s)
 else if lk&& !right p x then(5,s)
 else if pK p x.of.keeper s.heap vs (⟨2,x.of.name⟩::(method p x).args)then
  (1,{s with frames:=s.frames++[⟨x,0,vs++List.replicate ((method p x).locals.toNat - vs.length) lX,[]⟩]})
 else(10,s)
def end_(c:Int)(s:St):St:=if c=1 then s else{s with status:=c,frames:=[]}
def qI(h:List qG)(n:Int):List Val:=((h[n.toNat]?).map qG.fields).getD []
def ny(h:List qG)(n a:Int)(v:Val):List qG:=h.modify n.toNat fun o=>{o with fields:=o.fields.set a.toNat v}
def jH (p : iZ) (lk : Bool) (i : Ins) (s : St) : Int × St :=
 if i.op=1 then push p (mM i.a) s
 else if i.op=2 then(if(((top s).locals[i.a.toNat]?).getD lX).kind=0 then(10,s)else push p (((top s).locals[i.a.toNat]?).getD lX) s)
 else if i.op=3 then(match pop s with
  |none=>(10,s)
  |some (v,s1)=>next p (Eg s1 fun f=>{f with locals:=f.locals.set i.a.toNat v}))
 else if i.op=4 then(match nk 2 s with
  |some ([a,b],s1)=>if a.kind=1/\b.kind=1 then(if nZ (a.n+b.n)then push p (mM (a.n+b.n)) s1 else(9,s1))else(10,s1)
  |_=>(10,s))
 else if i.op=5 then push p qQ s
 else if i.op=6 then(if(pY p i.name s).2 then(if 12<=s.heap.length then(8,s)else push p (create p (pY p i.name s).1 s).1 (create p (pY p i.name s).1 s).2)else(4,s))
 else if i.op = 7 then (if (get p (top s).of.of.keeper i.name i.member).2 = 1 then
     (match pop s with
     |none=>(10,s)
     | some (v, s1) =>
      if object p v (get p (top s).of.of.keeper i.name i.member).1.of s1=1 then
       push p (((qI s1.heap v.n)[(get p (top s).of.of.keeper i.name i.member).1.at_.toNat]?).getD lX) s1
      else(object p v (get p (top s).of.of.keeper i.name i.member).1.of s1,s1))
  else(4,s))
 else if i.op = 8 then (if (get p (top s).of.of.keeper i.name i.member).2 = 1 then
     (match nk 2 s with
     | some ([o, v], s1) =>
      if hasType p (get p (top s).of.of.keeper i.name i.member).1.of.keeper s1.heap v (get p (top s).of.of.keeper i.name i.member).1.kind then
       (if object p o (get p (top s).of.of.keeper i.name i.member).1.of s1=1 then
        next p {s1 with heap:=ny s1.heap o.n (get p (top s).of.of.keeper i.name i.member).1.at_ v}
       else(object p o (get p (top s).of.of.keeper i.name i.member).1.of s1,s1))
      else(10,s1)
     |_=>(10,s))
  else(4,s))
 else if i.op = 9 then (if (call p (top s).of.of.keeper i.name i.member).2 = 1 then
     (match nk ((method p (call p (top s).of.of.keeper i.name i.member).1).args.length+1) s with
     | some (vs, s1) =>
      if object p (vs.headD lX) (call p (top s).of.of.keeper i.name i.member).1.of s1=1 then
       (match pick p (vI s1.heap (vs.headD lX).n) i.member with
       |some x=>enter p lk x vs s1
       |none=>(10,s1))
      else(object p (vs.headD lX) (call p (top s).of.of.keeper i.name i.member).1.of s1,s1)
     |none=>(10,s))
  else(4,s))
 else if i.op = 10 then (match pop s with
  |none=>(10,s)
  |some (v,s1)=>if hasType p (top s).of.of.keeper s1.heap v (method p (top s).of).ret then
      (if s1.frames.length=1 then(2,{s1 with back:=v})else push p v {s1 with frames:=s1.frames.dropLast})
   else(10,s1))
 else if i.op=11 then(match pop s with
  |none=>(10,s)
  |some (v,s1)=>if v.kind=1 then(if v.n=0 then jump p i.a s1 else next p s1)else(10,s1))
 else if i.op=12 then(match pop s with
  |none=>(10,s)
  |some (v,s1)=>if v.kind=2\/v.kind=3 then(if v.kind=3 then jump p i.a s1 else next p s1)else(10,s1))
 else if i.op=13 then jump p i.a s
 else if i.op=14 then(match pop s with
  |none=>(10,s)
  |some (v,s1)=>if v.kind=1 then next p (if s1.outs.length<40 then{s1 with outs:=s1.outs++[v.n]}else s1)else(10,s1))
 else (match pop s with
  |none=>(10,s)
  |some (v,s1)=>if v.kind=2\/v.kind=3 then
      (if v.kind=3 then push p v s1
      else if(pY p i.name s1).2 then(if under p (vI s1.heap v.n) (pY p i.name s1).1 then push p v s1 else(6,s1))else(4,s1))
   else(10,s1))
def SG:Ins:=⟨0,0,none_,none_⟩
def stepped(p:iZ)(lk:Bool)(s:St):Int×St:=jH p lk (((method p (top s).of).code[(top s).pc.toNat]?).getD SG) s
def step(p:iZ)(lk:Bool)(s:St):St:=if s.status=1 then end_ (stepped p lk s).1 (stepped p lk s).2 else s
def pU(m:Method)(args:List Int):Bool:=decide (m.args.length=args.length)&&m.args.all fun k=>decide (k.kind=1)
def pV:St:=⟨4,[],[],[],lX⟩
def start (p : iZ) (lk : Bool) (k : Int) (n m : ByteArray) (args : List Int) : St :=
 if (find p k n).2 = 1 /\ ko p (find p k n).1 = true then
  (if(call p k n m).2=1/\pU (method p (call p k n m).1) args=true then
   end_ (enter p lk (call p k n m).1 (⟨2,0⟩::args.map mM) ⟨1,[],[fresh p (find p k n).1],[],lX⟩).1
    (enter p lk (call p k n m).1 (⟨2,0⟩::args.map mM) ⟨1,[],[fresh p (find p k n).1],[],lX⟩).2
  else pV)
 else pV
def qM(p:iZ)(lk:Bool)(k:Int)(n m:ByteArray)(args:List Int):St:=
 if kQ p&&has p k&&jJ n&&jJ m&&args.all nZ then start p lk k n m args else Kt
end Go.Proofs.YtlhgbjbkjalfjaaGreat.M
namespace Go.Proofs.YtlhgbjbkjalfjaaGreat
open Go Go.RowKit Tryz M
variable {a c f: List Int}{b k t: Nat}{v: Value}{W w: World}
def BytesAt(W:World)(v:Value)(zs:List Int):Prop:=
 (v=.slice none 0 0/\zs=[])\/∃a cap,v=.slice (some a) zs.length cap/\zs.length<=cap/\(∀i,i<zs.length->W.cell? (a.add i)=some (.int .u8 (zs.getD i 0)))/\∀n∈zs,0<=n/\n<256
theorem BytesAt.form(d:BytesAt W v c):∃a b,v=.slice a c.length b:=by
 rcases d with⟨rfl,rfl⟩|⟨a,b,rfl,_⟩
 . exact⟨none,0,rfl⟩
 . exact⟨_,_,rfl⟩
theorem yJ{a:Addr}(c:W.cell? a=some v):a.block<W:=by
 rcases Uc a.block W with b|b
 . exact b
 . simp[World.cell?,Ub b]at c
theorem BytesAt.ext{b: World}(a:BytesAt W v f)(l:Ext W b):BytesAt b v f:=by
 rcases a with a|⟨g,h,i,j,c,k⟩
 . exact .inl a
 . exact .inr ⟨g,h,i,j,fun e d=>(Un (l.block _ (yJ (c e d)) fun m=>m)).trans (c e d),k⟩
theorem Bu(d:∀b∈a,0<=b/\b<256){i:Nat}(e:i<a.length):0<=a.getD i 0/\a.getD i 0<256:=by
 have c:a.getD i 0=a[i]:=by simp[List.getD,Ou e]
 rw[c];exact d _ (Vq _)
def Qh(f:FuncId):Prop:=∀(W:World) (v:Value) (zs:List Int),BytesAt W v zs->Calls Tryz.prog f #[v] W fun e W'=>e=.returned (.bool true)/\Ext W W'
def yH(t k:Nat):Prop:=∃fs,Tryz.prog.underlying t=some (.struct fs)/\(Tryz.prog.info? t).map (·.size)=some k
theorem yH.is(c:yH t k)(w:World):(isAgg t).run prog w=.ok true w/\(sizeOf t).run prog w=.ok k w:=by
 obtain⟨g,d,a⟩:=c;cases b:prog.info? t with
 |none=>rw[b]at a;cases a
 |some f=>
  rw[b]at a;have e:f.size=k:=by simpa using a
  subst e;constructor
  . unfold isAgg;rw[U8,Uf d w];simp
  . simp[sizeOf,typeInfo,b]
theorem qR(c:yH t k){w:World}{b a:Nat}{cs:List Value}(h:hH w b a cs)(hl:cs.length=k):(loadVar t (b,a)).run prog w=.ok (.agg cs.toArray) w:=by
 subst hl;obtain⟨e,f⟩:=c.is w;have g:=run_loadCells_list (P:=prog) w (b,a) cs (fun j l i=>by
  have:=h j l i;unfold Addr.add;split
  . rename_i d;subst d;simpa using this
  . exact this)
 simp[loadVar,U8,e,f,g]
theorem Jo(e:yH t k){c:Oper}{a:Act}{w:World}{K:Act->World->Prop}{Q:Exit->Act->World->Prop}(x:Operand)(h:c.op=.load t x)(b d:Nat) (i:a.eval x=.pointer (some ⟨b,d,none⟩)) (cs:List Value) (g:hH w b d cs) (hl:cs.length=k) (f:K (a.put c.dst (.agg cs.toArray)) w):c.wp prog a w K Q:=by
 unfold Oper.wp execOp;simp only[h,i,Instr.loadAt,Instr.sureAddr,U8,Sem.run_pure,U6,qR e g hl];exact f
theorem CP(f:yH t k){e:Array Oper}{rest:List Oper}{c:Oper}{a:Act}{w:World}{Q:Exit->Act->World->Prop}(j:c.guard=none){x:Operand}(l:c.op=.load t x){b d:Nat} (m:a.eval x=.pointer (some ⟨b,d,none⟩)) {cs:List Value} (i:hH w b d cs) (hl:cs.length=k) (g:wpList prog e Q rest (a.put c.dst (.agg cs.toArray)) w):wpList prog e Q (c::rest) a w:=
 VS j fun _ h=>Jo f x l b d m cs i hl (h _ _ g)
theorem jE(c:yH t k){fn:Func}{p:Tmp}(e:fn.results=#[.cell p t]){a:Array Value}{w:World}(b:Nat)(f:a.getD p undef=.pointer (some ⟨b,0,none⟩))(cs:List Value)(d:hH w b 0 cs)(hl:cs.length=k):(results fn a).run prog w=.ok (.agg cs.toArray) w:=by
 have g:a[p]?.getD undef=.pointer (some ⟨b,0,none⟩):=by simpa using f
 simp[results,e,g,asAddr,qR c d hl]
theorem iY(c:yH t k){fn:Func}{p q:Tmp}(e:fn.results=#[.cell p t,.tmp q]){a:Array Value}{w:World}(b:Nat)(f:a.getD p undef=.pointer (some ⟨b,0,none⟩))(cs:List Value)(d:hH w b 0 cs)(hl:cs.length=k):(results fn a).run prog w=.ok (.tuple #[.agg cs.toArray,a.getD q undef]) w:=by
 have g:a[p]?.getD undef=.pointer (some ⟨b,0,none⟩):=by simpa using f
 simp[results,e,g,asAddr,qR c d hl]
theorem Gg:yH 60 2:=⟨_,underlying60,by kernel_rfl⟩
theorem Dg:yH 132 8:=⟨_,underlying132,by kernel_rfl⟩
theorem Ag:yH 78 3:=⟨_,underlying78,by kernel_rfl⟩
theorem vO:yH 211 5:=⟨_,underlying211,by kernel_rfl⟩
theorem Ai:yH 37 2:=⟨_,underlying37,by kernel_rfl⟩
theorem nP:yH 39 6:=⟨_,underlying39,by kernel_rfl⟩
theorem Kp.AZ{D:Nat->Prop}(a:D b)(c d e f g h i j:Value):Kp D w ((((((((w.setCell b c).setCell (b,1) d).setCell (b,2) e).setCell (b,3) f).setCell (b,4) g).setCell (b,5) h).setCell (b,6) i).setCell (b,7) j):=
 (((((((((Kp.refl D w).setCell (p:=⟨b,0,none⟩) (fun _=>a) c).setCell (p:=⟨b,1,none⟩) (fun _=>a) d).setCell (p:=⟨b,2,none⟩) (fun _=>a) e).setCell (p:=⟨b,3,none⟩) (fun _=>a) f).setCell (p:=⟨b,4,none⟩) (fun _=>a) g).setCell (p:=⟨b,5,none⟩) (fun _=>a) h).setCell (p:=⟨b,6,none⟩) (fun _=>a) i).setCell (p:=⟨b,7,none⟩) (fun _=>a) j)
theorem hZ.AZ{t:TypeId}{u0 u1 u2 u3 u4 u5 u6 u7:Value}(j:hZ w b t #[u0,u1,u2,u3,u4,u5,u6,u7])(a c d e f g h i:Value):hZ ((((((((w.setCell b a).setCell (b,1) c).setCell (b,2) d).setCell (b,3) e).setCell (b,4) f).setCell (b,5) g).setCell (b,6) h).setCell (b,7) i) b t #[a,c,d,e,f,g,h,i]:=by
 have k:hZ (w.setCell b a) b t #[a,u1,u2,u3,u4,u5,u6,u7]:=j.jy 0 a;have l:hZ ((w.setCell b a).setCell (b,1) c) b t #[a,c,u2,u3,u4,u5,u6,u7]:=k.jy 1 c;have m:hZ (((w.setCell b a).setCell (b,1) c).setCell (b,2) d) b t #[a,c,d,u3,u4,u5,u6,u7]:=l.jy 2 d;have n:hZ ((((w.setCell b a).setCell (b,1) c).setCell (b,2) d).setCell (b,3) e) b t #[a,c,d,e,u4,u5,u6,u7]:=m.jy 3 e;have o:hZ (((((w.setCell b a).setCell (b,1) c).setCell (b,2) d).setCell (b,3) e).setCell (b,4) f) b t #[a,c,d,e,f,u5,u6,u7]:=n.jy 4 f;have p:hZ ((((((w.setCell b a).setCell (b,1) c).setCell (b,2) d).setCell (b,3) e).setCell (b,4) f).setCell (b,5) g) b t #[a,c,d,e,f,g,u6,u7]:=o.jy 5 g;have q:hZ (((((((w.setCell b a).setCell (b,1) c).setCell (b,2) d).setCell (b,3) e).setCell (b,4) f).setCell (b,5) g).setCell (b,6) h) b t #[a,c,d,e,f,g,h,u7]:=p.jy 6 h;have r:hZ ((((((((w.setCell b a).setCell (b,1) c).setCell (b,2) d).setCell (b,3) e).setCell (b,4) f).setCell (b,5) g).setCell (b,6) h).setCell (b,7) i) b t #[a,c,d,e,f,g,h,i]:=q.jy 7 i;exact r
end Go.Proofs.YtlhgbjbkjalfjaaGreat
namespace Go.Proofs.YtlhgbjbkjalfjaaGreat.M
variable {n: ByteArray}{c: Class}{k: Int}{r: Ref}{α: Type}{p: iZ}{f: rF}
theorem sU{name:α->ByteArray}{ok:α->Bool}:∀{l:List α} {seen:List ByteArray},kW name ok l seen=true->∀b∈l,ok b=true
 |[],_,_=>by simp
 |y::r,seen,h=>by
  unfold kW at h;simp only[Ty]at h;intro b a;rcases Ud.1 a with rfl|a
  . exact h.1.1
  . exact sU h.2 b a
theorem Bw(a:kQ p=true):1<=p.length/\p.length<=3:=by
 unfold kQ at a;simp only[Ty,Tq]at a;exact⟨a.1.1,a.1.2⟩
theorem FR(b:kQ p=true){k:Int}{q:mD}(a:pW p k=some q):lF p q=true:=by
 unfold kQ at b;simp only[Ty]at b;unfold pW at a;split at a
 . exact TY.1 b.2 q (RA a)
 . cases a
theorem Gs:has p k=true↔0<=k/\k<p.length:=by
 unfold has;simp
theorem Dw(g:kQ p=true){k:Int}{n:ByteArray}{q:Int}(a:zK p k n=some q):has p q=true:=by
 unfold zK at a;rw[VV]at a;obtain⟨h,f,c⟩:=a;rw[Uk]at c;obtain⟨d,e,rfl⟩:=c;have b:=FR g f;unfold lF at b;simp only[Ty]at b;have:=sU b.2 d (Vb e);simp only[Ty]at this;exact this.2
theorem IG(r:Ref):(vZ p r).isSome=owned p r:=by
 unfold vZ owned cls?;cases pW p r.keeper with
 |none=>rfl
 |some a=>
  simp only[UM];rw[UI,Vh,Wq];simp
theorem Br(a:cls? p r=some c):∃e b,pW p r.keeper=some e/\vZ p r=some b/\e.owns[b]?=some c/\b<e.owns.length:=by
 unfold cls? at a;rw[VV]at a;obtain⟨e,j,f⟩:=a;have d:(e.owns.findIdx? fun c=>decide (c.name=r.name)).isSome=true:=by
  rw[Vh,Wn];exact⟨c,Vb f,by simpa using List.find?_some f⟩
 obtain⟨b,d⟩:=Vu.1 d;refine⟨e,b,j,by unfold vZ;rw[j];exact d,?_,?_⟩
 . rw[Uy]at d;obtain⟨o,k,l⟩:=d;rw[Ou o];rw[List.find?_eq_some_iff_getElem]at f;obtain⟨n,g,q,h,m⟩:=f;have:b=g:=by
    rcases V3 b g with a|a|a
    . have:=m b a;simp only[Vl]at this;rw[k]at this;cases this
    . exact a
    . have i:=l g a;rw[h]at i;exact absurd n i
   subst this;rw[h]
 . rw[Uy]at d;exact d.1
theorem CS(b:cls? p r=some c):0<=r.keeper/\r.keeper<p.length:=by
 obtain⟨e,d,a,_⟩:=Br b;unfold pW at a;split at a
 . have:=(Tw.1 a).1;omega
 . cases a
theorem LW{l:List Int}(d:l.Nodup)(c:∀a∈l,has p a=true):l.length<=p.length:=by
 have b:l ⊆ (List.range p.length).map Int.ofNat:=by
  intro a e;have:=Gs.1 (c a e);exact Vw.2 ⟨a.toNat,V6.2 Zm,by simp;omega⟩
 have:=d.length_le_of_subset b;simpa using this
theorem AR:∀{f:Nat} {a:List Int} {k:Int},a.getLastD 0=k->(mO p n f a k).2=1->owned p ⟨(mO p n f a k).1.getLastD 0,n⟩=true
 |0,_,_,_,h=>by simp[mO]at h
 |f+1,a,k,hl,h=>by
  unfold mO at h |-;split at h
  . rename_i c;split at h
    . rename_i b;simp only[b,U2];rw[hl];exact b
    . simp at h
  . rename_i next c
    split at h
    . simp at h
    . rename_i b;simp only[b,TA,Vn];exact AR Zl h
theorem JZ(a:(path p k n).2=1):owned p ⟨(path p k n).1.getLastD 0,n⟩=true:=by
 unfold path at a |-;split at a
 . rename_i b;rw[Tv b];exact AR rfl a
 . simp at a
theorem l8(b:(resolve p k n).2=1):∃c,cls? p (resolve p k n).1=some c:=by
 unfold resolve at b |-;split at b
 . rename_i a;rw[Tv a];exact Vu.1 (JZ a)
 . rename_i a;exact absurd b a
theorem wF:∀(f:Nat) (r:Ref) (l:List Ref),ky p f r=some l->∃d,l=r::d:=by
 intro f;cases f with
 |zero=>intro r l a;simp[ky]at a
 |succ f=>
  intro r l a;unfold ky at a;split at a
  . cases a;exact⟨[],rfl⟩
  . split at a
    . cases b:ky p f (resolve p r.keeper (jl p r)).1 with
      |none=>rw[b]at a;simp at a
      |some c=>rw[b]at a;simp at a;exact⟨c,a.symm⟩
    . cases a
theorem wG : ∀ (f : Nat) (r : Ref) (l : List Ref), ky p f r = some l -> ∀ b, l.length <= b -> ky p b r = some l := by
 intro f;induction f with
 |zero=>intro r l a;simp[ky]at a
 | succ f h =>
  intro r l a b e;obtain⟨j,rfl⟩:=wF _ _ _ a;cases b with
  |zero=>simp at e
  |succ b=>
   unfold ky at a |-;split at a
   . rename_i c;rw[Tv c];exact a
   . rename_i c;rw[Tt c];split at a
     . rename_i g;rw[Tv g];cases d:ky p f (resolve p r.keeper (jl p r)).1 with
       |none=>rw[d]at a;simp at a
       |some i=>
        rw[d]at a;simp at a;subst a;rw[h _ _ d b (by simp at e;omega)];simp
     . cases a
theorem uD : ∀ (f : Nat) (r : Ref) (l : List Ref), ky p f r = some l -> ∀ b d, l[b]? = some d -> ∃ g, ky p g d = some (l.drop b) := by
 intro f;induction f with
 |zero=>intro r l a;simp[ky]at a
 | succ f h =>
  intro r l a b d c;cases b with
  |zero=>
   obtain⟨j,rfl⟩:=wF _ _ _ a;simp at c;subst c;exact⟨f+1,a⟩
  |succ b=>
   unfold ky at a;split at a
   . cases a;simp at c
   . split at a
     . cases e:ky p f (resolve p r.keeper (jl p r)).1 with
       |none=>rw[e]at a;simp at a
       |some i=>
        rw[e]at a;simp at a;subst a;simpa using h _ _ e b d (by simpa using c)
     . cases a
theorem Ce{f g:Nat}{a b:List Ref}(e:ky p f r=some a)(h:ky p g r=some b):a=b:=by
 have d:=wG _ _ _ e (max a.length b.length) (Nat.le_max_left _ _);have c:=wG _ _ _ h (max a.length b.length) (Nat.le_max_right _ _);rw[d]at c;exact TG c
theorem ER(f:Nat)(r:Ref)(l:List Ref)(b:ky p f r=some l):l.Nodup:=by
 refine List.pairwise_iff_getElem.2 ?_;intro a i g h m e;obtain⟨j,c⟩:=uD _ _ _ b a l[a] (Ou g);obtain⟨k,d⟩:=uD _ _ _ b i l[a] (by rw[e];exact Ou h);have:=congrArg List.length (Ce c d);simp at this;omega
theorem LX{l:List α}(a:l.Nodup):l.reverse.Nodup:=
 List.pairwise_reverse.2 (a.imp fun a=>fun b=>a b.symm)
theorem Cb(p:iZ)(r:Ref):(chain p r).Nodup:=by
 unfold chain;split
 . unfold uC;cases a:ky p 6 r with
   |none=>simp
   |some b=>exact ER _ _ _ a
 . simp
theorem Cc:∀(f:Nat) (r:Ref) (l:List Ref),ky p f r=some l->l.length<=f:=by
 intro f;induction f with
 |zero=>intro r l a;simp[ky]at a
 |succ f c=>
  intro r l a;unfold ky at a;split at a
  . cases a;simp
  . split at a
    . cases b:ky p f (resolve p r.keeper (jl p r)).1 with
      |none=>rw[b]at a;simp at a
      |some d=>rw[b]at a;simp at a;subst a;have:=c _ _ b;simp;omega
    . cases a
theorem vR(p:iZ)(r:Ref):(chain p r).length<=6:=by
 unfold chain;split
 . unfold uC;cases a:ky p 6 r with
   |none=>simp
   |some b=>exact Cc _ _ _ a
 . simp
theorem sM(c:Ref):∀(b:List Field) (a:List rF),(kU c b a).length=a.length+b.length:=by
 intro b;induction b with
 |nil=>intro a;rfl
 |cons e f d=>intro a;unfold kU;rw[d];simp;omega
theorem Gf(c:Ref):∀(e:List Field) (b:List rF) (i:Nat) (f:rF),(kU c e b)[i]?=some f→ b[i]?=some f\/∃h d,e[h]?=some d/\i=b.length+h/\f=⟨c,i,d.kind⟩:=by
 intro e;induction e with
 |nil=>intro b i f g;exact .inl g
 |cons d q p=>
  intro b i f g;unfold kU at g;rcases p _ _ _ g with a|⟨h,l,a,m,n⟩
  . rcases Uc i b.length with j|j
    . rw[Te j]at a;exact .inl a
    . rw[TS j]at a;have o:i - b.length=0:=by
       rcases Wx (i - b.length)with k|k
       . exact k
       . rw[U9 Zr]at a;cases a
      rw[o]at a;simp at a;refine .inr ⟨0,d,rfl,Zm,?_⟩;rw[<-a,show i=b.length by omega]
  . exact .inr ⟨h+1,l,by simpa using a,by simp at m;omega,n⟩
theorem EP(c:Ref):∀(b:List Field) (a:List rF),∃d,kU c b a=a++d:=by
 intro b;induction b with
 |nil=>intro a;exact⟨[],by simp[kU]⟩
 |cons f h g=>
  intro a;unfold kU;obtain⟨d,e⟩:=g (a++[⟨c,a.length,f.kind⟩]);exact⟨_,by rw[e,U1]⟩
theorem Gx(p:iZ):∀(c:List Ref) (a:List rF),∃d,lG p c a=a++d:=by
 intro c;induction c with
 |nil=>intro a;exact⟨[],by simp[lG]⟩
 |cons b i g=>
  intro a;unfold lG;obtain⟨d,e⟩:=g (kU b (cls p b).fields a);obtain⟨h,f⟩:=EP b (cls p b).fields a;exact⟨h++d,by rw[e,f,U1]⟩
theorem xw(p:iZ):∀(a K:List Ref) (b:List rF),lG p (a++K) b=lG p K (lG p a b):=by
 intro a;induction a with
 |nil=>intro K b;rfl
 |cons d e c=>intro K b;simp only[TF,lG];rw[c]
theorem Ic(p:iZ):∀(b:List Ref) (e:List rF),b.Nodup->∀(i:Nat) (f:rF),(lG p b e)[i]?=some f→ e[i]?=some f\/∃g∈b,∃d c,(cls p g).fields[d]?=some c/\i=pq p g b e.length+d/\f=⟨g,i,c.kind⟩:=by
 intro b;induction b with
 |nil=>intro e _ i f h;exact .inl h
 |cons g q o=>
  intro e l i f h;unfold lG at h;rw[Wd]at l;rcases o _ l.2 _ _ h with a|⟨n,m,d,c,a,j,k⟩
  . rcases Gf _ _ _ _ _ a with a|⟨d,c,a,j,k⟩
    . exact .inl a
    . exact .inr ⟨g,by simp,d,c,a,by simp[pq];exact j,k⟩
  . refine .inr ⟨n,by simp[m],d,c,a,?_,k⟩;unfold pq;rw[Tt (by rintro rfl;exact l.1 m),<-sM];exact j
theorem yS{i:Nat}(b:(layout p r)[i]?=some f):ko p r=true/\f.of∈chain p r/\f.at_=i/\∃c a,(cls p f.of).fields[c]?=some a/\i=oI p f.of r+c/\f.kind=a.kind:=by
 unfold layout at b;split at b
 . rename_i g;rcases Ic p _ _ (LX (Cb p r)) _ _ b with d|⟨j,h,c,a,d,e,rfl⟩
   . simp at d
   . exact⟨g,List.mem_reverse.1 h,rfl,c,a,d,e,rfl⟩
 . simp at b
theorem Gn{j:Nat}{a:Field}(b:(cls p f.of).fields[j]?=some a)(c:f.at_=((oI p f.of r+j:Nat):Int)):fieldName p r f=a.name:=by
 unfold fieldName;rw[show(f.at_ - oI p f.of r).toNat=j by omega,b];rfl
end Go.Proofs.YtlhgbjbkjalfjaaGreat.M
