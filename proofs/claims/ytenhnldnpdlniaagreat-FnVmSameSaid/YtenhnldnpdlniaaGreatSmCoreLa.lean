/- Walks. -/
import Derived.WalkKit
import Derived.Deep.Draws
import Derived.Lib.Hide
import Derived.Test.YtenhnldnpdlniaaGreatProg
import Derived.WalkLawsBesides
import Derived.WalkSpells
import Derived.Deep.QuietTactic
import Derived.BigQuiet
import Derived.Lib.SplitLaws
import Derived.OwnWalk
import Derived.OwnWalkIn
import Derived.WalkSmall
import Derived.Laws.Rows
import Derived.ArgAppend
set_option maxRecDepth 100000
set_option maxHeartbeats 4000000
set_option linter.all false
namespace Go.Proofs.YtenhnldnpdlniaaGreat
variable {d p: Prop}
namespace M
end M
open Go Go.RowKit
abbrev UL:=@Act.put_comm
abbrev Tm:=@And.intro
abbrev VF:=@Array.all_eq_true_iff_forall_mem
abbrev Vp:=@Array.getElem?_eq_getElem
abbrev UY:=@Array.getElem?_eq_none
abbrev TW:=@Array.getElem?_eq_some_iff
abbrev Un:=@Array.replicate_succ
abbrev Um:=@Array.replicate_zero
abbrev Wp:=@Array.setIfInBounds_comm
abbrev VB:=@Array.toList_inj
abbrev Wm:=@Below.heap_alloc
abbrev Vf:=@Bool.and_assoc
abbrev Wn:=@Bool.and_comm
abbrev RV:=@Bool.and_eq_true
abbrev Vt:=@Bool.and_false
abbrev VL:=@Bool.and_left_comm
abbrev Vz:=@Bool.eq_iff_iff
abbrev TB:=@Bool.false_and
abbrev U3:=@Bool.false_eq_true
abbrev VI:=@Bool.not_eq_true'
abbrev Vn:=@Bool.or_eq_true
abbrev TJ:=@Bool.true_and
abbrev UQ:=@ByteArray.size_append
abbrev VH:=@ByteArray.size_extract
abbrev Uv:=@ByteArray.toList_eq
abbrev UD:=@Int.toNat_natCast
abbrev VP:=@Int.toNat_of_nonneg
abbrev TM:=@IntWalk.i64_in
abbrev VE:=@Lib.run_eql_slice_nil
abbrev VZ:=@List.all_append
abbrev VX:=@List.all_eq_false
abbrev Tc:=@List.all_eq_true
abbrev Vl:=@List.any_eq_false
abbrev VC:=@List.any_eq_true
abbrev TG:=@List.append_assoc
abbrev Uf:=@List.append_toArray
abbrev TS:=@List.concat_eq_append
abbrev U2:=@List.cons.injEq
abbrev TR:=@List.cons_append
abbrev Vr:=@List.contains_iff_mem
abbrev UK:=@List.dropLast_concat_getLast
abbrev Vq:=@List.drop_eq_getElem_cons
abbrev U7:=@List.drop_eq_nil_of_le
abbrev U6:=@List.drop_of_length_le
abbrev Ug:=@List.drop_succ_cons
abbrev UF:=@List.drop_zero
abbrev Ve:=@List.eq_nil_of_length_eq_zero
abbrev TT:=@List.eq_nil_or_concat
abbrev Ws:=@List.find?_append
abbrev Wt:=@List.find?_isSome
abbrev VM:=@List.findIdx?_cons
abbrev TH:=@List.findIdx?_eq_some_iff_getElem
abbrev VA:=@List.findIdx?_isSome
abbrev TD:=@List.flatMap_append
abbrev V7:=@List.flatMap_cons
abbrev VW:=@List.flatten_cons
abbrev TY:=@List.getElem?_append_left
abbrev TF:=@List.getElem?_append_right
abbrev V4:=@List.getElem?_drop
abbrev CU:=@List.getElem?_eq_getElem
abbrev Uz:=@List.getElem?_eq_none
abbrev Tt:=@List.getElem?_eq_some_iff
abbrev UG:=@List.getElem?_map
abbrev VT:=@List.getElem?_modify
abbrev Vj:=@List.getElem?_of_mem
abbrev Ub:=@List.getElem?_take
abbrev Vw:=@List.getElem_mem
abbrev Wy:=@List.getElem_of_mem
abbrev TK:=@List.length_append
abbrev TL:=@List.length_cons
abbrev UW:=@List.length_drop
abbrev Us:=@List.length_eq_zero_iff
abbrev UJ:=@List.length_map
abbrev U8:=@List.length_nil
abbrev VO:=@List.length_pos_iff
abbrev UA:=@List.length_replicate
abbrev UB:=@List.length_reverse
abbrev WZ:=@List.length_set
abbrev Ud:=@List.length_singleton
abbrev TN:=@List.length_take
abbrev Ux:=@List.map_append
abbrev Ur:=@List.map_cons
abbrev Vb:=@List.map_nil
abbrev TU:=@List.mem_append
abbrev Ui:=@List.mem_cons
abbrev UI:=@List.mem_cons_of_mem
abbrev VY:=@List.mem_iff_getElem?
abbrev V5:=@List.mem_map
abbrev VN:=@List.mem_map_of_mem
abbrev U5:=@List.mem_of_find?_eq_some
abbrev Tx:=@List.mem_of_getElem?
abbrev Vk:=@List.mem_of_mem_drop
abbrev Uo:=@List.mem_of_mem_take
abbrev Vo:=@List.mem_or_eq_of_mem_set
abbrev Uk:=@List.mem_range
abbrev U4:=@List.mem_singleton
abbrev TZ:=@List.nil_append
abbrev Wq:=@List.nodup_append
abbrev We:=@List.nodup_cons
abbrev UR:=@List.push_toArray
abbrev VD:=@List.range'_succ
abbrev UC:=@List.reverse_append
abbrev TI:=@List.setIfInBounds_toArray
abbrev U1:=@List.set_cons_succ
abbrev U9:=@List.set_cons_zero
abbrev UE:=@List.size_toArray
abbrev Td:=@List.take_add_one
abbrev Vs:=@List.take_append_drop
abbrev TA:=@List.take_length
abbrev Tq:=@List.take_of_length_le
abbrev Uh:=@List.take_succ_cons
abbrev VJ:=@List.take_succ_eq_append_getElem
abbrev UO:=@List.take_zero
abbrev Uj:=@Nat.add_assoc
abbrev VG:=@Nat.add_comm
abbrev Vu:=@Nat.add_sub_cancel
abbrev UU:=@Nat.add_zero
abbrev Ww:=@Nat.eq_zero_or_pos
abbrev Tu:=@Nat.le_refl
abbrev VS:=@Nat.le_succ
abbrev Uc:=@Nat.le_succ_of_le
abbrev TV:=@Nat.le_trans
abbrev Ta:=@Nat.lt_of_lt_of_le
abbrev UZ:=@Nat.lt_or_ge
abbrev VQ:=@Nat.lt_succ_self
abbrev V9:=@Nat.lt_trichotomy
abbrev UN:=@Nat.min_eq_left
abbrev Wl:=@Nat.mod_eq_of_lt
abbrev Vg:=@Nat.mul_le_mul
abbrev W9:=@Nat.mul_le_mul_right
abbrev Vi:=@Nat.mul_one
abbrev WY:=@Nat.not_lt
abbrev Wd:=@Nat.not_lt_zero
abbrev Wh:=@Nat.sub_self
abbrev Vx:=@Nat.succ_mul
abbrev Tk:=@Nat.zero_add
abbrev Tz:=@Nat.zero_le
abbrev UM:=@Nat.zero_mul
abbrev V8:=@Option.bind_eq_some_iff
abbrev Tn:=@Option.bind_some
abbrev Vv:=@Option.getD_none
abbrev TC:=@Option.getD_some
abbrev Vh:=@Option.isSome_iff_exists
abbrev Ua:=@Option.isSome_none
abbrev Ul:=@Option.isSome_some
abbrev UX:=@Option.map_eq_some_iff
abbrev Vy:=@Option.map_some
abbrev Wz:=@Option.some.inj
abbrev TQ:=@Option.some.injEq
abbrev V3:=@Option.toList_some
abbrev Wo:=@Prod.mk.injEq
abbrev UT:=@Result.andThen_ok
abbrev Uu:=@Sem.run_bind
abbrev V6:=@World.cell?_of_block
abbrev VV:=@World.ownsRow_lit
abbrev Uw:=@World.ownsRow_nil
abbrev Tp:=@World.size_alloc
abbrev Vm:=@and_true
abbrev SK:=@beq_eq_false_iff_ne
abbrev Ue:=@beq_iff_eq
abbrev TE:=@bne_iff_ne
abbrev PG:=@bodyPost_ret
abbrev Ut:=@callsIn_wide
abbrev UH:=@decide_eq_decide
abbrev SS:=@decide_eq_false
abbrev Tw:=@decide_eq_true
abbrev Tv:=@decide_eq_true_eq
abbrev Wj:=@eq_false
abbrev Wv:=@execOp_put
abbrev Uq:=@if_false
abbrev T9:=@if_neg
abbrev Ty:=@if_pos
abbrev Uy:=@if_true
abbrev VK:=@mem_ready
abbrev Va:=@of_decide_eq_false
abbrev U0:=@of_decide_eq_true
abbrev Wu:=@ready_mono
abbrev VU:=@run_underlying
abbrev VR:=@true_and
abbrev Wi:=@wanted_put
abbrev Wx:=@wpList_plain
abbrev TP:=@wpQuiet_nil
abbrev Vd:=@wpStill_nil
def Zz(p:Prop):Prop:=p
theorem Zz.o(a:Zz p):p:=a
theorem Zy(a:p):Zz p:=a
theorem Zx(a:p:=by repeat (first|with_reducible exact Kp.refl _ _|with_reducible assumption|with_reducible refine Kp.alloc ?_ _|with_reducible refine Kp.drew ?_|with_reducible refine Kp.drewN ?_ _|with_reducible refine Kp.setCell ?_ (fun a=>absurd a (by simp<;>omega)) _|with_reducible refine Kp.trans ?_ (by with_reducible assumption)|exact Kp.refl _ _|assumption|refine Kp.alloc ?_ _|refine Kp.drew ?_|refine Kp.drewN ?_ _|(refine Kp.setCell ?_ (fun a=>absurd a (by simp;done)) _)|(refine Kp.setCell ?_ (fun a=>absurd a (by simp;omega)) _)|refine Kp.trans ?_ (by assumption))):p:=a
theorem Zw(a:p:=by repeat (first|with_reducible assumption|with_reducible exact Kp.refl _ _|apply Kp.alloc|apply Kp.drew|apply Kp.drewN|refine Kp.setCell ?_ (fun a=>absurd a (by simp<;>omega)) _|assumption|refine Kp.trans ?_ (by assumption)|exact Kp.refl _ _)):p:=a
theorem Zv(a:p:=by repeat (first|assumption|exact Kp.refl _ _|apply Kp.alloc|apply Kp.drew|apply Kp.drewN|refine Kp.trans ?_ (by assumption))):p:=a
theorem Zu(a:p:=by with_reducible assumption):p:=a
theorem Zt(a:p:=by simp[Value.oneCell']):p:=a
theorem Zs(a:p:=by simp<;>omega):p:=a
theorem Zr(a:p:=by simp;omega):p:=a
theorem Zq(a:p:=by simp;done):p:=a
theorem Zp(a:p:=by assumption):p:=a
theorem Zo(a:p:=by kernel_rfl):p:=a
theorem Zn(a:p:=by decide):p:=a
theorem Zm(a:p:=by omega):p:=a
theorem Zl(a:p:=by simp):p:=a
theorem Zk(a:p:=by go_num):p:=a
theorem Zj(a:p:=by simp[intOf];omega):p:=a
instance cz1:Coe Nat Value:=⟨fun n=>.int .i64 n⟩
instance cz2:Coe Int Value:=⟨.int .i64⟩
instance cz3:Coe ByteArray Value:=⟨.string⟩
instance cz4:Coe Unit Value:=⟨fun _=>.slice none 0 0⟩
instance cz5:CoeDep String "" Value:=⟨.string ⟨#[]⟩⟩
instance cz6 (b:Nat):CoeDep (Option Nat) (some b) Value:=⟨.pointer (some ⟨b,0,none⟩)⟩
instance cz7 (b n c:Nat):CoeDep (Nat×Nat×Nat) (b,n,c) Value:=⟨.slice (some ⟨b,0,none⟩) n c⟩
instance cz9:Coe World Nat:=⟨fun w=>w.heap.size⟩
instance cza (b k:Nat):CoeDep (Nat×Nat) (b,k) Addr:=⟨⟨b,k,none⟩⟩
instance czb (b k:Nat):CoeDep (Option (Nat×Nat)) (some (b,k)) Value:=⟨.pointer (some ⟨b,k,none⟩)⟩
instance czc (w:World)(k:Nat):CoeDep (World×Nat) (w,k) Addr:=⟨⟨w.heap.size,k,none⟩⟩
instance czd (w:World):CoeDep (Option World) (some w) Value:=⟨.pointer (some ⟨w.heap.size,0,none⟩)⟩
instance cze (w:World)(n c:Nat):CoeDep (World×Nat×Nat) (w,n,c) Value:=⟨.slice (some ⟨w.heap.size,0,none⟩) n c⟩
instance czf (w:World)(k:Nat):CoeDep (Option (World×Nat)) (some (w,k)) Value:=⟨.pointer (some ⟨w.heap.size,k,none⟩)⟩
theorem S9(a:World):∃b,b=a:=⟨a,rfl⟩
instance cz8:Coe Nat Addr:=⟨fun b=>⟨b,0,none⟩⟩
instance czg:Coe (Fin 1) Value:=⟨fun _=>.int .i64 0⟩
def Tj:Fin 1:=0
theorem Ti{P G:Prop}(c:G)(b:Zz G->P:=by(intro a;(try simp only[Exit.inBlock,Exit.then]);(first|exact PG (results_none rfl _ _ _) rfl a.o|exact bodyPost_end (results_none rfl _ _ _) rfl a.o))):P:=b (Zy c)
theorem Te{b: Prop}(a:b)(c:b->p:=by(intro _;omega)):p:=c a
theorem Tf{c: Prop}(a:c)(b:d)(e:c->d->p:=by(intro _ _;omega)):p:=e a b
theorem Tg{e C: Prop}(a:d)(b:e)(c:C)(f:d->e->C->p:=by(intro _ _ _;omega)):p:=f a b c
end Go.Proofs.YtenhnldnpdlniaaGreat
namespace Go.Proofs.YtenhnldnpdlniaaGreat.M
structure Kind where
 kind:Int
 name:ByteArray
structure Tag where
 kind:Int
 name:ByteArray
structure Ins where
 op:Int
 a:Int
 name:ByteArray
 member:ByteArray
structure SMap where
 at_:Int
 locals:List Tag
 stack:List Tag
structure Field where
 name:ByteArray
 kind:Kind
structure Method where
 name:ByteArray
 args:List Kind
 ret:Kind
 locals:Int
 stack:Int
 code:List Ins
 maps:List SMap
structure Class where
 name:ByteArray
 jE:ByteArray
 fields:List Field
 methods:List Method
structure Ask where
 name:ByteArray
 keeper:Int
structure mZ where
 owns:List Class
 asks:List Ask
abbrev jl:=List mZ
structure Ref where
 keeper:Int
 name:ByteArray
theorem Ref.oU{a b:Ref}:a=b↔a.keeper=b.keeper/\a.name=b.name:=by
 cases a;cases b;simp
theorem Kind.oU{a b:Kind}:a=b↔a.kind=b.kind/\a.name=b.name:=by
 cases a;cases b;simp
theorem Tag.oU{a b:Tag}:a=b↔a.kind=b.kind/\a.name=b.name:=by
 cases a;cases b;simp
theorem Ins.oU{a b:Ins}:a=b↔a.op=b.op/\a.a=b.a/\a.name=b.name/\a.member=b.member:=by
 cases a;cases b;simp
instance:DecidableEq Ref:=fun _ _=>decidable_of_iff' _ Ref.oU
instance:DecidableEq Kind:=fun _ _=>decidable_of_iff' _ Kind.oU
instance:DecidableEq Tag:=fun _ _=>decidable_of_iff' _ Tag.oU
instance:DecidableEq Ins:=fun _ _=>decidable_of_iff' _ Ins.oU
theorem Field.oU{a b:Field}:a=b↔a.name=b.name/\a.kind=b.kind:=by
 cases a;cases b;simp
instance:DecidableEq Field:=fun _ _=>decidable_of_iff' _ Field.oU
def letter(c:UInt8):Bool:=decide (97<=c.toNat)&&decide (c.toNat<=122)
def jL(s:ByteArray):Bool:=decide (1<=s.size)&&decide (s.size<=6)&&s.data.toList.all letter
abbrev none_:ByteArray:=⟨#[]⟩
def mg(k:Kind):Bool:=(k.kind==1&&decide (k.name=none_))|| (k.kind==2&&jL k.name)
def tH(t:Tag):Bool:=
 if t.kind=0\/t.kind=1\/t.kind=3 then decide (t.name=none_)else if t.kind=2 then jL t.name else false
def qZ(op:Int):Int:=if op=1 then -9999 else 0
def rX(op:Int):Int:=if op=1 then 9999 else if op=2\/op=3 then 5 else 15
def isNum(op:Int):Bool:=op==1 || op==2 || op==3 || op==11 || op==12 || op==13
def qd(op:Int):Bool:=op==6 || op==15
def qV(op:Int):Bool:=op==7 || op==8 || op==9
def sF(op:Int):Bool:=op==4 || op==5 || op==10 || op==14
def mf(i:Ins):Bool:=
 if isNum i.op then decide (i.name=none_)&&decide (i.member=none_)&&decide (qZ i.op<=i.a)&&decide (i.a<=rX i.op)
 else if qd i.op then decide (i.a=0)&&decide (i.member=none_)&&jL i.name
 else if qV i.op then decide (i.a=0)&&jL i.name&&jL i.member
 else if sF i.op then decide (i.a=0)&&decide (i.name=none_)&&decide (i.member=none_)
 else false
def wF(l:List Tag):Bool:=l.all tH
def oL(m:Method)(i:Ins):Bool:=
 mf i&&(if i.op=2\/i.op=3 then decide (i.a<m.locals)else if i.op=11\/i.op=12\/i.op=13 then decide (i.a<m.code.length)else true)
def codeOk(m:Method):Bool:=decide (1<=m.code.length)&&decide (m.code.length<=16)&&m.code.all (oL m)
def tC(m:Method)(f:SMap):Bool:=
 decide (f.at_ <m.code.length)&&decide ((f.locals.length:Int)=m.locals)&&decide ((f.stack.length:Int)<=m.stack)&&wF f.locals&&wF f.stack
def lC(m:Method):Int->List SMap->Bool
 |_,[]=>true
 |last,f::r=>decide (last<f.at_)&&tC m f&&lC m f.at_ r
def sw(m:Method):Bool:=decide (m.maps.length<=5)&&lC m 0 m.maps
def nR(m:Method):Bool:=
 jL m.name&&decide (m.args.length<=3)&&mg m.ret&&m.args.all mg&&
 decide ((m.args.length:Int)+1<=m.locals)&&decide (m.locals<=6)&&decide (1<=m.stack)&&decide (m.stack<=5)&&codeOk m&&sw m
def jU{α:Type}(name:α->ByteArray)(ok:α->Bool):List α->List ByteArray->Bool
 |[],_=>true
 |x::r,seen=>ok x&& !(seen.any fun y=>decide (y=name x))&&jU name ok r (seen++[name x])
def o9(c:Class):Bool:=
 jL c.name&&(decide (c.jE=none_)|| jL c.jE)&&decide (c.fields.length<=3)&&decide (c.methods.length<=4)&&
 jU Field.name (fun f=>jL f.name&&mg f.kind) c.fields []&&jU Method.name nR c.methods []
def has(p:jl)(k:Int):Bool:=decide (0<=k)&&decide (k<p.length)
def kC(p:jl)(k:mZ):Bool:=
 decide (k.owns.length<=5)&&decide (k.asks.length<=4)&&jU Class.name o9 k.owns []&&jU Ask.name (fun a=>jL a.name&&has p a.keeper) k.asks []
def kv(p:jl):Bool:=decide (1<=p.length)&&decide (p.length<=3)&&p.all (kC p)
def mQ(p:jl)(k:Int):Option mZ:=if 0<=k then p[k.toNat]? else none
def wQ(p:jl)(r:Ref):Option Nat:=(mQ p r.keeper).bind fun k=>k.owns.findIdx? fun c=>c.name=r.name
def cls?(p:jl)(r:Ref):Option Class:=(mQ p r.keeper).bind fun k=>k.owns.find? fun c=>c.name=r.name
def ve(p:jl)(k:Int)(n:ByteArray):Option Int:=(mQ p k).bind fun q=>(q.asks.find? fun a=>a.name=n).map Ask.keeper
def owned(p:jl)(r:Ref):Bool:=(cls? p r).isSome
def q9:Ref:=⟨0,none_⟩
def pK(p:jl)(n:ByteArray):Nat->List Int->Int->List Int×Int
 |0,_,_=>([],3)
 |f+1,asked,k=>match ve p k n with
  |none=>if owned p ⟨k,n⟩then(asked,1)else([],2)
  |some next=>if asked.contains next then([],3)else pK p n f (asked++[next]) next
def path(p:jl)(k:Int)(n:ByteArray):List Int×Int:=if has p k then pK p n 4 [k] k else([],2)
def resolve(p:jl)(k:Int)(n:ByteArray):Ref×Int:=
 if(path p k n).2=1 then(⟨(path p k n).1.getLastD 0,n⟩,1)else(q9,(path p k n).2)
def jE(p:jl)(r:Ref):ByteArray:=((cls? p r).map Class.jE).getD none_
def ku(p:jl):Nat->Ref->Option (List Ref)
 |0,_=>none
 |f+1,r=>
  if jE p r=none_ then some [r]
  else if(resolve p r.keeper (jE p r)).2=1 then(ku p f (resolve p r.keeper (jE p r)).1).map (r::·)else none
def nk(p:jl)(r:Ref):Option (List Ref):=ku p 6 r
def find(p:jl)(k:Int)(n:ByteArray):Ref×Int:=
 if(resolve p k n).2=1 then(if(nk p (resolve p k n).1).isSome then((resolve p k n).1,1)else(q9,4))else(q9,(resolve p k n).2)
def mE(p:jl)(r:Ref):Bool:=decide ((find p r.keeper r.name).2=1)&&decide ((find p r.keeper r.name).1=r)
def chain(p:jl)(r:Ref):List Ref:=if mE p r then(nk p r).getD []else []
def under(p:jl)(low top:Ref):Bool:=(chain p low).contains top
def agree(p:jl)(a b:Int)(k:Kind):Bool:=
 k.kind==1 || (if(find p a k.name).2=1/\(find p b k.name).2=1 then decide ((find p a k.name).1=(find p b k.name).1)
  else decide ((find p a k.name).2≠1)&&decide ((find p b k.name).2≠1))
def jY(p:jl)(a b:Int)(m:Method):Bool:=m.args.all (agree p a b)&&agree p a b m.ret
def pY(c:Class)(n:ByteArray):Option Nat:=c.methods.findIdx? fun m=>m.name=n
def uu(c:Class)(n:ByteArray):Option Nat:=c.fields.findIdx? fun f=>f.name=n
def Su:Class:=⟨none_,none_,[],[]⟩
def cls(p:jl)(r:Ref):Class:=(cls? p r).getD Su
def lh(p:jl)(low high:Ref)(m:Method):Bool:=
 match(cls p high).methods.find? (fun n=>n.name=m.name)with
 |none=>true
 |some n=>decide (m.ret=n.ret)&&decide (m.args=n.args)&&jY p low.keeper high.keeper m
def mG(p:jl)(low high:Ref):Bool:=
 (cls p low).fields.all (fun f=>(uu (cls p high) f.name).isNone)&&(cls p low).methods.all (lh p low high)
def kZ(p:jl):List Ref->Bool
 |[]=>true
 |low::r=>r.all (mG p low)&&kZ p r
def jW(p:jl)(r:Ref):Bool:= !(chain p r).isEmpty&&kZ p (chain p r)
end Go.Proofs.YtenhnldnpdlniaaGreat.M
namespace Go.Proofs.YtenhnldnpdlniaaGreat
open Go Go.RowKit Tryz M
theorem jv{w:World}{b d:Nat}{v:Value}(c:w.cell? (b,d)=some v):b<w:=by
 rcases UZ b w with a|a
 . exact a
 . simp[World.cell?,UY a]at c
structure Kp(D:Nat->Prop)(w w':World):Prop where
 os:w'.os=w.os
 tape:w'.tape=w.tape
 output:w'.output=w.output
 size:w.heap.size<=w'.heap.size
 block:∀k,k<w.heap.size->¬D k->w'.heap[k]?=w.heap[k]?
section
variable {D D':Nat->Prop}{w w' a b c:World}
theorem Kp.refl(D:Nat->Prop)(w:World):Kp D w w:=⟨rfl,rfl,rfl,Tu _,fun _ _ _=>rfl⟩
theorem Kp.rr{D:Nat->Prop}{w:World}:Kp D w w:=Kp.refl D w
theorem Kp.trans(d:Kp D a b)(k:Kp D b c):Kp D a c:=
 ⟨k.os.trans d.os,k.tape.trans d.tape,k.output.trans d.output,TV d.size k.size,
  fun g f e=>(k.block g (Ta f d.size) e).trans (d.block g f e)⟩
theorem Kp.weak(d:Kp D a b)(f:∀c,c<a.heap.size->D c->D' c):Kp D' a b:=
 ⟨d.os,d.tape,d.output,d.size,fun c e g=>d.block c e fun h=>g (f c e h)⟩
theorem Kp.below(c:Kp D a b)(n:Nat)(g:n<=a)(e:∀d,d<n->¬D d):Below n a b:=
 ⟨c.os,c.tape,c.output,c.size,fun d f=>c.block d Zm (e d f)⟩
theorem Kp.alloc(c:Kp D a b)(f:Obj):Kp D a (b.alloc f):=
 ⟨c.os,c.tape,c.output,by simp;exact Uc c.size,fun e d g=>(Wm b f e (Ta d c.size)).trans (c.block e d g)⟩
theorem Kp.drew(c:Kp D a b):Kp D a b.drew:=⟨c.os,c.tape,c.output,c.size,c.block⟩
theorem Kp.drewN(c:Kp D a b)(n:Nat):Kp D a (b.drewN n):=⟨c.os,c.tape,c.output,c.size,c.block⟩
theorem Kp.setCell(c:Kp D a b){p:Addr}(h:p.block<a->D p.block)(v:Value):Kp D a (b.setCell p v):=
 ⟨c.os,c.tape,c.output,by simp[World.setCell];exact c.size,
  fun f e d=>(Below.heap_setCell b p v f (fun g=>d (by subst g;exact h e))).trans (c.block f e d)⟩
theorem SC{g:Nat}(c:Kp (·=g) a b){k:Nat}{v:Value}:Kp (·=g) a (b.setCell (g,k) v):=c.setCell (p:=⟨g,k,none⟩) (fun _=>rfl) v
theorem qM{g:Nat}(c:Kp (·=g) a b:=by(repeat (first|with_reducible exact Kp.rr|with_reducible refine SC ?_))):Kp (·=g) a b:=c
theorem Kp.cell(d:Kp D a b){k c:Nat}(f:k<a)(e:¬D k):b.cell? (k,c)=a.cell? (k,c):=
 V6 (d.block k f e)
theorem Kp.frozen(d:Kp D a b){k c:Nat}(f:k<a)(e:¬D k):b.frozen? (k,c)=a.frozen? (k,c):=
 World.frozen?_of_block (d.block k f e)
abbrev Ext(w w':World):Prop:=Kp (fun _=>False) w w'
theorem Kp.any(c:Ext a b):Kp D a b:=c.weak fun _ _ d=>d.elim
theorem Ext.PZ{w w':World}(a:Ext w w'):Below w w w':=Kp.below a _ (Tu _) fun _ _ b=>b
theorem Kp.jm(e:Ext a b){k d:Nat}{v:Value}(c:a.cell? (k,d)=some v):b.cell? (k,d)=some v:=
 (e.cell (jv c) (fun f=>f)).trans c
theorem Kp.mJ(e:Kp D a b){k d:Nat}{v:Value}(c:a.cell? (k,d)=some v)(f:¬D k):b.cell? (k,d)=some v:=
 (e.cell (jv c) f).trans c
theorem Kp.LY{f:Obj}(d:Ext (a.alloc f) b){k c:Nat}{v:Value}(e:a.cell? (k,c)=some v):b.cell? (k,c)=some v:=
 d.jm (((Kp.refl _ _).alloc _:Ext a _).jm e)
inductive KX(D:Nat->Prop)(w:World):World->Prop
 |r:KX D w w
 |a {b:World} {o:Obj}:KX D w b->KX D w (b.alloc o)
 |d {b:World}:KX D w b->KX D w b.drew
 |n {b:World} {k:Nat}:KX D w b->KX D w (b.drewN k)
 |h {b:World}:Kp D w b->KX D w b
theorem KX.k{D:Nat->Prop}{w b:World}(h:KX D w b):Kp D w b:=by
 induction h with
 |r=>exact Kp.refl _ _
 |a _ c=>exact c.alloc _
 |d _ c=>exact c.drew
 |n _ c=>exact c.drewN _
 |h h=>exact h
theorem kx{D:Nat->Prop}{w b:World}(a:KX D w b:=by repeat (first|assumption|constructor)):Kp D w b:=a.k
theorem IP{W d:World}(f:Ext W d):(∀b a,b<W.heap.size->d.cell? ⟨b,a,none⟩=W.cell? ⟨b,a,none⟩)/\(∀b a,b<W.heap.size->d.frozen? ⟨b,a,none⟩=W.frozen? ⟨b,a,none⟩):=
 ⟨fun _ _ c=>f.cell c fun e=>e,fun _ _ c=>f.frozen c fun e=>e⟩
end
theorem jw{p0 a:Prop}(h0:p0)(b:a):Zz p0/\Zz a:=⟨Zy h0,Zy b⟩
theorem jI{p0 a b:Prop}(h0:p0)(c:a)(d:b):Zz p0/\Zz a/\Zz b:=⟨Zy h0,Zy c,Zy d⟩
theorem kD{p0 a b c:Prop}(h0:p0)(d:a)(e:b)(f:c):Zz p0/\Zz a/\Zz b/\Zz c:=⟨Zy h0,Zy d,Zy e,Zy f⟩
theorem nC{p0 a b c d:Prop}(h0:p0)(e:a)(f:b)(g:c)(h:d):Zz p0/\Zz a/\Zz b/\Zz c/\Zz d:=⟨Zy h0,Zy e,Zy f,Zy g,Zy h⟩
theorem pR{p0 a b c d e:Prop}(h0:p0)(f:a)(g:b)(h:c)(i:d)(j:e):Zz p0/\Zz a/\Zz b/\Zz c/\Zz d/\Zz e:=⟨Zy h0,Zy f,Zy g,Zy h,Zy i,Zy j⟩
theorem tq{p0 a b c d e f:Prop}(h0:p0)(g:a)(h:b)(i:c)(j:d)(k:e)(l:f):Zz p0/\Zz a/\Zz b/\Zz c/\Zz d/\Zz e/\Zz f:=⟨Zy h0,Zy g,Zy h,Zy i,Zy j,Zy k,Zy l⟩
theorem Em{p0 a b c d e f g:Prop}(h0:p0)(h:a)(i:b)(j:c)(k:d)(l:e)(m:f)(n:g):Zz p0/\Zz a/\Zz b/\Zz c/\Zz d/\Zz e/\Zz f/\Zz g:=⟨Zy h0,Zy h,Zy i,Zy j,Zy k,Zy l,Zy m,Zy n⟩
theorem AV{p0 a b c d e f g h:Prop}(h0:p0)(i:a)(j:b)(k:c)(l:d)(m:e)(n:f)(o:g)(p:h):Zz p0/\Zz a/\Zz b/\Zz c/\Zz d/\Zz e/\Zz f/\Zz g/\Zz h:=⟨Zy h0,Zy i,Zy j,Zy k,Zy l,Zy m,Zy n,Zy o,Zy p⟩
def jq(w:World)(g:Nat)(t:TypeId)(cs:Array Value):Prop:=w.heap[g]?=some (.cells cs t (0,0))
section
variable {w w':World}{g:Nat}{t:TypeId}{cs:Array Value}
theorem jq.lt(a:jq w g t cs):g<w:=by
 rcases UZ g w with c|b
 . exact c
 . unfold jq at a;rw[UY b]at a;cases a
theorem jq.cell(a:jq w g t cs)(i:Nat):w.cell? (g,i)=cs[i]?:=by
 unfold jq at a;simp[World.cell?,a]
theorem jq.c(a:jq w g t cs)(i:Nat)(v:Value)(b:cs[i]?=some v):w.cell? (g,i)=some v:=(a.cell i).trans b
theorem jq.frozen(a:jq w g t cs)(i:Nat):w.frozen? (g,i)=false:=by
 unfold jq at a;simp[World.frozen?,a]
def QU(w:World)(g:Nat):List Nat->List Value->Prop
 |i::r,v::l=>w.cell? ⟨g,i,none⟩=some v/\QU w g r l
 |_,_=>True
def QT{T:Type}(W:T->World)(g:Nat):List Nat->List Value->Prop
 |i::r,v::l=>(∀z,(W z).cell? ⟨g,i,none⟩=some v)/\QT W g r l
 |_,_=>True
def RQ(w:World)(g:Nat):List Nat->Prop
 |i::r=>w.frozen? ⟨g,i,none⟩=false/\RQ w g r
 |_=>True
theorem QU.of{w:World}{g:Nat}:∀(n k:Nat)(l:List Value),(∀a b,l[a]?=some b->w.cell? ⟨g,k+a,none⟩=some b)->QU w g (List.range' k n) l
 |0,_,_,_=>by simp[QU]
 |n+1,k,[],_=>by simp[VD,QU]
 |n+1,k,b::l,h=>by
  rw[VD];exact⟨h 0 b rfl,QU.of n (k+1) l fun a d c=>by have:=h (a+1) d c;rwa[Nat.add_right_comm,<-Uj]at*⟩
theorem QT.of{d:Type}{W:d->World}{g:Nat}:∀(n k:Nat)(l:List Value),(∀a b,l[a]?=some b->∀c,(W c).cell? ⟨g,k+a,none⟩=some b)->QT W g (List.range' k n) l
 |0,_,_,_=>by simp[QT]
 |n+1,k,[],_=>by simp[VD,QT]
 |n+1,k,b::l,h=>by
  rw[VD];exact⟨h 0 b rfl,QT.of n (k+1) l fun a f e c=>by have:=h (a+1) f e c;rwa[Nat.add_right_comm,<-Uj]at*⟩
theorem RQ.of{w:World}{g:Nat}(b:∀i,w.frozen? ⟨g,i,none⟩=false):∀a:List Nat,RQ w g a
 |[]=>trivial
 |i::a=>⟨b i,RQ.of b a⟩
theorem jq.ca(a:jq w g t cs):g<w/\QU w g [0,1,2,3,4,5,6,7,8,9,10,11] cs.toList:=
 ⟨a.lt,QU.of 12 0 _ fun c d b=>by rw[Tk];exact a.c c d (by rw[<-Array.getElem?_toList];exact b)⟩
theorem jq.pq{c:Type}{W:c->World}(b:∀a,jq (W a) g t cs):(∀a,g<(W a).heap.size)/\QT W g [0,1,2,3,4,5,6,7,8,9,10,11] cs.toList:=
 ⟨fun a=>(b a).lt,QT.of 12 0 _ fun e f d a=>by rw[Tk];exact(b a).c e f (by rw[<-Array.getElem?_toList];exact d)⟩
theorem jq.fz(a:jq w g t cs):RQ w g [0,1,2,3,4,5,6,7,8,9,10,11]:=RQ.of (fun b=>a.frozen b) _
theorem jq.keep(a:jq w g t cs)(b:w'.heap[g]?=w.heap[g]?):jq w' g t cs:=b.trans a
theorem jq.ext(a:jq w g t cs)(b:Ext w w'):jq w' g t cs:=(b.block g a.lt fun c=>c).trans a
theorem jq.kp{D:Nat->Prop}(a:jq w g t cs)(b:Kp D w w')(c:¬D g):jq w' g t cs:=(b.block g a.lt c).trans a
theorem jq.new(w:World)(t:TypeId)(cs:Array Value):jq (w.alloc (.cells cs t)) w t cs:=by
 unfold jq World.alloc;simp
theorem nu(w:World)(cs:Array Value)(t:TypeId):∃a,a=w.alloc (.cells cs t)/\Ext w a/\jq a w t cs:=⟨_,rfl,(Kp.refl _ _).alloc _,jq.new _ _ _⟩
theorem jq.jR(a:jq w g t cs)(i:Nat)(b:Value):jq (w.setCell (g,i) b) g t (cs.setIfInBounds i b):=by
 unfold jq at a |-;simp[World.setCell,Array.getElem?_modify,a]
end
def hQ(w:World)(b o:Nat)(cs:List Value):Prop:=∀j v,cs[j]?=some v->w.cell? ⟨b,o+j,none⟩=some v
abbrev om(α:Type):=World->(Nat->Prop)->α->List Value->Prop
def SliceOf{α:Type}(k:Nat)(R:om α)(w:World)(I:Nat->Prop)(v:Value)(xs:List α):Prop:=
 ∃a cap,v=.slice a xs.length cap/\xs.length<=cap/\xs.length<=4294967296/\
  ∀i x,xs[i]?=some x->∃b off cs,a=some ⟨b,off,none⟩/\I b/\R w I x cs/\cs.length=k/\hQ w b (off+i*k) cs
theorem SV{w:World}{b:Nat}{t:TypeId}{u0 u1 u2:Value}(c:jq w b t #[u0,u1,u2])(d e f:Value):∃a,a=((w.setCell b d).setCell (b,1) e).setCell (b,2) f/\jq a b t #[d,e,f]/\Kp (·=b) w a:=
 ⟨_,rfl,by have c:=(((c.jR 0 d).jR 1 e).jR 2 f);simpa using c,qM⟩
theorem SX{w:World}{b:Nat}{t:TypeId}{u0 u1 u2 u3 u4:Value}(c:jq w b t #[u0,u1,u2,u3,u4])(d e f g h:Value):∃a,a=((((w.setCell b d).setCell (b,1) e).setCell (b,2) f).setCell (b,3) g).setCell (b,4) h/\jq a b t #[d,e,f,g,h]/\Kp (·=b) w a:=
 ⟨_,rfl,by have c:=(((((c.jR 0 d).jR 1 e).jR 2 f).jR 3 g).jR 4 h);simpa using c,qM⟩
theorem Io{w:World}{b:Nat}{t:TypeId}{u0 u1 u2 u3 u4 u5:Value}(c:jq w b t #[u0,u1,u2,u3,u4,u5])(d e f g h i:Value):∃a,a=(((((w.setCell b d).setCell (b,1) e).setCell (b,2) f).setCell (b,3) g).setCell (b,4) h).setCell (b,5) i/\jq a b t #[d,e,f,g,h,i]/\Kp (·=b) w a:=
 ⟨_,rfl,by have c:=((((((c.jR 0 d).jR 1 e).jR 2 f).jR 3 g).jR 4 h).jR 5 i);simpa using c,qM⟩
theorem hQ.keep{w d:World}{b a:Nat}{cs:List Value}(e:hQ w b a cs)(g:∀a c,w.cell? ⟨b,a,none⟩=some c->d.cell? ⟨b,a,none⟩=some c):hQ d b a cs:=
 fun h c f=>g _ _ (e h c f)
def Same(I:Nat->Prop)(w w':World):Prop:=∀b o v,I b->w.cell? ⟨b,o,none⟩=some v->w'.cell? ⟨b,o,none⟩=some v
theorem Ext.same{I:Nat->Prop}{w a:World}(b:Ext w a):Same I w a:=fun _ _ _ _ c=>Kp.jm b c
theorem Kp.same{I D:Nat->Prop}{w b:World}(c:Kp D w b)(hI:∀a,I a->¬D a):Same I w b:=fun a _ _ d e=>c.mJ e (hI a d)
def kE{α:Type}(R:om α):Prop:=∀(w w':World)(I J:Nat->Prop)(x:α)(cs:List Value),Same I w w'->(∀b,I b->J b)->R w I x cs->R w' J x cs
theorem SliceOf.keep{α:Type}{k:Nat}{R:om α}(hR:kE R){w e:World}{I J:Nat->Prop}{v:Value}{xs:List α}(l:SliceOf k R w I v xs)(d:Same I w e)(c:∀a,I a->J a):SliceOf k R e J v xs:=by
 obtain⟨f,g,i,m,n,o⟩:=l;refine⟨f,g,i,m,n,fun t y s=>?_⟩;obtain⟨a,x,h,j,b,r,q,p⟩:=o t y s;exact⟨a,x,h,j,c a b,hR _ _ _ _ _ _ d c r,q,p.keep fun u v=>d a u v b⟩
theorem SliceOf.ext{α:Type}{k:Nat}{R:om α}{w b:World}{I:Nat->Prop}{v:Value}{xs:List α}(a:SliceOf k R w I v xs)(hR:kE R)(c:Ext w b):SliceOf k R b I v xs:=
 a.keep hR (Ext.same c) fun _ a=>a
theorem SliceOf.get{α:Type}{k:Nat}{R:om α}{w:World}{I:Nat->Prop}{a:Option Addr}{n e:Nat}{xs:List α}(g:SliceOf k R w I (.slice a n e) xs){i:Nat}{x:α}(j:xs[i]?=some x):∃b d c,a=some ⟨b,d,none⟩/\I b/\R w I x c/\c.length=k/\hQ w b (d+i*k) c:=by
 obtain⟨l,m,f,o,p,h⟩:=g;cases f;exact h i x j
theorem SliceOf.form{α:Type}{k:Nat}{R:om α}{w:World}{I:Nat->Prop}{v:Value}{xs:List α}(d:SliceOf k R w I v xs):∃b a,v=.slice b xs.length a/\xs.length<=a/\xs.length<=4294967296:=by
 obtain⟨b,a,c,e,f,_⟩:=d;exact⟨b,a,c,e,f⟩
theorem SliceOf.nil{α:Type}(k:Nat)(R:om α)(w:World)(I:Nat->Prop):SliceOf k R w I () ([]:List α):=
 ⟨none,0,rfl,Tu _,Zl,fun b c a=>by simp at a⟩
theorem SliceOf.take{α:Type}{k:Nat}{R:om α}{w:World}{I:Nat->Prop}{a:Option Addr}{n c:Nat}{xs:List α}(e:SliceOf k R w I (.slice a n c) xs){i:Nat}(g:i<=xs.length):SliceOf k R w I (.slice a i c) (xs.take i):=by
 obtain⟨l,m,d,o,p,f⟩:=e;cases d;refine⟨a,c,by rw[TN,UN g],by rw[TN];omega,by rw[TN];omega,fun h j b=>?_⟩;rw[Ub]at b;split at b
 . exact f h j b
 . cases b
def mV:om Kind:=fun _ _ x cs=>cs=[.int .i64 x.kind,.string x.name]
def jZ:om Tag:=fun _ _ x cs=>cs=[.int .i64 x.kind,.string x.name]
def zO:om Ins:=fun _ _ x cs=>cs=[.int .i64 x.op,.int .i64 x.a,.string x.name,.string x.member]
def qN:om Ref:=fun _ _ x cs=>cs=[.int .i64 x.keeper,.string x.name]
def vL:om M.Ask:=fun _ _ x cs=>cs=[.string x.name,.int .i64 x.keeper]
def lI:om M.Field:=fun _ _ x cs=>cs=[.string x.name,.int .i64 x.kind.kind,.string x.kind.name]
def qx:om Int:=fun _ _ x cs=>cs=[.int .i64 x]
def mI:om SMap:=fun w I x cs=>∃vl vs,cs=[.int .i64 x.at_,vl,vs]/\SliceOf 2 jZ w I vl x.locals/\SliceOf 2 jZ w I vs x.stack
def jy:om M.Method:=fun w I x cs=>∃va vc vm,cs=[.string x.name,va,.int .i64 x.ret.kind,.string x.ret.name,.int .i64 x.locals,.int .i64 x.stack,vc,vm]/\
 SliceOf 2 mV w I va x.args/\SliceOf 4 zO w I vc x.code/\SliceOf 3 mI w I vm x.maps
def jT:om Class:=fun w I x cs=>∃vf vm,cs=[.string x.name,.string x.jE,vf,vm]/\SliceOf 3 lI w I vf x.fields/\SliceOf 8 jy w I vm x.methods
def jo:om mZ:=fun w I x cs=>∃vo va,cs=[vo,va]/\SliceOf 4 jT w I vo x.owns/\SliceOf 2 vL w I va x.asks
theorem jy.form{w:World}{I:Nat->Prop}{x:M.Method}{cs:List Value}(g:jy w I x cs):∃a d b e c f,cs=[.string x.name,.slice a x.args.length d,.int .i64 x.ret.kind,.string x.ret.name,.int .i64 x.locals,.int .i64 x.stack,.slice b x.code.length e,.slice c x.maps.length f]:=by
 obtain⟨_,_,_,rfl,h,i,j⟩:=g;obtain⟨a,d,rfl,_⟩:=h.form;obtain⟨b,e,rfl,_⟩:=i.form;obtain⟨c,f,rfl,_⟩:=j.form;exact⟨a,d,b,e,c,f,rfl⟩
theorem jT.form{w:World}{I:Nat->Prop}{x:Class}{cs:List Value}(e:jT w I x cs):∃a c b d,cs=[.string x.name,.string x.jE,.slice a x.fields.length c,.slice b x.methods.length d]:=by
 obtain⟨_,_,rfl,f,g⟩:=e;obtain⟨a,c,rfl,_⟩:=f.form;obtain⟨b,d,rfl,_⟩:=g.form;exact⟨a,c,b,d,rfl⟩
theorem jo.form{w:World}{I:Nat->Prop}{x:mZ}{cs:List Value}(e:jo w I x cs):∃a c b d,cs=[.slice a x.owns.length c,.slice b x.asks.length d]:=by
 obtain⟨_,_,rfl,f,g⟩:=e;obtain⟨a,c,rfl,_⟩:=f.form;obtain⟨b,d,rfl,_⟩:=g.form;exact⟨a,c,b,d,rfl⟩
theorem mI.form{w:World}{I:Nat->Prop}{x:SMap}{cs:List Value}(e:mI w I x cs):∃a c b d,cs=[.int .i64 x.at_,.slice a x.locals.length c,.slice b x.stack.length d]:=by
 obtain⟨_,_,rfl,f,g⟩:=e;obtain⟨a,c,rfl,_⟩:=f.form;obtain⟨b,d,rfl,_⟩:=g.form;exact⟨a,c,b,d,rfl⟩
theorem mV.stays:kE mV:=fun _ _ _ _ _ _ _ _ a=>a
theorem jZ.stays:kE jZ:=fun _ _ _ _ _ _ _ _ a=>a
theorem zO.stays:kE zO:=fun _ _ _ _ _ _ _ _ a=>a
theorem qN.stays:kE qN:=fun _ _ _ _ _ _ _ _ a=>a
theorem vL.stays:kE vL:=fun _ _ _ _ _ _ _ _ a=>a
theorem lI.stays:kE lI:=fun _ _ _ _ _ _ _ _ a=>a
theorem qx.stays:kE qx:=fun _ _ _ _ _ _ _ _ a=>a
theorem mI.stays:kE mI:=fun _ _ _ _ _ _ b a ⟨c,vs,e,h1,h2⟩=>⟨c,vs,e,h1.keep jZ.stays b a,h2.keep jZ.stays b a⟩
theorem jy.stays:kE jy:=fun _ _ _ _ _ _ b a ⟨c,vc,vm,e,h1,h2,h3⟩=>
 ⟨c,vc,vm,e,h1.keep mV.stays b a,h2.keep zO.stays b a,h3.keep mI.stays b a⟩
theorem jT.stays:kE jT:=fun _ _ _ _ _ _ b a ⟨c,vm,e,h1,h2⟩=>⟨c,vm,e,h1.keep lI.stays b a,h2.keep jy.stays b a⟩
theorem jo.stays:kE jo:=fun _ _ _ _ _ _ b a ⟨c,va,e,h1,h2⟩=>⟨c,va,e,h1.keep jT.stays b a,h2.keep vL.stays b a⟩
theorem hQ.two{w:World}{b a:Nat}{x y:Value}(c:hQ w b a [x,y]):w.cell? (b,a)=some x/\w.cell? (b,a+1)=some y:=
 ⟨by simpa using c 0 x rfl,c 1 y rfl⟩
theorem hQ.one{w:World}{b a:Nat}{x:Value}(c:hQ w b a [x]):w.cell? (b,a)=some x:=by simpa using c 0 x rfl
theorem hQ.three{w:World}{b a:Nat}{x y z:Value}(c:hQ w b a [x,y,z]):w.cell? (b,a)=some x/\w.cell? (b,a+1)=some y/\w.cell? (b,a+2)=some z:=
 ⟨by simpa using c 0 x rfl,c 1 y rfl,c 2 z rfl⟩
theorem hQ.four{w:World}{b a:Nat}{x y z d:Value}(c:hQ w b a [x,y,z,d]):w.cell? (b,a)=some x/\w.cell? (b,a+1)=some y/\w.cell? (b,a+2)=some z/\w.cell? (b,a+3)=some d:=
 ⟨by simpa using c 0 x rfl,c 1 y rfl,c 2 z rfl,c 3 d rfl⟩
theorem hQ.eight{w:World}{b a:Nat}{d e f g h i j k:Value}(c:hQ w b a [d,e,f,g,h,i,j,k]):w.cell? (b,a)=some d/\w.cell? (b,a+1)=some e/\w.cell? (b,a+2)=some f/\w.cell? (b,a+3)=some g/\w.cell? (b,a+4)=some h/\w.cell? (b,a+5)=some i/\w.cell? (b,a+6)=some j/\w.cell? (b,a+7)=some k:=
 ⟨by simpa using c 0 d rfl,c 1 e rfl,c 2 f rfl,c 3 g rfl,c 4 h rfl,c 5 i rfl,c 6 j rfl,c 7 k rfl⟩
theorem hQ.ext{w c:World}{b a:Nat}{cs:List Value}(d:hQ w b a cs)(e:Ext w c):hQ c b a cs:=fun g h f=>e.jm (d g h f)
theorem hQ.kp{D:Nat->Prop}{w c:World}{b a:Nat}{cs:List Value}(d:hQ w b a cs)(g:Kp D w c)(e:¬D b):hQ c b a cs:=fun h i f=>g.mJ (d h i f) e
theorem jA{D:Nat->Prop}{w:World}:Kp D w w.drew:=(Kp.refl D w).drew
theorem jJ{D:Nat->Prop}{w:World}(a:Obj):Kp D w (w.alloc a):=(Kp.refl D w).alloc a
theorem hV{a b:Bool}(c:a=b):Ending.returned (.bool a)=.returned (.bool b):=by rw[c]
theorem l7(s:ByteArray):s.toList.isEmpty=decide (s=none_):=by
 rw[Uv];obtain⟨⟨a⟩⟩:=s;cases a<;>simp[none_]
theorem CP(s:ByteArray)(k:Nat)(a:k<s.size):s.data.toList.take (k+1)=s.data.toList.take k++[s[k]]:=by
 rw[VJ (by simpa using a)];rfl
theorem Bc(s:ByteArray)(k:Nat)(c:k<s.size)(a:letter s[k]=false):jL s=false:=by
 have b:s[k]∈s.data.toList:=by simp[ByteArray.getElem_eq_getElem_data]
 unfold jL;rw[VX.2 ⟨_,b,by simp[a]⟩];simp
theorem Er{c:UInt8}(a:(c.toNat:Int)<97):letter c=false:=by
 unfold letter;rw[SS Zm];rfl
theorem Es{c:UInt8}(a:(c.toNat:Int)<97\/122<(c.toNat:Int)):letter c=false:=by
 unfold letter;rcases a with a|a
 . rw[SS Zm];rfl
 . rw[SS (p:=c.toNat<=122) Zm];simp
theorem Et{c:UInt8}(a:97<=(c.toNat:Int)/\(c.toNat:Int)<=122):letter c=true:=by
 unfold letter;rw[Tw Zm,Tw Zm];rfl
theorem Bo{s:ByteArray}{w:World}:Calls prog 40 #[s] w fun g h=>g=.returned (.bool (jL s))/\w=h:=by
 by_cases i:s.size<1
 . go_enter func40,ntmps40;go_wp2;go_ret;exact⟨hV (by unfold jL;rw[SS Zm];rfl),rfl⟩
 by_cases j:6<s.size
 . go_enter func40,ntmps40;go_wp2;go_ret;exact⟨hV (by unfold jL;rw[SS (p:=s.size<=6) Zm];simp),rfl⟩
 go_enter func40,ntmps40;go_wp2;go_loop [3] (fun c=>∃a:Nat,a<=s.size/\c=.int .i64 a/\(s.data.toList.take a).all letter=true) (fun c=>s.size - (intOf c).toNat)
 case atStart=>exact⟨0,Tz _,rfl,Zl⟩
 case round=>
  obtain⟨a,k,rfl,f⟩:=hrel;have d:=Zy f;clear f;by_cases b:a<s.size
  . go_wp2
    . go_ret;exact⟨hV (Bc s a b (Es Zp)).symm,rfl⟩
    . go_round
      case rel=>
       refine⟨a+1,Zm,Zk,?_⟩;rw[CP s a b,VZ,d.o];simp[Et (c:=s[a]) Zp]
      case measure=>exact Zj
    . go_ret;exact⟨hV (Bc s a b (Er Zp)).symm,rfl⟩
  . go_wp2;go_ret;refine⟨hV ?_,rfl⟩;have e:=d.o;rw[Tq Zr]at e;unfold jL;rw[e,Tw Zm,Tw Zm];rfl
theorem og(s:ByteArray)(w:World):Calls prog 17 #[s] w fun a b=>a=.returned (.bool (jL s))/\w=b:=by
 go_enter func17,ntmps17;go_wp2_with (go_at_call 40;refine(Bo).mono ?_;rintro a b ⟨rfl,rfl⟩);go_ret;exact⟨rfl,rfl⟩
theorem Hv(n:Int)(w:World):Calls prog 20 #[n] w fun a b=>a=.returned (.bool (decide (-9999<=n)&&decide (n<=9999)))/\w=b:=by
 go_enter func20,ntmps20;go_wp2
 . go_ret;exact⟨hV (by rw[Tw (p:= -9999<=n) Zm];rfl),rfl⟩
 . go_ret;exact⟨hV (by rw[SS (p:= -9999<=n) Zm];rfl),rfl⟩
theorem Dx(n:Int){w:World}:Calls prog 48 #[n] w fun a b=>a=.returned (.agg #[.int .i64 1,n])/\Ext w b:=by
 go_enter func48,ntmps48;go_wp2;refine PG (v:=.agg #[.int .i64 1,n]) (by simp[results,results48,go_sem]) rfl ?_;exact⟨rfl,(jJ _)⟩
theorem Jv{w:World}:Calls prog 99 #[] w fun a b=>a=.returned (.agg #[.int .i64 3,Tj])/\Ext w b:=by
 go_enter func99,ntmps99;go_wp2;refine PG (v:=.agg #[.int .i64 3,Tj]) (by simp[results,results99,go_sem]) rfl ?_;exact⟨rfl,(jJ _)⟩
def Qb(k:Kind)(e:Ending):Prop:=(mg k=true/\∃t x,e=.returned (.iface t x))\/(mg k=false/\e=.returned .nilIface)
theorem Qp{n:ByteArray}(a:n.toList.isEmpty=true):mg ⟨1,n⟩=true:=by
 rw[l7]at a;simp[mg,a]
theorem OX{n:ByteArray}(a:n.toList.isEmpty=false):mg ⟨1,n⟩=false:=by
 rw[l7]at a;simp[mg,a]
theorem Qq{k:Int}{n:ByteArray}(a:k=2):mg ⟨k,n⟩=jL n:=by
 subst a;simp[mg]
theorem Qo{k:Int}{n:ByteArray}(a:¬k=1)(b:¬k=2):mg ⟨k,n⟩=false:=by
 simp[mg,a,b]
theorem PN(k:Kind){w:World}:Calls prog 170 #[.agg #[k.kind,k.name]] w fun d i=>Qb k d/\Ext w i:=by
 obtain⟨kk,b⟩:=k;by_cases e:kk=1
 . subst e;cases h:b.toList.isEmpty
   . go_enter func170,ntmps170;go_wp2;go_ret;exact⟨.inr ⟨OX h,rfl⟩,(jJ _)⟩
   . go_enter func170,ntmps170;go_wp2;go_ret;exact⟨.inl ⟨Qp h,_,_,rfl⟩,(jJ _)⟩
 . by_cases f:kk=2
   . have c:=Zy (Qq (n:=b) f);cases g:jL b
     all_goals
      have a:=Zy g;clear g;go_enter func170,ntmps170;go_wp2_with (go_at_call 40;refine(Bo).mono ?_;rintro d i ⟨rfl,rfl⟩;rw[a.o]);go_ret
     . exact⟨.inr ⟨by rw[c.o,a.o],rfl⟩,(jJ _)⟩
     . exact⟨.inl ⟨by rw[c.o,a.o],_,_,rfl⟩,(jJ _)⟩
   . go_enter func170,ntmps170;go_wp2;go_ret;exact⟨.inr ⟨Qo e f,rfl⟩,(jJ _)⟩
theorem BK(k:Kind){w:World}:Calls prog 138 #[.agg #[k.kind,k.name]] w fun b c=>b=.returned (.bool (mg k))/\Ext w c:=by
 go_enter func138,ntmps138;go_wp2_with fail;refine(PN k).mono ?_;rintro b f ⟨⟨a,e,g,rfl⟩|⟨a,rfl⟩,d⟩
 . go_wp2;go_ret;exact⟨hV a.symm,Zv⟩
 . go_wp2;go_ret;exact⟨hV a.symm,Zv⟩
theorem Ir{k:Int}{n:ByteArray}(a:k=0\/k=1\/k=3):tH ⟨k,n⟩=n.toList.isEmpty:=by
 unfold tH;rw[Ty a,l7]
theorem QJ{k:Int}{n:ByteArray}(a:k=2):tH ⟨k,n⟩=jL n:=by
 subst a;rfl
theorem QK{k:Int}{n:ByteArray}(h0:¬k=0)(a:¬k=1)(b:¬k=2)(c:¬k=3):tH ⟨k,n⟩=false:=by
 simp[tH,h0,a,b,c]
theorem RJ(k:Tag){w:World}:Calls prog 236 #[.agg #[k.kind,k.name]] w fun c h=>c=.returned (.bool (tH k))/\Ext w h:=by
 obtain⟨kk,b⟩:=k;by_cases d:kk=0
 . have a:=Zy (Ir (n:=b) (.inl d));go_enter func236,ntmps236;go_wp2;go_ret;exact⟨hV a.symm,(jJ _)⟩
 by_cases e:kk=1
 . have a:=Zy (Ir (n:=b) (.inr (.inl e)));go_enter func236,ntmps236;go_wp2;go_ret;exact⟨hV a.symm,(jJ _)⟩
 by_cases g:kk=3
 . have a:=Zy (Ir (n:=b) (.inr (.inr g)));go_enter func236,ntmps236;go_wp2;go_ret;exact⟨hV a.symm,(jJ _)⟩
 by_cases f:kk=2
 . have a:=Zy (QJ (n:=b) f);go_enter func236,ntmps236;go_wp2_with (go_at_call 17;refine(og _ _).mono ?_;rintro c h ⟨rfl,rfl⟩);go_ret;exact⟨hV a.symm,(jJ _)⟩
 . go_enter func236,ntmps236;go_wp2;go_ret;exact⟨hV (QK d e f g).symm,(jJ _)⟩
open Go Tryz M
namespace M
def bs(l:List UInt8):ByteArray:=⟨⟨l⟩⟩
theorem Bw{a b:List UInt8}(c:bs a=bs b):a=b:=by
 have:=congrArg (fun d:ByteArray=>d.data.toList) c;exact this
def nO:List UInt8->List UInt8->List (List UInt8)
 |cur,[]=>[cur]
 |cur,c::r=>if c=32 then cur::nO [] r else nO (cur++[c]) r
def words(s:ByteArray):List ByteArray:=(nO [] s.data.toList).map bs
theorem uP:∀(a b:List UInt8),32 ∉ a->nO b a=[b++a]
 |[],b,_=>by simp[nO]
 |c::r,b,h=>by
  have e:c≠32:=fun d=>h (by simp[d]);rw[nO,T9 e,uP r _ (fun d=>h (by simp[d]))];simp
theorem qg:∀(a b d:List UInt8),32 ∉ a->nO d (a++32::b)=(d++a)::nO [] b
 |[],b,d,_=>by simp[nO]
 |c::r,b,d,h=>by
  have f:c≠32:=fun e=>h (by simp[e]);rw[TR,nO,T9 f,qg r b _ (fun e=>h (by simp[e]))];simp
theorem LB(a:List UInt8):∀c,nO c a≠[]:=by
 induction a with
 |nil=>intro c b;simp[nO]at b
 |cons e f d=>
  intro c b;rw[nO]at b;split at b
  . cases b
  . exact d _ b
def digit(n:Int):List UInt8:=[UInt8.ofNat (48+n.toNat)]
structure Qa where
 kind:Int
 keeper:Int
 name:ByteArray
 dst:Int
deriving DecidableEq
def zT(c:Qa):Bool:=decide (0<=c.keeper)&&(decide (c.keeper<=2)&&(jL c.name&&(if c.kind=3 then decide (0<=c.dst)&&decide (c.dst<=2)else(decide (c.kind=2)|| decide (c.kind=4))&&decide (c.dst=0))))
def Q9:List UInt8:=[116,97,107,101]
def Sg:List UInt8:=[97,115,107]
def Q3:List UInt8:=[102,114,101,101]
def Dq(c:Qa):List UInt8:=
 if c.kind=2 then Q9++32::(digit c.keeper++32::c.name.data.toList)
 else if c.kind=3 then Sg++32::(digit c.keeper++32::(c.name.data.toList++32::digit c.dst))
 else if c.kind=4 then Q3++32::(digit c.keeper++32::c.name.data.toList)
 else []
def rV(c:Qa):ByteArray:=if zT c then bs (Dq c)else bs []
theorem wD{s:ByteArray}(a:jL s=true):(32:UInt8)∉ s.data.toList:=by
 intro b;unfold jL at a;simp only[RV,Tc]at a;have:=a.2 _ b;revert this;decide
theorem uq{n:Int}(h0:0<=n)(a:n<=2):(32:UInt8)∉ digit n:=by
 have:n=0\/n=1\/n=2:=Zm
 rcases this with rfl|rfl|rfl<;>decide
theorem zq{m n:Int}(h0:0<=n)(f:n<=2)(d:0<=m)(e:m<=2)(c:digit m=digit n):m=n:=by
 have a:n=0\/n=1\/n=2:=Zm
 have b:m=0\/m=1\/m=2:=Zm
 rcases a with rfl|rfl|rfl<;>rcases b with rfl|rfl|rfl<;>first|rfl|exact absurd c Zn
theorem uA{c:Qa}(b:zT c=true):0<=c.keeper/\c.keeper<=2/\jL c.name=true/\((c.kind=3/\0<=c.dst/\c.dst<=2)\/((c.kind=2\/c.kind=4)/\c.dst=0)):=by
 unfold zT at b;simp only[RV,Tv]at b;obtain⟨d,e,f,a⟩:=b;refine⟨d,e,f,?_⟩;split at a
 . rename_i g;simp only[RV,Tv]at a;exact .inl ⟨g,a⟩
 . simp only[RV,Vn,Tv]at a;exact .inr a
theorem FM{c:Qa}(a:zT c=true)(f:c.kind=2):words (rV c)=[bs Q9,bs (digit c.keeper),c.name]:=by
 obtain⟨b,d,e,-⟩:=uA a;unfold rV words;rw[Ty a];unfold Dq;rw[Ty f];simp only[bs];rw[qg _ _ _ Zn,qg _ _ _ (uq b d),uP _ _ (wD e)];rfl
theorem FL{c:Qa}(a:zT c=true)(f:c.kind=4):words (rV c)=[bs Q3,bs (digit c.keeper),c.name]:=by
 obtain⟨b,d,e,-⟩:=uA a;unfold rV words;rw[Ty a];unfold Dq;rw[T9 Zm,T9 Zm,Ty f];simp only[bs];rw[qg _ _ _ Zn,qg _ _ _ (uq b d),uP _ _ (wD e)];rfl
theorem GU{c:Qa}(a:zT c=true)(g:c.kind=3):words (rV c)=[bs Sg,bs (digit c.keeper),c.name,bs (digit c.dst)]:=by
 obtain⟨d,e,f,h⟩:=uA a;have b:0<=c.dst/\c.dst<=2:=Zm
 unfold rV words;rw[Ty a];unfold Dq;rw[T9 Zm,Ty g];simp only[bs];rw[qg _ _ _ Zn,qg _ _ _ (uq d e),qg _ _ _ (wD f),uP _ _ (uq b.1 b.2)];rfl
theorem IW{c b:Qa}(d:zT c=true)(e:zT b=true)(s:rV c=rV b):c=b:=by
 obtain⟨f,g,B,o⟩:=uA d;obtain⟨i,j,C,q⟩:=uA e;have a:words (rV c)=words (rV b):=by rw[s]
 have n:c.kind=b.kind/\c.keeper=b.keeper/\c.name=b.name/\c.dst=b.dst:=by
  rcases o with⟨h,l,p⟩|⟨h|h,l⟩<;>rcases q with⟨k,m,r⟩|⟨k|k,m⟩<;>
   simp only[GU d,FM d,FL d,GU e,FM e,FL e,h,k]at a<;>
   simp only[U2,List.nil_eq,List.cons_ne_nil,and_false,Vm]at a
  . exact⟨Zm,zq i j f g (Bw a.2.1),a.2.2.1,zq m r l p (Bw a.2.2.2)⟩
  . exact⟨Zm,zq i j f g (Bw a.2.1),a.2.2,Zm⟩
  . exact absurd (Bw a.1) Zn
  . exact absurd (Bw a.1) Zn
  . exact⟨Zm,zq i j f g (Bw a.2.1),a.2.2,Zm⟩
 obtain⟨t,u,v,w⟩:=c;obtain⟨x,y,z,A⟩:=b;simp only at n;obtain⟨rfl,rfl,rfl,rfl⟩:=n;rfl
def Says(s:ByteArray):Option Qa->Prop
 |some c=>zT c=true/\rV c=s
 |none=>¬∃c,zT c=true/\rV c=s
theorem Says.one{s:ByteArray}:∀{a b:Option Qa},Says s a->Says s b->a=b
 |none,none,_,_=>rfl
 |none,some c,h,k=>absurd ⟨c,k⟩ h
 |some c,none,h,k=>absurd ⟨c,h⟩ k
 |some c,some d,h,k=>by rw[IW h.1 k.1 (h.2.trans k.2.symm)]
end M
end Go.Proofs.YtenhnldnpdlniaaGreat
namespace Go.Proofs.YtenhnldnpdlniaaGreat
open Go Go.RowKit Tryz M
variable {cs xs: List Value}{b base d k n q t: Nat}{D I: Nat->Prop}{α: Type}{v z: Value}{a w: World}
def Elem(t e k:Nat):Prop:=∃i z bytes,Tryz.prog.underlying t=some (.slice e)/\Tryz.prog.info? e=some i/\i.zero=some z/\i.size=k/\i.bytes=bytes/\z.cells.size=k/\0<k/\bytes<=4096
theorem oH{bytes:Nat}(j:prog.underlying t=some (.slice b))(h:(prog.info? b).map (fun a=>(a.zero,a.size,a.bytes))=some (some z,k,bytes))(l:z.cells.size=k)(i:0<k)(g:bytes<=4096):Elem t b k:=by
 obtain⟨a,c,d,e,f⟩:=info_parts h;exact⟨a,z,bytes,j,c,d,e,f,l,i,g⟩
theorem D7:Elem 26 3 1:=oH (z:=Tj) (bytes:=8) underlying26 Zo rfl Zn Zn
theorem AB:Elem 80 64 2:=oH (z:=.agg #[Tj,""]) (bytes:=24) underlying80 Zo rfl Zn Zn
theorem jr{b: World}(e:a.ownsRow base d k v n xs)(m:Kp D a b)(l:∀c,v.ownBlock=some c->base<=c->¬D c):b.ownsRow base d k v n xs:=by
 refine⟨e.1,?_⟩;rcases e.2 with j|⟨c,h,i,rfl,g,f,o⟩
 . exact .inl j
 . exact .inr ⟨c,h,i,rfl,g,(m.block c (TW.1 f).1 (l c rfl g)).trans f,o⟩
theorem ky(f:w.ownsRow base d k v n xs)(o:0<n):∃a b,v=.slice (some ⟨a,0,none⟩) n b/\base<=a/\a<w.heap.size/\n<=b:=by
 rcases f.2 with⟨_,m⟩|⟨e,c,l,j,h,g,i,_⟩
 . omega
 . exact⟨e,c,j,h,(TW.1 g).1,i⟩
theorem Kp.own{D': Nat->Prop}{b: World}(c:Kp D w a)(e:Kp D' a b)(g:∀d,D' d->w.heap.size<=d):Kp D w b:=
 ⟨e.os.trans c.os,e.tape.trans c.tape,e.output.trans c.output,TV c.size e.size,
  fun d f h=>(e.block d (Ta f c.size) (fun i=>absurd (g d i) (Nat.not_le.2 f))).trans (c.block d f h)⟩
theorem tJ(r:Elem t b k)(w:World){q:Array Oper}{rest:List Oper}{j:Oper}{a:Act}{Q:Exit->Act->World->Prop}(G:j.guard=none)(s x:Operand)
    (M:j.op=.call {callee:=.builtin .append,args:=#[s,x],argTypes:=#[t,t]}) (base:Nat) (v:Value) (n:Nat) (xs:List Value) (O:a.eval s=v) (N:w.ownsRow base b k v n xs)
    (g c:Nat) (h:List Value) (T:a.eval x=.slice (some ⟨g,0,none⟩) 1 c) (hl:h.length=k) (L:hQ w g 0 h) (z:∀o∈h,o.oneCell'=true)
    (K:n+1<=4294967296) (C:base<=w)
    (y:∀i d,d.ownsRow base b k i (n+1) (xs++h)->Kp (fun u=>v.ownBlock=some u) w d->(∃e l,i=.slice (some ⟨e,0,none⟩) (n+1) l/\base<=e/\e<d.heap.size)->wpList prog q Q rest (a.put j.dst i) d):
    wpList prog q Q (j::rest) a w:=by
 obtain⟨W,Y,bytes,R,H,U,P,D,V,m,A⟩:=r;refine wpList_append_own w G s x t M base b W Y k bytes R H U P D V m v n xs O N g 1 c h T Zm ?_ z (by unfold maxLen;omega) ?_ C ?_
 . intro X o I;have:=L X o I;rw[Tk]at this;unfold Addr.add;split
   . rename_i J;subst J;exact this
   . simpa using this
 . have:(n+1)*bytes<=4294967296*4096:=Vg K A;omega
 . intro i d p f _;refine y i d p ⟨f.os,f.tape,f.output,f.size,fun k m E=>f.block k m (fun b=>E b.symm)⟩ ?_;rcases p.2 with⟨_,h4⟩|⟨e,l,Z,S,F,B,_⟩
   . omega
   . exact⟨e,l,S,F,(TW.1 B).1⟩
theorem zP{F:Fence}(u:Elem t b k)(w:World){r:Array Oper}{rest:List Oper}{j:Oper}{a:Act}{Q:Exit->Act->World->Prop}(I:j.guard=none)(s x:Operand)
    (O:j.op=.call {callee:=.builtin .append,args:=#[s,x],argTypes:=#[t,t]}) (base:Nat) (v:Value) (n:Nat) (xs:List Value) (R:a.eval s=v) (P:w.ownsRow base b k v n xs)
    (g c:Nat) (h:List Value) (V:a.eval x=.slice (some ⟨g,0,none⟩) 1 c) (hl:h.length=k) (N:hQ w g 0 h) (A:∀o∈h,o.oneCell'=true)
    (M:n+1<=4294967296) (D:base<=w)
    (z:∀i d,d.ownsRow base b k i (n+1) (xs++h)->Kp (fun y=>v.ownBlock=some y) w d->(∃e l,i=.slice (some ⟨e,0,none⟩) (n+1) l/\base<=e/\e<d.heap.size)->wpListIn F q prog r Q rest (a.put j.dst i) d):
    wpListIn F q prog r Q (j::rest) a w:=by
 obtain⟨Y,aa,bytes,T,J,W,S,E,X,m,B⟩:=u;refine wpListIn_append_own w I s x t O base b Y aa k bytes T J W S E X m v n xs R P g 1 c h V Zm ?_ A (by unfold maxLen;omega) ?_ D ?_
 . intro Z o K;have:=N Z o K;rw[Tk]at this;unfold Addr.add;split
   . rename_i L;subst L;exact this
   . simpa using this
 . have:(n+1)*bytes<=4294967296*4096:=Vg M B;omega
 . intro i d p f _;refine z i d p ⟨f.os,f.tape,f.output,f.size,fun k m G=>f.block k m (fun b=>G b.symm)⟩ ?_;rcases p.2 with⟨_,h4⟩|⟨e,l,ae,U,H,C,_⟩
   . omega
   . exact⟨e,l,U,H,(TW.1 C).1⟩
theorem Jq{c: Type}{f:α->c}{l:List α}:l.map f=l.flatMap fun a=>[f a]:=by
 induction l with
 |nil=>rfl
 |cons a d b=>rw[Ur,V7,b];rfl
theorem SliceOf.mD{R:om α}(enc:α->List Value){l:List α}(B:w.ownsRow base q k v n cs)(A:n=l.length)(u:cs=l.flatMap enc)(j:∀a∈l,(enc a).length=k)(hR:∀a∈l,R w I a (enc a))(hI:∀g,base<=g->g<w.heap.size->I g)(z:l.length<=4294967296):SliceOf k R w I v l:=by
 have r:∀(l:List α),(∀a∈l,(enc a).length=k)->∀b a,l[b]?=some a->∀c e,(enc a)[c]?=some e->(l.flatMap enc)[b*k+c]?=some e:=by
  intro l;induction l with
  |nil=>intro _ b a s;simp at s
  | cons F K E =>
   intro m b a d c e f;have o:=m F Zl;rw[V7];cases b with
   |zero=>
    simp at d;subst d;rw[TY (by rw[UM,Tk];exact(Tt.1 f).1),UM,Tk];exact f
   |succ b=>
    rw[TF (by rw[o,Vx];omega),o,show(b+1)*k+c - k=b*k+c from by rw[Vx];omega];exact E (fun G D=>m G (by simp[D])) b a (by simpa using d) c e f
 subst A u;rcases B.2 with⟨rfl,t⟩|⟨h,p,H,rfl,x,i,y,_,J,C⟩
 . have:l=[]:=Us.1 t;subst this;exact SliceOf.nil _ _ _ _
 . refine⟨_,p,rfl,y,z,fun b a d=>⟨h,0,enc a,rfl,hI h x (TW.1 i).1,hR a (Tx d),j a (Tx d),?_⟩⟩;intro c e f;have:=r l j b a d c e f;rw[<-C,Ub]at this;split at this
   . simp only[World.cell?,i];simpa [Tk]using this
   . cases this
end Go.Proofs.YtenhnldnpdlniaaGreat
namespace Go.Proofs.YtenhnldnpdlniaaGreat.M
structure pU where
 of:Ref
 at_:Int
def mq(p:jl)(n:ByteArray):List Ref->Option pU
 |[]=>none
 |c::r=>match pY (cls p c) n with
  |some i=>some ⟨c,i⟩
  |none=>mq p n r
def pick(p:jl)(r:Ref)(n:ByteArray):Option pU:=if jW p r then mq p n (chain p r)else none
def ko(p:jl)(k:Int)(n m:ByteArray):Ref×Int:=
 if has p k&&jL n&&jL m then
  (if(find p k n).2=1 then(if jW p (find p k n).1 then((find p k n).1,1)else(q9,4))else(q9,2))
 else(q9,2)
structure oO where
 of:Ref
 at_:Int
 kind:Kind
def Ra:Kind:=⟨0,none_⟩
def vZ:oO:=⟨q9,0,Ra⟩
def kK(of:Ref):List Field->List oO->List oO
 |[],acc=>acc
 |f::r,acc=>kK of r (acc++[⟨of,acc.length,f.kind⟩])
def kL(p:jl):List Ref->List oO->List oO
 |[],acc=>acc
 |c::r,acc=>kL p r (kK c (cls p c).fields acc)
def layout(p:jl)(r:Ref):List oO:=if jW p r then kL p (chain p r).reverse []else []
def qh(p:jl)(of:Ref):List Ref->Nat->Nat
 |[],n=>n
 |c::r,n=>if c=of then n else qh p of r (n+(cls p c).fields.length)
def nW(p:jl)(of low:Ref):Nat:=qh p of (chain p low).reverse 0
def fieldName(p:jl)(r:Ref)(f:oO):ByteArray:=(((cls p f.of).fields[(f.at_ - nW p f.of r).toNat]?).map Field.name).getD none_
def pO(p:jl)(k:Int)(m:ByteArray)(r:Ref):List oO->oO×Int
 |[]=>(vZ,3)
 |f::l=>if fieldName p r f=m then(if agree p k f.of.keeper f.kind then(f,1)else(vZ,4))else pO p k m r l
def get(p:jl)(k:Int)(n m:ByteArray):oO×Int:=
 if(ko p k n m).2=1 then pO p k m (ko p k n m).1 (layout p (ko p k n m).1)else(vZ,(ko p k n m).2)
def QS:Method:=⟨none_,[],Ra,0,0,[],[]⟩
def oN:pU:=⟨q9,0⟩
def method?(p:jl)(m:pU):Option Method:=if 0<=m.at_ then(cls p m.of).methods[m.at_.toNat]? else none
def method(p:jl)(m:pU):Method:=(method? p m).getD QS
def call(p:jl)(k:Int)(n m:ByteArray):pU×Int:=
 if(ko p k n m).2=1 then
  (match pick p (ko p k n m).1 m with
  |none=>(oN,3)
  |some x=>if jY p k x.of.keeper (method p x)then(x,1)else(oN,4))
 else(oN,(ko p k n m).2)
def kg(p:jl)(m:pU):Bool:=jW p m.of&&decide (0<=m.at_)&&decide (m.at_ <(cls p m.of).methods.length)
structure lU where
 locals:List Tag
 stack:List Tag
def wU:Tag:=⟨0,none_⟩
def lG:Tag:=⟨1,none_⟩
def zC:Tag:=⟨3,none_⟩
def kP(n:ByteArray):Tag:=⟨2,n⟩
def kH(k:Kind):Tag:=if mg k then⟨k.kind,k.name⟩else wU
def may(p:jl)(k:Int)(a b:Tag):Bool:=
 if b.kind=0\/a=b then true else if b.kind≠2 then false else if a.kind=3 then true else if a.kind≠2 then false
 else decide ((find p k a.name).2=1)&&decide ((find p k b.name).2=1)&&under p (find p k a.name).1 (find p k b.name).1
def nZ(s:lU):Option (Tag×lU):=s.stack.getLast?.map fun t=>(t,⟨s.locals,s.stack.dropLast⟩)
def lX(p:jl)(k:Int)(t:Tag)(s:lU):Option lU:=(nZ s).bind fun x=>if may p k x.1 t then some x.2 else none
def qA(s:lU):Option lU:=(nZ s).bind fun x=>if x.1.kind=2\/x.1.kind=3 then some x.2 else none
def lK(m:Method)(t:Tag)(s:lU):Option lU:=if m.stack<=s.stack.length then none else some ⟨s.locals,s.stack++[t]⟩
def mU(p:jl)(k:Int):List Tag->List Tag->Bool
 |a::r,b::l=>may p k a b&&mU p k r l
 |_,_=>true
def lY(p:jl)(k:Int)(s:lU)(f:SMap):Bool:=decide (f.stack.length=s.stack.length)&&mU p k s.locals f.locals&&mU p k s.stack f.stack
def qW(m:Method)(at_:Int):Option SMap:=m.maps.find? fun f=>f.at_=at_
def mO(p:jl)(k:Int)(m:Method)(tgt:Int)(s:lU):Option lU:=
 (qW m tgt).bind fun f=>if lY p k s f then some s else none
def nQ(p:jl)(k:Int)(m:Method)(goes:Bool)(at_:Int)(s:lU):Option lU:=
 match qW m at_ with
 |none=>if goes then some s else none
 |some f=>if goes&& !lY p k s f then none else some ⟨f.locals,f.stack⟩
def lW(p:jl)(k:Int):List Kind->lU->Option lU
 |[],s=>some s
 |a::r,s=>(lX p k (kH a) s).bind (lW p k r)
def jQ(p:jl)(k:Int)(m:Method)(i:Ins)(s:lU):Option lU:=
 if i.op=1 then lK m lG s
 else if i.op=2 then(s.locals[i.a.toNat]?).bind fun t=>if t.kind=0 then none else lK m t s
 else if i.op=3 then(nZ s).map fun x=>⟨x.2.locals.set i.a.toNat x.1,x.2.stack⟩
 else if i.op=4 then(lX p k lG s).bind fun s1=>(lX p k lG s1).bind (lK m lG)
 else if i.op=5 then lK m zC s
 else if i.op=6 then lK m (kP i.name) s
 else if i.op=7 then(if(get p k i.name i.member).2=1 then(lX p k (kP i.name) s).bind (lK m (kH (get p k i.name i.member).1.kind))else none)
 else if i.op=8 then(if(get p k i.name i.member).2=1 then(lX p k (kH (get p k i.name i.member).1.kind) s).bind (lX p k (kP i.name))else none)
 else if i.op=9 then(if(call p k i.name i.member).2=1 then
     (lW p k (method p (call p k i.name i.member).1).args.reverse s).bind fun s1=>(lX p k (kP i.name) s1).bind (lK m (kH (method p (call p k i.name i.member).1).ret))else none)
 else if i.op=10 then lX p k (kH m.ret) s
 else if i.op=11 then(lX p k lG s).bind (mO p k m i.a)
 else if i.op=12 then(qA s).bind (mO p k m i.a)
 else if i.op=13 then mO p k m i.a s
 else if i.op=14 then lX p k lG s
 else(qA s).bind (lK m (kP i.name))
def lH(p:jl)(k:Int)(m:Method):List Ins->Nat->Bool->lU->List lU->Sum Int (List lU)
 |[],at_,goes,_,known=>if goes then .inl (at_+1)else .inr known
 | i :: r, at_, goes, s, known =>
  match nQ p k m goes at_ s with
  |none=>.inl (at_+1)
  |some s1=>match jQ p k m i s1 with
   |none=>.inl (at_+1)
   |some s2=>lH p k m r (at_+1) (decide (i.op≠10)&&decide (i.op≠13)) s2 (known++[s1])
def rW(x:pU)(m:Method):lU:=⟨(kP x.of.name::m.args.map kH)++List.replicate (m.locals.toNat - (m.args.length+1)) wU,[]⟩
def look(p:jl)(x:pU):List lU×Int:=
 match lH p x.of.keeper (method p x) (method p x).code 0 true (rW x (method p x)) []with
 | .inl n=>([],n)
 | .inr l=>(l,0)
def right(p:jl)(x:pU):Bool:=decide ((look p x).2=0)
def lS(p:jl)(r:Ref):Bool:=jW p r&&(List.range (cls p r).methods.length).all fun i=>right p ⟨r,i⟩
structure Val where
 kind:Int
 n:Int
theorem Val.oU{a b:Val}:a=b↔a.kind=b.kind/\a.n=b.n:=by
 cases a;cases b;simp
instance:DecidableEq Val:=fun _ _=>decidable_of_iff' _ Val.oU
structure ou where
 of:Ref
 fields:List Val
structure Fr where
 of:pU
 pc:Int
 locals:List Val
 stack:List Val
structure St where
 status:Int
 frames:List Fr
 heap:List ou
 outs:List Int
 back:Val
def l9:Val:=⟨0,0⟩
def qH:Val:=⟨3,0⟩
def mh(n:Int):Val:=⟨1,n⟩
def GV:St:=⟨0,[],[],[],l9⟩
def oD(n:Int):Bool:=decide (-9999<=n)&&decide (n<=9999)
def jV(v:Val)(objs:Nat):Bool:=
 if v.kind=0\/v.kind=3 then decide (v.n=0)else if v.kind=1 then oD v.n else if v.kind=2 then decide (0<=v.n)&&decide (v.n<objs)else false
def pX(p:jl)(h:List ou):Bool:=
 decide (h.length<=12)&&h.all fun o=>jW p o.of&&decide (o.fields.length=(layout p o.of).length)&&o.fields.all (jV · h.length)
def qL(h:List ou)(n:Int):Ref:=((h[n.toNat]?).map ou.of).getD q9
def hasType(p:jl)(k:Int)(h:List ou)(v:Val)(t:Kind):Bool:=
 if t.kind=1 then decide (v.kind=1)else if v.kind=3 then true else if v.kind≠2 then false
 else decide ((find p k t.name).2=1)&&under p (qL h v.n) (find p k t.name).1
def fits(p:jl)(k:Int)(h:List ou)(v:Val)(t:Tag):Bool:=
 if t.kind=0 then true else if t.kind=3 then decide (v.kind=3)else hasType p k h v ⟨t.kind,t.name⟩
def l8(p:jl)(f:Fr)(objs:Nat):Bool:=
 kg p f.of&&decide (0<=f.pc)&&decide (f.pc<(method p f.of).code.length)&&decide ((f.locals.length:Int)=(method p f.of).locals)&&
 decide ((f.stack.length:Int)<=(method p f.of).stack)&&f.locals.all (jV · objs)&&f.stack.all (jV · objs)
def FI(p:jl)(s:St):Bool:=
 decide (1<=s.status)&&decide (s.status<=10)&&decide (s.heap.length<=12)&&decide (s.outs.length<=40)&&decide (s.frames.length<=8)&&
 (decide (0<s.frames.length)==decide (s.status=1))&&s.outs.all oD&&s.frames.all (l8 p · s.heap.length)&&pX p s.heap&&jV s.back s.heap.length
def EK(s:St)(f:Fr->Fr):St:={s with frames:=s.frames.dropLast++(s.frames.getLast?.map f).toList}
def top(s:St):Fr:=s.frames.getLastD ⟨oN,0,[],[]⟩
def jump(p:jl)(tgt:Int)(s:St):Int×St:=
 if((method p (top s).of).code.length:Int)<=tgt then(10,s)else(1,EK s fun f=>{f with pc:=tgt})
def next(p:jl)(s:St):Int×St:=jump p ((top s).pc+1) s
def push(p:jl)(v:Val)(s:St):Int×St:=
 if(method p (top s).of).stack<=(top s).stack.length then(10,s)else next p (EK s fun f=>{f with stack:=f.stack++[v]})
def oh(c:Nat)(s:St):Option (List Val×St):=
 if(top s).stack.length<c then none
 else some ((top s).stack.drop ((top s).stack.length - c),EK s fun f=>{f with stack:=f.stack.take (f.stack.length - c)})
def pop(s:St):Option (Val×St):=(oh 1 s).map fun x=>(x.1.headD l9,x.2)
def qD(p:jl)(n:ByteArray)(s:St):Ref×Bool:=
 ((find p (top s).of.of.keeper n).1,decide ((find p (top s).of.of.keeper n).2=1)&&jW p (find p (top s).of.of.keeper n).1)
def fresh(p:jl)(r:Ref):ou:=⟨r,(layout p r).map fun f=>if f.kind.kind=1 then mh 0 else qH⟩
def create(p:jl)(r:Ref)(s:St):Val×St:=(⟨2,s.heap.length⟩,{s with heap:=s.heap++[fresh p r]})
def object(p:jl)(v:Val)(t:Ref)(s:St):Int:=
 if v.kind=3 then 3 else if v.kind≠2 then 10 else if under p (qL s.heap v.n) t then 1 else 10
def kU(p:jl)(k:Int)(h:List ou):List Val->List Kind->Bool
 |v::r,t::l=>hasType p k h v t&&kU p k h r l
 |_,_=>true
def enter(p:jl)(lk:Bool)(x:pU)(vs:List Val)(s:St):Int×St:=
 if 8<=s.frames.length then(7,s)
 else if lk&& !right p x then(5,s)
 else if kU p x.of.keeper s.heap vs (⟨2,x.of.name⟩::(method p x).args)then
  (1,{s with frames:=s.frames++[⟨x,0,vs++List.replicate ((method p x).locals.toNat - vs.length) l9,[]⟩]})
 else(10,s)
def end_(c:Int)(s:St):St:=if c=1 then s else{s with status:=c,frames:=[]}
def qQ(h:List ou)(n:Int):List Val:=((h[n.toNat]?).map ou.fields).getD []
def nS(h:List ou)(n a:Int)(v:Val):List ou:=h.modify n.toNat fun o=>{o with fields:=o.fields.set a.toNat v}
def jN (p : jl)(lk : Bool)(i : Ins)(s : St) : Int × St :=
 if i.op=1 then push p (mh i.a) s
 else if i.op=2 then(if(((top s).locals[i.a.toNat]?).getD l9).kind=0 then(10,s)else push p (((top s).locals[i.a.toNat]?).getD l9) s)
 else if i.op=3 then(match pop s with
  |none=>(10,s)
  |some (v,s1)=>next p (EK s1 fun f=>{f with locals:=f.locals.set i.a.toNat v}))
 else if i.op=4 then(match oh 2 s with
  |some ([a,b],s1)=>if a.kind=1/\b.kind=1 then(if oD (a.n+b.n)then push p (mh (a.n+b.n)) s1 else(9,s1))else(10,s1)
  |_=>(10,s))
 else if i.op=5 then push p qH s
 else if i.op=6 then(if(qD p i.name s).2 then(if 12<=s.heap.length then(8,s)else push p (create p (qD p i.name s).1 s).1 (create p (qD p i.name s).1 s).2)else(4,s))
 else if i.op = 7 then (if (get p (top s).of.of.keeper i.name i.member).2 = 1 then
     (match pop s with
     |none=>(10,s)
     | some (v, s1) =>
      if object p v (get p (top s).of.of.keeper i.name i.member).1.of s1=1 then
       push p (((qQ s1.heap v.n)[(get p (top s).of.of.keeper i.name i.member).1.at_.toNat]?).getD l9) s1
      else(object p v (get p (top s).of.of.keeper i.name i.member).1.of s1,s1))
  else(4,s))
 else if i.op = 8 then (if (get p (top s).of.of.keeper i.name i.member).2 = 1 then
     (match oh 2 s with
     | some ([o, v], s1) =>
      if hasType p (get p (top s).of.of.keeper i.name i.member).1.of.keeper s1.heap v (get p (top s).of.of.keeper i.name i.member).1.kind then
       (if object p o (get p (top s).of.of.keeper i.name i.member).1.of s1=1 then
        next p {s1 with heap:=nS s1.heap o.n (get p (top s).of.of.keeper i.name i.member).1.at_ v}
       else(object p o (get p (top s).of.of.keeper i.name i.member).1.of s1,s1))
      else(10,s1)
     |_=>(10,s))
  else(4,s))
 else if i.op = 9 then (if (call p (top s).of.of.keeper i.name i.member).2 = 1 then
     (match oh ((method p (call p (top s).of.of.keeper i.name i.member).1).args.length+1) s with
     | some (vs, s1) =>
      if object p (vs.headD l9) (call p (top s).of.of.keeper i.name i.member).1.of s1=1 then
       (match pick p (qL s1.heap (vs.headD l9).n) i.member with
       |some x=>enter p lk x vs s1
       |none=>(10,s1))
      else(object p (vs.headD l9) (call p (top s).of.of.keeper i.name i.member).1.of s1,s1)
     |none=>(10,s))
  else(4,s))
 else if i.op = 10 then (match pop s with
  |none=>(10,s)
  |some (v,s1)=>if hasType p (top s).of.of.keeper s1.heap v (method p (top s).of).ret then
      (if s1.frames.length=1 then(2,{s1 with back:=v})else push p v {s1 with frames:=s1.frames.dropLast})
   else(10,s1))
 else if i.op=11 then(match pop s with
  |none=>(10,s)
  |some (v,s1)=>if v.kind=1 then(if v.n=0 then jump p i.a s1 else next p s1)else(10,s1))
 else if i.op=12 then(match pop s with
  |none=>(10,s)
  |some (v,s1)=>if v.kind=2\/v.kind=3 then(if v.kind=3 then jump p i.a s1 else next p s1)else(10,s1))
 else if i.op=13 then jump p i.a s
 else if i.op=14 then(match pop s with
  |none=>(10,s)
  |some (v,s1)=>if v.kind=1 then next p (if s1.outs.length<40 then{s1 with outs:=s1.outs++[v.n]}else s1)else(10,s1))
 else (match pop s with
  |none=>(10,s)
  |some (v,s1)=>if v.kind=2\/v.kind=3 then
      (if v.kind=3 then push p v s1
      else if(qD p i.name s1).2 then(if under p (qL s1.heap v.n) (qD p i.name s1).1 then push p v s1 else(6,s1))else(4,s1))
   else(10,s1))
def SH:Ins:=⟨0,0,none_,none_⟩
def stepped(p:jl)(lk:Bool)(s:St):Int×St:=jN p lk (((method p (top s).of).code[(top s).pc.toNat]?).getD SH) s
def step(p:jl)(lk:Bool)(s:St):St:=if s.status=1 then end_ (stepped p lk s).1 (stepped p lk s).2 else s
def steps(p:jl)(lk:Bool):Nat->St->St
 |0,s=>s
 |f+1,s=>if s.status=1 then steps p lk f (step p lk s)else s
def p8(m:Method)(args:List Int):Bool:=decide (m.args.length=args.length)&&m.args.all fun k=>decide (k.kind=1)
def nY:St:=⟨4,[],[],[],l9⟩
def start(p:jl)(lk:Bool)(k:Int)(n m:ByteArray)(args:List Int):St:=
 if(find p k n).2=1/\jW p (find p k n).1=true then
  (if(call p k n m).2=1/\p8 (method p (call p k n m).1) args=true then
   end_ (enter p lk (call p k n m).1 (⟨2,0⟩::args.map mh) ⟨1,[],[fresh p (find p k n).1],[],l9⟩).1
    (enter p lk (call p k n m).1 (⟨2,0⟩::args.map mh) ⟨1,[],[fresh p (find p k n).1],[],l9⟩).2
  else nY)
 else nY
def nK(p:jl)(lk:Bool)(k:Int)(n m:ByteArray)(args:List Int):St:=
 if kv p&&has p k&&jL n&&jL m&&args.all oD then start p lk k n m args else GV
def rT(p:jl)(lk:Bool)(s:St)(fuel:Int):St:=
 if decide (fuel<=400)&&kv p&&FI p s then steps p lk fuel.toNat s else GV
def classes(p:jl):List Ref:=
 (List.range p.length).flatMap fun k=>(((p[k]?).map fun q=>q.owns.map fun c=>(⟨k,c.name⟩:Ref)).getD []).filter fun r=>decide (0<(chain p r).length)
def ni(p:jl):Bool:=kv p&&(classes p).all (lS p)
end Go.Proofs.YtenhnldnpdlniaaGreat.M
namespace Go.Proofs.YtenhnldnpdlniaaGreat
open Go Go.RowKit Tryz M
variable {a c f: List Int}{k t: Nat}{v: Value}{W: World}
def BytesAt(W:World)(v:Value)(zs:List Int):Prop:=
 (v=.slice none 0 0/\zs=[])\/∃a cap,v=.slice (some a) zs.length cap/\zs.length<=cap/\(∀i,i<zs.length->W.cell? (a.add i)=some (.int .u8 (zs.getD i 0)))/\∀n∈zs,0<=n/\n<256
theorem BytesAt.form(d:BytesAt W v c):∃a b,v=.slice a c.length b:=by
 rcases d with⟨rfl,rfl⟩|⟨a,b,rfl,_⟩
 . exact⟨none,0,rfl⟩
 . exact⟨_,_,rfl⟩
theorem zk{a:Addr}(c:W.cell? a=some v):a.block<W:=by
 rcases UZ a.block W with b|b
 . exact b
 . simp[World.cell?,UY b]at c
theorem BytesAt.ext{b: World}(a:BytesAt W v f)(l:Ext W b):BytesAt b v f:=by
 rcases a with a|⟨g,h,i,j,c,k⟩
 . exact .inl a
 . exact .inr ⟨g,h,i,j,fun e d=>(V6 (l.block _ (zk (c e d)) fun m=>m)).trans (c e d),k⟩
theorem BI(d:∀b∈a,0<=b/\b<256){i:Nat}(e:i<a.length):0<=a.getD i 0/\a.getD i 0<256:=by
 have c:a.getD i 0=a[i]:=by simp[List.getD,CU e]
 rw[c];exact d _ (Vw _)
def R9(f:FuncId):Prop:=∀(W:World)(v:Value)(zs:List Int),BytesAt W v zs->Calls Tryz.prog f #[v] W fun e W'=>e=.returned (.bool true)/\Ext W W'
def zQ(t k:Nat):Prop:=∃fs,Tryz.prog.underlying t=some (.struct fs)/\(Tryz.prog.info? t).map (·.size)=some k
theorem zQ.is(c:zQ t k)(w:World):(isAgg t).run prog w=.ok true w/\(sizeOf t).run prog w=.ok k w:=by
 obtain⟨g,d,a⟩:=c;cases b:prog.info? t with
 |none=>rw[b]at a;cases a
 |some f=>
  rw[b]at a;have e:f.size=k:=by simpa using a
  subst e;constructor
  . unfold isAgg;rw[Uu,VU d w];simp
  . simp[sizeOf,typeInfo,b]
theorem rZ(c:zQ t k){w:World}{b a:Nat}{cs:List Value}(h:hQ w b a cs)(hl:cs.length=k):(loadVar t (b,a)).run prog w=.ok (.agg cs.toArray) w:=by
 subst hl;obtain⟨e,f⟩:=c.is w;have g:=run_loadCells_list (P:=prog) w (b,a) cs (fun j l i=>by
  have:=h j l i;unfold Addr.add;split
  . rename_i d;subst d;simpa using this
  . exact this)
 simp[loadVar,Uu,e,f,g]
theorem J5(e:zQ t k){c:Oper}{a:Act}{w:World}{K:Act->World->Prop}{Q:Exit->Act->World->Prop}(x:Operand)(h:c.op=.load t x)(b d:Nat)(i:a.eval x=.pointer (some ⟨b,d,none⟩))(cs:List Value)(g:hQ w b d cs)(hl:cs.length=k)(f:K (a.put c.dst (.agg cs.toArray)) w):c.wp prog a w K Q:=by
 unfold Oper.wp execOp;simp only[h,i,Instr.loadAt,Instr.sureAddr,Uu,Sem.run_pure,UT,rZ e g hl];exact f
theorem Dm(f:zQ t k){e:Array Oper}{rest:List Oper}{c:Oper}{a:Act}{w:World}{Q:Exit->Act->World->Prop}(j:c.guard=none){x:Operand}(l:c.op=.load t x){b d:Nat}(m:a.eval x=.pointer (some ⟨b,d,none⟩)){cs:List Value}(i:hQ w b d cs)(hl:cs.length=k)(g:wpList prog e Q rest (a.put c.dst (.agg cs.toArray)) w):wpList prog e Q (c::rest) a w:=
 Wx j fun _ h=>J5 f x l b d m cs i hl (h _ _ g)
theorem jM(c:zQ t k){fn:Func}{p:Tmp}(e:fn.results=#[.cell p t]){a:Array Value}{w:World}(b:Nat)(f:a.getD p undef=.pointer (some ⟨b,0,none⟩))(cs:List Value)(d:hQ w b 0 cs)(hl:cs.length=k):(results fn a).run prog w=.ok (.agg cs.toArray) w:=by
 have g:a[p]?.getD undef=.pointer (some ⟨b,0,none⟩):=by simpa using f
 simp[results,e,g,asAddr,rZ c d hl]
theorem hU(c:zQ t k){fn:Func}{p q:Tmp}(e:fn.results=#[.cell p t,.tmp q]){a:Array Value}{w:World}(b:Nat)(f:a.getD p undef=.pointer (some ⟨b,0,none⟩))(cs:List Value)(d:hQ w b 0 cs)(hl:cs.length=k):(results fn a).run prog w=.ok (.tuple #[.agg cs.toArray,a.getD q undef]) w:=by
 have g:a[p]?.getD undef=.pointer (some ⟨b,0,none⟩):=by simpa using f
 simp[results,e,g,asAddr,rZ c d hl]
theorem qF:zQ 64 2:=⟨_,underlying64,Zo⟩
theorem DR:zQ 113 8:=⟨_,underlying113,Zo⟩
theorem rJ:zQ 66 3:=⟨_,underlying66,Zo⟩
theorem rH:zQ 173 5:=⟨_,underlying173,Zo⟩
theorem Ar:zQ 42 2:=⟨_,underlying42,Zo⟩
theorem mK:zQ 44 6:=⟨_,underlying44,Zo⟩
end Go.Proofs.YtenhnldnpdlniaaGreat
namespace Go.Proofs.YtenhnldnpdlniaaGreat.M
variable {n: ByteArray}{c: Class}{l: List SMap}{m: Method}{j k: Nat}{r: Ref}{x y: SMap}{α: Type}{p: jl}{f: oO}
theorem qc{name:α->ByteArray}{ok:α->Bool}:∀{l:List α} {seen:List ByteArray},jU name ok l seen=true->∀b∈l,ok b=true
 |[],_,_=>by simp
 |y::r,seen,h=>by
  unfold jU at h;simp only[RV]at h;intro b a;rcases Ui.1 a with rfl|a
  . exact h.1.1
  . exact qc h.2 b a
theorem wN(a:kv p=true):1<=p.length/\p.length<=3:=by
 unfold kv at a;simp only[RV,Tv]at a;exact⟨a.1.1,a.1.2⟩
theorem zu(b:kv p=true){k:Int}{q:mZ}(a:mQ p k=some q):kC p q=true:=by
 unfold kv at b;simp only[RV]at b;unfold mQ at a;split at a
 . exact Tc.1 b.2 q (Tx a)
 . cases a
theorem Dr{k:Int}:has p k=true↔0<=k/\k<p.length:=by
 unfold has;simp
theorem El(g:kv p=true){k:Int}{n:ByteArray}{q:Int}(a:ve p k n=some q):has p q=true:=by
 unfold ve at a;rw[V8]at a;obtain⟨h,f,c⟩:=a;rw[UX]at c;obtain⟨d,e,rfl⟩:=c;have b:=zu g f;unfold kC at b;simp only[RV]at b;have:=qc b.2 d (U5 e);simp only[RV]at this;exact this.2
theorem Jz(r:Ref):(wQ p r).isSome=owned p r:=by
 unfold wQ owned cls?;cases mQ p r.keeper with
 |none=>rfl
 |some a=>
  simp only[Tn];rw[Vz,VA,Wt];simp
theorem BD(a:cls? p r=some c):∃e b,mQ p r.keeper=some e/\wQ p r=some b/\e.owns[b]?=some c/\b<e.owns.length:=by
 unfold cls? at a;rw[V8]at a;obtain⟨e,j,f⟩:=a;have d:(e.owns.findIdx? fun c=>decide (c.name=r.name)).isSome=true:=by
  rw[VA,VC];exact⟨c,U5 f,by simpa using List.find?_some f⟩
 obtain⟨b,d⟩:=Vh.1 d;refine⟨e,b,j,by unfold wQ;rw[j];exact d,?_,?_⟩
 . rw[TH]at d;obtain⟨o,k,l⟩:=d;rw[CU o];rw[List.find?_eq_some_iff_getElem]at f;obtain⟨n,g,q,h,m⟩:=f;have:b=g:=by
    rcases V9 b g with a|a|a
    . have:=m b a;simp only[VI]at this;rw[k]at this;cases this
    . exact a
    . have i:=l g a;rw[h]at i;exact absurd n i
   subst this;rw[h]
 . rw[TH]at d;exact d.1
theorem Oo(a:cls? p r=some c):c.name=r.name:=by
 unfold cls? at a;rw[V8]at a;obtain⟨e,d,b⟩:=a;simpa using List.find?_some b
theorem Aw(b:cls? p r=some c):0<=r.keeper/\r.keeper<p.length:=by
 obtain⟨e,d,a,_⟩:=BD b;unfold mQ at a;split at a
 . have:=(Tt.1 a).1;omega
 . cases a
theorem Na{l:List Int}(d:l.Nodup)(c:∀a∈l,has p a=true):l.length<=p.length:=by
 have b:l ⊆ (List.range p.length).map Int.ofNat:=by
  intro a e;have:=Dr.1 (c a e);exact V5.2 ⟨a.toNat,Uk.2 Zm,by simp;omega⟩
 have:=d.length_le_of_subset b;simpa using this
theorem Bh:∀{f:Nat} {a:List Int} {k:Int},a.getLastD 0=k->(pK p n f a k).2=1->owned p ⟨(pK p n f a k).1.getLastD 0,n⟩=true
 |0,_,_,_,h=>by simp[pK]at h
 |f+1,a,k,hl,h=>by
  unfold pK at h |-;split at h
  . rename_i c;split at h
    . rename_i b;simp only[b,Uy];rw[hl];exact b
    . simp at h
  . rename_i next c
    split at h
    . simp at h
    . rename_i b;simp only[b,Uq,U3];exact Bh Zl h
theorem KS{k:Int}(a:(path p k n).2=1):owned p ⟨(path p k n).1.getLastD 0,n⟩=true:=by
 unfold path at a |-;split at a
 . rename_i b;rw[Ty b];exact Bh rfl a
 . simp at a
theorem nN{k:Int}(b:(resolve p k n).2=1):∃c,cls? p (resolve p k n).1=some c:=by
 unfold resolve at b |-;split at b
 . rename_i a;rw[Ty a];exact Vh.1 (KS a)
 . rename_i a;exact absurd b a
theorem uH{name:α->ByteArray}{ok:α->Bool}:∀{l r:List α} {seen:List ByteArray},jU name ok (l++r) seen=(jU name ok l seen&&jU name ok r (seen++l.map name))
 |[],r,seen=>by simp[jU]
 |x::l,r,seen=>by
  simp only[TR,jU,uH (l:=l),Vf,Ur,TG,TZ]
theorem xe{name:α->ByteArray}{ok:α->Bool}{l:List α}{x:α}(a:l[k]?=some x):jU name ok (l.take (k+1)) []=(jU name ok (l.take k) []&&(ok x&& !((l.take k).any fun b=>decide (name b=name x)))):=by
 rw[Td,a,uH,TZ];simp only[V3,jU,List.any_map,Function.comp_def,Bool.and_true]
theorem zt{name:α->ByteArray}{ok:α->Bool}{l:List α}(a:jU name ok (l.take k) []=false):jU name ok l []=false:=by
 rw[<-Vs k l,uH,a];rfl
theorem Dn{f:α->Bool}{l:List α}{x:α}(c:l[k]?=some x)(a:f x=false):l.all f=false:=by
 refine Bool.eq_false_iff.2 fun b=>?_;rw[Tc.1 b x (Tx c)]at a;cases a
theorem DT{f:α->Bool}{l:List α}{x:α}(b:l[k]?=some x)(a:f x=true)(h0:(l.take k).all f=true):(l.take (k+1)).all f=true:=by
 rw[Td,b,VZ,h0];simp[a]
def BL(l:List SMap):Int:=(l.getLast?.map SMap.at_).getD 0
theorem uK:∀{l r:List SMap} {a:Int},lC m a (l++r)=(lC m a l&&lC m ((l.getLast?.map SMap.at_).getD a) r)
 |[],r,a=>by simp[lC]
 |x::l,r,a=>by
  simp only[TR,lC,uK (l:=l),List.getLast?_cons];cases l.getLast?<;>simp[Vf]
theorem M7(a:l[k]?=some x):lC m 0 (l.take (k+1))=(lC m 0 (l.take k)&&(decide (BL (l.take k)<x.at_)&&tC m x)):=by
 rw[Td,a,uK];simp only[V3,lC,BL,Bool.and_true];rfl
theorem Pk(a:lC m 0 (l.take k)=false):lC m 0 l=false:=by
 rw[<-Vs k l,uK,a];rfl
theorem Jr:∀{l:List SMap} {a:Int},0<=a->lC m a l=true->∀b∈l,1<=b.at_
 |[],_,_,_=>by simp
 |x::l,a,ha,h=>by
  unfold lC at h;simp only[RV,Tv]at h;intro b c;rcases Ui.1 c with rfl|c
  . omega
  . exact Jr Zm h.2 b c
theorem MR(a:l[j]?=some y):BL (l.take (j+1))=y.at_:=by
 unfold BL;rw[Td,a];simp
theorem MI{i:Ins}(a:mf i=true):1<=i.op/\i.op<=15:=by
 unfold mf isNum qd qV sF at a;simp only[Vn,Ue]at a;repeat' split at a
 all_goals first|omega|cases a
theorem GA{c:Method}{q2:Bool}(l:c.maps[k]?=some x)(e:lC c 0 (c.maps.take k)=true)(j:(k=0/\q2=false)\/∃b d,k=b+1/\c.maps[b]?=some d/\q2=decide (x.at_<=d.at_)):lC c 0 (c.maps.take (k+1))=((decide (1<=x.at_)&&decide (x.at_<=(c.code.length:Int) - 1))&& !q2&& !((x.locals.length:Int) !=c.locals)&& !decide (c.stack<(x.stack.length:Int))&&x.locals.all tH&&x.stack.all tH):=by
 rw[M7 l,e,TJ];unfold tC wF;have g:(!((x.locals.length:Int) !=c.locals))=decide ((x.locals.length:Int)=c.locals):=by
  by_cases a:(x.locals.length:Int)=c.locals<;>simp[a]
 have h:(!decide (c.stack<(x.stack.length:Int)))=decide ((x.stack.length:Int)<=c.stack):=by
  by_cases a:c.stack<(x.stack.length:Int)
  . rw[Tw a,SS Zm];rfl
  . rw[SS a,Tw Zm];rfl
 have i:(decide (BL (c.maps.take k)<x.at_)&&decide (x.at_ <(c.code.length:Int)))=((decide (1<=x.at_)&&decide (x.at_<=(c.code.length:Int) - 1))&& !q2):=by
  rcases j with⟨rfl,rfl⟩|⟨b,d,rfl,f,rfl⟩
  . rw[show BL (c.maps.take 0)=0 from rfl,Bool.not_false,Bool.and_true];refine Vz.2 ?_;simp only[RV,Tv];omega
  . rw[MR f];have:=Jr Zm e d (Tx (i:=b) (by rw[Ub,Ty Zm,f]));refine Vz.2 ?_;simp only[RV,Tv,VI,decide_eq_false_iff_not];omega
 rw[g,h,<-i];simp only[Vf]
theorem wV:∀(f:Nat)(r:Ref)(l:List Ref),ku p f r=some l->∃d,l=r::d:=by
 intro f;cases f with
 |zero=>intro r l a;simp[ku]at a
 |succ f=>
  intro r l a;unfold ku at a;split at a
  . cases a;exact⟨[],rfl⟩
  . split at a
    . cases b:ku p f (resolve p r.keeper (jE p r)).1 with
      |none=>rw[b]at a;simp at a
      |some c=>rw[b]at a;simp at a;exact⟨c,a.symm⟩
    . cases a
theorem wW:∀(f:Nat)(r:Ref)(l:List Ref),ku p f r=some l->∀b,l.length<=b->ku p b r=some l:=by
 intro f;induction f with
 |zero=>intro r l a;simp[ku]at a
 | succ f h =>
  intro r l a b e;obtain⟨j,rfl⟩:=wV _ _ _ a;cases b with
  |zero=>simp at e
  |succ b=>
   unfold ku at a |-;split at a
   . rename_i c;rw[Ty c];exact a
   . rename_i c;rw[T9 c];split at a
     . rename_i g;rw[Ty g];cases d:ku p f (resolve p r.keeper (jE p r)).1 with
       |none=>rw[d]at a;simp at a
       |some i=>
        rw[d]at a;simp at a;subst a;rw[h _ _ d b (by simp at e;omega)];simp
     . cases a
theorem vg:∀(f:Nat)(r:Ref)(l:List Ref),ku p f r=some l->∀b d,l[b]?=some d->∃g,ku p g d=some (l.drop b):=by
 intro f;induction f with
 |zero=>intro r l a;simp[ku]at a
 | succ f h =>
  intro r l a b d c;cases b with
  |zero=>
   obtain⟨j,rfl⟩:=wV _ _ _ a;simp at c;subst c;exact⟨f+1,a⟩
  |succ b=>
   unfold ku at a;split at a
   . cases a;simp at c
   . split at a
     . cases e:ku p f (resolve p r.keeper (jE p r)).1 with
       |none=>rw[e]at a;simp at a
       |some i=>
        rw[e]at a;simp at a;subst a;simpa using h _ _ e b d (by simpa using c)
     . cases a
theorem Cu{f g:Nat}{a b:List Ref}(e:ku p f r=some a)(h:ku p g r=some b):a=b:=by
 have d:=wW _ _ _ e (max a.length b.length) (Nat.le_max_left _ _);have c:=wW _ _ _ h (max a.length b.length) (Nat.le_max_right _ _);rw[d]at c;exact Wz c
theorem FQ(f:Nat)(r:Ref)(l:List Ref)(b:ku p f r=some l):l.Nodup:=by
 refine List.pairwise_iff_getElem.2 ?_;intro a i g h m e;obtain⟨j,c⟩:=vg _ _ _ b a l[a] (CU g);obtain⟨k,d⟩:=vg _ _ _ b i l[a] (by rw[e];exact CU h);have:=congrArg List.length (Cu c d);simp at this;omega
theorem GH{l:List α}(a:l.Nodup):l.reverse.Nodup:=
 List.pairwise_reverse.2 (a.imp fun a=>fun b=>a b.symm)
theorem yw(p:jl)(r:Ref):(chain p r).Nodup:=by
 unfold chain;split
 . unfold nk;cases a:ku p 6 r with
   |none=>simp
   |some b=>exact FQ _ _ _ a
 . simp
theorem vQ:∀(f:Nat)(r:Ref)(l:List Ref),ku p f r=some l->l.length<=f:=by
 intro f;induction f with
 |zero=>intro r l a;simp[ku]at a
 |succ f c=>
  intro r l a;unfold ku at a;split at a
  . cases a;simp
  . split at a
    . cases b:ku p f (resolve p r.keeper (jE p r)).1 with
      |none=>rw[b]at a;simp at a
      |some d=>rw[b]at a;simp at a;subst a;have:=c _ _ b;simp;omega
    . cases a
theorem wJ(p:jl)(r:Ref):(chain p r).length<=6:=by
 unfold chain;split
 . unfold nk;cases a:ku p 6 r with
   |none=>simp
   |some b=>exact vQ _ _ _ a
 . simp
theorem qC(c:Ref):∀(b:List Field)(a:List oO),(kK c b a).length=a.length+b.length:=by
 intro b;induction b with
 |nil=>intro a;rfl
 |cons e f d=>intro a;unfold kK;rw[d];simp;omega
theorem G5(c:Ref):∀(e:List Field)(b:List oO)(i:Nat)(f:oO),(kK c e b)[i]?=some f→ b[i]?=some f\/∃h d,e[h]?=some d/\i=b.length+h/\f=⟨c,i,d.kind⟩:=by
 intro e;induction e with
 |nil=>intro b i f g;exact .inl g
 |cons d q p=>
  intro b i f g;unfold kK at g;rcases p _ _ _ g with a|⟨h,l,a,m,n⟩
  . rcases UZ i b.length with j|j
    . rw[TY j]at a;exact .inl a
    . rw[TF j]at a;have o:i - b.length=0:=by
       rcases Ww (i - b.length)with k|k
       . exact k
       . rw[Uz Zr]at a;cases a
      rw[o]at a;simp at a;refine .inr ⟨0,d,rfl,Zm,?_⟩;rw[<-a,show i=b.length by omega]
  . exact .inr ⟨h+1,l,by simpa using a,by simp at m;omega,n⟩
theorem FP(c:Ref):∀(b:List Field)(a:List oO),∃d,kK c b a=a++d:=by
 intro b;induction b with
 |nil=>intro a;exact⟨[],by simp[kK]⟩
 |cons f h g=>
  intro a;unfold kK;obtain⟨d,e⟩:=g (a++[⟨c,a.length,f.kind⟩]);exact⟨_,by rw[e,TG]⟩
theorem uO(p:jl):∀(c:List Ref)(a:List oO),∃d,kL p c a=a++d:=by
 intro c;induction c with
 |nil=>intro a;exact⟨[],by simp[kL]⟩
 |cons b i g=>
  intro a;unfold kL;obtain⟨d,e⟩:=g (kK b (cls p b).fields a);obtain⟨h,f⟩:=FP b (cls p b).fields a;exact⟨h++d,by rw[e,f,TG]⟩
theorem qy(p:jl):∀(a K:List Ref)(b:List oO),kL p (a++K) b=kL p K (kL p a b):=by
 intro a;induction a with
 |nil=>intro K b;rfl
 |cons d e c=>intro K b;simp only[TR,kL];rw[c]
theorem CB(p:jl):∀(b:List Ref)(e:List oO),b.Nodup->∀(i:Nat)(f:oO),(kL p b e)[i]?=some f→ e[i]?=some f\/∃g∈b,∃d c,(cls p g).fields[d]?=some c/\i=qh p g b e.length+d/\f=⟨g,i,c.kind⟩:=by
 intro b;induction b with
 |nil=>intro e _ i f h;exact .inl h
 |cons g q o=>
  intro e l i f h;unfold kL at h;rw[We]at l;rcases o _ l.2 _ _ h with a|⟨n,m,d,c,a,j,k⟩
  . rcases G5 _ _ _ _ _ a with a|⟨d,c,a,j,k⟩
    . exact .inl a
    . exact .inr ⟨g,Zl,d,c,a,by simp[qh];exact j,k⟩
  . refine .inr ⟨n,by simp[m],d,c,a,?_,k⟩;unfold qh;rw[T9 (by rintro rfl;exact l.1 m),<-qC];exact j
theorem sG{i:Nat}(b:(layout p r)[i]?=some f):jW p r=true/\f.of∈chain p r/\f.at_=i/\∃c a,(cls p f.of).fields[c]?=some a/\i=nW p f.of r+c/\f.kind=a.kind:=by
 unfold layout at b;split at b
 . rename_i g;rcases CB p _ _ (GH (yw p r)) _ _ b with d|⟨j,h,c,a,d,e,rfl⟩
   . simp at d
   . exact⟨g,List.mem_reverse.1 h,rfl,c,a,d,e,rfl⟩
 . simp at b
theorem AP{a:Field}(b:(cls p f.of).fields[j]?=some a)(c:f.at_=((nW p f.of r+j:Nat):Int)):fieldName p r f=a.name:=by
 unfold fieldName;rw[show(f.at_ - nW p f.of r).toNat=j by omega,b];rfl
open Go Tryz M
def uD(p:jl)(n:ByteArray):Nat->Int->Ref×Int
 |0,_=>(q9,3)
 |f+1,k=>match ve p k n with
  |none=>if owned p ⟨k,n⟩then(⟨k,n⟩,1)else(q9,2)
  |some next=>uD p n f next
theorem JX{S:List Int}(b:∀x∈S,∃a∈S,ve p x n=some a):∀(g:Nat)(x:Int),x∈S->uD p n g x=(q9,3)
 |0,_,_=>rfl
 |g+1,x,hx=>by
  obtain⟨a,d,c⟩:=b x hx;rw[uD,c];exact JX b g a d
def Dz(n:ByteArray)(x:List Int×Int):Ref×Int:=if x.2=1 then(⟨x.1.getLastD 0,n⟩,1)else(q9,x.2)
theorem JW:∀(f:Nat)(a:List Int)(k:Int),a.getLast?=some k->(∀c∈a,c≠k->∃g∈a,ve p c n=some g)->Dz n (pK p n f a k)=uD p n f k
 |0,a,k,_,_=>rfl
 | f + 1, a, k, hl, h => by
  rw[pK,uD];cases i:ve p k n with
  |none=>
   by_cases l:owned p ⟨k,n⟩=true
   . simp[l,Dz,List.getLastD_eq_getLast?,hl]
   . simp[l,Dz]
  |some next=>
   simp only;by_cases e:a.contains next=true
   . rw[Ty e];have j:next∈a:=by simpa using e
     have:uD p n f next=(q9,3):=JX (S:=a) (fun c b=>by
      by_cases d:c=k
      . subst d;exact⟨next,j,i⟩
      . exact h c b d) f next j
     rw[this];rfl
   . rw[T9 e];refine JW f (a++[next]) next Zl fun c b m=>?_
     rcases TU.1 b with b|b
     . by_cases d:c=k
       . subst d;exact⟨next,Zl,i⟩
       . obtain⟨g,o,q⟩:=h c b d;exact⟨g,by simp[o],q⟩
     . simp at b;exact absurd b m
theorem zg{k:Int}(b:has p k=true)(n:ByteArray):uD p n 4 k=resolve p k n:=by
 rw[<-JW 4 [k] k rfl (fun d a c=>by simp at a;exact absurd a c)];unfold resolve path Dz;rw[Ty b]
theorem JV(p:jl)(n:ByteArray):∀(f:Nat)(k:Int),(uD p n f k).2=1->owned p (uD p n f k).1=true/\(uD p n f k).1.name=n
 |0,_,h=>by cases h
 | f + 1, k, h => by
  rw[uD]at h |-;cases b:ve p k n with
  |none=>
   rw[b]at h;simp only at h |-;by_cases a:owned p ⟨k,n⟩=true
   . rw[Ty a];exact⟨a,rfl⟩
   . rw[T9 a]at h;cases h
  |some next=>rw[b]at h;exact JV p n f next h
end Go.Proofs.YtenhnldnpdlniaaGreat.M
