/- Walks. -/
import Derived.WalkKit
import Derived.Deep.Draws
import Derived.Lib.Hide
import Derived.Test.YtenhnldnpdlniaaGreatProg
import Derived.Lib.SplitLaws
set_option maxRecDepth 100000
set_option maxHeartbeats 4000000
set_option linter.all false
namespace Go.Proofs.YtenhnldnpdlniaaGreat
variable {d p: Prop}
namespace M
end M
open Go Go.RowKit
abbrev Uc:=@Act.put_comm
abbrev Tt:=@And.intro
abbrev VQ:=@Array.all_eq_true_iff_forall_mem
abbrev Ux:=@Array.getElem?_eq_getElem
abbrev Uk:=@Array.getElem?_eq_none
abbrev Tk:=@Array.getElem?_eq_some_iff
abbrev U9:=@Array.replicate_succ
abbrev Uz:=@Array.replicate_zero
abbrev VC:=@Array.setIfInBounds_comm
abbrev Vl:=@Array.toList_inj
abbrev VA:=@Below.heap_alloc
abbrev V9:=@Bool.and_assoc
abbrev VB:=@Bool.and_comm
abbrev S9:=@Bool.and_eq_true
abbrev Vn:=@Bool.and_false
abbrev Va:=@Bool.and_left_comm
abbrev Ud:=@Bool.eq_iff_iff
abbrev U3:=@Bool.false_and
abbrev UN:=@Bool.false_eq_true
abbrev VV:=@Bool.not_eq_true'
abbrev V4:=@Bool.or_eq_true
abbrev TB:=@Bool.true_and
abbrev Tj:=@ByteArray.size_append
abbrev VS:=@ByteArray.size_extract
abbrev U4:=@ByteArray.toList_eq
abbrev Vu:=@Int.toNat_natCast
abbrev Tg:=@IntWalk.i64_in
abbrev V5:=@List.all_append
abbrev VT:=@List.all_eq_false
abbrev Tx:=@List.all_eq_true
abbrev VD:=@List.any_eq_false
abbrev V8:=@List.any_eq_true
abbrev Te:=@List.append_assoc
abbrev Uq:=@List.append_toArray
abbrev TZ:=@List.concat_eq_append
abbrev TG:=@List.cons.injEq
abbrev Td:=@List.cons_append
abbrev UO:=@List.contains_iff_mem
abbrev UE:=@List.dropLast_concat_getLast
abbrev Uy:=@List.drop_eq_getElem_cons
abbrev TW:=@List.drop_eq_nil_of_le
abbrev Vy:=@List.drop_of_length_le
abbrev Ur:=@List.drop_succ_cons
abbrev UI:=@List.drop_zero
abbrev TC:=@List.eq_nil_of_length_eq_zero
abbrev Ta:=@List.eq_nil_or_concat
abbrev VO:=@List.find?_append
abbrev Vb:=@List.findIdx?_cons
abbrev Ut:=@List.findIdx?_eq_some_iff_getElem
abbrev VL:=@List.findIdx?_isSome
abbrev TJ:=@List.flatMap_append
abbrev UG:=@List.flatMap_cons
abbrev UF:=@List.flatten_cons
abbrev Tn:=@List.getElem?_append_left
abbrev TR:=@List.getElem?_append_right
abbrev UM:=@List.getElem?_drop
abbrev Dj:=@List.getElem?_eq_getElem
abbrev TS:=@List.getElem?_eq_none
abbrev Tv:=@List.getElem?_eq_some_iff
abbrev Um:=@List.getElem?_map
abbrev Vp:=@List.getElem?_modify
abbrev Vq:=@List.getElem?_of_mem
abbrev VP:=@List.getElem?_set_self
abbrev Uv:=@List.getElem?_take
abbrev UL:=@List.getElem_mem
abbrev VH:=@List.getElem_of_mem
abbrev TL:=@List.length_append
abbrev Tc:=@List.length_cons
abbrev Uj:=@List.length_drop
abbrev Ua:=@List.length_eq_zero_iff
abbrev Uu:=@List.length_map
abbrev U6:=@List.length_nil
abbrev Vi:=@List.length_pos_iff
abbrev V3:=@List.length_replicate
abbrev Vh:=@List.length_reverse
abbrev VJ:=@List.length_set
abbrev UA:=@List.length_singleton
abbrev Tf:=@List.length_take
abbrev U0:=@List.map_append
abbrev TH:=@List.map_cons
abbrev Vm:=@List.map_nil
abbrev Ty:=@List.mem_append
abbrev TI:=@List.mem_cons
abbrev UZ:=@List.mem_cons_of_mem
abbrev VN:=@List.mem_iff_getElem?
abbrev TM:=@List.mem_map
abbrev Vg:=@List.mem_map_of_mem
abbrev TA:=@List.mem_of_find?_eq_some
abbrev Sy:=@List.mem_of_getElem?
abbrev Vs:=@List.mem_of_mem_drop
abbrev U2:=@List.mem_of_mem_take
abbrev Uw:=@List.mem_or_eq_of_mem_set
abbrev UY:=@List.mem_range
abbrev TU:=@List.mem_singleton
abbrev Ti:=@List.nil_append
abbrev Wx:=@List.nodup_cons
abbrev Uf:=@List.push_toArray
abbrev VM:=@List.range'_succ
abbrev VI:=@List.reverse_append
abbrev TY:=@List.setIfInBounds_toArray
abbrev TQ:=@List.set_cons_succ
abbrev TK:=@List.set_cons_zero
abbrev UQ:=@List.size_toArray
abbrev Tm:=@List.take_add_one
abbrev UB:=@List.take_append_drop
abbrev TV:=@List.take_length
abbrev Tu:=@List.take_of_length_le
abbrev Us:=@List.take_succ_cons
abbrev VU:=@List.take_succ_eq_append_getElem
abbrev UT:=@List.take_zero
abbrev Ul:=@Nat.add_assoc
abbrev VR:=@Nat.add_comm
abbrev Vx:=@Nat.add_sub_cancel
abbrev Uh:=@Nat.add_zero
abbrev VG:=@Nat.eq_zero_or_pos
abbrev Tz:=@Nat.le_refl
abbrev Vo:=@Nat.le_succ
abbrev Un:=@Nat.le_succ_of_le
abbrev TD:=@Nat.le_trans
abbrev Tp:=@Nat.lt_of_lt_of_le
abbrev Uo:=@Nat.lt_or_ge
abbrev Vj:=@Nat.lt_succ_self
abbrev UH:=@Nat.lt_trichotomy
abbrev Ue:=@Nat.min_eq_left
abbrev W9:=@Nat.mod_eq_of_lt
abbrev Vt:=@Nat.mul_le_mul
abbrev VK:=@Nat.mul_le_mul_right
abbrev V6:=@Nat.mul_one
abbrev Wt:=@Nat.not_lt
abbrev Ww:=@Nat.not_lt_zero
abbrev UW:=@Nat.succ_mul
abbrev Tq:=@Nat.zero_add
abbrev T9:=@Nat.zero_le
abbrev UX:=@Nat.zero_mul
abbrev V7:=@Option.bind_eq_some_iff
abbrev TT:=@Option.bind_some
abbrev Vk:=@Option.getD_none
abbrev U7:=@Option.getD_some
abbrev Vf:=@Option.isSome_iff_exists
abbrev VZ:=@Option.isSome_none
abbrev VY:=@Option.isSome_some
abbrev U1:=@Option.map_eq_some_iff
abbrev TN:=@Option.map_some
abbrev Vd:=@Option.some.inj
abbrev TF:=@Option.some.injEq
abbrev UD:=@Option.toList_some
abbrev Wu:=@Prod.mk.injEq
abbrev UU:=@Result.andThen_ok
abbrev Ui:=@Sem.run_bind
abbrev UK:=@World.cell?_of_block
abbrev Vv:=@World.ownsRow_lit
abbrev U8:=@World.ownsRow_nil
abbrev Tw:=@World.size_alloc
abbrev Vw:=@and_true
abbrev SI:=@beq_eq_false_iff_ne
abbrev Ub:=@beq_iff_eq
abbrev TP:=@bne_iff_ne
abbrev Px:=@bodyPost_ret
abbrev U5:=@callsIn_wide
abbrev Ug:=@decide_eq_decide
abbrev RN:=@decide_eq_false
abbrev SY:=@decide_eq_true
abbrev SF:=@decide_eq_true_eq
abbrev Wv:=@eq_false
abbrev VF:=@execOp_put
abbrev UJ:=@if_false
abbrev SX:=@if_neg
abbrev SV:=@if_pos
abbrev UC:=@if_true
abbrev VW:=@mem_ready
abbrev VX:=@of_decide_eq_false
abbrev TE:=@of_decide_eq_true
abbrev VE:=@ready_mono
abbrev Vr:=@run_underlying
abbrev Ve:=@true_and
abbrev Wy:=@wanted_put
abbrev Wz:=@wpList_plain
abbrev Vz:=@wpStill_nil
def Zz(p:Prop):Prop:=p
theorem Zz.o(a:Zz p):p:=a
theorem Zy(a:p):Zz p:=a
theorem Zx(a:p:=by repeat (first|with_reducible exact Kp.refl _ _|with_reducible assumption|with_reducible refine Kp.alloc ?_ _|with_reducible refine Kp.drew ?_|with_reducible refine Kp.drewN ?_ _|with_reducible refine Kp.setCell ?_ (fun a=>absurd a (by simp<;>omega)) _|with_reducible refine Kp.trans ?_ (by with_reducible assumption)|exact Kp.refl _ _|assumption|refine Kp.alloc ?_ _|refine Kp.drew ?_|refine Kp.drewN ?_ _|(refine Kp.setCell ?_ (fun a=>absurd a (by simp;done)) _)|(refine Kp.setCell ?_ (fun a=>absurd a (by simp;omega)) _)|refine Kp.trans ?_ (by assumption))):p:=a
theorem Zw(a:p:=by repeat (first|with_reducible assumption|with_reducible exact Kp.refl _ _|apply Kp.alloc|apply Kp.drew|apply Kp.drewN|refine Kp.setCell ?_ (fun a=>absurd a (by simp<;>omega)) _|assumption|refine Kp.trans ?_ (by assumption)|exact Kp.refl _ _)):p:=a
theorem Zv(a:p:=by repeat (first|assumption|exact Kp.refl _ _|apply Kp.alloc|apply Kp.drew|apply Kp.drewN|refine Kp.trans ?_ (by assumption))):p:=a
theorem Zu(a:p:=by with_reducible assumption):p:=a
theorem Zt(a:p:=by simp[Value.oneCell']):p:=a
theorem Zs(a:p:=by simp<;>omega):p:=a
theorem Zr(a:p:=by simp;omega):p:=a
theorem Zq(a:p:=by simp;done):p:=a
theorem Zp(a:p:=by assumption):p:=a
theorem Zo(a:p:=by kernel_rfl):p:=a
theorem Zn(a:p:=by decide):p:=a
theorem Zm(a:p:=by omega):p:=a
theorem Zl(a:p:=by simp):p:=a
instance cz1:Coe Nat Value:=⟨fun n=>.int .i64 n⟩
instance cz2:Coe Int Value:=⟨.int .i64⟩
instance cz3:Coe ByteArray Value:=⟨.string⟩
instance cz4:Coe Unit Value:=⟨fun _=>.slice none 0 0⟩
instance cz5:CoeDep String "" Value:=⟨.string ⟨#[]⟩⟩
instance cz6 (b:Nat):CoeDep (Option Nat) (some b) Value:=⟨.pointer (some ⟨b,0,none⟩)⟩
instance cz7 (b n c:Nat):CoeDep (Nat×Nat×Nat) (b,n,c) Value:=⟨.slice (some ⟨b,0,none⟩) n c⟩
instance cz9:Coe World Nat:=⟨fun w=>w.heap.size⟩
instance cza (b k:Nat):CoeDep (Nat×Nat) (b,k) Addr:=⟨⟨b,k,none⟩⟩
instance czb (b k:Nat):CoeDep (Option (Nat×Nat)) (some (b,k)) Value:=⟨.pointer (some ⟨b,k,none⟩)⟩
instance czc (w:World) (k:Nat):CoeDep (World×Nat) (w,k) Addr:=⟨⟨w.heap.size,k,none⟩⟩
instance czd (w:World):CoeDep (Option World) (some w) Value:=⟨.pointer (some ⟨w.heap.size,0,none⟩)⟩
instance cze (w:World) (n c:Nat):CoeDep (World×Nat×Nat) (w,n,c) Value:=⟨.slice (some ⟨w.heap.size,0,none⟩) n c⟩
instance czf (w:World) (k:Nat):CoeDep (Option (World×Nat)) (some (w,k)) Value:=⟨.pointer (some ⟨w.heap.size,k,none⟩)⟩
theorem SH(a:World):∃b,b=a:=⟨a,rfl⟩
instance cz8:Coe Nat Addr:=⟨fun b=>⟨b,0,none⟩⟩
instance czg:Coe (Fin 1) Value:=⟨fun _=>.int .i64 0⟩
def SS:Fin 1:=0
theorem SQ{P G:Prop}(c:G)(b:Zz G->P:=by(intro a;(try simp only[Exit.inBlock,Exit.then]);(first|exact Px (results_none rfl _ _ _) rfl a.o|exact bodyPost_end (results_none rfl _ _ _) rfl a.o))):P:=b (Zy c)
theorem SK{b: Prop}(a:b)(c:b->p:=by(intro _;omega)):p:=c a
theorem SL{c: Prop}(a:c)(b:d)(e:c->d->p:=by(intro _ _;omega)):p:=e a b
theorem SN{e C: Prop}(a:d)(b:e)(c:C)(f:d->e->C->p:=by(intro _ _ _;omega)):p:=f a b c
end Go.Proofs.YtenhnldnpdlniaaGreat
namespace Go.Proofs.YtenhnldnpdlniaaGreat.M
structure Kind where
 kind:Int
 name:ByteArray
structure Tag where
 kind:Int
 name:ByteArray
structure Ins where
 op:Int
 a:Int
 name:ByteArray
 member:ByteArray
structure SMap where
 at_:Int
 locals:List Tag
 stack:List Tag
structure Field where
 name:ByteArray
 kind:Kind
structure Method where
 name:ByteArray
 args:List Kind
 ret:Kind
 locals:Int
 stack:Int
 code:List Ins
 maps:List SMap
structure Class where
 name:ByteArray
 je:ByteArray
 fields:List Field
 methods:List Method
structure Ask where
 name:ByteArray
 keeper:Int
structure kC where
 owns:List Class
 asks:List Ask
abbrev hZ:=List kC
structure Ref where
 keeper:Int
 name:ByteArray
theorem Ref.nW{a b:Ref}:a=b↔a.keeper=b.keeper/\a.name=b.name:=by
 cases a;cases b;simp
theorem Kind.nW{a b:Kind}:a=b↔a.kind=b.kind/\a.name=b.name:=by
 cases a;cases b;simp
theorem Tag.nW{a b:Tag}:a=b↔a.kind=b.kind/\a.name=b.name:=by
 cases a;cases b;simp
theorem Ins.nW{a b:Ins}:a=b↔a.op=b.op/\a.a=b.a/\a.name=b.name/\a.member=b.member:=by
 cases a;cases b;simp
instance:DecidableEq Ref:=fun _ _=>decidable_of_iff' _ Ref.nW
instance:DecidableEq Kind:=fun _ _=>decidable_of_iff' _ Kind.nW
instance:DecidableEq Tag:=fun _ _=>decidable_of_iff' _ Tag.nW
instance:DecidableEq Ins:=fun _ _=>decidable_of_iff' _ Ins.nW
theorem Field.nW{a b:Field}:a=b↔a.name=b.name/\a.kind=b.kind:=by
 cases a;cases b;simp
instance:DecidableEq Field:=fun _ _=>decidable_of_iff' _ Field.nW
def letter(c:UInt8):Bool:=decide (97<=c.toNat)&&decide (c.toNat<=122)
def jf(s:ByteArray):Bool:=decide (1<=s.size)&&decide (s.size<=6)&&s.data.toList.all letter
abbrev none_:ByteArray:=⟨#[]⟩
def kY(k:Kind):Bool:=(k.kind==1&&decide (k.name=none_))|| (k.kind==2&&jf k.name)
def oZ(t:Tag):Bool:=
 if t.kind=0\/t.kind=1\/t.kind=3 then decide (t.name=none_)else if t.kind=2 then jf t.name else false
def pX(op:Int):Int:=if op=1 then -9999 else 0
def qG(op:Int):Int:=if op=1 then 9999 else if op=2\/op=3 then 5 else 15
def isNum(op:Int):Bool:=op==1 || op==2 || op==3 || op==11 || op==12 || op==13
def oG(op:Int):Bool:=op==6 || op==15
def pq(op:Int):Bool:=op==7 || op==8 || op==9
def qY(op:Int):Bool:=op==4 || op==5 || op==10 || op==14
def kE(i:Ins):Bool:=
 if isNum i.op then decide (i.name=none_)&&decide (i.member=none_)&&decide (pX i.op<=i.a)&&decide (i.a<=qG i.op)
 else if oG i.op then decide (i.a=0)&&decide (i.member=none_)&&jf i.name
 else if pq i.op then decide (i.a=0)&&jf i.name&&jf i.member
 else if qY i.op then decide (i.a=0)&&decide (i.name=none_)&&decide (i.member=none_)
 else false
def qy(l:List Tag):Bool:=l.all oZ
def nJ(m:Method)(i:Ins):Bool:=
 kE i&&(if i.op=2\/i.op=3 then decide (i.a<m.locals)else if i.op=11\/i.op=12\/i.op=13 then decide (i.a<m.code.length)else true)
def codeOk(m:Method):Bool:=decide (1<=m.code.length)&&decide (m.code.length<=16)&&m.code.all (nJ m)
def uF(m:Method)(f:SMap):Bool:=
 decide (f.at_ <m.code.length)&&decide ((f.locals.length:Int)=m.locals)&&decide ((f.stack.length:Int)<=m.stack)&&qy f.locals&&qy f.stack
def j3(m:Method):Int->List SMap->Bool
 |_,[]=>true
 |last,f::r=>decide (last<f.at_)&&uF m f&&j3 m f.at_ r
def qU(m:Method):Bool:=decide (m.maps.length<=5)&&j3 m 0 m.maps
def ng(m:Method):Bool:=
 jf m.name&&decide (m.args.length<=3)&&kY m.ret&&m.args.all kY&&
 decide ((m.args.length:Int)+1<=m.locals)&&decide (m.locals<=6)&&decide (1<=m.stack)&&decide (m.stack<=5)&&codeOk m&&qU m
def jw{α:Type}(name:α->ByteArray)(ok:α->Bool):List α->List ByteArray->Bool
 |[],_=>true
 |x::r,seen=>ok x&& !(seen.any fun y=>decide (y=name x))&&jw name ok r (seen++[name x])
def mY(c:Class):Bool:=
 jf c.name&&(decide (c.je=none_)|| jf c.je)&&decide (c.fields.length<=3)&&decide (c.methods.length<=4)&&
 jw Field.name (fun f=>jf f.name&&kY f.kind) c.fields []&&jw Method.name ng c.methods []
def has(p:hZ)(k:Int):Bool:=decide (0<=k)&&decide (k<p.length)
def jC(p:hZ)(k:kC):Bool:=
 decide (k.owns.length<=5)&&decide (k.asks.length<=4)&&jw Class.name mY k.owns []&&jw Ask.name (fun a=>jf a.name&&has p a.keeper) k.asks []
def jY(p:hZ):Bool:=decide (1<=p.length)&&decide (p.length<=3)&&p.all (jC p)
def lF(p:hZ)(k:Int):Option kC:=if 0<=k then p[k.toNat]? else none
def wJ(p:hZ)(r:Ref):Option Nat:=(lF p r.keeper).bind fun k=>k.owns.findIdx? fun c=>c.name=r.name
def cls?(p:hZ)(r:Ref):Option Class:=(lF p r.keeper).bind fun k=>k.owns.find? fun c=>c.name=r.name
def ym(p:hZ)(k:Int)(n:ByteArray):Option Int:=(lF p k).bind fun q=>(q.asks.find? fun a=>a.name=n).map Ask.keeper
def owned(p:hZ)(r:Ref):Bool:=(cls? p r).isSome
def vV:Ref:=⟨0,none_⟩
def ou(p:hZ)(n:ByteArray):Nat->List Int->Int->List Int×Int
 |0,_,_=>([],3)
 |f+1,asked,k=>match ym p k n with
  |none=>if owned p ⟨k,n⟩then(asked,1)else([],2)
  |some next=>if asked.contains next then([],3)else ou p n f (asked++[next]) next
def path(p:hZ)(k:Int)(n:ByteArray):List Int×Int:=if has p k then ou p n 4 [k] k else([],2)
def resolve(p:hZ)(k:Int)(n:ByteArray):Ref×Int:=
 if(path p k n).2=1 then(⟨(path p k n).1.getLastD 0,n⟩,1)else(vV,(path p k n).2)
def je(p:hZ)(r:Ref):ByteArray:=((cls? p r).map Class.je).getD none_
def jN(p:hZ):Nat->Ref->Option (List Ref)
 |0,_=>none
 |f+1,r=>
  if je p r=none_ then some [r]
  else if(resolve p r.keeper (je p r)).2=1 then(jN p f (resolve p r.keeper (je p r)).1).map (r::·)else none
def om(p:hZ)(r:Ref):Option (List Ref):=jN p 6 r
def find(p:hZ)(k:Int)(n:ByteArray):Ref×Int:=
 if(resolve p k n).2=1 then(if(om p (resolve p k n).1).isSome then((resolve p k n).1,1)else(vV,4))else(vV,(resolve p k n).2)
def lv(p:hZ)(r:Ref):Bool:=decide ((find p r.keeper r.name).2=1)&&decide ((find p r.keeper r.name).1=r)
def chain(p:hZ)(r:Ref):List Ref:=if lv p r then(om p r).getD []else []
def under(p:hZ)(low top:Ref):Bool:=(chain p low).contains top
def agree(p:hZ)(a b:Int)(k:Kind):Bool:=
 k.kind==1 || (if(find p a k.name).2=1/\(find p b k.name).2=1 then decide ((find p a k.name).1=(find p b k.name).1)
  else decide ((find p a k.name).2≠1)&&decide ((find p b k.name).2≠1))
def jQ(p:hZ)(a b:Int)(m:Method):Bool:=m.args.all (agree p a b)&&agree p a b m.ret
def q8(c:Class)(n:ByteArray):Option Nat:=c.methods.findIdx? fun m=>m.name=n
def wX(c:Class)(n:ByteArray):Option Nat:=c.fields.findIdx? fun f=>f.name=n
def RH:Class:=⟨none_,none_,[],[]⟩
def cls(p:hZ)(r:Ref):Class:=(cls? p r).getD RH
def kS(p:hZ)(low high:Ref)(m:Method):Bool:=
 match(cls p high).methods.find? (fun n=>n.name=m.name)with
 |none=>true
 |some n=>decide (m.ret=n.ret)&&decide (m.args=n.args)&&jQ p low.keeper high.keeper m
def nX(p:hZ)(low high:Ref):Bool:=
 (cls p low).fields.all (fun f=>(wX (cls p high) f.name).isNone)&&(cls p low).methods.all (kS p low high)
def kM(p:hZ):List Ref->Bool
 |[]=>true
 |low::r=>r.all (nX p low)&&kM p r
def jD(p:hZ)(r:Ref):Bool:= !(chain p r).isEmpty&&kM p (chain p r)
end Go.Proofs.YtenhnldnpdlniaaGreat.M
namespace Go.Proofs.YtenhnldnpdlniaaGreat
open Go Go.RowKit Tryz M
theorem iV{w:World}{b d:Nat}{v:Value}(c:w.cell? (b,d)=some v):b<w:=by
 rcases Uo b w with a|a
 . exact a
 . simp[World.cell?,Uk a]at c
structure Kp(D:Nat->Prop)(w w':World):Prop where
 os:w'.os=w.os
 tape:w'.tape=w.tape
 output:w'.output=w.output
 size:w.heap.size<=w'.heap.size
 block:∀k,k<w.heap.size->¬D k->w'.heap[k]?=w.heap[k]?
section
variable {D D':Nat->Prop} {w w' a b c:World}
theorem Kp.refl(D:Nat->Prop)(w:World):Kp D w w:=⟨rfl,rfl,rfl,Tz _,fun _ _ _=>rfl⟩
theorem Kp.rr{D:Nat->Prop}{w:World}:Kp D w w:=Kp.refl D w
theorem Kp.trans(d:Kp D a b)(k:Kp D b c):Kp D a c:=
 ⟨k.os.trans d.os,k.tape.trans d.tape,k.output.trans d.output,TD d.size k.size,
  fun g f e=>(k.block g (Tp f d.size) e).trans (d.block g f e)⟩
theorem Kp.weak(d:Kp D a b)(f:∀c,c<a.heap.size->D c->D' c):Kp D' a b:=
 ⟨d.os,d.tape,d.output,d.size,fun c e g=>d.block c e fun h=>g (f c e h)⟩
theorem Kp.below(c:Kp D a b)(n:Nat)(g:n<=a)(e:∀d,d<n->¬D d):Below n a b:=
 ⟨c.os,c.tape,c.output,c.size,fun d f=>c.block d Zm (e d f)⟩
theorem Kp.alloc(c:Kp D a b)(f:Obj):Kp D a (b.alloc f):=
 ⟨c.os,c.tape,c.output,by simp;exact Un c.size,fun e d g=>(VA b f e (Tp d c.size)).trans (c.block e d g)⟩
theorem Kp.drew(c:Kp D a b):Kp D a b.drew:=⟨c.os,c.tape,c.output,c.size,c.block⟩
theorem Kp.drewN(c:Kp D a b)(n:Nat):Kp D a (b.drewN n):=⟨c.os,c.tape,c.output,c.size,c.block⟩
theorem Kp.setCell(c:Kp D a b){p:Addr}(h:p.block<a->D p.block)(v:Value):Kp D a (b.setCell p v):=
 ⟨c.os,c.tape,c.output,by simp[World.setCell];exact c.size,
  fun f e d=>(Below.heap_setCell b p v f (fun g=>d (by subst g;exact h e))).trans (c.block f e d)⟩
theorem Sw{g:Nat}(c:Kp (·=g) a b){k:Nat}{v:Value}:Kp (·=g) a (b.setCell (g,k) v):=c.setCell (p:=⟨g,k,none⟩) (fun _=>rfl) v
theorem qA{g:Nat}(c:Kp (·=g) a b:=by(repeat (first|with_reducible exact Kp.rr|with_reducible refine Sw ?_))):Kp (·=g) a b:=c
theorem Kp.cell(d:Kp D a b){k c:Nat}(f:k<a)(e:¬D k):b.cell? (k,c)=a.cell? (k,c):=
 UK (d.block k f e)
theorem Kp.frozen(d:Kp D a b){k c:Nat}(f:k<a)(e:¬D k):b.frozen? (k,c)=a.frozen? (k,c):=
 World.frozen?_of_block (d.block k f e)
abbrev Ext(w w':World):Prop:=Kp (fun _=>False) w w'
theorem Kp.any(c:Ext a b):Kp D a b:=c.weak fun _ _ d=>d.elim
theorem Ext.PM{w w':World}(a:Ext w w'):Below w w w':=Kp.below a _ (Tz _) fun _ _ b=>b
theorem Kp.iW(e:Ext a b){k d:Nat}{v:Value}(c:a.cell? (k,d)=some v):b.cell? (k,d)=some v:=
 (e.cell (iV c) (fun f=>f)).trans c
theorem Kp.nQ(e:Kp D a b){k d:Nat}{v:Value}(c:a.cell? (k,d)=some v)(f:¬D k):b.cell? (k,d)=some v:=
 (e.cell (iV c) f).trans c
theorem Kp.LH{f:Obj}(d:Ext (a.alloc f) b){k c:Nat}{v:Value}(e:a.cell? (k,c)=some v):b.cell? (k,c)=some v:=
 d.iW (((Kp.refl _ _).alloc _:Ext a _).iW e)
inductive KX(D:Nat->Prop)(w:World):World->Prop
 |r:KX D w w
 |a {b:World} {o:Obj}:KX D w b->KX D w (b.alloc o)
 |d {b:World}:KX D w b->KX D w b.drew
 |n {b:World} {k:Nat}:KX D w b->KX D w (b.drewN k)
 |h {b:World}:Kp D w b->KX D w b
theorem KX.k{D:Nat->Prop}{w b:World}(h:KX D w b):Kp D w b:=by
 induction h with
 |r=>exact Kp.refl _ _
 |a _ c=>exact c.alloc _
 |d _ c=>exact c.drew
 |n _ c=>exact c.drewN _
 |h h=>exact h
theorem kx{D:Nat->Prop}{w b:World}(a:KX D w b:=by repeat (first|assumption|constructor)):Kp D w b:=a.k
theorem Ir{W d:World}(f:Ext W d):(∀b a,b<W.heap.size->d.cell? ⟨b,a,none⟩=W.cell? ⟨b,a,none⟩)/\(∀b a,b<W.heap.size->d.frozen? ⟨b,a,none⟩=W.frozen? ⟨b,a,none⟩):=
 ⟨fun _ _ c=>f.cell c fun e=>e,fun _ _ c=>f.frozen c fun e=>e⟩
end
theorem jc{p0 a:Prop}(h0:p0)(b:a):Zz p0/\Zz a:=⟨Zy h0,Zy b⟩
theorem jr{p0 a b:Prop}(h0:p0)(c:a)(d:b):Zz p0/\Zz a/\Zz b:=⟨Zy h0,Zy c,Zy d⟩
theorem kQ{p0 a b c:Prop}(h0:p0)(d:a)(e:b)(f:c):Zz p0/\Zz a/\Zz b/\Zz c:=⟨Zy h0,Zy d,Zy e,Zy f⟩
theorem qR{p0 a b c d:Prop}(h0:p0)(e:a)(f:b)(g:c)(h:d):Zz p0/\Zz a/\Zz b/\Zz c/\Zz d:=⟨Zy h0,Zy e,Zy f,Zy g,Zy h⟩
theorem rX{p0 a b c d e:Prop}(h0:p0)(f:a)(g:b)(h:c)(i:d)(j:e):Zz p0/\Zz a/\Zz b/\Zz c/\Zz d/\Zz e:=⟨Zy h0,Zy f,Zy g,Zy h,Zy i,Zy j⟩
theorem uA{p0 a b c d e f:Prop}(h0:p0)(g:a)(h:b)(i:c)(j:d)(k:e)(l:f):Zz p0/\Zz a/\Zz b/\Zz c/\Zz d/\Zz e/\Zz f:=⟨Zy h0,Zy g,Zy h,Zy i,Zy j,Zy k,Zy l⟩
theorem IQ{p0 a b c d e f g:Prop}(h0:p0)(h:a)(i:b)(j:c)(k:d)(l:e)(m:f)(n:g):Zz p0/\Zz a/\Zz b/\Zz c/\Zz d/\Zz e/\Zz f/\Zz g:=⟨Zy h0,Zy h,Zy i,Zy j,Zy k,Zy l,Zy m,Zy n⟩
theorem Bz{p0 a b c d e f g h:Prop}(h0:p0)(i:a)(j:b)(k:c)(l:d)(m:e)(n:f)(o:g)(p:h):Zz p0/\Zz a/\Zz b/\Zz c/\Zz d/\Zz e/\Zz f/\Zz g/\Zz h:=⟨Zy h0,Zy i,Zy j,Zy k,Zy l,Zy m,Zy n,Zy o,Zy p⟩
def h9(w:World)(g:Nat)(t:TypeId)(cs:Array Value):Prop:=w.heap[g]?=some (.cells cs t (0,0))
section
variable {w w':World} {g:Nat} {t:TypeId} {cs:Array Value}
theorem h9.lt(a:h9 w g t cs):g<w:=by
 rcases Uo g w with c|b
 . exact c
 . unfold h9 at a;rw[Uk b]at a;cases a
theorem h9.cell(a:h9 w g t cs)(i:Nat):w.cell? (g,i)=cs[i]?:=by
 unfold h9 at a;simp[World.cell?,a]
theorem h9.c(a:h9 w g t cs)(i:Nat)(v:Value)(b:cs[i]?=some v):w.cell? (g,i)=some v:=(a.cell i).trans b
theorem h9.frozen(a:h9 w g t cs)(i:Nat):w.frozen? (g,i)=false:=by
 unfold h9 at a;simp[World.frozen?,a]
def QL(w:World)(g:Nat):List Nat->List Value->Prop
 |i::r,v::l=>w.cell? ⟨g,i,none⟩=some v/\QL w g r l
 |_,_=>True
def QK{T:Type}(W:T->World)(g:Nat):List Nat->List Value->Prop
 |i::r,v::l=>(∀z,(W z).cell? ⟨g,i,none⟩=some v)/\QK W g r l
 |_,_=>True
def RI(w:World)(g:Nat):List Nat->Prop
 |i::r=>w.frozen? ⟨g,i,none⟩=false/\RI w g r
 |_=>True
theorem QL.of{w:World}{g:Nat}:∀(n k:Nat) (l:List Value),(∀a b,l[a]?=some b->w.cell? ⟨g,k+a,none⟩=some b)->QL w g (List.range' k n) l
 |0,_,_,_=>by simp[QL]
 |n+1,k,[],_=>by simp[VM,QL]
 |n+1,k,b::l,h=>by
  rw[VM];exact⟨h 0 b rfl,QL.of n (k+1) l fun a d c=>by have:=h (a+1) d c;rwa[Nat.add_right_comm,<-Ul]at*⟩
theorem QK.of{d:Type}{W:d->World}{g:Nat}:∀(n k:Nat) (l:List Value),(∀a b,l[a]?=some b->∀c,(W c).cell? ⟨g,k+a,none⟩=some b)->QK W g (List.range' k n) l
 |0,_,_,_=>by simp[QK]
 |n+1,k,[],_=>by simp[VM,QK]
 |n+1,k,b::l,h=>by
  rw[VM];exact⟨h 0 b rfl,QK.of n (k+1) l fun a f e c=>by have:=h (a+1) f e c;rwa[Nat.add_right_comm,<-Ul]at*⟩
theorem RI.of{w:World}{g:Nat}(b:∀i,w.frozen? ⟨g,i,none⟩=false):∀a:List Nat,RI w g a
 |[]=>trivial
 |i::a=>⟨b i,RI.of b a⟩
theorem h9.ca(a:h9 w g t cs):g<w/\QL w g [0,1,2,3,4,5,6,7,8,9,10,11] cs.toList:=
 ⟨a.lt,QL.of 12 0 _ fun c d b=>by rw[Tq];exact a.c c d (by rw[<-Array.getElem?_toList];exact b)⟩
theorem h9.qW{c:Type}{W:c->World}(b:∀a,h9 (W a) g t cs):(∀a,g<(W a).heap.size)/\QK W g [0,1,2,3,4,5,6,7,8,9,10,11] cs.toList:=
 ⟨fun a=>(b a).lt,QK.of 12 0 _ fun e f d a=>by rw[Tq];exact(b a).c e f (by rw[<-Array.getElem?_toList];exact d)⟩
theorem h9.fz(a:h9 w g t cs):RI w g [0,1,2,3,4,5,6,7,8,9,10,11]:=RI.of (fun b=>a.frozen b) _
theorem h9.keep(a:h9 w g t cs)(b:w'.heap[g]?=w.heap[g]?):h9 w' g t cs:=b.trans a
theorem h9.ext(a:h9 w g t cs)(b:Ext w w'):h9 w' g t cs:=(b.block g a.lt fun c=>c).trans a
theorem h9.kp{D:Nat->Prop}(a:h9 w g t cs)(b:Kp D w w')(c:¬D g):h9 w' g t cs:=(b.block g a.lt c).trans a
theorem h9.new(w:World)(t:TypeId)(cs:Array Value):h9 (w.alloc (.cells cs t)) w t cs:=by
 unfold h9 World.alloc;simp
theorem nu(w:World)(cs:Array Value)(t:TypeId):∃a,a=w.alloc (.cells cs t)/\Ext w a/\h9 a w t cs:=⟨_,rfl,(Kp.refl _ _).alloc _,h9.new _ _ _⟩
theorem h9.jE(a:h9 w g t cs)(i:Nat)(b:Value):h9 (w.setCell (g,i) b) g t (cs.setIfInBounds i b):=by
 unfold h9 at a |-;simp[World.setCell,Array.getElem?_modify,a]
end
def hH(w:World)(b o:Nat)(cs:List Value):Prop:=∀j v,cs[j]?=some v->w.cell? ⟨b,o+j,none⟩=some v
abbrev mH(α:Type):=World->(Nat->Prop)->α->List Value->Prop
def SliceOf{α:Type}(k:Nat)(R:mH α)(w:World)(I:Nat->Prop)(v:Value)(xs:List α):Prop:=
 ∃a cap,v=.slice a xs.length cap/\xs.length<=cap/\xs.length<=4294967296/\
  ∀i x,xs[i]?=some x->∃b off cs,a=some ⟨b,off,none⟩/\I b/\R w I x cs/\cs.length=k/\hH w b (off+i*k) cs
theorem st2{w:World}{b:Nat}{t:TypeId}{u0 u1:Value}(c:h9 w b t #[u0,u1])(d e:Value):∃a,a=(w.setCell b d).setCell (b,1) e/\h9 a b t #[d,e]/\Kp (·=b) w a:=
 ⟨_,rfl,by have c:=((c.jE 0 d).jE 1 e);simpa using c,qA⟩
theorem SA{w:World}{b:Nat}{t:TypeId}{u0 u1 u2:Value}(c:h9 w b t #[u0,u1,u2])(d e f:Value):∃a,a=((w.setCell b d).setCell (b,1) e).setCell (b,2) f/\h9 a b t #[d,e,f]/\Kp (·=b) w a:=
 ⟨_,rfl,by have c:=(((c.jE 0 d).jE 1 e).jE 2 f);simpa using c,qA⟩
theorem SG{w:World}{b:Nat}{t:TypeId}{u0 u1 u2 u3 u4:Value}(c:h9 w b t #[u0,u1,u2,u3,u4])(d e f g h:Value):∃a,a=((((w.setCell b d).setCell (b,1) e).setCell (b,2) f).setCell (b,3) g).setCell (b,4) h/\h9 a b t #[d,e,f,g,h]/\Kp (·=b) w a:=
 ⟨_,rfl,by have c:=(((((c.jE 0 d).jE 1 e).jE 2 f).jE 3 g).jE 4 h);simpa using c,qA⟩
theorem H7{w:World}{b:Nat}{t:TypeId}{u0 u1 u2 u3 u4 u5:Value}(c:h9 w b t #[u0,u1,u2,u3,u4,u5])(d e f g h i:Value):∃a,a=(((((w.setCell b d).setCell (b,1) e).setCell (b,2) f).setCell (b,3) g).setCell (b,4) h).setCell (b,5) i/\h9 a b t #[d,e,f,g,h,i]/\Kp (·=b) w a:=
 ⟨_,rfl,by have c:=((((((c.jE 0 d).jE 1 e).jE 2 f).jE 3 g).jE 4 h).jE 5 i);simpa using c,qA⟩
theorem hH.keep{w d:World}{b a:Nat}{cs:List Value}(e:hH w b a cs)(g:∀a c,w.cell? ⟨b,a,none⟩=some c->d.cell? ⟨b,a,none⟩=some c):hH d b a cs:=
 fun h c f=>g _ _ (e h c f)
def Same(I:Nat->Prop)(w w':World):Prop:=∀b o v,I b->w.cell? ⟨b,o,none⟩=some v->w'.cell? ⟨b,o,none⟩=some v
theorem Ext.same{I:Nat->Prop}{w a:World}(b:Ext w a):Same I w a:=fun _ _ _ _ c=>Kp.iW b c
theorem Kp.same{I D:Nat->Prop}{w b:World}(c:Kp D w b)(hI:∀a,I a->¬D a):Same I w b:=fun a _ _ d e=>c.nQ e (hI a d)
def jK{α:Type}(R:mH α):Prop:=∀(w w':World) (I J:Nat->Prop) (x:α) (cs:List Value),Same I w w'->(∀b,I b->J b)->R w I x cs->R w' J x cs
theorem SliceOf.keep{α:Type}{k:Nat}{R:mH α}(hR:jK R){w e:World}{I J:Nat->Prop}{v:Value}{xs:List α}(l:SliceOf k R w I v xs)(d:Same I w e) (c:∀a,I a->J a):SliceOf k R e J v xs:=by
 obtain⟨f,g,i,m,n,o⟩:=l;refine⟨f,g,i,m,n,fun t y s=>?_⟩;obtain⟨a,x,h,j,b,r,q,p⟩:=o t y s;exact⟨a,x,h,j,c a b,hR _ _ _ _ _ _ d c r,q,p.keep fun u v=>d a u v b⟩
theorem SliceOf.ext{α:Type}{k:Nat}{R:mH α}{w b:World}{I:Nat->Prop}{v:Value}{xs:List α}(a:SliceOf k R w I v xs)(hR:jK R)(c:Ext w b):SliceOf k R b I v xs:=
 a.keep hR (Ext.same c) fun _ a=>a
theorem SliceOf.get{α:Type}{k:Nat}{R:mH α}{w:World}{I:Nat->Prop}{a:Option Addr}{n e:Nat}{xs:List α}(g:SliceOf k R w I (.slice a n e) xs){i:Nat}{x:α}(j:xs[i]?=some x):∃b d c,a=some ⟨b,d,none⟩/\I b/\R w I x c/\c.length=k/\hH w b (d+i*k) c:=by
 obtain⟨l,m,f,o,p,h⟩:=g;cases f;exact h i x j
theorem SliceOf.form{α:Type}{k:Nat}{R:mH α}{w:World}{I:Nat->Prop}{v:Value}{xs:List α}(d:SliceOf k R w I v xs):∃b a,v=.slice b xs.length a/\xs.length<=a/\xs.length<=4294967296:=by
 obtain⟨b,a,c,e,f,_⟩:=d;exact⟨b,a,c,e,f⟩
theorem SliceOf.nil{α:Type}(k:Nat)(R:mH α)(w:World)(I:Nat->Prop):SliceOf k R w I () ([]:List α):=
 ⟨none,0,rfl,Tz _,by simp,fun b c a=>by simp at a⟩
theorem SliceOf.take{α:Type}{k:Nat}{R:mH α}{w:World}{I:Nat->Prop}{a:Option Addr}{n c:Nat}{xs:List α}(e:SliceOf k R w I (.slice a n c) xs){i:Nat}(g:i<=xs.length):SliceOf k R w I (.slice a i c) (xs.take i):=by
 obtain⟨l,m,d,o,p,f⟩:=e;cases d;refine⟨a,c,by rw[Tf,Ue g],by rw[Tf];omega,by rw[Tf];omega,fun h j b=>?_⟩;rw[Uv]at b;split at b
 . exact f h j b
 . cases b
def oD:mH Kind:=fun _ _ x cs=>cs=[.int .i64 x.kind,.string x.name]
def kU:mH Tag:=fun _ _ x cs=>cs=[.int .i64 x.kind,.string x.name]
def yw:mH Ins:=fun _ _ x cs=>cs=[.int .i64 x.op,.int .i64 x.a,.string x.name,.string x.member]
def z8:mH Ref:=fun _ _ x cs=>cs=[.int .i64 x.keeper,.string x.name]
def uT:mH M.Ask:=fun _ _ x cs=>cs=[.string x.name,.int .i64 x.keeper]
def lq:mH M.Field:=fun _ _ x cs=>cs=[.string x.name,.int .i64 x.kind.kind,.string x.kind.name]
def pR:mH Int:=fun _ _ x cs=>cs=[.int .i64 x]
def mW:mH SMap:=fun w I x cs=>∃vl vs,cs=[.int .i64 x.at_,vl,vs]/\SliceOf 2 kU w I vl x.locals/\SliceOf 2 kU w I vs x.stack
def jb:mH M.Method:=fun w I x cs=>∃va vc vm,cs=[.string x.name,va,.int .i64 x.ret.kind,.string x.ret.name,.int .i64 x.locals,.int .i64 x.stack,vc,vm]/\
 SliceOf 2 oD w I va x.args/\SliceOf 4 yw w I vc x.code/\SliceOf 3 mW w I vm x.maps
def jB:mH Class:=fun w I x cs=>∃vf vm,cs=[.string x.name,.string x.je,vf,vm]/\SliceOf 3 lq w I vf x.fields/\SliceOf 8 jb w I vm x.methods
def iX:mH kC:=fun w I x cs=>∃vo va,cs=[vo,va]/\SliceOf 4 jB w I vo x.owns/\SliceOf 2 uT w I va x.asks
theorem jb.form{w:World}{I:Nat->Prop}{x:M.Method}{cs:List Value}(g:jb w I x cs):∃a d b e c f,cs=[.string x.name,.slice a x.args.length d,.int .i64 x.ret.kind,.string x.ret.name,.int .i64 x.locals,.int .i64 x.stack,.slice b x.code.length e,.slice c x.maps.length f]:=by
 obtain⟨_,_,_,rfl,h,i,j⟩:=g;obtain⟨a,d,rfl,_⟩:=h.form;obtain⟨b,e,rfl,_⟩:=i.form;obtain⟨c,f,rfl,_⟩:=j.form;exact⟨a,d,b,e,c,f,rfl⟩
theorem jB.form{w:World}{I:Nat->Prop}{x:Class}{cs:List Value}(e:jB w I x cs):∃a c b d,cs=[.string x.name,.string x.je,.slice a x.fields.length c,.slice b x.methods.length d]:=by
 obtain⟨_,_,rfl,f,g⟩:=e;obtain⟨a,c,rfl,_⟩:=f.form;obtain⟨b,d,rfl,_⟩:=g.form;exact⟨a,c,b,d,rfl⟩
theorem iX.form{w:World}{I:Nat->Prop}{x:kC}{cs:List Value}(e:iX w I x cs):∃a c b d,cs=[.slice a x.owns.length c,.slice b x.asks.length d]:=by
 obtain⟨_,_,rfl,f,g⟩:=e;obtain⟨a,c,rfl,_⟩:=f.form;obtain⟨b,d,rfl,_⟩:=g.form;exact⟨a,c,b,d,rfl⟩
theorem mW.form{w:World}{I:Nat->Prop}{x:SMap}{cs:List Value}(e:mW w I x cs):∃a c b d,cs=[.int .i64 x.at_,.slice a x.locals.length c,.slice b x.stack.length d]:=by
 obtain⟨_,_,rfl,f,g⟩:=e;obtain⟨a,c,rfl,_⟩:=f.form;obtain⟨b,d,rfl,_⟩:=g.form;exact⟨a,c,b,d,rfl⟩
theorem oD.stays:jK oD:=fun _ _ _ _ _ _ _ _ a=>a
theorem kU.stays:jK kU:=fun _ _ _ _ _ _ _ _ a=>a
theorem yw.stays:jK yw:=fun _ _ _ _ _ _ _ _ a=>a
theorem z8.stays:jK z8:=fun _ _ _ _ _ _ _ _ a=>a
theorem uT.stays:jK uT:=fun _ _ _ _ _ _ _ _ a=>a
theorem lq.stays:jK lq:=fun _ _ _ _ _ _ _ _ a=>a
theorem pR.stays:jK pR:=fun _ _ _ _ _ _ _ _ a=>a
theorem mW.stays:jK mW:=fun _ _ _ _ _ _ b a ⟨c,vs,e,h1,h2⟩=>⟨c,vs,e,h1.keep kU.stays b a,h2.keep kU.stays b a⟩
theorem jb.stays:jK jb:=fun _ _ _ _ _ _ b a ⟨c,vc,vm,e,h1,h2,h3⟩=>
 ⟨c,vc,vm,e,h1.keep oD.stays b a,h2.keep yw.stays b a,h3.keep mW.stays b a⟩
theorem jB.stays:jK jB:=fun _ _ _ _ _ _ b a ⟨c,vm,e,h1,h2⟩=>⟨c,vm,e,h1.keep lq.stays b a,h2.keep jb.stays b a⟩
theorem iX.stays:jK iX:=fun _ _ _ _ _ _ b a ⟨c,va,e,h1,h2⟩=>⟨c,va,e,h1.keep jB.stays b a,h2.keep uT.stays b a⟩
theorem hH.two{w:World}{b a:Nat}{x y:Value}(c:hH w b a [x,y]):w.cell? (b,a)=some x/\w.cell? (b,a+1)=some y:=
 ⟨by simpa using c 0 x rfl,c 1 y rfl⟩
theorem hH.one{w:World}{b a:Nat}{x:Value}(c:hH w b a [x]):w.cell? (b,a)=some x:=by simpa using c 0 x rfl
theorem hH.three{w:World}{b a:Nat}{x y z:Value}(c:hH w b a [x,y,z]):w.cell? (b,a)=some x/\w.cell? (b,a+1)=some y/\w.cell? (b,a+2)=some z:=
 ⟨by simpa using c 0 x rfl,c 1 y rfl,c 2 z rfl⟩
theorem hH.four{w:World}{b a:Nat}{x y z d:Value}(c:hH w b a [x,y,z,d]):w.cell? (b,a)=some x/\w.cell? (b,a+1)=some y/\w.cell? (b,a+2)=some z/\w.cell? (b,a+3)=some d:=
 ⟨by simpa using c 0 x rfl,c 1 y rfl,c 2 z rfl,c 3 d rfl⟩
theorem hH.eight{w:World}{b a:Nat}{x0 x1 d e f g h i:Value}(c:hH w b a [x0,x1,d,e,f,g,h,i]):w.cell? (b,a)=some x0/\w.cell? (b,a+1)=some x1/\w.cell? (b,a+2)=some d/\w.cell? (b,a+3)=some e/\w.cell? (b,a+4)=some f/\w.cell? (b,a+5)=some g/\w.cell? (b,a+6)=some h/\w.cell? (b,a+7)=some i:=
 ⟨by simpa using c 0 x0 rfl,c 1 x1 rfl,c 2 d rfl,c 3 e rfl,c 4 f rfl,c 5 g rfl,c 6 h rfl,c 7 i rfl⟩
theorem hH.ext{w c:World}{b a:Nat}{cs:List Value}(d:hH w b a cs)(e:Ext w c):hH c b a cs:=fun g h f=>e.iW (d g h f)
theorem hH.kp{D:Nat->Prop}{w c:World}{b a:Nat}{cs:List Value}(d:hH w b a cs)(g:Kp D w c)(e:¬D b):hH c b a cs:=fun h i f=>g.nQ (d h i f) e
theorem jg{D:Nat->Prop}{w:World}:Kp D w w.drew:=(Kp.refl D w).drew
theorem jh{D:Nat->Prop}{w:World}(a:Obj):Kp D w (w.alloc a):=(Kp.refl D w).alloc a
open Go Tryz M
namespace M
def bs(l:List UInt8):ByteArray:=⟨⟨l⟩⟩
theorem Bo{a b:List UInt8}(c:bs a=bs b):a=b:=by
 have:=congrArg (fun d:ByteArray=>d.data.toList) c;exact this
def mU:List UInt8->List UInt8->List (List UInt8)
 |cur,[]=>[cur]
 |cur,c::r=>if c=32 then cur::mU [] r else mU (cur++[c]) r
def words(s:ByteArray):List ByteArray:=(mU [] s.data.toList).map bs
theorem uL:∀(a b:List UInt8),32 ∉ a->mU b a=[b++a]
 |[],b,_=>by simp[mU]
 |c::r,b,h=>by
  have e:c≠32:=fun d=>h (by simp[d]);rw[mU,SX e,uL r _ (fun d=>h (by simp[d]))];simp
theorem pF:∀(a b d:List UInt8),32 ∉ a->mU d (a++32::b)=(d++a)::mU [] b
 |[],b,d,_=>by simp[mU]
 |c::r,b,d,h=>by
  have f:c≠32:=fun e=>h (by simp[e]);rw[Td,mU,SX f,pF r b _ (fun e=>h (by simp[e]))];simp
theorem Lm(a:List UInt8):∀c,mU c a≠[]:=by
 induction a with
 |nil=>intro c b;simp[mU]at b
 |cons e f d=>
  intro c b;rw[mU]at b;split at b
  . cases b
  . exact d _ b
def digit(n:Int):List UInt8:=[UInt8.ofNat (48+n.toNat)]
structure PU where
 kind:Int
 keeper:Int
 name:ByteArray
 dst:Int
deriving DecidableEq
def zQ(c:PU):Bool:=decide (0<=c.keeper)&&(decide (c.keeper<=2)&&(jf c.name&&(if c.kind=3 then decide (0<=c.dst)&&decide (c.dst<=2)else(decide (c.kind=2)|| decide (c.kind=4))&&decide (c.dst=0))))
def QY:List UInt8:=[116,97,107,101]
def R7:List UInt8:=[97,115,107]
def QR:List UInt8:=[102,114,101,101]
def Db(c:PU):List UInt8:=
 if c.kind=2 then QY++32::(digit c.keeper++32::c.name.data.toList)
 else if c.kind=3 then R7++32::(digit c.keeper++32::(c.name.data.toList++32::digit c.dst))
 else if c.kind=4 then QR++32::(digit c.keeper++32::c.name.data.toList)
 else []
def rC(c:PU):ByteArray:=if zQ c then bs (Db c)else bs []
theorem vS{s:ByteArray}(a:jf s=true):(32:UInt8)∉ s.data.toList:=by
 intro b;unfold jf at a;simp only[S9,Tx]at a;have:=a.2 _ b;revert this;decide
theorem tO{n:Int}(h0:0<=n)(a:n<=2):(32:UInt8)∉ digit n:=by
 have:n=0\/n=1\/n=2:=Zm
 rcases this with rfl|rfl|rfl<;>decide
theorem zl{m n:Int}(h0:0<=n)(f:n<=2)(d:0<=m)(e:m<=2)(c:digit m=digit n):m=n:=by
 have a:n=0\/n=1\/n=2:=Zm
 have b:m=0\/m=1\/m=2:=Zm
 rcases a with rfl|rfl|rfl<;>rcases b with rfl|rfl|rfl<;>first|rfl|exact absurd c Zn
theorem tZ{c:PU}(b:zQ c=true):0<=c.keeper/\c.keeper<=2/\jf c.name=true/\((c.kind=3/\0<=c.dst/\c.dst<=2)\/((c.kind=2\/c.kind=4)/\c.dst=0)):=by
 unfold zQ at b;simp only[S9,SF]at b;obtain⟨d,e,f,a⟩:=b;refine⟨d,e,f,?_⟩;split at a
 . rename_i g;simp only[S9,SF]at a;exact .inl ⟨g,a⟩
 . simp only[S9,V4,SF]at a;exact .inr a
theorem E5{c:PU}(a:zQ c=true)(f:c.kind=2):words (rC c)=[bs QY,bs (digit c.keeper),c.name]:=by
 obtain⟨b,d,e,-⟩:=tZ a;unfold rC words;rw[SV a];unfold Db;rw[SV f];simp only[bs];rw[pF _ _ _ Zn,pF _ _ _ (tO b d),uL _ _ (vS e)];rfl
theorem EZ{c:PU}(a:zQ c=true)(f:c.kind=4):words (rC c)=[bs QR,bs (digit c.keeper),c.name]:=by
 obtain⟨b,d,e,-⟩:=tZ a;unfold rC words;rw[SV a];unfold Db;rw[SX Zm,SX Zm,SV f];simp only[bs];rw[pF _ _ _ Zn,pF _ _ _ (tO b d),uL _ _ (vS e)];rfl
theorem Gr{c:PU}(a:zQ c=true)(g:c.kind=3):words (rC c)=[bs R7,bs (digit c.keeper),c.name,bs (digit c.dst)]:=by
 obtain⟨d,e,f,h⟩:=tZ a;have b:0<=c.dst/\c.dst<=2:=Zm
 unfold rC words;rw[SV a];unfold Db;rw[SX Zm,SV g];simp only[bs];rw[pF _ _ _ Zn,pF _ _ _ (tO d e),pF _ _ _ (vS f),uL _ _ (tO b.1 b.2)];rfl
theorem Iy{c b:PU}(d:zQ c=true)(e:zQ b=true)(s:rC c=rC b):c=b:=by
 obtain⟨f,g,B,o⟩:=tZ d;obtain⟨i,j,C,q⟩:=tZ e;have a:words (rC c)=words (rC b):=by rw[s]
 have n:c.kind=b.kind/\c.keeper=b.keeper/\c.name=b.name/\c.dst=b.dst:=by
  rcases o with⟨h,l,p⟩|⟨h|h,l⟩<;>rcases q with⟨k,m,r⟩|⟨k|k,m⟩<;>
   simp only[Gr d,E5 d,EZ d,Gr e,E5 e,EZ e,h,k]at a<;>
   simp only[TG,List.nil_eq,List.cons_ne_nil,and_false,Vw]at a
  . exact⟨Zm,zl i j f g (Bo a.2.1),a.2.2.1,zl m r l p (Bo a.2.2.2)⟩
  . exact⟨Zm,zl i j f g (Bo a.2.1),a.2.2,Zm⟩
  . exact absurd (Bo a.1) Zn
  . exact absurd (Bo a.1) Zn
  . exact⟨Zm,zl i j f g (Bo a.2.1),a.2.2,Zm⟩
 obtain⟨t,u,v,w⟩:=c;obtain⟨x,y,z,A⟩:=b;simp only at n;obtain⟨rfl,rfl,rfl,rfl⟩:=n;rfl
def Says(s:ByteArray):Option PU->Prop
 |some c=>zQ c=true/\rC c=s
 |none=>¬∃c,zQ c=true/\rC c=s
theorem Says.one{s:ByteArray}:∀{a b:Option PU},Says s a->Says s b->a=b
 |none,none,_,_=>rfl
 |none,some c,h,k=>absurd ⟨c,k⟩ h
 |some c,none,h,k=>absurd ⟨c,h⟩ k
 |some c,some d,h,k=>by rw[Iy h.1 k.1 (h.2.trans k.2.symm)]
end M
end Go.Proofs.YtenhnldnpdlniaaGreat
namespace Go.Proofs.YtenhnldnpdlniaaGreat.M
structure p8 where
 of:Ref
 at_:Int
def pO(p:hZ)(n:ByteArray):List Ref->Option p8
 |[]=>none
 |c::r=>match q8 (cls p c) n with
  |some i=>some ⟨c,i⟩
  |none=>pO p n r
def pick(p:hZ)(r:Ref)(n:ByteArray):Option p8:=if jD p r then pO p n (chain p r)else none
def jy(p:hZ)(k:Int)(n m:ByteArray):Ref×Int:=
 if has p k&&jf n&&jf m then
  (if(find p k n).2=1 then(if jD p (find p k n).1 then((find p k n).1,1)else(vV,4))else(vV,2))
 else(vV,2)
structure qg where
 of:Ref
 at_:Int
 kind:Kind
def Q6:Kind:=⟨0,none_⟩
def yg:qg:=⟨vV,0,Q6⟩
def ko(of:Ref):List Field->List qg->List qg
 |[],acc=>acc
 |f::r,acc=>ko of r (acc++[⟨of,acc.length,f.kind⟩])
def kv(p:hZ):List Ref->List qg->List qg
 |[],acc=>acc
 |c::r,acc=>kv p r (ko c (cls p c).fields acc)
def layout(p:hZ)(r:Ref):List qg:=if jD p r then kv p (chain p r).reverse []else []
def mK(p:hZ)(of:Ref):List Ref->Nat->Nat
 |[],n=>n
 |c::r,n=>if c=of then n else mK p of r (n+(cls p c).fields.length)
def mF(p:hZ)(of low:Ref):Nat:=mK p of (chain p low).reverse 0
def fieldName(p:hZ)(r:Ref)(f:qg):ByteArray:=(((cls p f.of).fields[(f.at_ - mF p f.of r).toNat]?).map Field.name).getD none_
def qd(p:hZ)(k:Int)(m:ByteArray)(r:Ref):List qg->qg×Int
 |[]=>(yg,3)
 |f::l=>if fieldName p r f=m then(if agree p k f.of.keeper f.kind then(f,1)else(yg,4))else qd p k m r l
def get(p:hZ)(k:Int)(n m:ByteArray):qg×Int:=
 if(jy p k n m).2=1 then qd p k m (jy p k n m).1 (layout p (jy p k n m).1)else(yg,(jy p k n m).2)
def QJ:Method:=⟨none_,[],Q6,0,0,[],[]⟩
def qO:p8:=⟨vV,0⟩
def method?(p:hZ)(m:p8):Option Method:=if 0<=m.at_ then(cls p m.of).methods[m.at_.toNat]? else none
def method(p:hZ)(m:p8):Method:=(method? p m).getD QJ
def call(p:hZ)(k:Int)(n m:ByteArray):p8×Int:=
 if(jy p k n m).2=1 then
  (match pick p (jy p k n m).1 m with
  |none=>(qO,3)
  |some x=>if jQ p k x.of.keeper (method p x)then(x,1)else(qO,4))
 else(qO,(jy p k n m).2)
def jM(p:hZ)(m:p8):Bool:=jD p m.of&&decide (0<=m.at_)&&decide (m.at_ <(cls p m.of).methods.length)
structure nV where
 locals:List Tag
 stack:List Tag
def Cg:Tag:=⟨0,none_⟩
def nG:Tag:=⟨1,none_⟩
def AV:Tag:=⟨3,none_⟩
def kZ(n:ByteArray):Tag:=⟨2,n⟩
def lN(k:Kind):Tag:=if kY k then⟨k.kind,k.name⟩else Cg
def may(p:hZ)(k:Int)(a b:Tag):Bool:=
 if b.kind=0\/a=b then true else if b.kind≠2 then false else if a.kind=3 then true else if a.kind≠2 then false
 else decide ((find p k a.name).2=1)&&decide ((find p k b.name).2=1)&&under p (find p k a.name).1 (find p k b.name).1
def sI(s:nV):Option (Tag×nV):=s.stack.getLast?.map fun t=>(t,⟨s.locals,s.stack.dropLast⟩)
def mr(p:hZ)(k:Int)(t:Tag)(s:nV):Option nV:=(sI s).bind fun x=>if may p k x.1 t then some x.2 else none
def wE(s:nV):Option nV:=(sI s).bind fun x=>if x.1.kind=2\/x.1.kind=3 then some x.2 else none
def mZ(m:Method)(t:Tag)(s:nV):Option nV:=if m.stack<=s.stack.length then none else some ⟨s.locals,s.stack++[t]⟩
def lT(p:hZ)(k:Int):List Tag->List Tag->Bool
 |a::r,b::l=>may p k a b&&lT p k r l
 |_,_=>true
def kN(p:hZ)(k:Int)(s:nV)(f:SMap):Bool:=decide (f.stack.length=s.stack.length)&&lT p k s.locals f.locals&&lT p k s.stack f.stack
def zV(m:Method)(at_:Int):Option SMap:=m.maps.find? fun f=>f.at_=at_
def lZ(p:hZ)(k:Int)(m:Method)(tgt:Int)(s:nV):Option nV:=
 (zV m tgt).bind fun f=>if kN p k s f then some s else none
def qa(p:hZ)(k:Int)(m:Method)(goes:Bool)(at_:Int)(s:nV):Option nV:=
 match zV m at_ with
 |none=>if goes then some s else none
 |some f=>if goes&& !kN p k s f then none else some ⟨f.locals,f.stack⟩
def nN(p:hZ)(k:Int):List Kind->nV->Option nV
 |[],s=>some s
 |a::r,s=>(mr p k (lN a) s).bind (nN p k r)
def jG(p:hZ)(k:Int)(m:Method)(i:Ins)(s:nV):Option nV:=
 if i.op=1 then mZ m nG s
 else if i.op=2 then(s.locals[i.a.toNat]?).bind fun t=>if t.kind=0 then none else mZ m t s
 else if i.op=3 then(sI s).map fun x=>⟨x.2.locals.set i.a.toNat x.1,x.2.stack⟩
 else if i.op=4 then(mr p k nG s).bind fun s1=>(mr p k nG s1).bind (mZ m nG)
 else if i.op=5 then mZ m AV s
 else if i.op=6 then mZ m (kZ i.name) s
 else if i.op=7 then(if(get p k i.name i.member).2=1 then(mr p k (kZ i.name) s).bind (mZ m (lN (get p k i.name i.member).1.kind))else none)
 else if i.op=8 then(if(get p k i.name i.member).2=1 then(mr p k (lN (get p k i.name i.member).1.kind) s).bind (mr p k (kZ i.name))else none)
 else if i.op=9 then(if(call p k i.name i.member).2=1 then
     (nN p k (method p (call p k i.name i.member).1).args.reverse s).bind fun s1=>(mr p k (kZ i.name) s1).bind (mZ m (lN (method p (call p k i.name i.member).1).ret))else none)
 else if i.op=10 then mr p k (lN m.ret) s
 else if i.op=11 then(mr p k nG s).bind (lZ p k m i.a)
 else if i.op=12 then(wE s).bind (lZ p k m i.a)
 else if i.op=13 then lZ p k m i.a s
 else if i.op=14 then mr p k nG s
 else(wE s).bind (mZ m (kZ i.name))
def lu(p:hZ)(k:Int)(m:Method):List Ins->Nat->Bool->nV->List nV->Sum Int (List nV)
 |[],at_,goes,_,known=>if goes then .inl (at_+1)else .inr known
 | i :: r, at_, goes, s, known =>
  match qa p k m goes at_ s with
  |none=>.inl (at_+1)
  |some s1=>match jG p k m i s1 with
   |none=>.inl (at_+1)
   |some s2=>lu p k m r (at_+1) (decide (i.op≠10)&&decide (i.op≠13)) s2 (known++[s1])
def vG(x:p8)(m:Method):nV:=⟨(kZ x.of.name::m.args.map lN)++List.replicate (m.locals.toNat - (m.args.length+1)) Cg,[]⟩
def look(p:hZ)(x:p8):List nV×Int:=
 match lu p x.of.keeper (method p x) (method p x).code 0 true (vG x (method p x)) []with
 | .inl n=>([],n)
 | .inr l=>(l,0)
def right(p:hZ)(x:p8):Bool:=decide ((look p x).2=0)
def kV(p:hZ)(r:Ref):Bool:=jD p r&&(List.range (cls p r).methods.length).all fun i=>right p ⟨r,i⟩
structure Val where
 kind:Int
 n:Int
theorem Val.nW{a b:Val}:a=b↔a.kind=b.kind/\a.n=b.n:=by
 cases a;cases b;simp
instance:DecidableEq Val:=fun _ _=>decidable_of_iff' _ Val.nW
structure qi where
 of:Ref
 fields:List Val
structure Fr where
 of:p8
 pc:Int
 locals:List Val
 stack:List Val
structure St where
 status:Int
 frames:List Fr
 heap:List qi
 outs:List Int
 back:Val
def ll:Val:=⟨0,0⟩
def rE:Val:=⟨3,0⟩
def mg(n:Int):Val:=⟨1,n⟩
def Fa:St:=⟨0,[],[],[],ll⟩
def nT(n:Int):Bool:=decide (-9999<=n)&&decide (n<=9999)
def jH(v:Val)(objs:Nat):Bool:=
 if v.kind=0\/v.kind=3 then decide (v.n=0)else if v.kind=1 then nT v.n else if v.kind=2 then decide (0<=v.n)&&decide (v.n<objs)else false
def pG(p:hZ)(h:List qi):Bool:=
 decide (h.length<=12)&&h.all fun o=>jD p o.of&&decide (o.fields.length=(layout p o.of).length)&&o.fields.all (jH · h.length)
def tH(h:List qi)(n:Int):Ref:=((h[n.toNat]?).map qi.of).getD vV
def hasType(p:hZ)(k:Int)(h:List qi)(v:Val)(t:Kind):Bool:=
 if t.kind=1 then decide (v.kind=1)else if v.kind=3 then true else if v.kind≠2 then false
 else decide ((find p k t.name).2=1)&&under p (tH h v.n) (find p k t.name).1
def kW(p:hZ)(f:Fr)(objs:Nat):Bool:=
 jM p f.of&&decide (0<=f.pc)&&decide (f.pc<(method p f.of).code.length)&&decide ((f.locals.length:Int)=(method p f.of).locals)&&
 decide ((f.stack.length:Int)<=(method p f.of).stack)&&f.locals.all (jH · objs)&&f.stack.all (jH · objs)
def Cb(p:hZ)(s:St):Bool:=
 decide (1<=s.status)&&decide (s.status<=10)&&decide (s.heap.length<=12)&&decide (s.outs.length<=40)&&decide (s.frames.length<=8)&&
 (decide (0<s.frames.length)==decide (s.status=1))&&s.outs.all nT&&s.frames.all (kW p · s.heap.length)&&pG p s.heap&&jH s.back s.heap.length
def AY(s:St)(f:Fr->Fr):St:={s with frames:=s.frames.dropLast++(s.frames.getLast?.map f).toList}
def top(s:St):Fr:=s.frames.getLastD ⟨qO,0,[],[]⟩
def jump(p:hZ)(tgt:Int)(s:St):Int×St:=
 if((method p (top s).of).code.length:Int)<=tgt then(10,s)else(1,AY s fun f=>{f with pc:=tgt})
def next(p:hZ)(s:St):Int×St:=jump p ((top s).pc+1) s
def push(p:hZ)(v:Val)(s:St):Int×St:=
 if(method p (top s).of).stack<=(top s).stack.length then(10,s)else next p (AY s fun f=>{f with stack:=f.stack++[v]})
def lH(c:Nat)(s:St):Option (List Val×St):=
 if(top s).stack.length<c then none
 else some ((top s).stack.drop ((top s).stack.length - c),AY s fun f=>{f with stack:=f.stack.take (f.stack.length - c)})
def pop(s:St):Option (Val×St):=(lH 1 s).map fun x=>(x.1.headD ll,x.2)
def lW(p:hZ)(n:ByteArray)(s:St):Ref×Bool:=
 ((find p (top s).of.of.keeper n).1,decide ((find p (top s).of.of.keeper n).2=1)&&jD p (find p (top s).of.of.keeper n).1)
def fresh(p:hZ)(r:Ref):qi:=⟨r,(layout p r).map fun f=>if f.kind.kind=1 then mg 0 else rE⟩
def create(p:hZ)(r:Ref)(s:St):Val×St:=(⟨2,s.heap.length⟩,{s with heap:=s.heap++[fresh p r]})
def object(p:hZ)(v:Val)(t:Ref)(s:St):Int:=
 if v.kind=3 then 3 else if v.kind≠2 then 10 else if under p (tH s.heap v.n) t then 1 else 10
def lJ(p:hZ)(k:Int)(h:List qi):List Val->List Kind->Bool
 |v::r,t::l=>hasType p k h v t&&lJ p k h r l
 |_,_=>true
def enter(p:hZ)(lk:Bool)(x:p8)(vs:List Val)(s:St):Int×St:=
 if 8<=s.frames.length then(7,s)
 else if lk&& !right p x then(5,s)
 else if lJ p x.of.keeper s.heap vs (⟨2,x.of.name⟩::(method p x).args)then
  (1,{s with frames:=s.frames++[⟨x,0,vs++List.replicate ((method p x).locals.toNat - vs.length) ll,[]⟩]})
 else(10,s)
def end_(c:Int)(s:St):St:=if c=1 then s else{s with status:=c,frames:=[]}
def oV(h:List qi)(n:Int):List Val:=((h[n.toNat]?).map qi.fields).getD []
def lM(h:List qi)(n a:Int)(v:Val):List qi:=h.modify n.toNat fun o=>{o with fields:=o.fields.set a.toNat v}
def jm (p : hZ) (lk : Bool) (i : Ins) (s : St) : Int × St :=
 if i.op=1 then push p (mg i.a) s
 else if i.op=2 then(if(((top s).locals[i.a.toNat]?).getD ll).kind=0 then(10,s)else push p (((top s).locals[i.a.toNat]?).getD ll) s)
 else if i.op=3 then(match pop s with
  |none=>(10,s)
  |some (v,s1)=>next p (AY s1 fun f=>{f with locals:=f.locals.set i.a.toNat v}))
 else if i.op=4 then(match lH 2 s with
  |some ([a,b],s1)=>if a.kind=1/\b.kind=1 then(if nT (a.n+b.n)then push p (mg (a.n+b.n)) s1 else(9,s1))else(10,s1)
  |_=>(10,s))
 else if i.op=5 then push p rE s
 else if i.op=6 then(if(lW p i.name s).2 then(if 12<=s.heap.length then(8,s)else push p (create p (lW p i.name s).1 s).1 (create p (lW p i.name s).1 s).2)else(4,s))
 else if i.op = 7 then (if (get p (top s).of.of.keeper i.name i.member).2 = 1 then
     (match pop s with
     |none=>(10,s)
     | some (v, s1) =>
      if object p v (get p (top s).of.of.keeper i.name i.member).1.of s1=1 then
       push p (((oV s1.heap v.n)[(get p (top s).of.of.keeper i.name i.member).1.at_.toNat]?).getD ll) s1
      else(object p v (get p (top s).of.of.keeper i.name i.member).1.of s1,s1))
  else(4,s))
 else if i.op = 8 then (if (get p (top s).of.of.keeper i.name i.member).2 = 1 then
     (match lH 2 s with
     | some ([o, v], s1) =>
      if hasType p (get p (top s).of.of.keeper i.name i.member).1.of.keeper s1.heap v (get p (top s).of.of.keeper i.name i.member).1.kind then
       (if object p o (get p (top s).of.of.keeper i.name i.member).1.of s1=1 then
        next p {s1 with heap:=lM s1.heap o.n (get p (top s).of.of.keeper i.name i.member).1.at_ v}
       else(object p o (get p (top s).of.of.keeper i.name i.member).1.of s1,s1))
      else(10,s1)
     |_=>(10,s))
  else(4,s))
 else if i.op = 9 then (if (call p (top s).of.of.keeper i.name i.member).2 = 1 then
     (match lH ((method p (call p (top s).of.of.keeper i.name i.member).1).args.length+1) s with
     | some (vs, s1) =>
      if object p (vs.headD ll) (call p (top s).of.of.keeper i.name i.member).1.of s1=1 then
       (match pick p (tH s1.heap (vs.headD ll).n) i.member with
       |some x=>enter p lk x vs s1
       |none=>(10,s1))
      else(object p (vs.headD ll) (call p (top s).of.of.keeper i.name i.member).1.of s1,s1)
     |none=>(10,s))
  else(4,s))
 else if i.op = 10 then (match pop s with
  |none=>(10,s)
  |some (v,s1)=>if hasType p (top s).of.of.keeper s1.heap v (method p (top s).of).ret then
      (if s1.frames.length=1 then(2,{s1 with back:=v})else push p v {s1 with frames:=s1.frames.dropLast})
   else(10,s1))
 else if i.op=11 then(match pop s with
  |none=>(10,s)
  |some (v,s1)=>if v.kind=1 then(if v.n=0 then jump p i.a s1 else next p s1)else(10,s1))
 else if i.op=12 then(match pop s with
  |none=>(10,s)
  |some (v,s1)=>if v.kind=2\/v.kind=3 then(if v.kind=3 then jump p i.a s1 else next p s1)else(10,s1))
 else if i.op=13 then jump p i.a s
 else if i.op=14 then(match pop s with
  |none=>(10,s)
  |some (v,s1)=>if v.kind=1 then next p (if s1.outs.length<40 then{s1 with outs:=s1.outs++[v.n]}else s1)else(10,s1))
 else (match pop s with
  |none=>(10,s)
  |some (v,s1)=>if v.kind=2\/v.kind=3 then
      (if v.kind=3 then push p v s1
      else if(lW p i.name s1).2 then(if under p (tH s1.heap v.n) (lW p i.name s1).1 then push p v s1 else(6,s1))else(4,s1))
   else(10,s1))
def SB:Ins:=⟨0,0,none_,none_⟩
def stepped(p:hZ)(lk:Bool)(s:St):Int×St:=jm p lk (((method p (top s).of).code[(top s).pc.toNat]?).getD SB) s
def step(p:hZ)(lk:Bool)(s:St):St:=if s.status=1 then end_ (stepped p lk s).1 (stepped p lk s).2 else s
def steps(p:hZ)(lk:Bool):Nat->St->St
 |0,s=>s
 |f+1,s=>if s.status=1 then steps p lk f (step p lk s)else s
def pY(m:Method)(args:List Int):Bool:=decide (m.args.length=args.length)&&m.args.all fun k=>decide (k.kind=1)
def p9:St:=⟨4,[],[],[],ll⟩
def start (p : hZ) (lk : Bool) (k : Int) (n m : ByteArray) (args : List Int) : St :=
 if (find p k n).2 = 1 /\ jD p (find p k n).1 = true then
  (if(call p k n m).2=1/\pY (method p (call p k n m).1) args=true then
   end_ (enter p lk (call p k n m).1 (⟨2,0⟩::args.map mg) ⟨1,[],[fresh p (find p k n).1],[],ll⟩).1
    (enter p lk (call p k n m).1 (⟨2,0⟩::args.map mg) ⟨1,[],[fresh p (find p k n).1],[],ll⟩).2
  else p9)
 else p9
def nY(p:hZ)(lk:Bool)(k:Int)(n m:ByteArray)(args:List Int):St:=
 if jY p&&has p k&&jf n&&jf m&&args.all nT then start p lk k n m args else Fa
def sN(p:hZ)(lk:Bool)(s:St)(fuel:Int):St:=
 if decide (fuel<=400)&&jY p&&Cb p s then steps p lk fuel.toNat s else Fa
def classes(p:hZ):List Ref:=
 (List.range p.length).flatMap fun k=>(((p[k]?).map fun q=>q.owns.map fun c=>(⟨k,c.name⟩:Ref)).getD []).filter fun r=>decide (0<(chain p r).length)
def l9(p:hZ):Bool:=jY p&&(classes p).all (kV p)
end Go.Proofs.YtenhnldnpdlniaaGreat.M
namespace Go.Proofs.YtenhnldnpdlniaaGreat
open Go Tryz M
namespace M
def Dy:Nat->Nat->List UInt8
 |0,n=>[UInt8.ofNat (48+n)]
 |f+1,n=>if n<=9 then [UInt8.ofNat (48+n)]else Dy f (n / 10)++[UInt8.ofNat (48+n % 10)]
def qV(n:Int):ByteArray:=bs (Dy 20 n.toNat)
def yt(n:Int):ByteArray:=if n<0 then bs (45::Dy 20 (-n).toNat)else qV n
theorem Oa(a b:List UInt8):bs a++bs b=bs (a++b):=by
 refine ByteArray.ext ?_;rw[ByteArray.data_append];simp[bs]
theorem IE{f n:Nat}(a:n<=9):Dy f n=[UInt8.ofNat (48+n)]:=by
 cases f with
 |zero=>rfl
 |succ f=>rw[Dy,SV a]
theorem FT{f n:Nat}(a:¬n<=9):Dy (f+1) n=Dy f (n / 10)++[UInt8.ofNat (48+n % 10)]:=by
 rw[Dy,SX a]
theorem Aq:∀(f n:Nat),n<10 ^ (f+1)->∀a,n<10 ^ (a+1)->(Dy f n).length<=a+1
 |0,n,_,a,_=>by simp[Dy]
 | f + 1, n, h, a, hm => by
  by_cases b:n<=9
  . rw[IE b];simp
  . rw[FT b];cases a with
    |zero=>simp at hm;omega
    |succ a=>
     have c:n / 10<10 ^ (f+1):=by rw[Nat.pow_succ]at h;omega
     have d:n / 10<10 ^ (a+1):=by rw[Nat.pow_succ]at hm;omega
     have:=Aq f (n / 10) c a d;simp;omega
def oL:List UInt8->Int->Option Int
 |[],n=>some n
 |c::r,n=>if c.toNat<48\/57<c.toNat then none else oL r (n*10+((c.toNat:Int) - 48))
def minus(s:ByteArray):Nat:=if s.data.toList.head?=some 45 then 1 else 0
def jO(s:ByteArray):Int×Bool:=
 if s.size=minus s\/minus s+4<s.size then(0,false)else
 match oL (s.data.toList.drop (minus s)) 0 with
 |none=>(0,false)
 |some n=>if minus s=1 then(-n,decide (yt (-n)=s))else(n,decide (yt n=s))
theorem EA{s:ByteArray}{k:Nat}(c:k<s.size)(x:Int)(b:s[k].toNat<48\/57<s[k].toNat):oL (s.data.toList.drop k) x=none:=by
 have a:s.data.toList.drop k=s[k]::s.data.toList.drop (k+1):=by
  rw[Uy (by rw[Array.length_toList];exact c)];rfl
 rw[a,oL,SV b]
theorem CK{s:ByteArray}{k:Nat}(c:k<s.size)(x:Int)(b:¬(s[k].toNat<48\/57<s[k].toNat)):oL (s.data.toList.drop k) x=oL (s.data.toList.drop (k+1)) (x*10+((s[k].toNat:Int) - 48)):=by
 have a:s.data.toList.drop k=s[k]::s.data.toList.drop (k+1):=by
  rw[Uy (by rw[Array.length_toList];exact c)];rfl
 rw[a,oL,SX b]
theorem EB{s:ByteArray}(x:Int):oL (s.data.toList.drop s.size) x=some x:=by
 rw[TW (by rw[Array.length_toList];exact Tz _),oL]
theorem yT{s:ByteArray}{a:Nat}(c:minus s=a)(b:s.size=a\/a+4<s.size):jO s=(0,false):=by
 unfold jO;rw[c,SV b]
theorem CL{s:ByteArray}{a:Nat}(c:minus s=a)(b:¬(s.size=a\/a+4<s.size))(d:oL (s.data.toList.drop a) 0=none):jO s=(0,false):=by
 unfold jO;rw[c,SX b,d]
theorem JG{s:ByteArray}(b:minus s=0)(a:¬(s.size=0\/0+4<s.size)){x:Int}(c:oL (s.data.toList.drop 0) 0=some x):jO s=(x,decide (yt x=s)):=by
 unfold jO;rw[b,SX a,c];rfl
theorem JF{s:ByteArray}(b:minus s=1)(a:¬(s.size=1\/1+4<s.size)){x:Int}(c:oL (s.data.toList.drop 1) 0=some x):jO s=(-x,decide (yt (-x)=s)):=by
 unfold jO;rw[b,SX a,c];rfl
theorem M6{s:ByteArray}(c:0<s.size)(d:s[0].toNat=45):minus s=1:=by
 have a:s.data.toList.head?=some s[0]:=by
  rw[List.head?_eq_getElem?,Array.getElem?_toList];exact Ux c
 have b:s[0]=45:=UInt8.toNat_inj.1 d;unfold minus;rw[a,b];rfl
theorem KO{s:ByteArray}(c:0<s.size)(d:s[0].toNat≠45):minus s=0:=by
 have a:s.data.toList.head?=some s[0]:=by
  rw[List.head?_eq_getElem?,Array.getElem?_toList];exact Ux c
 have b:s[0]≠45:=fun e=>d (by rw[e];rfl);unfold minus;rw[a,SX (by simpa using b)]
theorem KN{s:ByteArray}(b:s.size=0):minus s=0:=by
 have a:s.data.toList=[]:=TC (by rw[Array.length_toList];exact b);unfold minus;rw[a];rfl
theorem BM(n:Int)(h0: -9223372036854775807<=n)(c:n<=9223372036854775807):(yt n).size<=1000:=by
 unfold yt qV;have b:∀a,(bs a).size=a.length:=fun a=>by simp[bs,ByteArray.size]
 split
 . rw[b];have:=Aq 20 (-n).toNat Zm 20 Zm;simp;omega
 . rw[b];exact TD (Aq 20 _ Zm 20 Zm) Zm
theorem A8:∀(l:List UInt8) (x p:Int),0<=x->x<p->∀a,oL l x=some a->0<=a/\a<p*10 ^ l.length
 |[],x,p,h0,h1,a,h=>by simp[oL]at h;subst h;simpa using⟨h0,h1⟩
 |c::r,x,p,h0,h1,a,h=>by
  rw[oL]at h;split at h
  . cases h
  . have:=A8 r (x*10+((c.toNat:Int) - 48)) (p*10) Zm Zm a h;rw[Tc,Int.pow_succ,Int.mul_comm (10 ^ _) 10,<-Int.mul_assoc];exact this
theorem zY(s:ByteArray): -100000<=(jO s).1/\(jO s).1<=100000:=by
 unfold jO;split
 . simp
 . rename_i g;have d:(s.data.toList.drop (minus s)).length<=4:=by
    have c:s.data.toList.length=s.size:=Array.length_toList;rw[Uj,c];omega
   split
   . simp
   . rename_i f e;have a:=A8 _ 0 1 Zm Zm f e;have b:(10:Int)^ (s.data.toList.drop (minus s)).length<=10000:=by
      have a:(10 ^ (s.data.toList.drop (minus s)).length:Nat)<=10 ^ 4:=Nat.pow_le_pow_right Zm d;have b:=Int.ofNat_le.2 a;simpa using b
     split<;>(simp only;omega)
def IW:List ByteArray:=[⟨#[]⟩,⟨#[110,117,109]⟩,⟨#[116,97,107,101]⟩,⟨#[112,117,116]⟩,⟨#[97,100,100]⟩,⟨#[110,117,108,108]⟩,⟨#[110,101,119]⟩,⟨#[103,101,116]⟩,⟨#[115,101,116]⟩,⟨#[99,97,108,108]⟩,⟨#[114,101,116]⟩,⟨#[122,101,114,111]⟩,⟨#[110,105,108]⟩,⟨#[103,111]⟩,⟨#[111,117,116]⟩,⟨#[99,97,115,116]⟩]
def xe(op:Nat):ByteArray:=IW.getD op none_
abbrev Fe:ByteArray:=⟨#[32]⟩
def lY(i:Ins):ByteArray:=
 if kE i then
  if isNum i.op then xe i.op.toNat++Fe++yt i.a
  else if oG i.op then xe i.op.toNat++Fe++i.name
  else if pq i.op then xe i.op.toNat++Fe++i.name++Fe++i.member
  else xe i.op.toNat
 else none_
def lQ(s:ByteArray):Kind×Bool:=if s=⟨#[35]⟩then(⟨1,none_⟩,true)else if jf s then(⟨2,s⟩,true)else(⟨0,none_⟩,false)
def mQ(s:ByteArray):Tag×Bool:=
 if s=⟨#[63]⟩then(⟨0,none_⟩,true)else if s=⟨#[35]⟩then(⟨1,none_⟩,true)else if s=⟨#[33]⟩then(⟨3,none_⟩,true)else(⟨2,s⟩,jf s)
def OB:Ins:=⟨0,0,none_,none_⟩
def KW(x:ByteArray):Option Nat:=(List.range' 1 15).find? fun k=>decide (xe k=x)
def AJ(k:Nat):List ByteArray->Ins
 |_::x1::r=>let m:=match r with|[]=>none_|x2::_=>x2
  if(jO x1).2 then⟨k,(jO x1).1,none_,m⟩else⟨k,0,x1,m⟩
 |_=>⟨k,0,none_,none_⟩
def sw(s:ByteArray)(i:Ins):Ins×Bool:=if 30<s.size\/lY i≠s then(OB,false)else(i,true)
def qE(s:ByteArray):Ins×Bool:=
 match KW ((words s).headD none_)with
 |none=>(OB,false)
 |some k=>sw s (AJ k (words s))
theorem GQ{s x0:ByteArray}{r:List ByteArray}(b:words s=x0::r)(a:KW x0=none):qE s=(OB,false):=by
 unfold qE;rw[b,List.headD_cons,a]
theorem sF{s x0:ByteArray}{r:List ByteArray}{k:Nat}(c:words s=x0::r)(b:KW x0=some k){i:Ins}(a:AJ k (x0::r)=i):qE s=sw s i:=by
 unfold qE;rw[c,List.headD_cons,b];show sw s (AJ k (x0::r))=_
 rw[a]
theorem uh{s:ByteArray}{i:Ins}(a:30<s.size):sw s i=(OB,false):=by unfold sw;rw[SV (.inl a)]
theorem sD{s:ByteArray}{i:Ins}(a:lY i≠s):sw s i=(OB,false):=by unfold sw;rw[SV (.inr a)]
theorem ui{s:ByteArray}{i:Ins}(a:¬30<s.size)(b:lY i=s):sw s i=(i,true):=by
 unfold sw;rw[SX (fun c=>c.elim a (fun d=>d b))]
theorem Pp{x:ByteArray}{k:Nat}(d:1<=k)(e:k<=15)(c:∀a,1<=a->a<k->xe a≠x)(b:xe k=x):KW x=some k:=by
 unfold KW;rw[List.find?_eq_some_iff_getElem];refine⟨by simpa using b,k - 1,by simp;omega,by simp;omega,fun a f=>?_⟩;simp;exact c _ Zm Zm
theorem Nf{x:ByteArray}(c:∀b,1<=b->b<16->xe b≠x):KW x=none:=by
 unfold KW;rw[List.find?_eq_none];intro d a;rw[List.mem_range'_1]at a;simpa using c d a.1 a.2
theorem GY(s:ByteArray):(lQ s).1.name.size<=s.size:=by
 unfold lQ;split
 . exact T9 _
 . split
   . exact Tz _
   . exact T9 _
abbrev dash:ByteArray:=⟨#[45]⟩
def sV:List ByteArray->Field×Bool
 |[_,x1,x2]=>if jf x1 then(⟨x1,(lQ x2).1⟩,(lQ x2).2)else(⟨none_,⟨0,none_⟩⟩,false)
 |_=>(⟨none_,⟨0,none_⟩⟩,false)
def zb:List ByteArray->Ask×Bool
 |[_,x1,x2]=>(⟨x1,(jO x2).1⟩,(jO x2).2&&decide (0<=(jO x2).1)&&jf x1)
 |_=>(⟨none_,0⟩,false)
def oQ:List ByteArray->Class×Bool
 |[_,x1,x2]=>if jf x1 then if x2=dash then(⟨x1,none_,[],[]⟩,true)else if jf x2 then(⟨x1,x2,[],[]⟩,true)else(⟨none_,none_,[],[]⟩,false)else(⟨none_,none_,[],[]⟩,false)
 |_=>(⟨none_,none_,[],[]⟩,false)
theorem GG{l:List ByteArray}(a:l.length≠3):sV l=(⟨none_,⟨0,none_⟩⟩,false):=by
 match l,a with
 |[],_=>rfl
 |[_],_=>rfl
 |[_,_],_=>rfl
 |[_,_,_],a=>exact absurd rfl a
 |_::_::_::_::_,_=>rfl
theorem Kl{l:List ByteArray}(a:l.length≠3):zb l=(⟨none_,0⟩,false):=by
 match l,a with
 |[],_=>rfl
 |[_],_=>rfl
 |[_,_],_=>rfl
 |[_,_,_],a=>exact absurd rfl a
 |_::_::_::_::_,_=>rfl
theorem Gy{l:List ByteArray}(a:l.length≠3):oQ l=(⟨none_,none_,[],[]⟩,false):=by
 match l,a with
 |[],_=>rfl
 |[_],_=>rfl
 |[_,_],_=>rfl
 |[_,_,_],a=>exact absurd rfl a
 |_::_::_::_::_,_=>rfl
theorem Iz{x0 x1 b:ByteArray}(a:jf x1=false):oQ [x0,x1,b]=(⟨none_,none_,[],[]⟩,false):=by
 show(if jf x1 then _ else _)=_
 rw[a];rfl
theorem IA{x0 x1 a:ByteArray}(b:jf x1=true)(c:a≠dash)(d:jf a=false):oQ [x0,x1,a]=(⟨none_,none_,[],[]⟩,false):=by
 show(if jf x1 then if a=dash then _ else if jf a then _ else _ else _)=_
 rw[b,SX c,d];rfl
theorem IB{x0 x1 a:ByteArray}(b:jf x1=true)(c:a≠dash)(d:jf a=true):oQ [x0,x1,a]=(⟨x1,a,[],[]⟩,true):=by
 show(if jf x1 then if a=dash then _ else if jf a then _ else _ else _)=_
 rw[b,SX c,d];rfl
theorem IC{x0 x1 a:ByteArray}(b:jf x1=true)(c:a=dash):oQ [x0,x1,a]=(⟨x1,none_,[],[]⟩,true):=by
 show(if jf x1 then if a=dash then _ else if jf a then _ else _ else _)=_
 rw[b,SV c];rfl
theorem IJ{x0 x1 b:ByteArray}(a:jf x1=false):sV [x0,x1,b]=(⟨none_,⟨0,none_⟩⟩,false):=by
 show(if jf x1 then _ else _)=_
 rw[a];rfl
theorem IK{x0 x1 a:ByteArray}(c:jf x1=true){k:Kind}{b:Bool}(d:lQ a=(k,b)):sV [x0,x1,a]=(⟨x1,k⟩,b):=by
 show(if jf x1 then _ else _)=_
 rw[c,SV rfl,d]
theorem Mg{x0 x1 a:ByteArray}{n:Int}{b:Bool}(c:jO a=(n,b)):zb [x0,x1,a]=(⟨x1,n⟩,b&&decide (0<=n)&&jf x1):=by
 show((⟨x1,(jO a).1⟩:Ask),(jO a).2&&decide (0<=(jO a).1)&&jf x1)=_
 rw[c]
abbrev slash:ByteArray:=⟨#[47]⟩
def qZ:List ByteArray->Bool->List Tag->List Tag->Option (Bool×List Tag×List Tag)
 |[],b,ls,ss=>some (b,ls,ss)
 |x::r,b,ls,ss=>
  if x=slash/\b=false then qZ r true ls ss else
  if(mQ x).2 then if b then qZ r b ls (ss++[(mQ x).1])else qZ r b (ls++[(mQ x).1]) ss else none
def Pe:SMap:=⟨0,[],[]⟩
def rD(l:List ByteArray):SMap×Bool:=
 if l.length<3\/15<l.length then(Pe,false)else
 match qZ (l.drop 2) false [] []with
 |none=>(Pe,false)
 |some (b,ls,ss)=>let q:=jO ((l[1]?).getD none_);(⟨q.1,ls,ss⟩,q.2&&b&&decide (0<=q.1))
theorem drop_at{α:Type}{l:List α}{k:Nat}{x:α}(a:l[k]?=some x):l.drop k=x::l.drop (k+1):=by
 obtain⟨b,c⟩:=Tv.1 a;rw[Uy b,c]
theorem Jf{l:List ByteArray}{k:Nat}{x:ByteArray}(c:l[k]?=some x)(d:x=slash)(a b:List Tag):qZ (l.drop k) false a b=qZ (l.drop (k+1)) true a b:=by
 rw[drop_at c,qZ,SV ⟨d,rfl⟩]
theorem BG{l:List ByteArray}{k:Nat}{x:ByteArray}(a:l[k]?=some x){b:Bool}(d:¬(x=slash/\b=false)){t:Tag}(c:mQ x=(t,false))(e f:List Tag):qZ (l.drop k) b e f=none:=by
 rw[drop_at a,qZ,SX d,c];rfl
theorem M3{l:List ByteArray}{k:Nat}{x:ByteArray}(c:l[k]?=some x)(e:¬(x=slash/\false=false)){t:Tag}(d:mQ x=(t,true))(a b:List Tag):qZ (l.drop k) false a b=qZ (l.drop (k+1)) false (a++[t]) b:=by
 rw[drop_at c,qZ,SX e,d];rfl
theorem Gf{l:List ByteArray}{k:Nat}{x:ByteArray}(a:l[k]?=some x){t:Tag}(d:mQ x=(t,true))(b c:List Tag):qZ (l.drop k) true b c=qZ (l.drop (k+1)) true b (c++[t]):=by
 rw[drop_at a,qZ,SX (fun a=>by cases a.2),d];rfl
theorem M0{l:List ByteArray}{k:Nat}(d:l.length<=k)(b:Bool)(a c:List Tag):qZ (l.drop k) b a c=some (b,a,c):=by
 rw[TW d,qZ]
theorem zW{l:List ByteArray}(a:l.length<3\/15<l.length):rD l=(Pe,false):=by
 unfold rD;rw[SV a]
theorem xx{l:List ByteArray}(a:¬(l.length<3\/15<l.length))(b:qZ (l.drop 2) false [] []=none):rD l=(Pe,false):=by
 unfold rD;rw[SX a,b]
theorem Hh{l:List ByteArray}(e:¬(l.length<3\/15<l.length)){b:Bool}{c d:List Tag}(f:qZ (l.drop 2) false [] []=some (b,c,d)){x1:ByteArray}(h:l[1]?=some x1){a:Int}{ok:Bool}(g:jO x1=(a,ok)):rD l=(⟨a,c,d⟩,ok&&b&&decide (0<=a)):=by
 unfold rD;rw[SX e,f,h];show((⟨(jO x1).1,c,d⟩:SMap),(jO x1).2&&b&&decide (0<=(jO x1).1))=_
 rw[g]
def sS:List ByteArray->List Kind->Option (List Kind)
 |[],ks=>some ks
 |x::r,ks=>if(lQ x).2 then sS r (ks++[(lQ x).1])else none
def Eg:Method:=⟨none_,[],⟨0,none_⟩,0,0,[],[]⟩
def oH(l:List ByteArray):Method×Bool:=
 if l.length<5\/8<l.length then(Eg,false)else
 if jf ((l[1]?).getD none_)=false then(Eg,false)else
 match sS (l.drop 5) []with
 |none=>(Eg,false)
 |some ks=>
  let q:=jO ((l[2]?).getD none_)
  let u:=jO ((l[3]?).getD none_)
  let k:=lQ ((l[4]?).getD none_)
  (⟨(l[1]?).getD none_,ks,k.1,q.1,u.1,[],[]⟩,q.2&&u.2&&k.2&&decide (0<=q.1)&&decide (0<=u.1))
theorem Kg{l:List ByteArray}{k:Nat}{x:ByteArray}(a:l[k]?=some x){t:Kind}(b:lQ x=(t,false))(c:List Kind):sS (l.drop k) c=none:=by
 rw[drop_at a,sS,b];rfl
theorem Im{l:List ByteArray}{k:Nat}{x:ByteArray}(b:l[k]?=some x){t:Kind}(c:lQ x=(t,true))(a:List Kind):sS (l.drop k) a=sS (l.drop (k+1)) (a++[t]):=by
 rw[drop_at b,sS,c];rfl
theorem Kh{l:List ByteArray}{k:Nat}(b:l.length<=k)(a:List Kind):sS (l.drop k) a=some a:=by
 rw[TW b,sS]
theorem yQ{l:List ByteArray}(a:l.length<5\/8<l.length):oH l=(Eg,false):=by
 unfold oH;rw[SV a]
theorem Fw{l:List ByteArray}(a:¬(l.length<5\/8<l.length)){x1:ByteArray}(c:l[1]?=some x1)(b:jf x1=false):oH l=(Eg,false):=by
 unfold oH;rw[SX a,c,U7,SV b]
theorem Fx{l:List ByteArray}(a:¬(l.length<5\/8<l.length)){x1:ByteArray}(d:l[1]?=some x1)(c:jf x1=true)(b:sS (l.drop 5) []=none):oH l=(Eg,false):=by
 unfold oH;rw[SX a,d,SX (by rw[U7,c];simp),b]
theorem Fy{l:List ByteArray}(o:¬(l.length<5\/8<l.length)){x1:ByteArray}(u:l[1]?=some x1)(t:jf x1=true){b:List Kind}(s:sS (l.drop 5) []=some b){g h i:ByteArray} (p:l[2]?=some g) (q:l[3]?=some h) (r:l[4]?=some i) {a c:Int} {d e f:Bool} {k:Kind} (j:jO g=(a,d)) (m:jO h=(c,e)) (n:lQ i=(k,f)):oH l=(⟨x1,b,k,a,c,[],[]⟩,d&&e&&f&&decide (0<=a)&&decide (0<=c)):=by
 unfold oH;rw[SX o,u,SX (by rw[U7,t];simp),s,p,q,r];simp only[U7,j,m,n]
abbrev vU:ByteArray:=⟨#[102,105,101,108,100]⟩
abbrev vQ:ByteArray:=⟨#[109,101,116,104,111,100]⟩
abbrev EU:ByteArray:=⟨#[102,114,97,109,101]⟩
def inner(c:Class)(l:List ByteArray)(line:ByteArray):Class×Bool:=
 let x:=l.headD none_
 if x=vU then(⟨c.name,c.je,c.fields++[(sV l).1],c.methods⟩,(sV l).2&&decide (c.methods.length=0))else
 if x=vQ then(⟨c.name,c.je,c.fields,c.methods++[(oH l).1]⟩,(oH l).2)else
 match c.methods.getLast? with
 |none=>(c,false)
 |some m=>
  if x=EU then(⟨c.name,c.je,c.fields,c.methods.dropLast++[⟨m.name,m.args,m.ret,m.locals,m.stack,m.code,m.maps++[(rD l).1]⟩]⟩,(rD l).2&&decide (m.code.length=0))
  else(⟨c.name,c.je,c.fields,c.methods.dropLast++[⟨m.name,m.args,m.ret,m.locals,m.stack,m.code++[(qE line).1],m.maps⟩]⟩,(qE line).2)
theorem su{l:List ByteArray}{x:ByteArray}(a:l[0]?=some x):l.headD none_=x:=by
 cases l with
 |nil=>cases a
 |cons b c=>simpa using a
theorem IU{c:Class}{l:List ByteArray}{line x:ByteArray}(a:l[0]?=some x)(e:x=vU){f:Field}{b:Bool}(d:sV l=(f,b)):inner c l line=(⟨c.name,c.je,c.fields++[f],c.methods⟩,b&&decide (c.methods.length=0)):=by
 unfold inner;simp only[su a];rw[SV e,d]
theorem GN{c:Class}{l:List ByteArray}{line x:ByteArray}(a:l[0]?=some x)(e:x≠vU)(f:x=vQ){m:Method}{b:Bool}(d:oH l=(m,b)):inner c l line=(⟨c.name,c.je,c.fields,c.methods++[m]⟩,b):=by
 unfold inner;simp only[su a];rw[SX e,SV f,d]
theorem Kz{c:Class}{l:List ByteArray}{line x:ByteArray}(a:l[0]?=some x)(d:x≠vU)(e:x≠vQ)(b:c.methods.length=0):inner c l line=(c,false):=by
 unfold inner;simp only[su a];rw[SX d,SX e,TC b];rfl
theorem Mv{c:Class}{l:List ByteArray}{line x:ByteArray}(a:l[0]?=some x)(f:x≠vU)(g:x≠vQ)(h:x=EU){m:Method}(e:c.methods.getLast?=some m){y:SMap}{b:Bool}(d:rD l=(y,b)):inner c l line=(⟨c.name,c.je,c.fields,c.methods.dropLast++[⟨m.name,m.args,m.ret,m.locals,m.stack,m.code,m.maps++[y]⟩]⟩,b&&decide (m.code.length=0)):=by
 unfold inner;simp only[su a];rw[SX f,SX g,e];simp only;rw[SV h,d]
theorem Mt{c:Class}{l:List ByteArray}{line x:ByteArray}(a:l[0]?=some x)(f:x≠vU)(g:x≠vQ)(h:x≠EU){m:Method}(e:c.methods.getLast?=some m){i:Ins}{b:Bool}(d:qE line=(i,b)):inner c l line=(⟨c.name,c.je,c.fields,c.methods.dropLast++[⟨m.name,m.args,m.ret,m.locals,m.stack,m.code++[i],m.maps⟩]⟩,b):=by
 unfold inner;simp only[su a];rw[SX f,SX g,e];simp only;rw[SX h,d]
abbrev ET:ByteArray:=⟨#[97,115,107,115]⟩
abbrev Cc:ByteArray:=⟨#[99,108,97,115,115]⟩
abbrev j6:ByteArray:=⟨#[107,101,101,112,101,114]⟩
def xW(q:kC)(l:List ByteArray)(line:ByteArray):Option (kC×Bool):=
 let x:=l.headD none_
 if x=ET then some (⟨q.owns,q.asks++[(zb l).1]⟩,(zb l).2&&decide (q.owns.length=0))else
 if x=Cc then some (⟨q.owns++[(oQ l).1],q.asks⟩,(oQ l).2)else
 match q.owns.getLast? with
 |none=>none
 |some c=>some (⟨q.owns.dropLast++[(inner c l line).1],q.asks⟩,(inner c l line).2)
def line(p:hZ)(s:ByteArray):hZ×Bool:=
 if s=j6 then(p++[⟨[],[]⟩],decide (p.length<3))else
 match p.getLast? with
 |none=>(p,false)
 |some q=>match xW q (words s) s with
  |none=>(p,false)
  |some r=>(p.dropLast++[r.1],r.2)
theorem KD{q:kC}{l:List ByteArray}{s x:ByteArray}(c:l[0]?=some x)(e:x=ET){a:Ask}{b:Bool}(d:zb l=(a,b)):xW q l s=some (⟨q.owns,q.asks++[a]⟩,b&&decide (q.owns.length=0)):=by
 unfold xW;simp only[su c];rw[SV e,d]
theorem IZ{q:kC}{l:List ByteArray}{s x:ByteArray}(a:l[0]?=some x)(e:x≠ET)(f:x=Cc){c:Class}{b:Bool}(d:oQ l=(c,b)):xW q l s=some (⟨q.owns++[c],q.asks⟩,b):=by
 unfold xW;simp only[su a];rw[SX e,SV f,d]
theorem KE{q:kC}{l:List ByteArray}{s x:ByteArray}(a:l[0]?=some x)(c:x≠ET)(d:x≠Cc)(b:q.owns.length=0):xW q l s=none:=by
 unfold xW;simp only[su a];rw[SX c,SX d,TC b];rfl
theorem OL{q:kC}{l:List ByteArray}{s x:ByteArray}(a:l[0]?=some x)(f:x≠ET)(g:x≠Cc){c:Class}(d:q.owns.getLast?=some c){y:Class}{b:Bool}(e:inner c l s=(y,b)):xW q l s=some (⟨q.owns.dropLast++[y],q.asks⟩,b):=by
 unfold xW;simp only[su a];rw[SX f,SX g,d];simp only;rw[e]
theorem OU{p:hZ}{s:ByteArray}(a:s=j6):line p s=(p++[⟨[],[]⟩],decide (p.length<3)):=by
 unfold line;rw[SV a]
theorem KF{p:hZ}{s:ByteArray}(a:s≠j6)(b:p.length=0):line p s=(p,false):=by
 unfold line;rw[SX a,TC b];rfl
theorem Qi{p:hZ}{s:ByteArray}(a:s≠j6){q:kC}(c:p.getLast?=some q)(b:xW q (words s) s=none):line p s=(p,false):=by
 unfold line;rw[SX a,c];simp only;rw[b]
theorem OV{p:hZ}{s:ByteArray}(c:s≠j6){q:kC}(e:p.getLast?=some q){a:kC}{b:Bool}(d:xW q (words s) s=some (a,b)):line p s=(p.dropLast++[a],b):=by
 unfold line;rw[SX c,e];simp only;rw[d]
end M
end Go.Proofs.YtenhnldnpdlniaaGreat
namespace Go.Proofs.YtenhnldnpdlniaaGreat.M
variable {n: ByteArray}{c: Class}{l: List SMap}{m: Method}{j k: Nat}{r: Ref}{x y: SMap}{α: Type}{p: hZ}{f: qg}
theorem ug{name:α->ByteArray}{ok:α->Bool}:∀{l:List α} {seen:List ByteArray},jw name ok l seen=true->∀b∈l,ok b=true
 |[],_,_=>by simp
 |y::r,seen,h=>by
  unfold jw at h;simp only[S9]at h;intro b a;rcases TI.1 a with rfl|a
  . exact h.1.1
  . exact ug h.2 b a
theorem zy(a:jY p=true):1<=p.length/\p.length<=3:=by
 unfold jY at a;simp only[S9,SF]at a;exact⟨a.1.1,a.1.2⟩
theorem F9(b:jY p=true){k:Int}{q:kC}(a:lF p k=some q):jC p q=true:=by
 unfold jY at b;simp only[S9]at b;unfold lF at a;split at a
 . exact Tx.1 b.2 q (Sy a)
 . cases a
theorem De{k:Int}:has p k=true↔0<=k/\k<p.length:=by
 unfold has;simp
theorem Kw(g:jY p=true){k:Int}{n:ByteArray}{q:Int}(a:ym p k n=some q):has p q=true:=by
 unfold ym at a;rw[V7]at a;obtain⟨h,f,c⟩:=a;rw[U1]at c;obtain⟨d,e,rfl⟩:=c;have b:=F9 g f;unfold jC at b;simp only[S9]at b;have:=ug b.2 d (TA e);simp only[S9]at this;exact this.2
theorem JA(r:Ref):(wJ p r).isSome=owned p r:=by
 unfold wJ owned cls?;cases lF p r.keeper with
 |none=>rfl
 |some a=>
  simp only[TT];rw[Ud,VL,List.find?_isSome];simp
theorem Br(a:cls? p r=some c):∃e b,lF p r.keeper=some e/\wJ p r=some b/\e.owns[b]?=some c/\b<e.owns.length:=by
 unfold cls? at a;rw[V7]at a;obtain⟨e,j,f⟩:=a;have d:(e.owns.findIdx? fun c=>decide (c.name=r.name)).isSome=true:=by
  rw[VL,V8];exact⟨c,TA f,by simpa using List.find?_some f⟩
 obtain⟨b,d⟩:=Vf.1 d;refine⟨e,b,j,by unfold wJ;rw[j];exact d,?_,?_⟩
 . rw[Ut]at d;obtain⟨o,k,l⟩:=d;rw[Dj o];rw[List.find?_eq_some_iff_getElem]at f;obtain⟨n,g,q,h,m⟩:=f;have:b=g:=by
    rcases UH b g with a|a|a
    . have:=m b a;simp only[VV]at this;rw[k]at this;cases this
    . exact a
    . have i:=l g a;rw[h]at i;exact absurd n i
   subst this;rw[h]
 . rw[Ut]at d;exact d.1
theorem Dw(a:cls? p r=some c):c.name=r.name:=by
 unfold cls? at a;rw[V7]at a;obtain⟨e,d,b⟩:=a;simpa using List.find?_some b
theorem Dc(b:cls? p r=some c):0<=r.keeper/\r.keeper<p.length:=by
 obtain⟨e,d,a,_⟩:=Br b;unfold lF at a;split at a
 . have:=(Tv.1 a).1;omega
 . cases a
theorem M9{l:List Int}(d:l.Nodup)(c:∀a∈l,has p a=true):l.length<=p.length:=by
 have b:l ⊆ (List.range p.length).map Int.ofNat:=by
  intro a e;have:=De.1 (c a e);exact TM.2 ⟨a.toNat,UY.2 Zm,by simp;omega⟩
 have:=d.length_le_of_subset b;simpa using this
theorem A7:∀{f:Nat} {a:List Int} {k:Int},a.getLastD 0=k->(ou p n f a k).2=1->owned p ⟨(ou p n f a k).1.getLastD 0,n⟩=true
 |0,_,_,_,h=>by simp[ou]at h
 |f+1,a,k,hl,h=>by
  unfold ou at h |-;split at h
  . rename_i c;split at h
    . rename_i b;simp only[b,UC];rw[hl];exact b
    . simp at h
  . rename_i next c
    split at h
    . simp at h
    . rename_i b;simp only[b,UJ,UN];exact A7 Zl h
theorem K6{k:Int}(a:(path p k n).2=1):owned p ⟨(path p k n).1.getLastD 0,n⟩=true:=by
 unfold path at a |-;split at a
 . rename_i b;rw[SV b];exact A7 rfl a
 . simp at a
theorem lD{k:Int}(b:(resolve p k n).2=1):∃c,cls? p (resolve p k n).1=some c:=by
 unfold resolve at b |-;split at b
 . rename_i a;rw[SV a];exact Vf.1 (K6 a)
 . rename_i a;exact absurd b a
theorem uw{name:α->ByteArray}{ok:α->Bool}:∀{l r:List α} {seen:List ByteArray},jw name ok (l++r) seen=(jw name ok l seen&&jw name ok r (seen++l.map name))
 |[],r,seen=>by simp[jw]
 |x::l,r,seen=>by
  simp only[Td,jw,uw (l:=l),V9,TH,Te,Ti]
theorem wZ{name:α->ByteArray}{ok:α->Bool}{l:List α}{x:α}(a:l[k]?=some x):jw name ok (l.take (k+1)) []=(jw name ok (l.take k) []&&(ok x&& !((l.take k).any fun b=>decide (name b=name x)))):=by
 rw[Tm,a,uw,Ti];simp only[UD,jw,List.any_map,Function.comp_def,Bool.and_true]
theorem zn{name:α->ByteArray}{ok:α->Bool}{l:List α}(a:jw name ok (l.take k) []=false):jw name ok l []=false:=by
 rw[<-UB k l,uw,a];rfl
theorem Da{f:α->Bool}{l:List α}{x:α}(c:l[k]?=some x)(a:f x=false):l.all f=false:=by
 refine Bool.eq_false_iff.2 fun b=>?_;rw[Tx.1 b x (Sy c)]at a;cases a
theorem Dt{f:α->Bool}{l:List α}{x:α}(b:l[k]?=some x)(a:f x=true)(h0:(l.take k).all f=true):(l.take (k+1)).all f=true:=by
 rw[Tm,b,V5,h0];simp[a]
def BB(l:List SMap):Int:=(l.getLast?.map SMap.at_).getD 0
theorem uB:∀{l r:List SMap} {a:Int},j3 m a (l++r)=(j3 m a l&&j3 m ((l.getLast?.map SMap.at_).getD a) r)
 |[],r,a=>by simp[j3]
 |x::l,r,a=>by
  simp only[Td,j3,uB (l:=l),List.getLast?_cons];cases l.getLast?<;>simp[V9]
theorem M4(a:l[k]?=some x):j3 m 0 (l.take (k+1))=(j3 m 0 (l.take k)&&(decide (BB (l.take k)<x.at_)&&uF m x)):=by
 rw[Tm,a,uB];simp only[UD,j3,BB,Bool.and_true];rfl
theorem Pf(a:j3 m 0 (l.take k)=false):j3 m 0 l=false:=by
 rw[<-UB k l,uB,a];rfl
theorem Jj:∀{l:List SMap} {a:Int},0<=a->j3 m a l=true->∀b∈l,1<=b.at_
 |[],_,_,_=>by simp
 |x::l,a,ha,h=>by
  unfold j3 at h;simp only[S9,SF]at h;intro b c;rcases TI.1 c with rfl|c
  . omega
  . exact Jj Zm h.2 b c
theorem ML(a:l[j]?=some y):BB (l.take (j+1))=y.at_:=by
 unfold BB;rw[Tm,a];simp
theorem ME{i:Ins}(a:kE i=true):1<=i.op/\i.op<=15:=by
 unfold kE isNum oG pq qY at a;simp only[V4,Ub]at a;repeat' split at a
 all_goals first|omega|cases a
theorem Gg{c:Method}{q2:Bool}(l:c.maps[k]?=some x)(e:j3 c 0 (c.maps.take k)=true)(j:(k=0/\q2=false)\/∃b d,k=b+1/\c.maps[b]?=some d/\q2=decide (x.at_<=d.at_)):j3 c 0 (c.maps.take (k+1))=((decide (1<=x.at_)&&decide (x.at_<=(c.code.length:Int) - 1))&& !q2&& !((x.locals.length:Int) !=c.locals)&& !decide (c.stack<(x.stack.length:Int))&&x.locals.all oZ&&x.stack.all oZ):=by
 rw[M4 l,e,TB];unfold uF qy;have g:(!((x.locals.length:Int) !=c.locals))=decide ((x.locals.length:Int)=c.locals):=by
  by_cases a:(x.locals.length:Int)=c.locals<;>simp[a]
 have h:(!decide (c.stack<(x.stack.length:Int)))=decide ((x.stack.length:Int)<=c.stack):=by
  by_cases a:c.stack<(x.stack.length:Int)
  . rw[SY a,RN Zm];rfl
  . rw[RN a,SY Zm];rfl
 have i:(decide (BB (c.maps.take k)<x.at_)&&decide (x.at_ <(c.code.length:Int)))=((decide (1<=x.at_)&&decide (x.at_<=(c.code.length:Int) - 1))&& !q2):=by
  rcases j with⟨rfl,rfl⟩|⟨b,d,rfl,f,rfl⟩
  . rw[show BB (c.maps.take 0)=0 from rfl,Bool.not_false,Bool.and_true];refine Ud.2 ?_;simp only[S9,SF];omega
  . rw[ML f];have:=Jj Zm e d (Sy (i:=b) (by rw[Uv,SV Zm,f]));refine Ud.2 ?_;simp only[S9,SF,VV,decide_eq_false_iff_not];omega
 rw[g,h,<-i];simp only[V9]
theorem wT:∀(f:Nat) (r:Ref) (l:List Ref),jN p f r=some l->∃d,l=r::d:=by
 intro f;cases f with
 |zero=>intro r l a;simp[jN]at a
 |succ f=>
  intro r l a;unfold jN at a;split at a
  . cases a;exact⟨[],rfl⟩
  . split at a
    . cases b:jN p f (resolve p r.keeper (je p r)).1 with
      |none=>rw[b]at a;simp at a
      |some c=>rw[b]at a;simp at a;exact⟨c,a.symm⟩
    . cases a
theorem wU : ∀ (f : Nat) (r : Ref) (l : List Ref), jN p f r = some l -> ∀ b, l.length <= b -> jN p b r = some l := by
 intro f;induction f with
 |zero=>intro r l a;simp[jN]at a
 | succ f h =>
  intro r l a b e;obtain⟨j,rfl⟩:=wT _ _ _ a;cases b with
  |zero=>simp at e
  |succ b=>
   unfold jN at a |-;split at a
   . rename_i c;rw[SV c];exact a
   . rename_i c;rw[SX c];split at a
     . rename_i g;rw[SV g];cases d:jN p f (resolve p r.keeper (je p r)).1 with
       |none=>rw[d]at a;simp at a
       |some i=>
        rw[d]at a;simp at a;subst a;rw[h _ _ d b (by simp at e;omega)];simp
     . cases a
theorem uU : ∀ (f : Nat) (r : Ref) (l : List Ref), jN p f r = some l -> ∀ b d, l[b]? = some d -> ∃ g, jN p g d = some (l.drop b) := by
 intro f;induction f with
 |zero=>intro r l a;simp[jN]at a
 | succ f h =>
  intro r l a b d c;cases b with
  |zero=>
   obtain⟨j,rfl⟩:=wT _ _ _ a;simp at c;subst c;exact⟨f+1,a⟩
  |succ b=>
   unfold jN at a;split at a
   . cases a;simp at c
   . split at a
     . cases e:jN p f (resolve p r.keeper (je p r)).1 with
       |none=>rw[e]at a;simp at a
       |some i=>
        rw[e]at a;simp at a;subst a;simpa using h _ _ e b d (by simpa using c)
     . cases a
theorem Co{f g:Nat}{a b:List Ref}(e:jN p f r=some a)(h:jN p g r=some b):a=b:=by
 have d:=wU _ _ _ e (max a.length b.length) (Nat.le_max_left _ _);have c:=wU _ _ _ h (max a.length b.length) (Nat.le_max_right _ _);rw[d]at c;exact Vd c
theorem Fg(f:Nat)(r:Ref)(l:List Ref)(b:jN p f r=some l):l.Nodup:=by
 refine List.pairwise_iff_getElem.2 ?_;intro a i g h m e;obtain⟨j,c⟩:=uU _ _ _ b a l[a] (Dj g);obtain⟨k,d⟩:=uU _ _ _ b i l[a] (by rw[e];exact Dj h);have:=congrArg List.length (Co c d);simp at this;omega
theorem Na{l:List α}(a:l.Nodup):l.reverse.Nodup:=
 List.pairwise_reverse.2 (a.imp fun a=>fun b=>a b.symm)
theorem Cm(p:hZ)(r:Ref):(chain p r).Nodup:=by
 unfold chain;split
 . unfold om;cases a:jN p 6 r with
   |none=>simp
   |some b=>exact Fg _ _ _ a
 . simp
theorem Cn:∀(f:Nat) (r:Ref) (l:List Ref),jN p f r=some l->l.length<=f:=by
 intro f;induction f with
 |zero=>intro r l a;simp[jN]at a
 |succ f c=>
  intro r l a;unfold jN at a;split at a
  . cases a;simp
  . split at a
    . cases b:jN p f (resolve p r.keeper (je p r)).1 with
      |none=>rw[b]at a;simp at a
      |some d=>rw[b]at a;simp at a;subst a;have:=c _ _ b;simp;omega
    . cases a
theorem wu(p:hZ)(r:Ref):(chain p r).length<=6:=by
 unfold chain;split
 . unfold om;cases a:jN p 6 r with
   |none=>simp
   |some b=>exact Cn _ _ _ a
 . simp
theorem tK(c:Ref):∀(b:List Field) (a:List qg),(ko c b a).length=a.length+b.length:=by
 intro b;induction b with
 |nil=>intro a;rfl
 |cons e f d=>intro a;unfold ko;rw[d];simp;omega
theorem Gv(c:Ref):∀(e:List Field) (b:List qg) (i:Nat) (f:qg),(ko c e b)[i]?=some f→ b[i]?=some f\/∃h d,e[h]?=some d/\i=b.length+h/\f=⟨c,i,d.kind⟩:=by
 intro e;induction e with
 |nil=>intro b i f g;exact .inl g
 |cons d q p=>
  intro b i f g;unfold ko at g;rcases p _ _ _ g with a|⟨h,l,a,m,n⟩
  . rcases Uo i b.length with j|j
    . rw[Tn j]at a;exact .inl a
    . rw[TR j]at a;have o:i - b.length=0:=by
       rcases VG (i - b.length)with k|k
       . exact k
       . rw[TS Zr]at a;cases a
      rw[o]at a;simp at a;refine .inr ⟨0,d,rfl,Zm,?_⟩;rw[<-a,show i=b.length by omega]
  . exact .inr ⟨h+1,l,by simpa using a,by simp at m;omega,n⟩
theorem Ff(c:Ref):∀(b:List Field) (a:List qg),∃d,ko c b a=a++d:=by
 intro b;induction b with
 |nil=>intro a;exact⟨[],by simp[ko]⟩
 |cons f h g=>
  intro a;unfold ko;obtain⟨d,e⟩:=g (a++[⟨c,a.length,f.kind⟩]);exact⟨_,by rw[e,Te]⟩
theorem G6(p:hZ):∀(c:List Ref) (a:List qg),∃d,kv p c a=a++d:=by
 intro c;induction c with
 |nil=>intro a;exact⟨[],by simp[kv]⟩
 |cons b i g=>
  intro a;unfold kv;obtain⟨d,e⟩:=g (ko b (cls p b).fields a);obtain⟨h,f⟩:=Ff b (cls p b).fields a;exact⟨h++d,by rw[e,f,Te]⟩
theorem xX(p:hZ):∀(a K:List Ref) (b:List qg),kv p (a++K) b=kv p K (kv p a b):=by
 intro a;induction a with
 |nil=>intro K b;rfl
 |cons d e c=>intro K b;simp only[Td,kv];rw[c]
theorem I1(p:hZ):∀(b:List Ref) (e:List qg),b.Nodup->∀(i:Nat) (f:qg),(kv p b e)[i]?=some f→ e[i]?=some f\/∃g∈b,∃d c,(cls p g).fields[d]?=some c/\i=mK p g b e.length+d/\f=⟨g,i,c.kind⟩:=by
 intro b;induction b with
 |nil=>intro e _ i f h;exact .inl h
 |cons g q o=>
  intro e l i f h;unfold kv at h;rw[Wx]at l;rcases o _ l.2 _ _ h with a|⟨n,m,d,c,a,j,k⟩
  . rcases Gv _ _ _ _ _ a with a|⟨d,c,a,j,k⟩
    . exact .inl a
    . exact .inr ⟨g,by simp,d,c,a,by simp[mK];exact j,k⟩
  . refine .inr ⟨n,by simp[m],d,c,a,?_,k⟩;unfold mK;rw[SX (by rintro rfl;exact l.1 m),<-tK];exact j
theorem zt{i:Nat}(b:(layout p r)[i]?=some f):jD p r=true/\f.of∈chain p r/\f.at_=i/\∃c a,(cls p f.of).fields[c]?=some a/\i=mF p f.of r+c/\f.kind=a.kind:=by
 unfold layout at b;split at b
 . rename_i g;rcases I1 p _ _ (Na (Cm p r)) _ _ b with d|⟨j,h,c,a,d,e,rfl⟩
   . simp at d
   . exact⟨g,List.mem_reverse.1 h,rfl,c,a,d,e,rfl⟩
 . simp at b
theorem GD{a:Field}(b:(cls p f.of).fields[j]?=some a)(c:f.at_=((mF p f.of r+j:Nat):Int)):fieldName p r f=a.name:=by
 unfold fieldName;rw[show(f.at_ - mF p f.of r).toNat=j by omega,b];rfl
end Go.Proofs.YtenhnldnpdlniaaGreat.M
