/- Walks. -/

set_option maxRecDepth 100000
set_option maxHeartbeats 4000000
set_option linter.unusedSimpArgs false
set_option linter.unusedVariables false
namespace Go.Proofs.YtohpiobncgafeaaGreatDoor
def Zs(p:Prop):Prop:=p
theorem Zs.o{p:Prop}(h:Zs p):p:=h
theorem Ys{p:Prop}(h:p):Zs p:=h
end Go.Proofs.YtohpiobncgafeaaGreatDoor
namespace Go.Proofs.YtohpiobncgafeaaGreatDoor.M
structure Kind where
 kind:Int
 name:ByteArray
structure Tag where
 kind:Int
 name:ByteArray
structure Ins where
 op:Int
 a:Int
 name:ByteArray
 member:ByteArray
structure SMap where
 at_:Int
 locals:List Tag
 stack:List Tag
structure Field where
 name:ByteArray
 kind:Kind
structure Method where
 name:ByteArray
 args:List Kind
 ret:Kind
 locals:Int
 stack:Int
 code:List Ins
 maps:List SMap
structure Class where
 name:ByteArray
 aW:ByteArray
 fields:List Field
 methods:List Method
structure Ask where
 name:ByteArray
 keeper:Int
structure jc where
 owns:List Class
 asks:List Ask
abbrev ai:=List jc
structure Ref where
 keeper:Int
 name:ByteArray
theorem Ref.fK{a b:Ref}:a=b↔a.keeper=b.keeper∧a.name=b.name:=by
 cases a;cases b;simp
theorem Kind.fK{a b:Kind}:a=b↔a.kind=b.kind∧a.name=b.name:=by
 cases a;cases b;simp
theorem Tag.fK{a b:Tag}:a=b↔a.kind=b.kind∧a.name=b.name:=by
 cases a;cases b;simp
theorem Ins.fK{a b:Ins}:a=b↔a.op=b.op∧a.a=b.a∧a.name=b.name∧a.member=b.member:=by
 cases a;cases b;simp
instance:DecidableEq Ref:=fun _ _=>decidable_of_iff' _ Ref.fK
instance:DecidableEq Kind:=fun _ _=>decidable_of_iff' _ Kind.fK
instance:DecidableEq Tag:=fun _ _=>decidable_of_iff' _ Tag.fK
instance:DecidableEq Ins:=fun _ _=>decidable_of_iff' _ Ins.fK
theorem Field.fK{a b:Field}:a=b↔a.name=b.name∧a.kind=b.kind:=by
 cases a;cases b;simp
instance:DecidableEq Field:=fun _ _=>decidable_of_iff' _ Field.fK
def letter(c:UInt8):Bool:=decide (97≤c.toNat)&&decide (c.toNat≤122)
def aY(s:ByteArray):Bool:=decide (1≤s.size)&&decide (s.size≤6)&&s.data.toList.all letter
abbrev none_:ByteArray:=⟨#[]⟩
def fV(k:Kind):Bool:=(k.kind==1&&decide (k.name=none_))|| (k.kind==2&&aY k.name)
def uw(t:Tag):Bool:=
 if t.kind=0∨t.kind=1∨t.kind=3 then decide (t.name=none_)else if t.kind=2 then aY t.name else false
def iU(op:Int):Int:=if op=1 then -9999 else 0
def jM(op:Int):Int:=if op=1 then 9999 else if op=2∨op=3 then 5 else 15
def isNum(op:Int):Bool:=op==1 || op==2 || op==3 || op==11 || op==12 || op==13
def jo(op:Int):Bool:=op==6 || op==15
def kQ(op:Int):Bool:=op==7 || op==8 || op==9
def mG(op:Int):Bool:=op==4 || op==5 || op==10 || op==14
def gK(i:Ins):Bool:=
 if isNum i.op then decide (i.name=none_)&&decide (i.member=none_)&&decide (iU i.op≤i.a)&&decide (i.a≤jM i.op)
 else if jo i.op then decide (i.a=0)&&decide (i.member=none_)&&aY i.name
 else if kQ i.op then decide (i.a=0)&&aY i.name&&aY i.member
 else if mG i.op then decide (i.a=0)&&decide (i.name=none_)&&decide (i.member=none_)
 else false
def oU(l:List Tag):Bool:=l.all uw
def fM(m:Method)(i:Ins):Bool:=
 gK i&&(if i.op=2∨i.op=3 then decide (i.a<m.locals)else if i.op=11∨i.op=12∨i.op=13 then decide (i.a<m.code.length)else true)
def codeOk(m:Method):Bool:=decide (1≤m.code.length)&&decide (m.code.length≤16)&&m.code.all (fM m)
def pM(m:Method)(f:SMap):Bool:=
 decide (f.at_ <m.code.length)&&decide ((f.locals.length:Int)=m.locals)&&decide ((f.stack.length:Int)≤m.stack)&&oU f.locals&&oU f.stack
def jJ(m:Method):Int→List SMap→Bool
 |_,[]=>true
 |last,f::r=>decide (last<f.at_)&&pM m f&&jJ m f.at_ r
def qI(m:Method):Bool:=decide (m.maps.length≤5)&&jJ m 0 m.maps
def mP(m:Method):Bool:=
 aY m.name&&decide (m.args.length≤3)&&fV m.ret&&m.args.all fV&&
 decide ((m.args.length:Int)+1≤m.locals)&&decide (m.locals≤6)&&decide (1≤m.stack)&&decide (m.stack≤5)&&codeOk m&&qI m
def bT{α:Type}(name:α→ByteArray)(ok:α→Bool):List α→List ByteArray→Bool
 |[],_=>true
 |x::r,seen=>ok x&& !(seen.any fun y=>decide (y=name x))&&bT name ok r (seen++[name x])
def jU(c:Class):Bool:=
 aY c.name&&(decide (c.aW=none_)|| aY c.aW)&&decide (c.fields.length≤3)&&decide (c.methods.length≤4)&&
 bT Field.name (fun f=>aY f.name&&fV f.kind) c.fields []&&bT Method.name mP c.methods []
def has(p:ai)(k:Int):Bool:=decide (0≤k)&&decide (k<p.length)
def cB(p:ai)(k:jc):Bool:=
 decide (k.owns.length≤5)&&decide (k.asks.length≤4)&&bT Class.name jU k.owns []&&bT Ask.name (fun a=>aY a.name&&has p a.keeper) k.asks []
def dM(p:ai):Bool:=decide (1≤p.length)&&decide (p.length≤3)&&p.all (cB p)
def iq(p:ai)(k:Int):Option jc:=if 0≤k then p[k.toNat]? else none
def nK(p:ai)(r:Ref):Option Nat:=(iq p r.keeper).bind fun k=>k.owns.findIdx? fun c=>c.name=r.name
def cls?(p:ai)(r:Ref):Option Class:=(iq p r.keeper).bind fun k=>k.owns.find? fun c=>c.name=r.name
def sN(p:ai)(k:Int)(n:ByteArray):Option Int:=(iq p k).bind fun q=>(q.asks.find? fun a=>a.name=n).map Ask.keeper
def owned(p:ai)(r:Ref):Bool:=(cls? p r).isSome
def lv:Ref:=⟨0,none_⟩
def gU(p:ai)(n:ByteArray):Nat→List Int→Int→List Int×Int
 |0,_,_=>([],3)
 |f+1,asked,k=>match sN p k n with
  |none=>if owned p ⟨k,n⟩then(asked,1)else([],2)
  |some next=>if asked.contains next then([],3)else gU p n f (asked++[next]) next
def path(p:ai)(k:Int)(n:ByteArray):List Int×Int:=if has p k then gU p n 4 [k] k else([],2)
def resolve(p:ai)(k:Int)(n:ByteArray):Ref×Int:=
 if(path p k n).2=1 then(⟨(path p k n).1.getLastD 0,n⟩,1)else(lv,(path p k n).2)
def aW(p:ai)(r:Ref):ByteArray:=((cls? p r).map Class.aW).getD none_
def bH(p:ai):Nat→Ref→Option (List Ref)
 |0,_=>none
 |f+1,r=>
  if aW p r=none_ then some [r]
  else if(resolve p r.keeper (aW p r)).2=1 then(bH p f (resolve p r.keeper (aW p r)).1).map (r::·)else none
def lQ(p:ai)(r:Ref):Option (List Ref):=bH p 6 r
def find(p:ai)(k:Int)(n:ByteArray):Ref×Int:=
 if(resolve p k n).2=1 then(if(lQ p (resolve p k n).1).isSome then((resolve p k n).1,1)else(lv,4))else(lv,(resolve p k n).2)
def fA(p:ai)(r:Ref):Bool:=decide ((find p r.keeper r.name).2=1)&&decide ((find p r.keeper r.name).1=r)
def chain(p:ai)(r:Ref):List Ref:=if fA p r then(lQ p r).getD []else []
def under(p:ai)(low top:Ref):Bool:=(chain p low).contains top
def agree(p:ai)(a b:Int)(k:Kind):Bool:=
 k.kind==1 || (if(find p a k.name).2=1∧(find p b k.name).2=1 then decide ((find p a k.name).1=(find p b k.name).1)
  else decide ((find p a k.name).2≠1)&&decide ((find p b k.name).2≠1))
def df(p:ai)(a b:Int)(m:Method):Bool:=m.args.all (agree p a b)&&agree p a b m.ret
def jK(c:Class)(n:ByteArray):Option Nat:=c.methods.findIdx? fun m=>m.name=n
def oh(c:Class)(n:ByteArray):Option Nat:=c.fields.findIdx? fun f=>f.name=n
def aaL:Class:=⟨none_,none_,[],[]⟩
def cls(p:ai)(r:Ref):Class:=(cls? p r).getD aaL
def dX(p:ai)(low high:Ref)(m:Method):Bool:=
 match(cls p high).methods.find? (fun n=>n.name=m.name)with
 |none=>true
 |some n=>decide (m.ret=n.ret)&&decide (m.args=n.args)&&df p low.keeper high.keeper m
def iW(p:ai)(low high:Ref):Bool:=
 (cls p low).fields.all (fun f=>(oh (cls p high) f.name).isNone)&&(cls p low).methods.all (dX p low high)
def eQ(p:ai):List Ref→Bool
 |[]=>true
 |low::r=>r.all (iW p low)&&eQ p r
def bI(p:ai)(r:Ref):Bool:= !(chain p r).isEmpty&&eQ p (chain p r)
end Go.Proofs.YtohpiobncgafeaaGreatDoor.M
namespace Go.Proofs.YtohpiobncgafeaaGreatDoor.M
theorem mD{α:Type}{name:α→ByteArray}{ok:α→Bool}:∀{l:List α} {seen:List ByteArray},bT name ok l seen=true→∀x∈l,ok x=true
 |[],_,_=>by simp
 |y::r,seen,h=>by
  unfold bT at h;simp only[Bool.and_eq_true]at h;intro x hx;rcases List.mem_cons.1 hx with rfl|hx
  · exact h.1.1
  · exact mD h.2 x hx
theorem qV{p:ai}(h:dM p=true):1≤p.length∧p.length≤3:=by
 unfold dM at h;simp only[Bool.and_eq_true,decide_eq_true_eq]at h;exact⟨h.1.1,h.1.2⟩
theorem Bw{p:ai}(h:dM p=true){k:Int}{q:jc}(hk:iq p k=some q):cB p q=true:=by
 unfold dM at h;simp only[Bool.and_eq_true]at h;unfold iq at hk;split at hk
 · exact List.all_eq_true.1 h.2 q (List.mem_of_getElem? hk)
 · cases hk
theorem IJ{p:ai}{k:Int}:has p k=true↔0≤k∧k<p.length:=by
 unfold has;simp
theorem GD{p:ai}(kX:dM p=true){k:Int}{n:ByteArray}{q:Int}(h:sN p k n=some q):has p q=true:=by
 unfold sN at h;rw[Option.bind_eq_some_iff]at h;obtain⟨kp,hk,h2⟩:=h;rw[Option.map_eq_some_iff]at h2;obtain⟨a,ha,rfl⟩:=h2;have h3:=Bw kX hk;unfold cB at h3;simp only[Bool.and_eq_true]at h3;have:=mD h3.2 a (List.mem_of_find?_eq_some ha);simp only[Bool.and_eq_true]at this;exact this.2
theorem EZ{p:ai}(r:Ref):(nK p r).isSome=owned p r:=by
 unfold nK owned cls?;cases iq p r.keeper with
 |none=>rfl
 |some q=>
  simp only[Option.bind_some];rw[Bool.eq_iff_iff,List.findIdx?_isSome,List.find?_isSome];simp
theorem uN{p:ai}{r:Ref}{c:Class}(h:cls? p r=some c):∃q i,iq p r.keeper=some q∧nK p r=some i∧q.owns[i]?=some c∧i<q.owns.length:=by
 unfold cls? at h;rw[Option.bind_eq_some_iff]at h;obtain⟨q,hq,h2⟩:=h;have hi:(q.owns.findIdx? fun c=>decide (c.name=r.name)).isSome=true:=by
  rw[List.findIdx?_isSome,List.any_eq_true];exact⟨c,List.mem_of_find?_eq_some h2,by simpa using List.find?_some h2⟩
 obtain⟨i,hi⟩:=Option.isSome_iff_exists.1 hi;refine⟨q,i,hq,by unfold nK;rw[hq];exact hi,?_,?_⟩
 · rw[List.findIdx?_eq_some_iff_getElem]at hi;obtain⟨cK,h3,h4⟩:=hi;rw[List.getElem?_eq_getElem cK];rw[List.find?_eq_some_iff_getElem]at h2;obtain⟨h8,j,hj,h5,h6⟩:=h2;have:i=j:=by
    rcases Nat.lt_trichotomy i j with h|h|h
    · have:=h6 i h;simp only[Bool.not_eq_true']at this;rw[h3]at this;cases this
    · exact h
    · have h9:=h4 j h;rw[h5]at h9;exact absurd h8 h9
   subst this;rw[h5]
 · rw[List.findIdx?_eq_some_iff_getElem]at hi;exact hi.1
theorem Cb{p:ai}{r:Ref}{c:Class}(h:cls? p r=some c):0≤r.keeper∧r.keeper<p.length:=by
 obtain⟨q,i,hq,_⟩:=uN h;unfold iq at hq;split at hq
 · have:=(List.getElem?_eq_some_iff.1 hq).1;omega
 · cases hq
theorem Ki{p:ai}{l:List Int}(hn:l.Nodup)(hh:∀q∈l,has p q=true):l.length≤p.length:=by
 have h1:l ⊆ (List.range p.length).map Int.ofNat:=by
  intro q hq;have:=IJ.1 (hh q hq);exact List.mem_map.2 ⟨q.toNat,List.mem_range.2 (by omega),by simp;omega⟩
 have:=hn.length_le_of_subset h1;simpa using this
theorem uu{p:ai}{n:ByteArray}:∀{f:Nat} {asked:List Int} {k:Int},asked.getLastD 0=k→(gU p n f asked k).2=1→owned p ⟨(gU p n f asked k).1.getLastD 0,n⟩=true
 |0,_,_,_,h=>by simp[gU]at h
 |f+1,asked,k,hl,h=>by
  unfold gU at h ⊢;split at h
  · rename_i h1;split at h
    · rename_i h2;simp only[h2,if_true];rw[hl];exact h2
    · simp at h
  · rename_i next h1
    split at h
    · simp at h
    · rename_i h2;simp only[h2,if_false,Bool.false_eq_true];exact uu (by simp) h
theorem Ho{p:ai}{k:Int}{n:ByteArray}(h:(path p k n).2=1):owned p ⟨(path p k n).1.getLastD 0,n⟩=true:=by
 unfold path at h ⊢;split at h
 · rename_i hk;rw[if_pos hk];exact uu rfl h
 · simp at h
theorem eD{p:ai}{k:Int}{n:ByteArray}(h:(resolve p k n).2=1):∃c,cls? p (resolve p k n).1=some c:=by
 unfold resolve at h ⊢;split at h
 · rename_i hp;rw[if_pos hp];exact Option.isSome_iff_exists.1 (Ho hp)
 · rename_i hp;exact absurd h hp
end Go.Proofs.YtohpiobncgafeaaGreatDoor.M
namespace Go.Proofs.YtohpiobncgafeaaGreatDoor.M
structure jR where
 of:Ref
 at_:Int
def kD(p:ai)(n:ByteArray):List Ref→Option jR
 |[]=>none
 |c::r=>match jK (cls p c) n with
  |some i=>some ⟨c,i⟩
  |none=>kD p n r
def pick(p:ai)(r:Ref)(n:ByteArray):Option jR:=if bI p r then kD p n (chain p r)else none
def aT(p:ai)(k:Int)(n m:ByteArray):Ref×Int:=
 if has p k&&aY n&&aY m then
  (if(find p k n).2=1 then(if bI p (find p k n).1 then((find p k n).1,1)else(lv,4))else(lv,2))
 else(lv,2)
end Go.Proofs.YtohpiobncgafeaaGreatDoor.M
namespace Go.Proofs.YtohpiobncgafeaaGreatDoor.M
structure jw where
 of:Ref
 at_:Int
 kind:Kind
def SV:Kind:=⟨0,none_⟩
def pQ:jw:=⟨lv,0,SV⟩
def bZ(of:Ref):List Field→List jw→List jw
 |[],acc=>acc
 |f::r,acc=>bZ of r (acc++[⟨of,acc.length,f.kind⟩])
def dh(p:ai):List Ref→List jw→List jw
 |[],acc=>acc
 |c::r,acc=>dh p r (bZ c (cls p c).fields acc)
def layout(p:ai)(r:Ref):List jw:=if bI p r then dh p (chain p r).reverse []else []
def gL(p:ai)(of:Ref):List Ref→Nat→Nat
 |[],n=>n
 |c::r,n=>if c=of then n else gL p of r (n+(cls p c).fields.length)
def fQ(p:ai)(of low:Ref):Nat:=gL p of (chain p low).reverse 0
def fieldName(p:ai)(r:Ref)(f:jw):ByteArray:=(((cls p f.of).fields[(f.at_ - fQ p f.of r).toNat]?).map Field.name).getD none_
def mF(p:ai)(k:Int)(m:ByteArray)(r:Ref):List jw→jw×Int
 |[]=>(pQ,3)
 |f::l=>if fieldName p r f=m then(if agree p k f.of.keeper f.kind then(f,1)else(pQ,4))else mF p k m r l
def get(p:ai)(k:Int)(n m:ByteArray):jw×Int:=
 if(aT p k n m).2=1 then mF p k m (aT p k n m).1 (layout p (aT p k n m).1)else(pQ,(aT p k n m).2)
def Q6:Method:=⟨none_,[],SV,0,0,[],[]⟩
def iw:jR:=⟨lv,0⟩
def method?(p:ai)(m:jR):Option Method:=if 0≤m.at_ then(cls p m.of).methods[m.at_.toNat]? else none
def method(p:ai)(m:jR):Method:=(method? p m).getD Q6
def call(p:ai)(k:Int)(n m:ByteArray):jR×Int:=
 if(aT p k n m).2=1 then
  (match pick p (aT p k n m).1 m with
  |none=>(iw,3)
  |some x=>if df p k x.of.keeper (method p x)then(x,1)else(iw,4))
 else(iw,(aT p k n m).2)
def bM(p:ai)(m:jR):Bool:=bI p m.of&&decide (0≤m.at_)&&decide (m.at_ <(cls p m.of).methods.length)
structure gB where
 locals:List Tag
 stack:List Tag
def zP:Tag:=⟨0,none_⟩
def fB:Tag:=⟨1,none_⟩
def Dc:Tag:=⟨3,none_⟩
def dC(n:ByteArray):Tag:=⟨2,n⟩
def dP(k:Kind):Tag:=if fV k then⟨k.kind,k.name⟩else zP
def may(p:ai)(k:Int)(a b:Tag):Bool:=
 if b.kind=0∨a=b then true else if b.kind≠2 then false else if a.kind=3 then true else if a.kind≠2 then false
 else decide ((find p k a.name).2=1)&&decide ((find p k b.name).2=1)&&under p (find p k a.name).1 (find p k b.name).1
def mV(s:gB):Option (Tag×gB):=s.stack.getLast?.map fun t=>(t,⟨s.locals,s.stack.dropLast⟩)
def gG(p:ai)(k:Int)(t:Tag)(s:gB):Option gB:=(mV s).bind fun x=>if may p k x.1 t then some x.2 else none
def qA(s:gB):Option gB:=(mV s).bind fun x=>if x.1.kind=2∨x.1.kind=3 then some x.2 else none
def fF(m:Method)(t:Tag)(s:gB):Option gB:=if m.stack≤s.stack.length then none else some ⟨s.locals,s.stack++[t]⟩
def fU(p:ai)(k:Int):List Tag→List Tag→Bool
 |a::r,b::l=>may p k a b&&fU p k r l
 |_,_=>true
def dZ(p:ai)(k:Int)(s:gB)(f:SMap):Bool:=decide (f.stack.length=s.stack.length)&&fU p k s.locals f.locals&&fU p k s.stack f.stack
def wF(m:Method)(at_:Int):Option SMap:=m.maps.find? fun f=>f.at_=at_
def fw(p:ai)(k:Int)(m:Method)(tgt:Int)(s:gB):Option gB:=
 (wF m tgt).bind fun f=>if dZ p k s f then some s else none
def kg(p:ai)(k:Int)(m:Method)(goes:Bool)(at_:Int)(s:gB):Option gB:=
 match wF m at_ with
 |none=>if goes then some s else none
 |some f=>if goes&& !dZ p k s f then none else some ⟨f.locals,f.stack⟩
def gM(p:ai)(k:Int):List Kind→gB→Option gB
 |[],s=>some s
 |a::r,s=>(gG p k (dP a) s).bind (gM p k r)
def aQ(p:ai)(k:Int)(m:Method)(i:Ins)(s:gB):Option gB:=
 if i.op=1 then fF m fB s
 else if i.op=2 then(s.locals[i.a.toNat]?).bind fun t=>if t.kind=0 then none else fF m t s
 else if i.op=3 then(mV s).map fun x=>⟨x.2.locals.set i.a.toNat x.1,x.2.stack⟩
 else if i.op=4 then(gG p k fB s).bind fun s1=>(gG p k fB s1).bind (fF m fB)
 else if i.op=5 then fF m Dc s
 else if i.op=6 then fF m (dC i.name) s
 else if i.op=7 then(if(get p k i.name i.member).2=1 then(gG p k (dC i.name) s).bind (fF m (dP (get p k i.name i.member).1.kind))else none)
 else if i.op=8 then(if(get p k i.name i.member).2=1 then(gG p k (dP (get p k i.name i.member).1.kind) s).bind (gG p k (dC i.name))else none)
 else if i.op=9 then(if(call p k i.name i.member).2=1 then
     (gM p k (method p (call p k i.name i.member).1).args.reverse s).bind fun s1=>(gG p k (dC i.name) s1).bind (fF m (dP (method p (call p k i.name i.member).1).ret))else none)
 else if i.op=10 then gG p k (dP m.ret) s
 else if i.op=11 then(gG p k fB s).bind (fw p k m i.a)
 else if i.op=12 then(qA s).bind (fw p k m i.a)
 else if i.op=13 then fw p k m i.a s
 else if i.op=14 then gG p k fB s
 else(qA s).bind (fF m (dC i.name))
def fu(p:ai)(k:Int)(m:Method):List Ins→Nat→Bool→gB→List gB→Sum Int (List gB)
 |[],at_,goes,_,known=>if goes then .inl (at_+1)else .inr known
 | i :: r, at_, goes, s, known =>
  match kg p k m goes at_ s with
  |none=>.inl (at_+1)
  |some s1=>match aQ p k m i s1 with
   |none=>.inl (at_+1)
   |some s2=>fu p k m r (at_+1) (decide (i.op≠10)&&decide (i.op≠13)) s2 (known++[s1])
def xL(x:jR)(m:Method):gB:=⟨(dC x.of.name::m.args.map dP)++List.replicate (m.locals.toNat - (m.args.length+1)) zP,[]⟩
def look(p:ai)(x:jR):List gB×Int:=
 match fu p x.of.keeper (method p x) (method p x).code 0 true (xL x (method p x)) []with
 | .inl n=>([],n)
 | .inr l=>(l,0)
def right(p:ai)(x:jR):Bool:=decide ((look p x).2=0)
structure Val where
 kind:Int
 n:Int
theorem Val.fK{a b:Val}:a=b↔a.kind=b.kind∧a.n=b.n:=by
 cases a;cases b;simp
instance:DecidableEq Val:=fun _ _=>decidable_of_iff' _ Val.fK
structure kZ where
 of:Ref
 fields:List Val
structure Fr where
 of:jR
 pc:Int
 locals:List Val
 stack:List Val
structure St where
 status:Int
 frames:List Fr
 heap:List kZ
 outs:List Int
 back:Val
def dE:Val:=⟨0,0⟩
def ja:Val:=⟨3,0⟩
def dY(n:Int):Val:=⟨1,n⟩
def DF:St:=⟨0,[],[],[],dE⟩
def dw(n:Int):Bool:=decide (-9999≤n)&&decide (n≤9999)
def aR(v:Val)(QQ:Nat):Bool:=
 if v.kind=0∨v.kind=3 then decide (v.n=0)else if v.kind=1 then dw v.n else if v.kind=2 then decide (0≤v.n)&&decide (v.n<QQ)else false
def gm(p:ai)(h:List kZ):Bool:=
 decide (h.length≤12)&&h.all fun o=>bI p o.of&&decide (o.fields.length=(layout p o.of).length)&&o.fields.all (aR · h.length)
def mY(h:List kZ)(n:Int):Ref:=((h[n.toNat]?).map kZ.of).getD lv
def hasType(p:ai)(k:Int)(h:List kZ)(v:Val)(t:Kind):Bool:=
 if t.kind=1 then decide (v.kind=1)else if v.kind=3 then true else if v.kind≠2 then false
 else decide ((find p k t.name).2=1)&&under p (mY h v.n) (find p k t.name).1
def cZ(p:ai)(f:Fr)(QQ:Nat):Bool:=
 bM p f.of&&decide (0≤f.pc)&&decide (f.pc<(method p f.of).code.length)&&decide ((f.locals.length:Int)=(method p f.of).locals)&&
 decide ((f.stack.length:Int)≤(method p f.of).stack)&&f.locals.all (aR · QQ)&&f.stack.all (aR · QQ)
def zL(p:ai)(s:St):Bool:=
 decide (1≤s.status)&&decide (s.status≤10)&&decide (s.heap.length≤12)&&decide (s.outs.length≤40)&&decide (s.frames.length≤8)&&
 (decide (0<s.frames.length)==decide (s.status=1))&&s.outs.all dw&&s.frames.all (cZ p · s.heap.length)&&gm p s.heap&&aR s.back s.heap.length
def BG(s:St)(f:Fr→Fr):St:={s with frames:=s.frames.dropLast++(s.frames.getLast?.map f).toList}
def top(s:St):Fr:=s.frames.getLastD ⟨iw,0,[],[]⟩
def jump(p:ai)(tgt:Int)(s:St):Int×St:=
 if((method p (top s).of).code.length:Int)≤tgt then(10,s)else(1,BG s fun f=>{f with pc:=tgt})
def next(p:ai)(s:St):Int×St:=jump p ((top s).pc+1) s
def push(p:ai)(v:Val)(s:St):Int×St:=
 if(method p (top s).of).stack≤(top s).stack.length then(10,s)else next p (BG s fun f=>{f with stack:=f.stack++[v]})
def gp(c:Nat)(s:St):Option (List Val×St):=
 if(top s).stack.length<c then none
 else some ((top s).stack.drop ((top s).stack.length - c),BG s fun f=>{f with stack:=f.stack.take (f.stack.length - c)})
def pop(s:St):Option (Val×St):=(gp 1 s).map fun x=>(x.1.headD dE,x.2)
def iO(p:ai)(n:ByteArray)(s:St):Ref×Bool:=
 ((find p (top s).of.of.keeper n).1,decide ((find p (top s).of.of.keeper n).2=1)&&bI p (find p (top s).of.of.keeper n).1)
def fresh(p:ai)(r:Ref):kZ:=⟨r,(layout p r).map fun f=>if f.kind.kind=1 then dY 0 else ja⟩
def create(p:ai)(r:Ref)(s:St):Val×St:=(⟨2,s.heap.length⟩,{s with heap:=s.heap++[fresh p r]})
def object(p:ai)(v:Val)(t:Ref)(s:St):Int:=
 if v.kind=3 then 3 else if v.kind≠2 then 10 else if under p (mY s.heap v.n) t then 1 else 10
def gY(p:ai)(k:Int)(h:List kZ):List Val→List Kind→Bool
 |v::r,t::l=>hasType p k h v t&&gY p k h r l
 |_,_=>true
def enter(p:ai)(lk:Bool)(x:jR)(vs:List Val)(s:St):Int×St:=
 if 8≤s.frames.length then(7,s)
 else if lk&& !right p x then(5,s)
 else if gY p x.of.keeper s.heap vs (⟨2,x.of.name⟩::(method p x).args)then
  (1,{s with frames:=s.frames++[⟨x,0,vs++List.replicate ((method p x).locals.toNat - vs.length) dE,[]⟩]})
 else(10,s)
def end_(c:Int)(s:St):St:=if c=1 then s else{s with status:=c,frames:=[]}
def iR(h:List kZ)(n:Int):List Val:=((h[n.toNat]?).map kZ.fields).getD []
def gu(h:List kZ)(n a:Int)(v:Val):List kZ:=h.modify n.toNat fun o=>{o with fields:=o.fields.set a.toNat v}
def aB (p : ai) (lk : Bool) (i : Ins) (s : St) : Int × St :=
 if i.op=1 then push p (dY i.a) s
 else if i.op=2 then(if(((top s).locals[i.a.toNat]?).getD dE).kind=0 then(10,s)else push p (((top s).locals[i.a.toNat]?).getD dE) s)
 else if i.op=3 then(match pop s with
  |none=>(10,s)
  |some (v,s1)=>next p (BG s1 fun f=>{f with locals:=f.locals.set i.a.toNat v}))
 else if i.op=4 then(match gp 2 s with
  |some ([a,b],s1)=>if a.kind=1∧b.kind=1 then(if dw (a.n+b.n)then push p (dY (a.n+b.n)) s1 else(9,s1))else(10,s1)
  |_=>(10,s))
 else if i.op=5 then push p ja s
 else if i.op=6 then(if(iO p i.name s).2 then(if 12≤s.heap.length then(8,s)else push p (create p (iO p i.name s).1 s).1 (create p (iO p i.name s).1 s).2)else(4,s))
 else if i.op = 7 then (if (get p (top s).of.of.keeper i.name i.member).2 = 1 then
     (match pop s with
     |none=>(10,s)
     | some (v, s1) =>
      if object p v (get p (top s).of.of.keeper i.name i.member).1.of s1=1 then
       push p (((iR s1.heap v.n)[(get p (top s).of.of.keeper i.name i.member).1.at_.toNat]?).getD dE) s1
      else(object p v (get p (top s).of.of.keeper i.name i.member).1.of s1,s1))
  else(4,s))
 else if i.op = 8 then (if (get p (top s).of.of.keeper i.name i.member).2 = 1 then
     (match gp 2 s with
     | some ([o, v], s1) =>
      if hasType p (get p (top s).of.of.keeper i.name i.member).1.of.keeper s1.heap v (get p (top s).of.of.keeper i.name i.member).1.kind then
       (if object p o (get p (top s).of.of.keeper i.name i.member).1.of s1=1 then
        next p {s1 with heap:=gu s1.heap o.n (get p (top s).of.of.keeper i.name i.member).1.at_ v}
       else(object p o (get p (top s).of.of.keeper i.name i.member).1.of s1,s1))
      else(10,s1)
     |_=>(10,s))
  else(4,s))
 else if i.op = 9 then (if (call p (top s).of.of.keeper i.name i.member).2 = 1 then
     (match gp ((method p (call p (top s).of.of.keeper i.name i.member).1).args.length+1) s with
     | some (vs, s1) =>
      if object p (vs.headD dE) (call p (top s).of.of.keeper i.name i.member).1.of s1=1 then
       (match pick p (mY s1.heap (vs.headD dE).n) i.member with
       |some x=>enter p lk x vs s1
       |none=>(10,s1))
      else(object p (vs.headD dE) (call p (top s).of.of.keeper i.name i.member).1.of s1,s1)
     |none=>(10,s))
  else(4,s))
 else if i.op = 10 then (match pop s with
  |none=>(10,s)
  |some (v,s1)=>if hasType p (top s).of.of.keeper s1.heap v (method p (top s).of).ret then
      (if s1.frames.length=1 then(2,{s1 with back:=v})else push p v {s1 with frames:=s1.frames.dropLast})
   else(10,s1))
 else if i.op=11 then(match pop s with
  |none=>(10,s)
  |some (v,s1)=>if v.kind=1 then(if v.n=0 then jump p i.a s1 else next p s1)else(10,s1))
 else if i.op=12 then(match pop s with
  |none=>(10,s)
  |some (v,s1)=>if v.kind=2∨v.kind=3 then(if v.kind=3 then jump p i.a s1 else next p s1)else(10,s1))
 else if i.op=13 then jump p i.a s
 else if i.op=14 then(match pop s with
  |none=>(10,s)
  |some (v,s1)=>if v.kind=1 then next p (if s1.outs.length<40 then{s1 with outs:=s1.outs++[v.n]}else s1)else(10,s1))
 else (match pop s with
  |none=>(10,s)
  |some (v,s1)=>if v.kind=2∨v.kind=3 then
      (if v.kind=3 then push p v s1
      else if(iO p i.name s1).2 then(if under p (mY s1.heap v.n) (iO p i.name s1).1 then push p v s1 else(6,s1))else(4,s1))
   else(10,s1))
def ac1:Ins:=⟨0,0,none_,none_⟩
def stepped(p:ai)(lk:Bool)(s:St):Int×St:=aB p lk (((method p (top s).of).code[(top s).pc.toNat]?).getD ac1) s
def step(p:ai)(lk:Bool)(s:St):St:=if s.status=1 then end_ (stepped p lk s).1 (stepped p lk s).2 else s
def steps(p:ai)(lk:Bool):Nat→St→St
 |0,s=>s
 |f+1,s=>if s.status=1 then steps p lk f (step p lk s)else s
def ic(m:Method)(args:List Int):Bool:=decide (m.args.length=args.length)&&m.args.all fun k=>decide (k.kind=1)
def ik:St:=⟨4,[],[],[],dE⟩
def start (p : ai) (lk : Bool) (k : Int) (n m : ByteArray) (args : List Int) : St :=
 if (find p k n).2 = 1 ∧ bI p (find p k n).1 = true then
  (if(call p k n m).2=1∧ic (method p (call p k n m).1) args=true then
   end_ (enter p lk (call p k n m).1 (⟨2,0⟩::args.map dY) ⟨1,[],[fresh p (find p k n).1],[],dE⟩).1
    (enter p lk (call p k n m).1 (⟨2,0⟩::args.map dY) ⟨1,[],[fresh p (find p k n).1],[],dE⟩).2
  else ik)
 else ik
def jO(p:ai)(lk:Bool)(k:Int)(n m:ByteArray)(args:List Int):St:=
 if dM p&&has p k&&aY n&&aY m&&args.all dw then start p lk k n m args else DF
def mR(p:ai)(lk:Bool)(s:St)(fuel:Int):St:=
 if decide (fuel≤400)&&dM p&&zL p s then steps p lk fuel.toNat s else DF
def classes(p:ai):List Ref:=
 (List.range p.length).flatMap fun k=>(((p[k]?).map fun q=>q.owns.map fun c=>(⟨k,c.name⟩:Ref)).getD []).filter fun r=>decide (0<(chain p r).length)
end Go.Proofs.YtohpiobncgafeaaGreatDoor.M
namespace Go.Proofs.YtohpiobncgafeaaGreatDoor.M
theorem nY{p:ai}:∀(f:Nat) (r:Ref) (l:List Ref),bH p f r=some l→∃t,l=r::t:=by
 intro f;cases f with
 |zero=>intro r l h;simp[bH]at h
 |succ f=>
  intro r l h;unfold bH at h;split at h
  · cases h;exact⟨[],rfl⟩
  · split at h
    · cases hg:bH p f (resolve p r.keeper (aW p r)).1 with
      |none=>rw[hg]at h;simp at h
      |some rs=>rw[hg]at h;simp at h;exact⟨rs,h.symm⟩
    · cases h
theorem nZ {p : ai} : ∀ (f : Nat) (r : Ref) (l : List Ref), bH p f r = some l → ∀ g, l.length ≤ g → bH p g r = some l := by
 intro f;induction f with
 |zero=>intro r l h;simp[bH]at h
 | succ f ih =>
  intro r l h g hg;obtain⟨t,rfl⟩:=nY _ _ _ h;cases g with
  |zero=>simp at hg
  |succ g=>
   unfold bH at h ⊢;split at h
   · rename_i h1;rw[if_pos h1];exact h
   · rename_i h1;rw[if_neg h1];split at h
     · rename_i h2;rw[if_pos h2];cases hc:bH p f (resolve p r.keeper (aW p r)).1 with
       |none=>rw[hc]at h;simp at h
       |some rs=>
        rw[hc]at h;simp at h;subst h;rw[ih _ _ hc g (by simp at hg;omega)];simp
     · cases h
theorem lS {p : ai} : ∀ (f : Nat) (r : Ref) (l : List Ref), bH p f r = some l → ∀ i x, l[i]? = some x → ∃ g, bH p g x = some (l.drop i) := by
 intro f;induction f with
 |zero=>intro r l h;simp[bH]at h
 | succ f ih =>
  intro r l h i x hx;cases i with
  |zero=>
   obtain⟨t,rfl⟩:=nY _ _ _ h;simp at hx;subst hx;exact⟨f+1,h⟩
  |succ i=>
   unfold bH at h;split at h
   · cases h;simp at hx
   · split at h
     · cases hc:bH p f (resolve p r.keeper (aW p r)).1 with
       |none=>rw[hc]at h;simp at h
       |some rs=>
        rw[hc]at h;simp at h;subst h;simpa using ih _ _ hc i x (by simpa using hx)
     · cases h
theorem vR{p:ai}{f g:Nat}{r:Ref}{a b:List Ref}(ha:bH p f r=some a)(hb:bH p g r=some b):a=b:=by
 have h1:=nZ _ _ _ ha (max a.length b.length) (Nat.le_max_left _ _);have h2:=nZ _ _ _ hb (max a.length b.length) (Nat.le_max_right _ _);rw[h1]at h2;exact Option.some.inj h2
theorem Al{p:ai}(f:Nat)(r:Ref)(l:List Ref)(h:bH p f r=some l):l.Nodup:=by
 refine List.pairwise_iff_getElem.2 ?_;intro i j hi hj hij he;obtain⟨g1,e1⟩:=lS _ _ _ h i l[i] (List.getElem?_eq_getElem hi);obtain⟨g2,e2⟩:=lS _ _ _ h j l[i] (by rw[he];exact List.getElem?_eq_getElem hj);have:=congrArg List.length (vR e1 e2);simp at this;omega
theorem Kj{α:Type}{l:List α}(h:l.Nodup):l.reverse.Nodup:=
 List.pairwise_reverse.2 (h.imp fun h=>fun e=>h e.symm)
theorem vP(p:ai)(r:Ref):(chain p r).Nodup:=by
 unfold chain;split
 · unfold lQ;cases h:bH p 6 r with
   |none=>simp
   |some l=>exact Al _ _ _ h
 · simp
theorem vQ{p:ai}:∀(f:Nat) (r:Ref) (l:List Ref),bH p f r=some l→l.length≤f:=by
 intro f;induction f with
 |zero=>intro r l h;simp[bH]at h
 |succ f ih=>
  intro r l h;unfold bH at h;split at h
  · cases h;simp
  · split at h
    · cases hc:bH p f (resolve p r.keeper (aW p r)).1 with
      |none=>rw[hc]at h;simp at h
      |some rs=>rw[hc]at h;simp at h;subst h;have:=ih _ _ hc;simp;omega
    · cases h
theorem nA(p:ai)(r:Ref):(chain p r).length≤6:=by
 unfold chain;split
 · unfold lQ;cases h:bH p 6 r with
   |none=>simp
   |some l=>exact vQ _ _ _ h
 · simp
theorem kG(c:Ref):∀(fs:List Field) (acc:List jw),(bZ c fs acc).length=acc.length+fs.length:=by
 intro fs;induction fs with
 |nil=>intro acc;rfl
 |cons f r ih=>intro acc;unfold bZ;rw[ih];simp;omega
theorem BZ(c:Ref):∀(fs:List Field) (acc:List jw) (i:Nat) (f:jw),(bZ c fs acc)[i]?=some f→
    acc[i]?=some f∨∃j fd,fs[j]?=some fd∧i=acc.length+j∧f=⟨c,i,fd.kind⟩:=by
 intro fs;induction fs with
 |nil=>intro acc i f h;exact .inl h
 |cons fd r ih=>
  intro acc i f h;unfold bZ at h;rcases ih _ _ _ h with h1|⟨j,fd',h1,h2,h3⟩
  · rcases Nat.lt_or_ge i acc.length with hi|hi
    · rw[List.getElem?_append_left hi]at h1;exact .inl h1
    · rw[List.getElem?_append_right hi]at h1;have hz:i - acc.length=0:=by
       rcases Nat.eq_zero_or_pos (i - acc.length)with h0|h0
       · exact h0
       · rw[List.getElem?_eq_none (by simp;omega)]at h1;cases h1
      rw[hz]at h1;simp at h1;refine .inr ⟨0,fd,rfl,by omega,?_⟩;rw[←h1,show i=acc.length by omega]
  · exact .inr ⟨j+1,fd',by simpa using h1,by simp at h2;omega,h3⟩
theorem Ak(c:Ref):∀(fs:List Field) (acc:List jw),∃t,bZ c fs acc=acc++t:=by
 intro fs;induction fs with
 |nil=>intro acc;exact⟨[],by simp[bZ]⟩
 |cons fd r ih=>
  intro acc;unfold bZ;obtain⟨t,e⟩:=ih (acc++[⟨c,acc.length,fd.kind⟩]);exact⟨_,by rw[e,List.append_assoc]⟩
theorem CO(p:ai):∀(L:List Ref) (acc:List jw),∃t,dh p L acc=acc++t:=by
 intro L;induction L with
 |nil=>intro acc;exact⟨[],by simp[dh]⟩
 |cons c r ih=>
  intro acc;unfold dh;obtain⟨t,e⟩:=ih (bZ c (cls p c).fields acc);obtain⟨t',e'⟩:=Ak c (cls p c).fields acc;exact⟨t'++t,by rw[e,e',List.append_assoc]⟩
theorem pE(p:ai):∀(L K:List Ref) (acc:List jw),dh p (L++K) acc=dh p K (dh p L acc):=by
 intro L;induction L with
 |nil=>intro K acc;rfl
 |cons c r ih=>intro K acc;simp only[List.cons_append,dh];rw[ih]
theorem EC(p:ai):∀(L:List Ref) (acc:List jw),L.Nodup→∀(i:Nat) (f:jw),(dh p L acc)[i]?=some f→
    acc[i]?=some f∨∃c∈L,∃j fd,(cls p c).fields[j]?=some fd∧i=gL p c L acc.length+j∧f=⟨c,i,fd.kind⟩:=by
 intro L;induction L with
 |nil=>intro acc _ i f h;exact .inl h
 |cons c r ih=>
  intro acc hn i f h;unfold dh at h;rw[List.nodup_cons]at hn;rcases ih _ hn.2 _ _ h with h1|⟨c',sH,j,fd,h1,h2,h3⟩
  · rcases BZ _ _ _ _ _ h1 with h1|⟨j,fd,h1,h2,h3⟩
    · exact .inl h1
    · exact .inr ⟨c,by simp,j,fd,h1,by simp[gL];exact h2,h3⟩
  · refine .inr ⟨c',by simp[sH],j,fd,h1,?_,h3⟩;unfold gL;rw[if_neg (by rintro rfl;exact hn.1 sH),←kG];exact h2
theorem uY{p:ai}{r:Ref}{i:Nat}{f:jw}(h:(layout p r)[i]?=some f):
    bI p r=true∧f.of∈chain p r∧f.at_=i∧∃j fd,(cls p f.of).fields[j]?=some fd∧i=fQ p f.of r+j∧f.kind=fd.kind:=by
 unfold layout at h;split at h
 · rename_i hc;rcases EC p _ _ (Kj (vP p r)) _ _ h with h1|⟨c,sH,j,fd,h1,h2,rfl⟩
   · simp at h1
   · exact⟨hc,List.mem_reverse.1 sH,rfl,j,fd,h1,h2,rfl⟩
 · simp at h
theorem Ck{p:ai}{r:Ref}{f:jw}{j:Nat}{fd:Field}(h1:(cls p f.of).fields[j]?=some fd)(h2:f.at_=((fQ p f.of r+j:Nat):Int)):
    fieldName p r f=fd.name:=by
 unfold fieldName;rw[show(f.at_ - fQ p f.of r).toNat=j by omega,h1];rfl
end Go.Proofs.YtohpiobncgafeaaGreatDoor.M
namespace Go.Proofs.YtohpiobncgafeaaGreatDoor.M
theorem zn{p:ai}{n:ByteArray}:∀{f:Nat} {asked:List Int} {k:Int},asked.getLastD 0=k→(gU p n f asked k).2=1→
    sN p ((gU p n f asked k).1.getLastD 0) n=none
 |0,_,_,_,h=>by simp[gU]at h
 |f+1,asked,k,hl,h=>by
  unfold gU at h ⊢;split at h
  · rename_i h1;split at h
    · rename_i h2;simp only[h2,if_true];rw[hl];exact h1
    · simp at h
  · rename_i next h1
    split at h
    · simp at h
    · rename_i h2;simp only[h2,if_false,Bool.false_eq_true];exact zn (by simp) h
theorem Dh{p:ai}{k:Int}{n:ByteArray}(h:(resolve p k n).2=1):(resolve p k n).1.name=n∧(path p k n).2=1∧(resolve p k n).1.keeper=(path p k n).1.getLastD 0:=by
 unfold resolve at h ⊢;split at h
 · rename_i hp;rw[if_pos hp];exact⟨rfl,hp,rfl⟩
 · rename_i hp;exact absurd h hp
theorem Di{p:ai}{k:Int}{n:ByteArray}(h:(resolve p k n).2=1):resolve p (resolve p k n).1.keeper (resolve p k n).1.name=((resolve p k n).1,1):=by
 obtain⟨h1,h2,h3⟩:=Dh h;obtain⟨c,hc⟩:=eD h;have hb:=Cb hc;have ha:sN p (resolve p k n).1.keeper (resolve p k n).1.name=none:=by
  rw[h1,h3];unfold path at h2 ⊢;split at h2
  · rename_i hk;rw[if_pos hk];exact zn rfl h2
  · simp at h2
 have hp:path p (resolve p k n).1.keeper (resolve p k n).1.name=([(resolve p k n).1.keeper],1):=by
  unfold path;rw[if_pos (IJ.2 hb)];unfold gU;rw[ha];simp only;rw[if_pos (by unfold owned;show(cls? p (resolve p k n).1).isSome=true;rw[hc];rfl)]
 generalize (resolve p k n).1=x at hp;unfold resolve;rw[hp];rfl
theorem EF{p:ai}{x:Ref}(h:resolve p x.keeper x.name=(x,1))(hc:∃g l,bH p g x=some l∧l.length≤6):fA p x=true∧∃g l,bH p g x=some l∧chain p x=l:=by
 obtain⟨g,l,h1,h2⟩:=hc;have h6:lQ p x=some l:=nZ _ _ _ h1 6 h2;have hl:fA p x=true:=by
  unfold fA find;rw[h];simp[h6]
 exact⟨hl,g,l,h1,by unfold chain;rw[if_pos hl,h6];rfl⟩
theorem kr{p:ai}{r:Ref}(h:fA p r=true):resolve p r.keeper r.name=(r,1)∧∃l,lQ p r=some l∧chain p r=l:=by
 have h0:=h;unfold fA find at h;by_cases hc:(resolve p r.keeper r.name).2=1
 · rw[if_pos hc]at h;split at h
   · rename_i h2;simp at h;have e:resolve p r.keeper r.name=(r,1):=Prod.ext h hc;rw[e]at h2;obtain⟨l,hl⟩:=Option.isSome_iff_exists.1 h2;exact⟨e,l,hl,by unfold chain;rw[if_pos h0,hl];rfl⟩
   · simp at h
 · rw[if_neg hc]at h;simp at h;exact absurd h.1 hc
theorem uM{p:ai}:∀(f:Nat) (r:Ref) (l:List Ref),bH p f r=some l→resolve p r.keeper r.name=(r,1)→∀x∈l,resolve p x.keeper x.name=(x,1):=by
 intro f;induction f with
 |zero=>intro r l h;simp[bH]at h
 |succ f ih=>
  intro r l h hr x hx;unfold bH at h;split at h
  · cases h;simp at hx;subst hx;exact hr
  · split at h
    · rename_i h2;cases hc:bH p f (resolve p r.keeper (aW p r)).1 with
      |none=>rw[hc]at h;simp at h
      |some rs=>
       rw[hc]at h;simp at h;subst h;rcases List.mem_cons.1 hx with rfl|hx
       · exact hr
       · exact ih _ _ hc (Di h2) x hx
    · cases h
theorem nC{p:ai}{r x:Ref}(h:x∈chain p r):fA p x=true∧∃pre,chain p r=pre++chain p x:=by
 have hl:fA p r=true:=by
  unfold chain at h;split at h
  · rename_i h1;exact h1
  · simp at h
 obtain⟨e,l,h1,h2⟩:=kr hl;rw[h2]at h ⊢;obtain⟨i,hi⟩:=List.getElem?_of_mem h;obtain⟨g,hg⟩:=lS _ _ _ h1 i x hi;have h6:=vQ _ _ _ h1;obtain⟨a,g',l',b1,b2⟩:=EF (uM _ _ _ h1 e x h) ⟨g,_,hg,by simp;omega⟩;refine⟨a,l.take i,?_⟩;rw[b2,vR b1 hg,List.take_append_drop]
theorem nX{p:ai}{r:Ref}(h:fA p r=true):∃t,chain p r=r::t:=by
 obtain⟨e,l,h1,h2⟩:=kr h;rw[h2];exact nY _ _ _ h1
theorem fJ{p:ai}{r x:Ref}(h:x∈chain p r):∃c,cls? p x=some c:=by
 obtain⟨e,_⟩:=kr (nC h).1;have:=eD (p:=p) (k:=x.keeper) (n:=x.name) (by rw[e]);rwa[e]at this
def tu(p:ai)(r:Ref):Nat:=(dh p (chain p r).reverse []).length
theorem tZ(p:ai):∀(L:List Ref) (acc:List jw),(dh p L acc).length=acc.length+(L.map fun c=>(cls p c).fields.length).sum:=by
 intro L;induction L with
 |nil=>intro acc;simp[dh]
 |cons c r ih=>intro acc;unfold dh;rw[ih,kG];simp;omega
theorem Cm(p:ai)(c:Ref):∀(L K:List Ref) (n:Nat),c ∉ L→gL p c (L++c::K) n=n+(L.map fun c=>(cls p c).fields.length).sum:=by
 intro L;induction L with
 |nil=>intro K n _;simp[gL]
 |cons d r ih=>
  intro K n h;simp only[List.mem_cons,not_or]at h;simp only[List.cons_append,gL];rw[if_neg (fun e=>h.1 e.symm),ih _ _ h.2];simp;omega
theorem CP{p:ai}{r:Ref}{i:Nat}{f:jw}(h:(layout p r)[i]?=some f):i<tu p f.of:=by
 obtain⟨_,hm,_,j,fd,h1,h2,_⟩:=uY h;obtain⟨hl,pre,hp⟩:=nC hm;obtain⟨t,ht⟩:=nX hl;have hn:=vP p f.of;rw[ht,List.nodup_cons]at hn;have e:fQ p f.of r=((t.reverse).map fun c=>(cls p c).fields.length).sum:=by
  unfold fQ;rw[hp,ht,List.reverse_append,List.reverse_cons,List.append_assoc,List.singleton_append,Cm _ _ _ _ _ (by simpa using hn.1),Nat.zero_add]
 have hj:=(List.getElem?_eq_some_iff.1 h1).1;unfold tu;rw[tZ,ht,List.reverse_cons,List.map_append,List.sum_append];simp;rw[e]at h2;simp at h2;omega
theorem Fb{p:ai}{low top:Ref}(hc:bI p low=true)(h:under p low top=true):tu p top≤(layout p low).length:=by
 unfold under at h;obtain⟨_,pre,hp⟩:=nC (by simpa using h);unfold layout tu;rw[if_pos hc,hp,List.reverse_append,pE];obtain⟨t,e⟩:=CO p pre.reverse (dh p (chain p top).reverse []);rw[e];simp
theorem sQ{p:ai}{r:Ref}(h:bI p r=true):fA p r=true∧r∈chain p r:=by
 have hl:fA p r=true:=by
  unfold bI at h;cases hl:fA p r
  · unfold chain at h;rw[hl]at h;simp at h
  · rfl
 obtain⟨t,e⟩:=nX hl;exact⟨hl,by rw[e];simp⟩
theorem vU{p:ai}{k:Int}{m:ByteArray}{r:Ref}:∀{l:List jw},(mF p k m r l).2=1→(mF p k m r l).1∈l
 |[],h=>by simp[mF]at h
 |f::l,h=>by
  unfold mF at h ⊢;split at h
  · rename_i h1;rw[if_pos h1];split at h
    · rename_i h2;rw[if_pos h2];simp
    · simp at h
  · rename_i h1;rw[if_neg h1];exact List.mem_cons_of_mem _ (vU h)
theorem Jw{p:ai}{k:Int}{n m:ByteArray}(h:(get p k n m).2=1):∃(r:Ref) (i:Nat),(layout p r)[i]?=some (get p k n m).1:=by
 unfold get at h ⊢;split at h
 · rename_i h1;rw[if_pos h1];obtain⟨i,hi⟩:=List.getElem?_of_mem (vU h);exact⟨_,i,hi⟩
 · rename_i h1;exact absurd h h1
theorem Jv{p:ai}{k:Int}{n m:ByteArray}(h:(get p k n m).2=1){o:Ref}(hc:bI p o=true)(hu:under p o (get p k n m).1.of=true):
    0≤(get p k n m).1.at_∧(get p k n m).1.at_.toNat<(layout p o).length:=by
 obtain⟨r,i,hi⟩:=Jw h;have h1:=(uY hi).2.2.1;have h2:=CP hi;have h3:=Fb hc hu;omega
theorem lG{p:ai}{n:ByteArray}:∀{l:List Ref} {x:jR},kD p n l=some x→x.of∈l∧∃i:Nat,x.at_=i∧jK (cls p x.of) n=some i
 |[],x,h=>by simp[kD]at h
 |c::r,x,h=>by
  unfold kD at h;split at h
  · rename_i i hi;cases h;exact⟨by simp,i,rfl,hi⟩
  · obtain⟨h1,h2⟩:=lG h;exact⟨List.mem_cons_of_mem _ h1,h2⟩
theorem r9{p:ai}{r:Ref}{n:ByteArray}{x:jR}(h:pick p r n=some x):bI p r=true∧x.of∈chain p r∧∃i c m,x.at_=(i:Nat)∧cls? p x.of=some c∧c.methods[i]?=some m∧m.name=n∧method? p x=some m:=by
 unfold pick at h;split at h
 · rename_i hc;obtain⟨h1,i,h2,h3⟩:=lG h;obtain⟨c,ek⟩:=fJ h1;have e:cls p x.of=c:=by unfold cls;rw[ek];rfl
   rw[e]at h3;unfold jK at h3;rw[List.findIdx?_eq_some_iff_getElem]at h3;obtain⟨cK,h4,_⟩:=h3;exact⟨hc,h1,i,c,c.methods[i],h2,ek,List.getElem?_eq_getElem cK,by simpa using h4,by
    unfold method?;rw[h2,if_pos (Int.natCast_nonneg i),e];exact List.getElem?_eq_getElem cK⟩
 · cases h
theorem jY{p:ai}{k:Int}{n m:ByteArray}(h:(call p k n m).2=1):∃r,pick p r m=some (call p k n m).1:=by
 unfold call at h ⊢;split at h
 · rename_i h1;rw[if_pos h1];cases hp:pick p (aT p k n m).1 m with
   |none=>rw[hp]at h;simp at h
   |some x=>
    rw[hp]at h;refine⟨_,hp.trans ?_⟩;simp only at h ⊢;split at h
    · rename_i h2;rw[if_pos h2]
    · simp at h
 · rename_i h1;exact absurd h h1
theorem o9{p:ai}{x:jR}(h:bM p x=true):bI p x.of=true∧∃i c m,x.at_=(i:Nat)∧cls? p x.of=some c∧c.methods[i]?=some m∧method? p x=some m:=by
 unfold bM at h;simp only[Bool.and_eq_true,decide_eq_true_eq]at h;obtain⟨⟨h1,h2⟩,h3⟩:=h;obtain⟨c,ek⟩:=fJ (sQ h1).2;have e:cls p x.of=c:=by unfold cls;rw[ek];rfl
 rw[e]at h3;have cK:x.at_.toNat<c.methods.length:=by omega
 exact⟨h1,x.at_.toNat,c,c.methods[x.at_.toNat],by omega,ek,List.getElem?_eq_getElem cK,by
  unfold method?;rw[if_pos h2,e];exact List.getElem?_eq_getElem cK⟩
end Go.Proofs.YtohpiobncgafeaaGreatDoor.M
namespace Go.Proofs.YtohpiobncgafeaaGreatDoor.M
structure Good(p:ai)(s:St):Prop where
 heap:gm p s.heap=true
 frames:∀f∈s.frames,cZ p f s.heap.length=true
 nf:s.frames.length≤8
 outs:s.outs.length≤40
 ky:∀n∈s.outs,dw n=true
 back:aR s.back s.heap.length=true
theorem aF{p:ai}{f:Fr}{n:Nat}:cZ p f n=true↔bM p f.of=true∧0≤f.pc∧f.pc<(method p f.of).code.length∧(f.locals.length:Int)=(method p f.of).locals∧
    (f.stack.length:Int)≤(method p f.of).stack∧(∀v∈f.locals,aR v n=true)∧(∀v∈f.stack,aR v n=true):=by
 unfold cZ;simp only[Bool.and_eq_true,decide_eq_true_eq,List.all_eq_true,and_assoc]
theorem eT{p:ai}{h:List kZ}:gm p h=true↔h.length≤12∧∀o∈h,bI p o.of=true∧o.fields.length=(layout p o.of).length∧∀v∈o.fields,aR v h.length=true:=by
 unfold gm;simp only[Bool.and_eq_true,decide_eq_true_eq,List.all_eq_true,and_assoc]
theorem oW{v:Val}{n m:Nat}(h:aR v n=true)(CE:n≤m):aR v m=true:=by
 unfold aR at*;split at h
 · rename_i h1;rw[if_pos h1];exact h
 · rename_i h1;rw[if_neg h1];split at h
   · rename_i h2;rw[if_pos h2];exact h
   · rename_i h2;rw[if_neg h2];split at h
     · rename_i h3;rw[if_pos h3];simp only[Bool.and_eq_true,decide_eq_true_eq]at*;omega
     · cases h
theorem kF{v:Val}{n:Nat}(h:aR v n=true)(hk:v.kind=2):0≤v.n∧v.n<n:=by
 unfold aR at h;rw[hk]at h;simpa using h
theorem rq{v:Val}{n:Nat}(h:aR v n=true)(hk:v.kind=1): -9999≤v.n∧v.n≤9999:=by
 unfold aR dw at h;rw[hk]at h;simpa using h
theorem sD(n:Nat):aR ja n=true:=by simp[aR,ja]
theorem Ht(n:Nat):aR dE n=true:=by simp[aR,dE]
theorem gV{k:Int}(n:Nat)(h:dw k=true):aR (dY k) n=true:=by
 unfold aR dY;simpa using h
theorem uC{k:Int}(n:Nat)(h1:0≤k)(h2:k<n):aR ⟨2,k⟩ n=true:=by
 unfold aR;simp;omega
theorem sw{s:St}{r:List Fr}{t:Fr}(h:s.frames=r++[t]):top s=t:=by unfold top;rw[h];simp
theorem kU{s:St}{r:List Fr}{t:Fr}(h:s.frames=r++[t])(f:Fr→Fr):BG s f={s with frames:=r++[f t]}:=by unfold BG;rw[h];simp
theorem Gu{s:St}(h:s.frames≠[]):∃r t,s.frames=r++[t]:=⟨s.frames.dropLast,s.frames.getLast h,(List.dropLast_concat_getLast h).symm⟩
section
variable {p:ai} {s:St} {r:List Fr} {t:Fr}
theorem Good.top(hG:Good p s)(h:s.frames=r++[t]):cZ p t s.heap.length=true:=hG.frames t (by rw[h];simp)
theorem Good.turn(hG:Good p s)(h:s.frames=r++[t]){t':Fr}(ht:cZ p t' s.heap.length=true):Good p {s with frames:=r++[t']}:=by
 refine⟨hG.heap,?_,?_,hG.outs,hG.ky,hG.back⟩
 · intro f hf;rcases List.mem_append.1 hf with hf|hf
   · exact hG.frames f (by rw[h];exact List.mem_append_left _ hf)
   · simp at hf;subst hf;exact ht
 · have:=hG.nf;rw[h]at this;simpa using this
def jb(p:ai)(x:Int×St):Prop:=1≤x.1∧x.1≤10∧Good p x.2∧(x.1=1→x.2.frames≠[])∧x.2.status=1
theorem nI(hG:Good p s)(h:s.frames=r++[t])(hs:s.status=1){tgt:Int}(h0:0≤tgt):jb p (jump p tgt s):=by
 have ht:=hG.top h;have Ab:=aF.1 ht;unfold jump;rw[sw h,kU h];split
 · exact⟨by simp,by simp,hG,fun e=>by simp at e,hs⟩
 · rename_i cK;refine⟨by simp,by simp,hG.turn h (aF.2 ⟨Ab.1,h0,by simp only;omega,Ab.2.2.2.1,Ab.2.2.2.2.1,Ab.2.2.2.2.2.1,Ab.2.2.2.2.2.2⟩),fun _=>by simp,hs⟩
theorem kv(hG:Good p s)(h:s.frames=r++[t])(hs:s.status=1):jb p (next p s):=by
 have Ab:=aF.1 (hG.top h);unfold next
 rw[sw h];exact nI hG h hs (by omega)
theorem iK(hG:Good p s)(h:s.frames=r++[t])(hs:s.status=1){v:Val}(hv:aR v s.heap.length=true):jb p (push p v s):=by
 have Ab:=aF.1 (hG.top h);unfold push;rw[sw h,kU h];split
 · exact⟨by simp,by simp,hG,fun e=>by simp at e,hs⟩
 · rename_i cK;refine kv (r:=r) (t:={t with stack:=t.stack++[v]}) (hG.turn h (aF.2 ⟨Ab.1,Ab.2.1,Ab.2.2.1,Ab.2.2.2.1,by simp;omega,Ab.2.2.2.2.2.1,?_⟩)) rfl hs;intro u hu;rcases List.mem_append.1 hu with hu|hu
   · exact Ab.2.2.2.2.2.2 u hu
   · simp at hu;subst hu;exact hv
theorem kV{c:Nat}(h:s.frames=r++[t]){vs:List Val}{s1:St}(hp:gp c s=some (vs,s1)):
    c≤t.stack.length∧vs=t.stack.drop (t.stack.length - c)∧vs.length=c∧s1={s with frames:=r++[{t with stack:=t.stack.take (t.stack.length - c)}]}:=by
 unfold gp at hp;rw[sw h,kU h]at hp;split at hp
 · cases hp
 · cases hp;refine⟨by omega,rfl,by simp;omega,rfl⟩
theorem Good.popped(hG:Good p s)(h:s.frames=r++[t])(n:Nat):Good p {s with frames:=r++[{t with stack:=t.stack.take n}]}:=by
 have Ab:=aF.1 (hG.top h);refine hG.turn h (aF.2 ⟨Ab.1,Ab.2.1,Ab.2.2.1,Ab.2.2.2.1,?_,Ab.2.2.2.2.2.1,fun u hu=>Ab.2.2.2.2.2.2 u (List.mem_of_mem_take hu)⟩);have:(t.stack.take n).length≤t.stack.length:=by simp;omega
 have:=Ab.2.2.2.2.1;simp only;omega
theorem mQ{c:Nat}(hG:Good p s)(h:s.frames=r++[t]){vs:List Val}{s1:St}(hp:gp c s=some (vs,s1)):
    vs.length=c∧(∀v∈vs,aR v s.heap.length=true)∧Good p s1∧s1.frames=r++[{t with stack:=t.stack.take (t.stack.length - c)}]∧s1.heap=s.heap∧s1.outs=s.outs∧s1.back=s.back∧s1.status=s.status:=by
 obtain⟨h1,h2,h3,rfl⟩:=kV h hp;refine⟨h3,fun v hv=>?_,hG.popped h _,rfl,rfl,rfl,rfl,rfl⟩;subst h2;exact(aF.1 (hG.top h)).2.2.2.2.2.2 v (List.mem_of_mem_drop hv)
theorem NV(hG:Good p s)(h:s.frames=r++[t]){v:Val}{s1:St}(hp:pop s=some (v,s1)):
    aR v s.heap.length=true∧Good p s1∧s1.frames=r++[{t with stack:=t.stack.take (t.stack.length - 1)}]∧s1.heap=s.heap∧s1.outs=s.outs∧s1.back=s.back∧s1.status=s.status:=by
 unfold pop at hp;rw[Option.map_eq_some_iff]at hp;obtain⟨⟨vs,s2⟩,h1,h2⟩:=hp;cases h2;obtain⟨a1,a2,a3⟩:=mQ hG h h1;refine⟨?_,a3⟩;match vs,a1 with
 |[x],_=>exact a2 x (by simp)
theorem jb.bad{n:Int}(hG:Good p s)(hs:s.status=1)(h1:1<n)(h2:n≤10):jb p (n,s):=⟨by simp only;omega,h2,hG,fun e=>by simp only at e;omega,hs⟩
theorem vC(v:Val)(q:Ref)(s:St):object p v q s=1∨(1<object p v q s∧object p v q s≤10):=by
 unfold object;split
 · right;decide
 · split
   · right;decide
   · split
     · left;rfl
     · right;decide
theorem l6{v:Val}{q:Ref}(h:object p v q s=1):v.kind=2∧under p (mY s.heap v.n) q=true:=by
 unfold object at h;split at h
 · cases h
 · split at h
   · cases h
   · rename_i h1;split at h
     · rename_i h2;exact⟨by omega,h2⟩
     · cases h
theorem Ql{n:Int}(h0:0≤n)(h1:n<s.heap.length):∃o,s.heap[n.toNat]?=some o∧o∈s.heap∧mY s.heap n=o.of∧iR s.heap n=o.fields:=by
 have cK:n.toNat<s.heap.length:=by omega
 refine⟨s.heap[n.toNat],List.getElem?_eq_getElem cK,List.getElem_mem _,?_,?_⟩
 · unfold mY;rw[List.getElem?_eq_getElem cK];rfl
 · unfold iR;rw[List.getElem?_eq_getElem cK];rfl
theorem qj(hG:Good p s){k:Int}{n m:ByteArray}(hg:(get p k n m).2=1){v:Val}(hv:aR v s.heap.length=true)(ho:object p v (get p k n m).1.of s=1):
    0≤v.n∧v.n<s.heap.length∧0≤(get p k n m).1.at_∧∃o,s.heap[v.n.toNat]?=some o∧o∈s.heap∧iR s.heap v.n=o.fields∧(get p k n m).1.at_.toNat<o.fields.length:=by
 obtain⟨h1,h2⟩:=l6 ho;obtain⟨h3,h4⟩:=kF hv h1;obtain⟨o,h5,h6,h7,h8⟩:=Ql (s:=s) h3 h4;rw[h7]at h2;have:=(eT.1 hG.heap).2 o h6;obtain⟨b1,b2⟩:=Jv hg this.1 h2;exact⟨h3,h4,b1,o,h5,h6,h8,by rw[this.2.1];exact b2⟩
theorem Mc{q:Ref}(n:Nat):∀v∈(fresh p q).fields,aR v n=true:=by
 intro v hv;unfold fresh at hv;simp only[List.mem_map]at hv;obtain⟨f,_,rfl⟩:=hv;split
 · exact gV n (by decide)
 · exact sD n
theorem Good.grow(hG:Good p s){q:Ref}(hq:bI p q=true)(hn:s.heap.length<12):Good p {s with heap:=s.heap++[fresh p q]}:=by
 have hle:s.heap.length≤(s.heap++[fresh p q]).length:=by simp
 obtain⟨_,h2⟩:=eT.1 hG.heap;refine⟨eT.2 ⟨by simp;omega,?_⟩,?_,hG.nf,hG.outs,hG.ky,oW hG.back hle⟩
 · intro o ho;rcases List.mem_append.1 ho with ho|ho
   · obtain⟨a,b,c⟩:=h2 o ho;exact⟨a,b,fun v hv=>oW (c v hv) hle⟩
   · simp at ho;subst ho;exact⟨hq,by simp[fresh],Mc _⟩
 · intro f hf;obtain⟨a1,a2,a3,a4,a5,a6,a7⟩:=aF.1 (hG.frames f hf);exact aF.2 ⟨a1,a2,a3,a4,a5,fun v hv=>oW (a6 v hv) hle,fun v hv=>oW (a7 v hv) hle⟩
theorem Good.set(hG:Good p s){n a:Int}{v:Val}(hv:aR v s.heap.length=true):Good p {s with heap:=gu s.heap n a v}:=by
 have hl:(gu s.heap n a v).length=s.heap.length:=by simp[gu]
 obtain⟨h1,h2⟩:=eT.1 hG.heap;refine⟨eT.2 ⟨by rw[hl];exact h1,?_⟩,?_,hG.nf,hG.outs,hG.ky,?_⟩
 · intro o ho;rw[hl];obtain⟨i,hi⟩:=List.getElem?_of_mem ho;unfold gu at hi;rw[List.getElem?_modify]at hi;cases ho':s.heap[i]? with
   |none=>rw[ho']at hi;simp at hi
   |some o'=>
    rw[ho']at hi;obtain⟨b1,b2,b3⟩:=h2 o' (List.mem_of_getElem? ho');simp at hi;subst hi;split
    · refine⟨b1,by simpa using b2,?_⟩;intro u hu;rcases List.mem_or_eq_of_mem_set hu with hu|rfl
      · exact b3 u hu
      · exact hv
    · exact⟨b1,b2,b3⟩
 · intro f hf;simp only[hl];exact hG.frames f hf
 · simp only[hl];exact hG.back
end
end Go.Proofs.YtohpiobncgafeaaGreatDoor.M
namespace Go.Proofs.YtohpiobncgafeaaGreatDoor.M
theorem Cc{p:ai}(kX:dM p=true){r:Ref}{c:Class}(h:cls? p r=some c):jU c=true:=by
 unfold cls? at h;rw[Option.bind_eq_some_iff]at h;obtain⟨q,hq,h2⟩:=h;have h3:=Bw kX hq;unfold cB at h3;simp only[Bool.and_eq_true]at h3;exact mD h3.1.2 c (List.mem_of_find?_eq_some h2)
theorem Hl{c:Class}(h:jU c=true):∀m∈c.methods,mP m=true:=by
 unfold jU at h;simp only[Bool.and_eq_true]at h;exact mD h.2
theorem fH{p:ai}(kX:dM p=true){x:jR}(h:bM p x=true):mP (method p x)=true∧method? p x=some (method p x):=by
 obtain⟨_,i,c,m,h1,h2,h3,h4⟩:=o9 h;have e:method p x=m:=by unfold method;rw[h4];rfl
 rw[e];exact⟨Hl (Cc kX h2) m (List.mem_of_getElem? h3),h4⟩
structure xY(m:Method):Prop where
 args:(m.args.length:Int)+1≤m.locals
 DW:m.args.length≤3
 locals:m.locals≤6
 Oc:1≤m.stack
 stack:m.stack≤5
 X7:1≤m.code.length
 code:m.code.length≤16
 ins:∀i∈m.code,fM m i=true
 ret:fV m.ret=true
 kinds:∀k∈m.args,fV k=true
 maps:m.maps.length≤5
 pM:∀f∈m.maps,pM m f=true
theorem wG{m:Method}:∀{l:List SMap} {n:Int},jJ m n l=true→∀f∈l,pM m f=true
 |[],_,_=>by simp
 |x::r,n,h=>by
  unfold jJ at h;simp only[Bool.and_eq_true]at h;intro f hf;rcases List.mem_cons.1 hf with rfl|hf
  · exact h.1.2
  · exact wG h.2 f hf
theorem ll{m:Method}(h:mP m=true):xY m:=by
 unfold mP codeOk qI at h;simp only[Bool.and_eq_true,decide_eq_true_eq,List.all_eq_true]at h;obtain⟨⟨⟨⟨⟨⟨⟨⟨⟨_,h2⟩,h3⟩,h4⟩,h5⟩,h6⟩,h7⟩,h8⟩,⟨⟨h9,Uo⟩,h11⟩⟩,Rv,Uq⟩:=h;exact⟨h5,h2,h6,h7,h8,h9,Uo,h11,h3,h4,Rv,wG Uq⟩
theorem nW{p:ai}:∀{l k:List Ref},eQ p (l++k)=true→eQ p k=true∧∀a∈l,∀b∈k,iW p a b=true
 |[],k,h=>⟨h,by simp⟩
 |x::l,k,h=>by
  simp only[List.cons_append,eQ,Bool.and_eq_true,List.all_eq_true]at h;obtain⟨h1,h2⟩:=nW h.2;refine⟨h1,fun a ha b hb=>?_⟩;rcases List.mem_cons.1 ha with rfl|ha
  · exact h.1 b (List.mem_append_right _ hb)
  · exact h2 a ha b hb
theorem Jk{p:ai}{r x:Ref}(hc:bI p r=true)(h:x∈chain p r):bI p x=true:=by
 obtain⟨hl,pre,hp⟩:=nC h;obtain⟨t,ht⟩:=nX hl;unfold bI at hc ⊢;simp only[Bool.and_eq_true,Bool.not_eq_true',List.isEmpty_eq_false_iff]at hc ⊢;rw[hp]at hc;exact⟨by rw[ht];simp,(nW hc.2).1⟩
theorem AU{c:Class}{n:ByteArray}{i:Nat}{m:Method}(h:jK c n=some i)(hm:c.methods[i]?=some m):c.methods.find? (fun x=>x.name=n)=some m:=by
 unfold jK at h;have:∀(l:List Method) (i:Nat) (m:Method),l.findIdx? (fun x=>decide (x.name=n))=some i→l[i]?=some m→l.find? (fun x=>decide (x.name=n))=some m:=by
  intro l;induction l with
  |nil=>intro i m h;simp at h
  |cons x r ih=>
   intro i m h hm;rw[List.findIdx?_cons]at h;rw[List.find?_cons];cases hx:decide (x.name=n)
   · rw[hx]at h;simp only[Bool.false_eq_true,if_false,Option.map_eq_some_iff]at h;obtain⟨j,hj,rfl⟩:=h;exact ih j m hj (by simpa using hm)
   · rw[hx]at h;simp only[if_true,Option.some.injEq]at h;subst h;simpa using hm
 exact this _ _ _ h hm
theorem vE {p : ai} {r o : Ref} {n : ByteArray} {x y : jR} (hx : pick p r n = some x) (hu : under p o x.of = true) (hy : pick p o n = some y) : (method p y).args = (method p x).args := by
 have hxx:=hx;have hyy:=hy;unfold pick at hx hy;split at hx
 · split at hy
   · rename_i Qk Qj;obtain⟨a1,i,a2,a3⟩:=lG hx;obtain⟨b1,j,b2,b3⟩:=lG hy;obtain⟨hl,pre,hp⟩:=nC (p:=p) (r:=o) (x:=x.of) (by unfold under at hu;simpa using hu);obtain⟨t,ht⟩:=nX hl;have adI:=Qj;unfold bI at Qj;simp only[Bool.and_eq_true]at Qj;rw[hp]at Qj;obtain⟨_,_,i',c,m,e1,e2,e3,e4,e5⟩:=r9 hxx;obtain⟨_,_,j',d,q,f1,f2,f3,f4,f5⟩:=r9 hyy;have em:method p x=m:=by unfold method;rw[e5];rfl
     have eq':method p y=q:=by unfold method;rw[f5];rfl
     rw[em,eq'];have zW:cls p x.of=c:=by unfold cls;rw[e2];rfl
     have OP:cls p y.of=d:=by unfold cls;rw[f2];rfl
     rw[hp,ht]at hy;by_cases hm:y.of∈pre
     · have xI:=(nW Qj.2).2 y.of hm x.of (by rw[ht];simp);unfold iW at xI;simp only[Bool.and_eq_true,List.all_eq_true]at xI;have hq:=xI.2 q (by rw[OP];exact List.mem_of_getElem? f3);unfold dX at hq;rw[a2]at e1;have ei:=Int.ofNat.inj e1;subst ei;rw[f4,zW,AU (by rw[←zW];exact a3) e3]at hq;simp only[Bool.and_eq_true,decide_eq_true_eq]at hq;exact hq.1.2
     · have:∀(l:List Ref),kD p n (l++x.of::t)=some y→y.of ∉ l→y=x:=by
        intro l;induction l with
        |nil=>
         intro h _;simp only[List.nil_append,kD,a3]at h;cases h;obtain⟨xo,xa⟩:=x;simp at a2;subst a2;rfl
        |cons z l ih=>
         intro h hn;simp only[List.cons_append,kD]at h;split at h
         · cases h;simp at hn
         · exact ih h (fun hh=>hn (List.mem_cons_of_mem _ hh))
       have:=this pre hy hm;subst this;rw[e5]at f5;cases f5;rfl
   · cases hy
 · cases hx
theorem jN{p:ai}{r:Ref}{n:ByteArray}{x:jR}(h:pick p r n=some x):bM p x=true:=by
 obtain⟨h1,h2,i,c,m,h3,h4,h5,h6,h7⟩:=r9 h;unfold bM;have e:cls p x.of=c:=by unfold cls;rw[h4];rfl
 rw[Jk h1 h2,h3,e];have:=(List.getElem?_eq_some_iff.1 h5).1;simp;omega
section
variable {p:ai} {s:St} {r:List Fr} {t:Fr}
theorem rR(kX:dM p=true)(hG:Good p s)(hs:s.status=1){lk:Bool}{x:jR}{vs:List Val}(hx:bM p x=true)(hv:∀v∈vs,aR v s.heap.length=true)(hl:(vs.length:Int)≤(method p x).locals):
    jb p (enter p lk x vs s):=by
 unfold enter;split
 · exact jb.bad hG hs (by decide) (by decide)
 · rename_i h8;split
   · exact jb.bad hG hs (by decide) (by decide)
   · split
     · have hm:=ll (fH kX hx).1;refine⟨by simp,by simp,⟨hG.heap,?_,by simp;omega,hG.outs,hG.ky,hG.back⟩,fun _=>by simp,hs⟩;intro f hf;rcases List.mem_append.1 hf with hf|hf
       · exact hG.frames f hf
       · simp only[List.mem_singleton]at hf;subst hf;refine aF.2 ⟨hx,by simp,by simp only;have:=hm.X7;omega,by simp;omega,by simp;have:=hm.Oc;omega,?_,by simp⟩;intro v WG;rcases List.mem_append.1 WG with WG|WG
         · exact hv v WG
         · rw[List.mem_replicate]at WG;rw[WG.2];exact Ht _
     · exact jb.bad hG hs (by decide) (by decide)
theorem jm{m:Method}{i:Ins}(h:fM m i=true):gK i=true∧((i.op=2∨i.op=3)→0≤i.a∧i.a<m.locals)∧((i.op=11∨i.op=12∨i.op=13)→0≤i.a∧i.a<m.code.length)∧(i.op=1→dw i.a=true)∧(1≤i.op∧i.op≤15)∧
    ((i.op=6∨i.op=15)→aY i.name=true)∧((i.op=7∨i.op=8∨i.op=9)→aY i.name=true∧aY i.member=true):=by
 unfold fM at h;simp only[Bool.and_eq_true]at h;have h1:=h.1;refine⟨h1,?_,?_,?_,?_,?_,?_⟩
 · intro ho;have h2:=h.2;rw[if_pos ho]at h2;simp only[decide_eq_true_eq]at h2;unfold gK isNum at h1;rcases ho with ho|ho<;>rw[ho]at h1<;>simp[iU,jM]at h1<;>omega
 · intro ho;have h2:=h.2;rw[if_neg (by omega),if_pos ho]at h2;simp only[decide_eq_true_eq]at h2;unfold gK isNum at h1;rcases ho with ho|ho|ho<;>rw[ho]at h1<;>simp[iU,jM]at h1<;>omega
 · intro ho;unfold gK isNum at h1;rw[ho]at h1;simp[iU,jM]at h1;unfold dw;simp;omega
 · unfold gK isNum jo kQ mG at h1;simp only[Bool.or_eq_true,beq_iff_eq]at h1;repeat' split at h1
   all_goals first|omega|cases h1
 · intro ho;unfold gK isNum jo at h1;rcases ho with ho|ho<;>rw[ho]at h1<;>simp at h1<;>exact h1.2
 · intro ho;unfold gK isNum jo kQ at h1;rcases ho with ho|ho|ho<;>rw[ho]at h1<;>simp at h1<;>exact⟨h1.1.2,h1.2⟩
theorem Gj (kX : dM p = true) (hG : Good p s) (h : s.frames = r ++ [t]) (hs : s.status = 1) {lk : Bool} {i : Ins} (hi : fM (method p t.of) i = true) : jb p (aB p lk i s) := by
 have bad:∀n:Int,1<n→n≤10→jb p (n,s):=fun n h1 h2=>jb.bad hG hs h1 h2;obtain⟨_,i2,i3,i4,i5,_,_⟩:=jm hi;have ht:=aF.1 (hG.top h);have GV:∀{v s1},pop s=some (v,s1)→aR v s.heap.length=true∧Good p s1∧s1.frames=r++[{t with stack:=t.stack.take (t.stack.length - 1)}]∧s1.heap=s.heap∧s1.outs=s.outs∧s1.back=s.back∧s1.status=1:=fun hp=>by
  obtain⟨a1,a2,a3,a4,a5,a6,a7⟩:=NV hG h hp;exact⟨a1,a2,a3,a4,a5,a6,a7.trans hs⟩
 unfold aB;by_cases e1:i.op=1
 · rw[if_pos e1];exact iK hG h hs (gV _ (i4 e1))
 rw[if_neg e1];by_cases e2:i.op=2
 · rw[if_pos e2];rw[sw h];split
   · exact bad _ (by decide) (by decide)
   · refine iK hG h hs ?_;have cK:i.a.toNat<t.locals.length:=by have:=i2 (.inl e2);omega
     rw[List.getElem?_eq_getElem cK];exact ht.2.2.2.2.2.1 _ (List.getElem_mem _)
 rw[if_neg e2];by_cases e3:i.op=3
 · rw[if_pos e3];split
   · exact bad _ (by decide) (by decide)
   · rename_i v s1 hp;obtain⟨a1,a2,a3,a4,a5,a6,a7⟩:=GV hp;have QB:=aF.1 (a2.top a3);rw[kU a3];refine kv (r:=r) (a2.turn a3 (aF.2 ⟨QB.1,QB.2.1,QB.2.2.1,by simp;exact ht.2.2.2.1,QB.2.2.2.2.1,?_,QB.2.2.2.2.2.2⟩)) rfl a7;intro u hu;rcases List.mem_or_eq_of_mem_set hu with hu|rfl
     · exact QB.2.2.2.2.2.1 u hu
     · rw[a4];exact a1
 rw[if_neg e3];by_cases e4:i.op=4
 · rw [if_pos e4]; split
   · rename_i a b s1 hp;obtain⟨a1,a2,a3,a4,a5,a6,a7,a8⟩:=mQ hG h hp;split
     · split
       · rename_i hn;exact iK a3 a4 (a8.trans hs) (gV _ hn)
       · exact jb.bad a3 (a8.trans hs) (by decide) (by decide)
     · exact jb.bad a3 (a8.trans hs) (by decide) (by decide)
   · exact bad _ (by decide) (by decide)
 rw[if_neg e4];by_cases e5:i.op=5
 · rw[if_pos e5];exact iK hG h hs (sD _)
 rw[if_neg e5];by_cases e6:i.op=6
 · rw[if_pos e6];split
   · rename_i hc;split
     · exact bad _ (by decide) (by decide)
     · rename_i Rv;unfold iO at hc;simp only[Bool.and_eq_true]at hc;refine iK (r:=r) (t:=t) (hG.grow hc.2 (by omega)) h hs ?_;exact uC _ (by simp) (by simp;omega)
   · exact bad _ (by decide) (by decide)
 rw[if_neg e6];by_cases e7:i.op=7
 · rw [if_pos e7]; split
   · rename_i hg;split
     · exact bad _ (by decide) (by decide)
     · rename_i v s1 hp;obtain⟨a1,a2,a3,a4,a5,a6,a7⟩:=GV hp;split
       · rename_i ho;obtain⟨_,_,_,o,b1,b2,b3,b4⟩:=qj a2 hg (by rw[a4];exact a1) ho;refine iK a2 a3 a7 ?_;rw[b3,List.getElem?_eq_getElem b4];exact((eT.1 a2.heap).2 o b2).2.2 _ (List.getElem_mem _)
       · rename_i ho;rcases vC (p:=p) v (get p (top s).of.of.keeper i.name i.member).1.of s1 with h1|h1
         · exact absurd h1 ho
         · exact jb.bad a2 a7 h1.1 h1.2
   · exact bad _ (by decide) (by decide)
 rw[if_neg e7];by_cases e8:i.op=8
 · rw [if_pos e8]; split
   · split
     · rename_i o v s1 hp;obtain⟨a1,a2,a3,a4,a5,a6,a7,a8⟩:=mQ hG h hp;have TN:=a8.trans hs;split
       · split
         · exact kv (r:=r) (a3.set (by rw[a5];exact a2 v (by simp))) a4 TN
         · rename_i ho;rcases vC (p:=p) o (get p (top s).of.of.keeper i.name i.member).1.of s1 with h1|h1
           · exact absurd h1 ho
           · exact jb.bad a3 TN h1.1 h1.2
       · exact jb.bad a3 TN (by decide) (by decide)
     · exact bad _ (by decide) (by decide)
   · exact bad _ (by decide) (by decide)
 rw[if_neg e8];by_cases e9:i.op=9
 · rw [if_pos e9]; split
   · rename_i hc;split
     · rename_i vs s1 hp;obtain⟨a1,a2,a3,a4,a5,a6,a7,a8⟩:=mQ hG h hp;have TN:=a8.trans hs;split
       · rename_i ho;split
         · rename_i x hx;obtain⟨o1,o2⟩:=l6 ho;obtain⟨q,hq⟩:=jY hc;have o8:=vE hq o2 hx;have hm:=ll (fH kX (jN hx)).1;refine rR kX a3 TN (jN hx) (by rw[a5];exact a2) ?_;have:=hm.args;rw[a1,←o8];simpa using this
         · exact jb.bad a3 TN (by decide) (by decide)
       · rename_i ho;rcases vC (p:=p) (vs.headD dE) (call p (top s).of.of.keeper i.name i.member).1.of s1 with h1|h1
         · exact absurd h1 ho
         · exact jb.bad a3 TN h1.1 h1.2
     · exact bad _ (by decide) (by decide)
   · exact bad _ (by decide) (by decide)
 rw[if_neg e9];by_cases e10:i.op=10
 · rw [if_pos e10]; split
   · exact bad _ (by decide) (by decide)
   · rename_i v s1 hp;obtain⟨a1,a2,a3,a4,a5,a6,a7⟩:=GV hp;split
     · split
       · exact jb.bad (s:={s1 with back:=v}) ⟨a2.heap,a2.frames,a2.nf,a2.outs,a2.ky,by rw[a4];exact a1⟩ a7 (by decide) (by decide)
       · rename_i hn;have hr:r≠[]:=by
          rintro rfl;rw[a3]at hn;simp at hn
         obtain⟨r',t',rfl⟩:∃r' t',r=r'++[t']:=⟨r.dropLast,r.getLast hr,(List.dropLast_concat_getLast hr).symm⟩;have hd:s1.frames.dropLast=r'++[t']:=by rw[a3];simp
         refine iK (s:={s1 with frames:=s1.frames.dropLast}) (r:=r') (t:=t') ⟨a2.heap,?_,?_,a2.outs,a2.ky,a2.back⟩ hd a7 (by rw[a4];exact a1)
         · intro f hf;exact a2.frames f (List.dropLast_subset _ hf)
         · have:=a2.nf;simp only[List.length_dropLast];omega
     · exact jb.bad a2 a7 (by decide) (by decide)
 rw[if_neg e10];by_cases e11:i.op=11
 · rw [if_pos e11]; split
   · exact bad _ (by decide) (by decide)
   · rename_i v s1 hp;obtain⟨a1,a2,a3,a4,a5,a6,a7⟩:=GV hp;split
     · split
       · exact nI a2 a3 a7 (i3 (.inl e11)).1
       · exact kv a2 a3 a7
     · exact jb.bad a2 a7 (by decide) (by decide)
 rw[if_neg e11];by_cases e12:i.op=12
 · rw [if_pos e12]; split
   · exact bad _ (by decide) (by decide)
   · rename_i v s1 hp;obtain⟨a1,a2,a3,a4,a5,a6,a7⟩:=GV hp;split
     · split
       · exact nI a2 a3 a7 (i3 (.inr (.inl e12))).1
       · exact kv a2 a3 a7
     · exact jb.bad a2 a7 (by decide) (by decide)
 rw[if_neg e12];by_cases e13:i.op=13
 · rw[if_pos e13];exact nI hG h hs (i3 (.inr (.inr e13))).1
 rw[if_neg e13];by_cases e14:i.op=14
 · rw [if_pos e14]; split
   · exact bad _ (by decide) (by decide)
   · rename_i v s1 hp;obtain⟨a1,a2,a3,a4,a5,a6,a7⟩:=GV hp;split
     · rename_i hk;split
       · rename_i ho;refine kv (r:=r) (s:={s1 with outs:=s1.outs++[v.n]}) ⟨a2.heap,a2.frames,a2.nf,by simp;omega,?_,a2.back⟩ a3 a7;intro n hn;rcases List.mem_append.1 hn with hn|hn
         · exact a2.ky n hn
         · simp at hn;subst hn;have:=rq a1 hk;unfold dw;simp;omega
       · exact kv a2 a3 a7
     · exact jb.bad a2 a7 (by decide) (by decide)
 rw[if_neg e14]
 · split
   · exact bad _ (by decide) (by decide)
   · rename_i v s1 hp;obtain⟨a1,a2,a3,a4,a5,a6,a7⟩:=GV hp;split
     · split
       · exact iK a2 a3 a7 (by rw[a4];exact a1)
       · split
         · split
           · exact iK a2 a3 a7 (by rw[a4];exact a1)
           · exact jb.bad a2 a7 (by decide) (by decide)
         · exact jb.bad a2 a7 (by decide) (by decide)
     · exact jb.bad a2 a7 (by decide) (by decide)
structure wS(p:ai)(s:St):Prop where
 good:Good p s
 st:1≤s.status∧s.status≤10
 goes:s.status=1↔s.frames≠[]
theorem zq{p:ai}{s:St}:zL p s=true↔wS p s:=by
 unfold zL;simp only[Bool.and_eq_true,decide_eq_true_eq,List.all_eq_true,beq_iff_eq];constructor
 · rintro⟨⟨⟨⟨⟨⟨⟨⟨⟨h1,h2⟩,h3⟩,h4⟩,h5⟩,h6⟩,h7⟩,h8⟩,h9⟩,Uo⟩;refine⟨⟨h9,h8,h5,h4,h7,Uo⟩,⟨h1,h2⟩,?_⟩;rw[Bool.eq_iff_iff]at h6;simp only[decide_eq_true_eq]at h6;rw[←h6,List.length_pos_iff]
 · rintro⟨⟨h9,h8,h5,h4,h7,Uo⟩,⟨h1,h2⟩,h6⟩;refine⟨⟨⟨⟨⟨⟨⟨⟨⟨h1,h2⟩,(eT.1 h9).1⟩,h4⟩,h5⟩,?_⟩,h7⟩,h8⟩,h9⟩,Uo⟩;rw[Bool.eq_iff_iff];simp only[decide_eq_true_eq];rw[h6,List.length_pos_iff]
theorem jb.runs{x:Int×St}(h:jb p x):wS p (end_ x.1 x.2):=by
 obtain⟨n,s⟩:=x;obtain⟨h1,h2,hG,h3,h4⟩:=h;unfold end_;simp only at*;split
 · rename_i e;exact⟨hG,by omega,by simp[h4,h3 e]⟩
 · rename_i e;exact⟨⟨hG.heap,by simp,by simp,hG.outs,hG.ky,hG.back⟩,⟨h1,h2⟩,by simp[e]⟩
theorem Od(kX:dM p=true)(hR:wS p s)(hs:s.status=1):∃r t i,s.frames=r++[t]∧cZ p t s.heap.length=true∧(method p t.of).code[t.pc.toNat]?=some i∧fM (method p t.of) i=true:=by
 obtain⟨r,t,h⟩:=Gu (hR.goes.1 hs);have ht:=hR.good.top h;obtain⟨h1,h2,h3,_⟩:=aF.1 ht;have cK:t.pc.toNat<(method p t.of).code.length:=by omega
 exact⟨r,t,_,h,ht,List.getElem?_eq_getElem cK,(ll (fH kX h1).1).ins _ (List.getElem_mem _)⟩
theorem Ky(kX:dM p=true)(hR:wS p s)(lk:Bool):wS p (step p lk s):=by
 unfold step;split
 · rename_i hs;obtain⟨r,t,i,h,_,h2,h3⟩:=Od kX hR hs;refine jb.runs ?_;unfold stepped;rw[sw h,h2];exact Gj kX hR.good h hs h3
 · exact hR
end
end Go.Proofs.YtohpiobncgafeaaGreatDoor.M
namespace Go.Proofs.YtohpiobncgafeaaGreatDoor.M
theorem wS.link{p:ai}:wS p ik:=⟨⟨by simp[ik,gm],by simp[ik],by simp[ik],by simp[ik],by simp[ik],by simp[ik,aR,dE]⟩,by simp[ik],by simp[ik]⟩
theorem Good.one{p:ai}{q:Ref}(hq:bI p q=true):Good p ⟨1,[],[fresh p q],[],dE⟩:=by
 have h0:Good p ⟨1,[],[],[],dE⟩:=⟨by simp[gm],by simp,by simp,by simp,by simp,by simp[aR,dE]⟩;exact h0.grow hq (by simp)
theorem zt{p:ai}(kX:dM p=true){lk:Bool}{k:Int}{n m:ByteArray}{args:List Int}(ha:args.all dw=true):wS p (start p lk k n m args):=by
 unfold start;split
 · rename_i hf;split
   · rename_i hc;obtain⟨rr,OV⟩:=jY hc.1;have hx:=jN OV;have hlen:(method p (call p k n m).1).args.length=args.length:=by
      have:=hc.2;unfold ic at this;simp only[Bool.and_eq_true,decide_eq_true_eq]at this;exact this.1
     refine jb.runs (rR kX (Good.one hf.2) rfl hx ?_ ?_)
     · intro v hv;rcases List.mem_cons.1 hv with rfl|hv
       · exact uC _ (by omega) (by simp)
       · obtain⟨x,hx,rfl⟩:=List.mem_map.1 hv;exact gV _ (List.all_eq_true.1 ha x hx)
     · have:=(ll (fH kX hx).1).args;simp;omega
   · exact wS.link
 · exact wS.link
theorem Fg{p:ai}{lk:Bool}{k:Int}{n m:ByteArray}{args:List Int}(kX:dM p=true)(hk:has p k=true)(hn:aY n=true)(hm:aY m=true)(ha:args.all dw=true):jO p lk k n m args=start p lk k n m args:=by
 unfold jO;rw[kX,hk,hn,hm,ha];rfl
theorem Fh{p:ai}{lk:Bool}{s:St}{f:Nat}(kX:dM p=true)(hs:wS p s)(hf:f≤400):mR p lk s f=steps p lk f s:=by
 unfold mR;rw[decide_eq_true (by omega),kX,zq.2 hs];rfl
theorem zi:aY ⟨#[109,97,105,110]⟩=true:=by decide+kernel
theorem BF:aY ⟨#[114,117,110]⟩=true:=by decide+kernel
end Go.Proofs.YtohpiobncgafeaaGreatDoor.M
