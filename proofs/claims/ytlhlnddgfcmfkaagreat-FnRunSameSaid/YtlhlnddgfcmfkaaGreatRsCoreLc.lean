/- Walks. -/
import Derived.Test.YtlhlnddgfcmfkaaGreatRsCoreLa
import Derived.Deep.RegionWith
import Derived.Deep.RegionHeld3
import Derived.Maps.Own
set_option maxRecDepth 100000
set_option maxHeartbeats 4000000
set_option linter.all false
namespace Go.Proofs.YtlhlnddgfcmfkaaGreat
open Go Go.RowKit Tryz
theorem KR{op:Int}(a:M.isNum op=true):op=1∨op=2∨op=3∨op=11∨op=12∨op=13:=by
 simpa [M.isNum,or_assoc]using a
theorem EM{op:Int}(a:M.oO op=true):op=6∨op=15:=by
 simpa [M.oO,or_assoc]using a
theorem Ff{op:Int}(a:M.pM op=true):op=7∨op=8∨op=9:=by
 simpa [M.pM,or_assoc]using a
theorem Fj{op:Int}(a:M.qU op=true):op=4∨op=5∨op=10∨op=14:=by
 simpa [M.qU,or_assoc]using a
theorem M9{op:Int}(a:M.isNum op=false)(b:M.oO op=false)(c:M.pM op=false)(d:M.qU op=false):(¬op=1∧¬op=2∧¬op=3∧¬op=4∧¬op=5∧¬op=6∧¬op=7∧¬op=8)∧¬op=9∧¬op=10∧¬op=11∧¬op=12∧¬op=13∧¬op=14∧¬op=15:=by
 simp[M.isNum,M.oO,M.pM,M.qU]at a b c d;omega
theorem Mm{op a:Int}{s m:ByteArray}{w:World}(b:M.isNum op=true):Calls prog 215 #[.agg #[op,a,s,m]] w fun c d=>c=.returned (.iface 338 (.agg #[op,a]))∧Ext w d:=by
 rcases KR b with rfl|rfl|rfl|rfl|rfl|rfl
 all_goals
  clear b;go_enter func215,ntmps215;go_wp2;go_ret;exact⟨rfl,(jr _)⟩
theorem Mk{op a:Int}{s m:ByteArray}{w:World}(b:M.oO op=true):Calls prog 215 #[.agg #[op,a,s,m]] w fun c d=>c=.returned (.iface 340 (.agg #[op,s]))∧Ext w d:=by
 rcases EM b with rfl|rfl
 all_goals
  clear b;go_enter func215,ntmps215;go_wp2;go_ret;exact⟨rfl,(jr _)⟩
theorem Ml{op a:Int}{s m:ByteArray}{w:World}(b:M.pM op=true):Calls prog 215 #[.agg #[op,a,s,m]] w fun c d=>c=.returned (.iface 342 (.agg #[op,s,m]))∧Ext w d:=by
 rcases Ff b with rfl|rfl|rfl
 all_goals
  clear b;go_enter func215,ntmps215;go_wp2;go_ret;exact⟨rfl,(jr _)⟩
theorem Mo{op a:Int}{s m:ByteArray}{w:World}(b:M.qU op=true):Calls prog 215 #[.agg #[op,a,s,m]] w fun c d=>c=.returned (.iface 344 (.agg #[op]))∧Ext w d:=by
 rcases Fj b with rfl|rfl|rfl|rfl
 all_goals
  clear b;go_enter func215,ntmps215;go_wp2;go_ret;exact⟨rfl,(jr _)⟩
theorem Ol{op a:Int}{s m:ByteArray}{w:World}(b:M.isNum op=false)(c:M.oO op=false)(d:M.pM op=false)(e:M.qU op=false):Calls prog 215 #[.agg #[op,a,s,m]] w fun f g=>f=.returned .nilIface∧Ext w g:=by
 obtain⟨⟨h,i,j,k,l,n,o,p⟩,q,r,t,u,v,x,y⟩:=M9 b c d e;clear b c d e;go_enter func215,ntmps215;go_wp2;go_ret;exact⟨rfl,(jr _)⟩
theorem Eh(x:Value)(w:World):(Instr.typeAssert (.iface 338 x) 20 344 true).run prog w=.ok (.tuple #[.agg #[.int .i64 0],.bool false]) w:=by kernel_rfl
theorem Eb(x:Value)(w:World):(Instr.typeAssert (.iface 340 x) 20 344 true).run prog w=.ok (.tuple #[.agg #[.int .i64 0],.bool false]) w:=by kernel_rfl
theorem Ef(x:Value)(w:World):(Instr.typeAssert (.iface 342 x) 20 344 true).run prog w=.ok (.tuple #[.agg #[.int .i64 0],.bool false]) w:=by kernel_rfl
theorem Ei(x:Value)(w:World):(Instr.typeAssert (.iface 344 x) 20 344 true).run prog w=.ok (.tuple #[x,.bool true]) w:=by kernel_rfl
theorem Eg(x:Value)(w:World):(Instr.typeAssert (.iface 338 x) 20 338 true).run prog w=.ok (.tuple #[x,.bool true]) w:=by kernel_rfl
theorem Ea(x:Value)(w:World):(Instr.typeAssert (.iface 340 x) 20 338 true).run prog w=.ok (.tuple #[.agg #[.int .i64 0,.int .i64 0],.bool false]) w:=by kernel_rfl
theorem Ee(x:Value)(w:World):(Instr.typeAssert (.iface 342 x) 20 338 true).run prog w=.ok (.tuple #[.agg #[.int .i64 0,.int .i64 0],.bool false]) w:=by kernel_rfl
theorem D9(x:Value)(w:World):(Instr.typeAssert (.iface 340 x) 20 340 true).run prog w=.ok (.tuple #[x,.bool true]) w:=by kernel_rfl
theorem Ec(x:Value)(w:World):(Instr.typeAssert (.iface 342 x) 20 340 true).run prog w=.ok (.tuple #[.agg #[.int .i64 0,M.none_],.bool false]) w:=by kernel_rfl
theorem Ed(x:Value)(w:World):(Instr.typeAssert (.iface 342 x) 20 342 true).run prog w=.ok (.tuple #[x,.bool true]) w:=by kernel_rfl
theorem FP{op a:Int}{w:World}:Calls prog 216 #[.iface 338 (.agg #[op,a])] w fun b c=>b=.returned (.agg #[op,a,M.none_,M.none_])∧Ext w c:=by
 have d:=Eh (.agg #[op,a]);have e:=Eg (.agg #[op,a]);go_enter func216,ntmps216;go_wp2;refine bodyPost_ret (v:=.agg #[op,a,M.none_,M.none_]) (by simp[results,results216,go_sem]) rfl ?_;exact⟨rfl,kx⟩
theorem FO{op:Int}{s:ByteArray}{w:World}:Calls prog 216 #[.iface 340 (.agg #[op,s])] w fun a b=>a=.returned (.agg #[op,.int .i64 0,s,M.none_])∧Ext w b:=by
 have c:=Eb (.agg #[op,s]);have d:=Ea (.agg #[op,s]);have e:=D9 (.agg #[op,s]);go_enter func216,ntmps216;go_wp2;refine bodyPost_ret (v:=.agg #[op,.int .i64 0,s,M.none_]) (by simp[results,results216,go_sem]) rfl ?_;exact⟨rfl,kx⟩
theorem JN{op:Int}{s m:ByteArray}{w:World}:Calls prog 216 #[.iface 342 (.agg #[op,s,m])] w fun a b=>a=.returned (.agg #[op,.int .i64 0,s,m])∧Ext w b:=by
 have c:=Ef (.agg #[op,s,m]);have d:=Ee (.agg #[op,s,m]);have e:=Ec (.agg #[op,s,m]);have f:=Ed (.agg #[op,s,m]);go_enter func216,ntmps216;go_wp2;refine bodyPost_ret (v:=.agg #[op,.int .i64 0,s,m]) (by simp[results,results216,go_sem]) rfl ?_;exact⟨rfl,kx⟩
theorem Cz{op:Int}{w:World}:Calls prog 216 #[.iface 344 (.agg #[op])] w fun a b=>a=.returned (.agg #[op,.int .i64 0,M.none_,M.none_])∧Ext w b:=by
 have c:=Ei (.agg #[op]);go_enter func216,ntmps216;go_wp2;refine bodyPost_ret (v:=.agg #[op,.int .i64 0,M.none_,M.none_]) (by simp[results,results216,go_sem]) rfl ?_;exact⟨rfl,kx⟩
theorem KS(op:Int)(w:World):Calls prog 230 #[op] w fun d g=>d=.returned (.tuple #[(M.pQ op),(M.qI op)])∧w=g:=by
 by_cases a:op=1
 . subst a;go_enter func230,ntmps230;go_wp2;go_ret2;exact⟨rfl,rfl⟩
 by_cases e:op=2
 . subst e;go_enter func230,ntmps230;go_wp2;go_ret2;exact⟨rfl,rfl⟩
 by_cases f:op=3
 . subst f;go_enter func230,ntmps230;go_wp2;go_ret2;exact⟨rfl,rfl⟩
 . have b:M.pQ op=0:=if_neg a;have c:M.qI op=15:=by unfold M.qI;rw[if_neg a,if_neg Zm]
   rw[b,c];clear b c;go_enter func230,ntmps230;go_wp2;go_ret2;exact⟨rfl,rfl⟩
theorem zo{op a:Int}{w:World}:Calls prog 217 #[.iface 338 (.agg #[op,a])] w fun b d=>b=.returned (.bool (decide (M.pQ op<=a)&&decide (a<=M.qI op)))∧Ext w d:=by
 have i:=Eh (.agg #[op,a]);have j:=Eg (.agg #[op,a]);generalize f:M.pQ op=l;generalize g:M.qI op=m;have c:=KS op;rw[f,g]at c;have e:=Zy c;clear c f g;by_cases h:l<=a
 . go_enter func217,ntmps217;go_wp2_with (go_at_call 230;refine(e _).mono ?_;rintro b d ⟨rfl,rfl⟩);go_ret;exact⟨hQ (by rw[decide_eq_true h];simp),kx⟩
 . go_enter func217,ntmps217;go_wp2_with (go_at_call 230;refine(e _).mono ?_;rintro b d ⟨rfl,rfl⟩);go_ret;exact⟨hQ (by rw[decide_eq_false (p:=l<=a) Zm];simp),kx⟩
theorem zn{op:Int}{s:ByteArray}{w:World}:Calls prog 217 #[.iface 340 (.agg #[op,s])] w fun a b=>a=.returned (.bool (M.jC s))∧Ext w b:=by
 have c:=Eb (.agg #[op,s]);have d:=Ea (.agg #[op,s]);have e:=D9 (.agg #[op,s]);go_enter func217,ntmps217;go_wp2_with (go_at_call 63;refine(Ar).mono ?_;rintro a b ⟨rfl,rfl⟩);go_ret;exact⟨rfl,kx⟩
theorem CZ{op:Int}{s m:ByteArray}{w:World}:Calls prog 217 #[.iface 342 (.agg #[op,s,m])] w fun a b=>a=.returned (.bool (M.jC s&&M.jC m))∧Ext w b:=by
 have e:=Ef (.agg #[op,s,m]);have f:=Ee (.agg #[op,s,m]);have g:=Ec (.agg #[op,s,m]);have h:=Ed (.agg #[op,s,m]);cases c:M.jC s
 all_goals
  have d:=Zy c;clear c;go_enter func217,ntmps217;go_wp2_with fail;refine(Ar).mono ?_;rintro a b ⟨rfl,rfl⟩;rw[d.o]
 . go_wp2;go_ret;exact⟨rfl,kx⟩
 . go_wp2_with (go_at_call 63;refine(Ar).mono ?_;rintro a b ⟨rfl,rfl⟩);go_ret;exact⟨rfl,kx⟩
theorem wB{op:Int}{w:World}:Calls prog 217 #[.iface 344 (.agg #[op])] w fun a b=>a=.returned (.bool true)∧Ext w b:=by
 have c:=Ei (.agg #[op]);go_enter func217,ntmps217;go_wp2;go_ret;exact⟨rfl,kx⟩
theorem NZ:ym 108 8:=⟨_,underlying108,by kernel_rfl⟩
abbrev Key:=Int×ByteArray
def lC(r:Key):Value:=.agg #[.int .i64 r.1,.string r.2]
def rM(x:Key×Int):Value×Value:=(lC x.1,.int .i64 x.2)
def kH(w:World)(b:Nat)(m:List (Key×Int)):Prop:=
 ∃es clock,w.heap[b]?=some (.map es clock)∧es.toList.map (fun e=>(e.key,e.val))=m.map rM
def look(m:List (Key×Int))(k:Key):Option Int:=(m.find? fun x=>decide (k=x.1)).map Prod.snd
theorem uy{m:List (Key×Int)}{k:Key}{v:Int}(a:look m k=none):look (m++[(k,v)]) k=some v:=by
 unfold look at*;rw[List.find?_append];cases b:m.find? fun c=>decide (k=c.1)
 . simp
 . rw[b]at a;simp at a
theorem sZ{m:List (Key×Int)}{k a:Key}{v:Int}(b:a≠k):look (m++[(k,v)]) a=look m a:=by
 unfold look;rw[List.find?_append];cases d:m.find? fun c=>decide (a=c.1)
 . simp[b]
 . rfl
theorem kH.lt{w:World}{b:Nat}{m:List (Key×Int)}(a:kH w b m):b<w:=by
 obtain⟨e,d,c,_⟩:=a;exact(Array.getElem?_eq_some_iff.1 c).1
theorem kH.keep{w a:World}{b:Nat}{m:List (Key×Int)}(f:kH w b m)(h:a.heap[b]?=w.heap[b]?):kH a b m:=by
 obtain⟨e,c,g,d⟩:=f;exact⟨e,c,h.trans g,d⟩
theorem kH.kp{D:Nat->Prop}{w c:World}{b:Nat}{m:List (Key×Int)}(a:kH w b m)(e:Kp D w c)(d:¬D b):kH c b m:=a.keep (e.block b a.lt d)
theorem kH.new(w:World):kH (w.alloc (.map #[] 0)) w []:=⟨#[],0,heap_alloc_new w _,rfl⟩
theorem uZ(a b:Key)(w:World):(Op.equal 63 (lC a) (lC b)).run prog w=.ok (decide (a=b)) w:=by
 unfold Op.equal lC;show(Op.equalIn 10000 _ _ _).run _ w=_
 go_simp;obtain⟨e,c⟩:=a;obtain⟨f,d⟩:=b;have g:(c.toList=d.toList)↔c=d:=by
  rw[ByteArray.toList_eq,ByteArray.toList_eq];obtain⟨⟨j⟩⟩:=c;obtain⟨⟨k⟩⟩:=d;simp
 simp only[g,Prod.mk.injEq];by_cases h:e=f<;>by_cases i:c=d<;>simp[h,i]
theorem lI(a:Bool)(k:Int)(s:ByteArray)(w:World):(Instr.checkKey a 10000 63 (.agg #[k,s])).run prog w=.ok () w:=by
 cases a<;>kernel_rfl
theorem uB:prog.underlying 125=some (.map 63 3):=underlying125
theorem De:∃a,prog.underlying 63=some (.struct a):=⟨_,underlying63⟩
theorem tC(k:Key)(w:World):∀(a:List MapEntry) (m:List (Key×Int)) (i:Nat),a.map (fun c=>(c.key,c.val))=m.map rM→ (look m k=none∧(Instr.findAsking 63 (lC k) a i).run prog w=.ok none w)∨∃h q,look m k=some h∧(Instr.findAsking 63 (lC k) a i).run prog w=.ok (some (q,.int .i64 h)) w:=by
 intro a;induction a with
 |nil=>
  intro m i d;cases m with
  |nil=>exact .inl ⟨rfl,rfl⟩
  |cons b f=>simp at d
 | cons c a p =>
  intro m i d;cases m with
  |nil=>simp at d
  |cons b f=>
   simp only[List.map_cons,List.cons.injEq]at d;obtain⟨g,j⟩:=d;have l:c.key=lC b.1:=congrArg Prod.fst g;have o:c.val=.int .i64 b.2:=congrArg Prod.snd g;unfold Instr.findAsking;rw[l];simp only[Sem.run_bind,uZ,Result.andThen_ok];by_cases e:k=b.1
   . refine .inr ⟨b.2,i,by unfold look;rw[List.find?_cons_of_pos (by simp[e])];rfl,?_⟩;simp[e,o]
   . have n:look (b::f) k=look f k:=by unfold look;rw[List.find?_cons_of_neg (by simp[e])]
     rw[n,decide_eq_false e];simpa using p f (i+1) j
theorem o9(k:Key)(w:World)(a:List MapEntry)(m:List (Key×Int))(c:a.map (fun b=>(b.key,b.val))=m.map rM):(look m k=none∧(Instr.findKey 63 (lC k) a).run prog w=.ok none w)∨∃d h,look m k=some d∧(Instr.findKey 63 (lC k) a).run prog w=.ok (some (h,.int .i64 d)) w:=by
 obtain⟨e,f⟩:=De;unfold Instr.findKey;simp only[Sem.run_bind,run_underlying f,Result.andThen_ok];cases a with
 |nil=>
  cases m with
  |nil=>exact .inl ⟨rfl,rfl⟩
  |cons j i=>simp at c
 |cons b a=>
  have g:Instr.findNow (.struct e) (lC k) (b::a) 0=none:=by simp[Instr.findNow,Instr.sameNow]
  rw[g];exact tC k w (b::a) m 0 c
theorem oD{w:World}{b:Nat}{m:List (Key×Int)}(f:kH w b m)(k:Int)(s:ByteArray):(Instr.lookup 125 (.map (some b)) (.agg #[k,s]) true).run prog w=.ok (.tuple #[.int .i64 ((look m (k,s)).getD 0),.bool (look m (k,s)).isSome]) w:=by
 obtain⟨e,h,d,g⟩:=f;unfold Instr.lookup;simp only[Sem.run_bind,run_underlying uB,Result.andThen_ok];rcases o9 (k,s) w e.toList m g with⟨c,a⟩|⟨j,i,c,a⟩
 . simp only[lC]at a;simp[getObj,Sem.run,d,lI,a,c,go_sem]
 . simp only[lC]at a;simp[getObj,Sem.run,d,lI,a,c,go_sem]
theorem wL{w:World}{b:Nat}{m:List (Key×Int)}(f:kH w b m)(k:Int)(s:ByteArray):(Instr.lookup 125 (.map (some b)) (.agg #[k,s]) false).run prog w=.ok (.int .i64 ((look m (k,s)).getD 0)) w:=by
 obtain⟨e,h,d,g⟩:=f;unfold Instr.lookup;simp only[Sem.run_bind,run_underlying uB,Result.andThen_ok];rcases o9 (k,s) w e.toList m g with⟨c,a⟩|⟨j,i,c,a⟩
 . simp only[lC]at a;simp[getObj,Sem.run,d,lI,a,c,go_sem]
 . simp only[lC]at a;simp[getObj,Sem.run,d,lI,a,c,go_sem]
theorem zA{w:World}{b:Nat}{m:List (Key×Int)}(l:kH w b m)(k:Int)(s:ByteArray)(v:Int)(i:look m (k,s)=none):∃a,(Instr.mapUpdate 125 (.map (some b)) (.agg #[k,s]) v).run prog w=.ok () a∧kH a b (m++[((k,s),v)])∧Kp (·=b) w a∧a.heap.size=w:=by
 obtain⟨e,d,g,h⟩:=l;refine⟨{w with heap:=w.heap.setIfInBounds b (.map (e.push {key:=.agg #[k,s],val:=v,born:=d}) (d+1))},?_,?_,?_,by simp⟩
 . unfold Instr.mapUpdate;simp only[Sem.run_bind,run_underlying uB,Result.andThen_ok];rcases o9 (k,s) w e.toList m h with⟨f,c⟩|⟨v,r,f,c⟩
   . simp only[lC]at c;simp[getObj,setObj,Sem.run,g,lI,c,go_sem]
   . rw[f]at i;cases i
 . have n:=(Array.getElem?_eq_some_iff.1 g).1;refine⟨_,_,by simp[n];exact⟨rfl,rfl⟩,?_⟩;simp[h,rM,lC]
 . refine⟨rfl,rfl,rfl,by simp,fun q p o=>?_⟩;simp only[Array.getElem?_setIfInBounds];rw[if_neg (fun j=>o j.symm)]
theorem lN{w:World}{f:Array Oper}{rest:List Oper}{d:Oper}{a:Act}{Q:Exit->Act->World->Prop}(j:d.guard=none) {e x y:Operand} (o:d.op=Op.mapUpdate 125 e x y) (b:Nat) (m:List (Key×Int)) (k:Int) (s:ByteArray) (v:Int)(l:a.eval e=.map (some b)) (r:a.eval x=.agg #[k,s]) (q:a.eval y=.int .i64 v) (g:kH w b m) (n:look m (k,s)=none)(h:∀c,kH c b (m++[((k,s),v)])->Kp (·=b) w c->c.heap.size=w->wpList prog f Q rest (a.put d.dst undef) c):wpList prog f Q (d::rest) a w:=by
 refine wpList_plain j fun A i=>?_;obtain⟨c,p,t,u,z⟩:=zA g k s v n;unfold Oper.wp;simp[execOp,o,l,r,q,p,Result.andThen];exact i _ _ (h c t u z)
structure jh where
 L:Nat
 O:Nat
 A:Nat
 D:Nat
structure jg(w:World)(l:jh)(p:M.hZ):Prop where
 ok:M.kU p=true
 ord:l.O<l.A∧l.A<l.D∧l.D<l.L
 blk:∃a cap,hV w l.L 127 #[.slice a p.length cap,.map (some l.O),.map (some l.A),.map (some l.D)]∧SliceOf 2 jc w (· <l.O) (.slice a p.length cap) p
 own:∃m,kH w l.O m∧∀k s,look m (k,s)=(M.vS p ⟨k,s⟩).map Int.ofNat
 ask:∃m,kH w l.A m∧∀k s,look m (k,s)=M.zh p k s
 laid:∃m,kH w l.D m∧∀k s v,look m (k,s)=some v->v=if M.kg p ⟨k,s⟩then 1 else 2
theorem jg.lt{w:World}{l:jh}{p:M.hZ}(a:jg w l p):l.L<w:=by
 obtain⟨c,d,b,_⟩:=a.blk;exact b.lt
theorem jg.keep{w g:World}{l:jh}{p:M.hZ}(a:jg w l p)(c:∀f,f<=l.L->g.heap[f]?=w.heap[f]?):jg g l p:=by
 obtain⟨r,s,t⟩:=a.ord;refine⟨a.ok,a.ord,?_,?_,?_,?_⟩
 . obtain⟨h,j,k,n⟩:=a.blk;exact⟨h,j,k.keep (c _ (Nat.le_refl _)),n.keep jc.stays (fun i q u o m=>(World.cell?_of_block (c i Zm)).trans m) fun _ a=>a⟩
 . obtain⟨e,d,b⟩:=a.own;exact⟨e,d.keep (c _ Zm),b⟩
 . obtain⟨e,d,b⟩:=a.ask;exact⟨e,d.keep (c _ Zm),b⟩
 . obtain⟨e,d,b⟩:=a.laid;exact⟨e,d.keep (c _ Zm),b⟩
theorem jg.kp{D:Nat->Prop}{w c:World}{l:jh}{p:M.hZ}(b:jg w l p)(e:Kp D w c)(d:∀a,a<=l.L->¬D a):jg c l p:=
 b.keep fun a f=>e.block a (by have:=b.lt;omega) (d a f)
theorem jg.ext{w a:World}{l:jh}{p:M.hZ}(b:jg w l p)(c:Ext w a):jg a l p:=b.kp c fun _ _ d=>d
theorem jg.F6{w:World}{l:jh}{p:M.hZ}(e:jg w l p):∀a,Ext w a->∀b c,(Instr.lookup 125 (.map (some l.O)) (.agg #[.int .i64 b,.string c]) true).run prog a=.ok (.tuple #[.int .i64 (((M.vS p ⟨b,c⟩).map Int.ofNat).getD 0),.bool (M.vS p ⟨b,c⟩).isSome]) a:=by
 intro a f b c;obtain⟨i,g,d⟩:=e.own;rw[oD (g.kp f fun h=>h),d];simp
theorem jg.MM{w:World}{l:jh}{p:M.hZ}(e:jg w l p):∀a,Ext w a->∀b c,(Instr.lookup 125 (.map (some l.O)) (.agg #[.int .i64 b,.string c]) false).run prog a=.ok (.int .i64 (((M.vS p ⟨b,c⟩).map Int.ofNat).getD 0)) a:=by
 intro a f b c;obtain⟨i,g,d⟩:=e.own;rw[wL (g.kp f fun h=>h),d]
theorem jg.F5{w:World}{l:jh}{p:M.hZ}(e:jg w l p):∀a,Ext w a->∀b c,(Instr.lookup 125 (.map (some l.A)) (.agg #[.int .i64 b,.string c]) true).run prog a=.ok (.tuple #[.int .i64 ((M.zh p b c).getD 0),.bool (M.zh p b c).isSome]) a:=by
 intro a f b c;obtain⟨i,g,d⟩:=e.ask;rw[oD (g.kp f fun h=>h),d]
theorem jg.cells{w:World}{l:jh}{p:M.hZ}(f:jg w l p):∃c d,SliceOf 2 jc w (· <l.O) (.slice c p.length d) p∧(∀a,Ext w a->a.cell? l.L=some (.slice c p.length d))∧(∀a,Ext w a->a.cell? (l.L,1)=some (.map (some l.O)))∧(∀a,Ext w a->a.cell? (l.L,2)=some (.map (some l.A)))∧(∀a,Ext w a->a.cell? (l.L,3)=some (.map (some l.D))):=by
 obtain⟨c,d,e,g⟩:=f.blk;exact⟨c,d,g,fun a b=>Kp.jb b (e.c 0 _ rfl),fun a b=>Kp.jb b (e.c 1 _ rfl),fun a b=>Kp.jb b (e.c 2 _ rfl),fun a b=>Kp.jb b (e.c 3 _ rfl)⟩
end Go.Proofs.YtlhlnddgfcmfkaaGreat
namespace Go.Proofs.YtlhlnddgfcmfkaaGreat.M
theorem DN{p:hZ}{n:ByteArray}:∀{f:Nat} {a:List Int} {k:Int},a.getLastD 0=k->(mG p n f a k).2=1→
    zh p ((mG p n f a k).1.getLastD 0) n=none
 |0,_,_,_,h=>by simp[mG]at h
 |f+1,a,k,hl,h=>by
  unfold mG at h ⊢;split at h
  . rename_i c;split at h
    . rename_i b;simp only[b,if_true];rw[hl];exact c
    . simp at h
  . rename_i next c
    split at h
    . simp at h
    . rename_i b;simp only[b,if_false,Bool.false_eq_true];exact DN Zl h
theorem Al{p:hZ}{k:Int}{n:ByteArray}(b:(resolve p k n).2=1):(resolve p k n).1.name=n∧(path p k n).2=1∧(resolve p k n).1.keeper=(path p k n).1.getLastD 0:=by
 unfold resolve at b ⊢;split at b
 . rename_i a;rw[if_pos a];exact⟨rfl,a,rfl⟩
 . rename_i a;exact absurd b a
theorem Gg{p:hZ}{k:Int}{n:ByteArray}(b:(resolve p k n).2=1):resolve p (resolve p k n).1.keeper (resolve p k n).1.name=((resolve p k n).1,1):=by
 obtain⟨e,a,f⟩:=Al b;obtain⟨j,c⟩:=mK b;have h:=Cw c;have g:zh p (resolve p k n).1.keeper (resolve p k n).1.name=none:=by
  rw[e,f];unfold path at a ⊢;split at a
  . rename_i i;rw[if_pos i];exact DN rfl a
  . simp at a
 have d:path p (resolve p k n).1.keeper (resolve p k n).1.name=([(resolve p k n).1.keeper],1):=by
  unfold path;rw[if_pos (Cy.2 h)];unfold mG;rw[g];simp only;rw[if_pos (by unfold owned;show(cls? p (resolve p k n).1).isSome=true;rw[c];rfl)]
 generalize (resolve p k n).1=x at d;unfold resolve;rw[d];rfl
theorem G9{p:hZ}{x:Ref}(f:resolve p x.keeper x.name=(x,1))(h:∃b a,kv p b x=some a∧a.length<=6):nH p x=true∧∃b a,kv p b x=some a∧chain p x=a:=by
 obtain⟨b,a,c,g⟩:=h;have d:uo p x=some a:=vY _ _ _ c 6 g;have e:nH p x=true:=by
  unfold nH find;rw[f];simp[d]
 exact⟨e,b,a,c,by unfold chain;rw[if_pos e,d];rfl⟩
theorem sj{p:hZ}{r:Ref}(a:nH p r=true):resolve p r.keeper r.name=(r,1)∧∃c,uo p r=some c∧chain p r=c:=by
 have g:=a;unfold nH find at a;by_cases b:(resolve p r.keeper r.name).2=1
 . rw[if_pos b]at a;split at a
   . rename_i e;simp at a;have d:resolve p r.keeper r.name=(r,1):=Prod.ext a b;rw[d]at e;obtain⟨c,f⟩:=Option.isSome_iff_exists.1 e;exact⟨d,c,f,by unfold chain;rw[if_pos g,f];rfl⟩
   . simp at a
 . rw[if_neg b]at a;simp at a;exact absurd a.1 b
theorem AJ{p:hZ}:∀(f:Nat) (r:Ref) (l:List Ref),kv p f r=some l->resolve p r.keeper r.name=(r,1)->∀c∈l,resolve p c.keeper c.name=(c,1):=by
 intro f;induction f with
 |zero=>intro r l a;simp[kv]at a
 |succ f h=>
  intro r l a e c b;unfold kv at a;split at a
  . cases a;simp at b;subst b;exact e
  . split at a
    . rename_i g;cases d:kv p f (resolve p r.keeper (jl p r)).1 with
      |none=>rw[d]at a;simp at a
      |some i=>
       rw[d]at a;simp at a;subst a;rcases List.mem_cons.1 b with rfl|b
       . exact e
       . exact h _ _ d (Gg g) c b
    . cases a
theorem vJ{p:hZ}{r x:Ref}(a:x∈chain p r):nH p x=true∧∃n,chain p r=n++chain p x:=by
 have l:nH p r=true:=by
  unfold chain at a;split at a
  . rename_i b;exact b
  . simp at a
 obtain⟨h,m,b,j⟩:=sj l;rw[j]at a ⊢;obtain⟨d,k⟩:=List.getElem?_of_mem a;obtain⟨i,c⟩:=uq _ _ _ b d x k;have q:=BA _ _ _ b;obtain⟨e,o,s,f,g⟩:=G9 (AJ _ _ _ b h x a) ⟨i,_,c,by simp;omega⟩;refine⟨e,m.take d,?_⟩;rw[g,BB f c,List.take_append_drop]
theorem vV{p:hZ}{r:Ref}(a:nH p r=true):∃d,chain p r=r::d:=by
 obtain⟨e,f,b,c⟩:=sj a;rw[c];exact vW _ _ _ b
theorem mR{p:hZ}{r x:Ref}(c:x∈chain p r):∃b,cls? p x=some b:=by
 obtain⟨a,_⟩:=sj (vJ c).1;have:=mK (p:=p) (k:=x.keeper) (n:=x.name) (by rw[a]);rwa[a]at this
def zS(p:hZ)(r:Ref):Nat:=(ll p (chain p r).reverse []).length
theorem zZ(p:hZ):∀(a:List Ref) (b:List ry),(ll p a b).length=b.length+(a.map fun c=>(cls p c).fields.length).sum:=by
 intro a;induction a with
 |nil=>intro b;simp[ll]
 |cons c e d=>intro b;unfold ll;rw[d,sH];simp;omega
theorem FJ(p:hZ)(c:Ref):∀(a K:List Ref) (n:Nat),c ∉ a->oU p c (a++c::K) n=n+(a.map fun c=>(cls p c).fields.length).sum:=by
 intro a;induction a with
 |nil=>intro K n _;simp[oU]
 |cons f g e=>
  intro K n b;simp only[List.mem_cons,not_or]at b;simp only[List.cons_append,oU];rw[if_neg (fun d=>b.1 d.symm),e _ _ b.2];simp;omega
theorem FT{p:hZ}{r:Ref}{i:Nat}{f:ry}(g:(layout p r)[i]?=some f):i<zS p f.of:=by
 obtain⟨_,k,_,q,n,h,b,_⟩:=yF g;obtain⟨j,s,l⟩:=vJ k;obtain⟨m,a⟩:=vV j;have c:=Bz p f.of;rw[a,List.nodup_cons]at c;have e:ou p f.of r=((m.reverse).map fun d=>(cls p d).fields.length).sum:=by
  unfold ou;rw[l,a,List.reverse_append,List.reverse_cons,List.append_assoc,List.singleton_append,FJ _ _ _ _ _ (by simpa using c.1),Nat.zero_add]
 have o:=(List.getElem?_eq_some_iff.1 h).1;unfold zS;rw[zZ,a,List.reverse_cons,List.map_append,List.sum_append];simp;rw[e]at b;simp at b;omega
theorem Ij{p:hZ}{a top:Ref}(d:kg p a=true)(b:under p a top=true):zS p top<=(layout p a).length:=by
 unfold under at b;obtain⟨_,f,e⟩:=vJ (by simpa using b);unfold layout zS;rw[if_pos d,e,List.reverse_append,wV];obtain⟨g,c⟩:=FR p f.reverse (ll p (chain p top).reverse []);rw[c];simp
theorem zN{p:hZ}{r:Ref}(a:kg p r=true):nH p r=true∧r∈chain p r:=by
 have b:nH p r=true:=by
  unfold kg at a;cases b:nH p r
  . unfold chain at a;rw[b]at a;simp at a
  . rfl
 obtain⟨d,c⟩:=vV b;exact⟨b,by rw[c];simp⟩
theorem BH{p:hZ}{k:Int}{m:ByteArray}{r:Ref}:∀{l:List ry},(rO p k m r l).2=1->(rO p k m r l).1∈l
 |[],h=>by simp[rO]at h
 |f::l,h=>by
  unfold rO at h ⊢;split at h
  . rename_i a;rw[if_pos a];split at h
    . rename_i b;rw[if_pos b];simp
    . simp at h
  . rename_i a;rw[if_neg a];exact List.mem_cons_of_mem _ (BH h)
theorem EY{p:hZ}{k:Int}{n m:ByteArray}(a:(get p k n m).2=1):∃(r:Ref) (i:Nat),(layout p r)[i]?=some (get p k n m).1:=by
 unfold get at a ⊢;split at a
 . rename_i b;rw[if_pos b];obtain⟨i,c⟩:=List.getElem?_of_mem (BH a);exact⟨_,i,c⟩
 . rename_i b;exact absurd a b
theorem Kj{p:hZ}{k:Int}{n m:ByteArray}(c:(get p k n m).2=1){a:Ref}(d:kg p a=true)(e:under p a (get p k n m).1.of=true):0<=(get p k n m).1.at_∧(get p k n m).1.at_.toNat<(layout p a).length:=by
 obtain⟨j,i,b⟩:=EY c;have f:=(yF b).2.2.1;have g:=FT b;have h:=Ij d e;omega
theorem tQ{p:hZ}{n:ByteArray}:∀{l:List Ref} {x:rE},sD p n l=some x->x.of∈l∧∃a:Nat,x.at_=a∧og (cls p x.of) n=some a
 |[],x,h=>by simp[sD]at h
 |c::r,x,h=>by
  unfold sD at h;split at h
  . rename_i a e;cases h;exact⟨by simp,a,rfl,e⟩
  . obtain⟨b,d⟩:=tQ h;exact⟨List.mem_cons_of_mem _ b,d⟩
theorem zu{p:hZ}{r:Ref}{n:ByteArray}{x:rE}(b:pick p r n=some x):kg p r=true∧x.of∈chain p r∧∃i a d,x.at_=(i:Nat)∧cls? p x.of=some a∧a.methods[i]?=some d∧d.name=n∧method? p x=some d:=by
 unfold pick at b;split at b
 . rename_i l;obtain⟨f,i,g,c⟩:=tQ b;obtain⟨a,h⟩:=mR f;have e:cls p x.of=a:=by unfold cls;rw[h];rfl
   rw[e]at c;unfold og at c;rw[List.findIdx?_eq_some_iff_getElem]at c;obtain⟨j,k,_⟩:=c;exact⟨l,f,i,a,a.methods[i],g,h,List.getElem?_eq_getElem j,by simpa using k,by
    unfold method?;rw[g,if_pos (Int.natCast_nonneg i),e];exact List.getElem?_eq_getElem j⟩
 . cases b
theorem qM{p:hZ}{k:Int}{n m:ByteArray}(a:(call p k n m).2=1):∃e,pick p e m=some (call p k n m).1:=by
 unfold call at a ⊢;split at a
 . rename_i b;rw[if_pos b];cases c:pick p (jN p k n m).1 m with
   |none=>rw[c]at a;simp at a
   |some f=>
    rw[c]at a;refine⟨_,c.trans ?_⟩;simp only at a ⊢;split at a
    . rename_i d;rw[if_pos d]
    . simp at a
 . rename_i b;exact absurd a b
theorem sV{p:hZ}{x:rE}(b:ky p x=true):kg p x.of=true∧∃i a g,x.at_=(i:Nat)∧cls? p x.of=some a∧a.methods[i]?=some g∧method? p x=some g:=by
 unfold ky at b;simp only[Bool.and_eq_true,decide_eq_true_eq]at b;obtain⟨⟨d,h⟩,j⟩:=b;obtain⟨a,e⟩:=mR (zN d).2;have c:cls p x.of=a:=by unfold cls;rw[e];rfl
 rw[c]at j;have f:x.at_.toNat<a.methods.length:=by omega
 exact⟨d,x.at_.toNat,a,a.methods[x.at_.toNat],by omega,e,List.getElem?_eq_getElem f,by
  unfold method?;rw[if_pos h,c];exact List.getElem?_eq_getElem f⟩
structure Good(p:hZ)(s:St):Prop where
 heap:oV p s.heap=true
 frames:∀f∈s.frames,kZ p f s.heap.length=true
 nf:s.frames.length<=8
 outs:s.outs.length<=40
 sw:∀n∈s.outs,nQ n=true
 back:ko s.back s.heap.length=true
theorem jA{p:hZ}{f:Fr}{n:Nat}:kZ p f n=true↔ky p f.of=true∧0<=f.pc∧f.pc<(method p f.of).code.length∧(f.locals.length:Int)=(method p f.of).locals∧(f.stack.length:Int)<=(method p f.of).stack∧(∀a∈f.locals,ko a n=true)∧(∀a∈f.stack,ko a n=true):=by
 unfold kZ;simp only[Bool.and_eq_true,decide_eq_true_eq,List.all_eq_true,and_assoc]
theorem mZ{p:hZ}{a:List qL}:oV p a=true↔a.length<=12∧∀b∈a,kg p b.of=true∧b.fields.length=(layout p b.of).length∧∀c∈b.fields,ko c a.length=true:=by
 unfold oV;simp only[Bool.and_eq_true,decide_eq_true_eq,List.all_eq_true,and_assoc]
theorem wQ{v:Val}{n m:Nat}(a:ko v n=true)(e:n<=m):ko v m=true:=by
 unfold ko at*;split at a
 . rename_i b;rw[if_pos b];exact a
 . rename_i b;rw[if_neg b];split at a
   . rename_i c;rw[if_pos c];exact a
   . rename_i c;rw[if_neg c];split at a
     . rename_i d;rw[if_pos d];simp only[Bool.and_eq_true,decide_eq_true_eq]at*;omega
     . cases a
theorem sF{v:Val}{n:Nat}(a:ko v n=true)(b:v.kind=2):0<=v.n∧v.n<n:=by
 unfold ko at a;rw[b]at a;simpa using a
theorem yP{v:Val}{n:Nat}(a:ko v n=true)(b:v.kind=1): -9999<=v.n∧v.n<=9999:=by
 unfold ko nQ at a;rw[b]at a;simpa using a
theorem zF(n:Nat):ko qH n=true:=by simp[ko,qH]
theorem Jw(n:Nat):ko lQ n=true:=by simp[ko,lQ]
theorem pg{k:Int}(n:Nat)(a:nQ k=true):ko (mF k) n=true:=by
 unfold ko mF;simpa using a
theorem Aq{k:Int}(n:Nat)(a:0<=k)(b:k<n):ko ⟨2,k⟩ n=true:=by
 unfold ko;simp;omega
theorem zD{s:St}{r:List Fr}{t:Fr}(a:s.frames=r++[t]):top s=t:=by unfold top;rw[a];simp
theorem qw{s:St}{r:List Fr}{t:Fr}(a:s.frames=r++[t])(f:Fr->Fr):DK s f={s with frames:=r++[f t]}:=by unfold DK;rw[a];simp
theorem I1{s:St}(a:s.frames≠[]):∃b c,s.frames=b++[c]:=⟨s.frames.dropLast,s.frames.getLast a,(List.dropLast_concat_getLast a).symm⟩
section
variable {p:hZ} {s:St} {r:List Fr} {t:Fr}
theorem Good.top(b:Good p s)(a:s.frames=r++[t]):kZ p t s.heap.length=true:=b.frames t (by rw[a];simp)
theorem Good.turn(a:Good p s)(c:s.frames=r++[t]){d:Fr}(f:kZ p d s.heap.length=true):Good p {s with frames:=r++[d]}:=by
 refine⟨a.heap,?_,?_,a.outs,a.sw,a.back⟩
 . intro e b;rcases List.mem_append.1 b with b|b
   . exact a.frames e (by rw[c];exact List.mem_append_left _ b)
   . simp at b;subst b;exact f
 . have:=a.nf;rw[c]at this;simpa using this
def qK(p:hZ)(x:Int×St):Prop:=1<=x.1∧x.1<=10∧Good p x.2∧(x.1=1->x.2.frames≠[])∧x.2.status=1
theorem vN(c:Good p s)(b:s.frames=r++[t])(d:s.status=1){e:Int}(h0:0<=e):qK p (jump p e s):=by
 have g:=c.top b;have a:=jA.1 g;unfold jump;rw[zD b,qw b];split
 . exact⟨by simp,by simp,c,fun f=>by simp at f,d⟩
 . rename_i h;refine⟨by simp,by simp,c.turn b (jA.2 ⟨a.1,h0,by simp only;omega,a.2.2.2.1,a.2.2.2.2.1,a.2.2.2.2.2.1,a.2.2.2.2.2.2⟩),fun _=>by simp,d⟩
theorem su(b:Good p s)(a:s.frames=r++[t])(c:s.status=1):qK p (next p s):=by
 have d:=jA.1 (b.top a);unfold next
 rw[zD a];exact vN b a c Zm
theorem p8(d:Good p s)(c:s.frames=r++[t])(e:s.status=1){v:Val}(g:ko v s.heap.length=true):qK p (push p v s):=by
 have a:=jA.1 (d.top c);unfold push;rw[zD c,qw c];split
 . exact⟨by simp,by simp,d,fun f=>by simp at f,e⟩
 . rename_i i;refine su (r:=r) (t:={t with stack:=t.stack++[v]}) (d.turn c (jA.2 ⟨a.1,a.2.1,a.2.2.1,a.2.2.2.1,by simp;omega,a.2.2.2.2.2.1,?_⟩)) rfl e;intro h b;rcases List.mem_append.1 b with b|b
   . exact a.2.2.2.2.2.2 h b
   . simp at b;subst b;exact g
theorem qY{c:Nat}(b:s.frames=r++[t]){vs:List Val}{d:St}(a:nL c s=some (vs,d)):
    c<=t.stack.length∧vs=t.stack.drop (t.stack.length - c)∧vs.length=c∧d={s with frames:=r++[{t with stack:=t.stack.take (t.stack.length - c)}]}:=by
 unfold nL at a;rw[zD b,qw b]at a;split at a
 . cases a
 . cases a;refine⟨by omega,rfl,by simp;omega,rfl⟩
theorem Good.popped(c:Good p s)(b:s.frames=r++[t])(n:Nat):Good p {s with frames:=r++[{t with stack:=t.stack.take n}]}:=by
 have a:=jA.1 (c.top b);refine c.turn b (jA.2 ⟨a.1,a.2.1,a.2.2.1,a.2.2.2.1,?_,a.2.2.2.2.2.1,fun e d=>a.2.2.2.2.2.2 e (List.mem_of_mem_take d)⟩);have:(t.stack.take n).length<=t.stack.length:=by simp;omega
 have:=a.2.2.2.2.1;simp only;omega
theorem uQ{c:Nat}(e:Good p s)(b:s.frames=r++[t]){vs:List Val}{a:St}(h:nL c s=some (vs,a)):
    vs.length=c∧(∀d∈vs,ko d s.heap.length=true)∧Good p a∧a.frames=r++[{t with stack:=t.stack.take (t.stack.length - c)}]∧a.heap=s.heap∧a.outs=s.outs∧a.back=s.back∧a.status=s.status:=by
 obtain⟨j,f,g,rfl⟩:=qY b h;refine⟨g,fun d i=>?_,e.popped b _,rfl,rfl,rfl,rfl,rfl⟩;subst f;exact(jA.1 (e.top b)).2.2.2.2.2.2 d (List.mem_of_mem_drop i)
theorem Nq(i:Good p s)(f:s.frames=r++[t]){v:Val}{a:St}(b:pop s=some (v,a)):
    ko v s.heap.length=true∧Good p a∧a.frames=r++[{t with stack:=t.stack.take (t.stack.length - 1)}]∧a.heap=s.heap∧a.outs=s.outs∧a.back=s.back∧a.status=s.status:=by
 unfold pop at b;rw[Option.map_eq_some_iff]at b;obtain⟨⟨j,k⟩,g,h⟩:=b;cases h;obtain⟨c,d,e⟩:=uQ i f g;refine⟨?_,e⟩;match j,c with
 |[x],_=>exact d x Zl
theorem qK.bad{n:Int}(c:Good p s)(d:s.status=1)(e:1<n)(b:n<=10):qK p (n,s):=⟨by simp only;omega,b,c,fun a=>by simp only at a;omega,d⟩
theorem Bc(v:Val)(q:Ref)(s:St):object p v q s=1∨(1<object p v q s∧object p v q s<=10):=by
 unfold object;split
 . right;decide
 . split
   . right;decide
   . split
     . left;rfl
     . right;decide
theorem uC{v:Val}{q:Ref}(a:object p v q s=1):v.kind=2∧under p (uX s.heap v.n) q=true:=by
 unfold object at a;split at a
 . cases a
 . split at a
   . cases a
   . rename_i c;split at a
     . rename_i b;exact⟨by omega,b⟩
     . cases a
theorem Om{n:Int}(h0:0<=n)(c:n<s.heap.length):∃a,s.heap[n.toNat]?=some a∧a∈s.heap∧uX s.heap n=a.of∧qo s.heap n=a.fields:=by
 have b:n.toNat<s.heap.length:=by omega
 refine⟨s.heap[n.toNat],List.getElem?_eq_getElem b,List.getElem_mem _,?_,?_⟩
 . unfold uX;rw[List.getElem?_eq_getElem b];rfl
 . unfold qo;rw[List.getElem?_eq_getElem b];rfl
theorem xH(o:Good p s){k:Int}{n m:ByteArray}(q:(get p k n m).2=1){v:Val}(t:ko v s.heap.length=true)(r:object p v (get p k n m).1.of s=1):0<=v.n∧v.n<s.heap.length∧0<=(get p k n m).1.at_∧∃a,s.heap[v.n.toNat]?=some a∧a∈s.heap∧qo s.heap v.n=a.fields∧(get p k n m).1.at_.toNat<a.fields.length:=by
 obtain⟨h,b⟩:=uC r;obtain⟨c,d⟩:=sF t h;obtain⟨a,i,e,j,l⟩:=Om (s:=s) c d;rw[j]at b;have:=(mZ.1 o.heap).2 a e;obtain⟨f,g⟩:=Kj q this.1 b;exact⟨c,d,f,a,i,e,l,by rw[this.2.1];exact g⟩
theorem Mq{q:Ref}(n:Nat):∀b∈(fresh p q).fields,ko b n=true:=by
 intro b a;unfold fresh at a;simp only[List.mem_map]at a;obtain⟨c,_,rfl⟩:=a;split
 . exact pg n Zn
 . exact zF n
theorem Good.grow(a:Good p s){q:Ref}(v:kg p q=true)(x:s.heap.length<12):Good p {s with heap:=s.heap++[fresh p q]}:=by
 have e:s.heap.length<=(s.heap++[fresh p q]).length:=by simp
 obtain⟨_,t⟩:=mZ.1 a.heap;refine⟨mZ.2 ⟨by simp;omega,?_⟩,?_,a.nf,a.outs,a.sw,wQ a.back e⟩
 . intro w b;rcases List.mem_append.1 b with b|b
   . obtain⟨f,n,o⟩:=t w b;exact⟨f,n,fun d c=>wQ (o d c) e⟩
   . simp at b;subst b;exact⟨v,by simp[fresh],Mq _⟩
 . intro r u;obtain⟨g,h,i,j,k,l,m⟩:=jA.1 (a.frames r u);exact jA.2 ⟨g,h,i,j,k,fun d c=>wQ (l d c) e,fun d c=>wQ (m d c) e⟩
theorem Good.set(c:Good p s){n a:Int}{v:Val}(q:ko v s.heap.length=true):Good p {s with heap:=mU s.heap n a v}:=by
 have d:(mU s.heap n a v).length=s.heap.length:=by simp[mU]
 obtain⟨k,l⟩:=mZ.1 c.heap;refine⟨mZ.2 ⟨by rw[d];exact k,?_⟩,?_,c.nf,c.outs,c.sw,?_⟩
 . intro w o;rw[d];obtain⟨r,b⟩:=List.getElem?_of_mem o;unfold mU at b;rw[List.getElem?_modify]at b;cases e:s.heap[r]? with
   |none=>rw[e]at b;simp at b
   |some t=>
    rw[e]at b;obtain⟨g,h,i⟩:=l t (List.mem_of_getElem? e);simp at b;subst b;split
    . refine⟨g,by simpa using h,?_⟩;intro u f;rcases List.mem_or_eq_of_mem_set f with f|rfl
      . exact i u f
      . exact q
    . exact⟨g,h,i⟩
 . intro j m;simp only[d];exact c.frames j m
 . simp only[d];exact c.back
end
end Go.Proofs.YtlhlnddgfcmfkaaGreat.M
namespace Go.Proofs.YtlhlnddgfcmfkaaGreat.M
theorem AL{p:hZ}(e:kU p=true){r:Ref}{c:Class}(a:cls? p r=some c):nV c=true:=by
 unfold cls? at a;rw[Option.bind_eq_some_iff]at a;obtain⟨g,f,d⟩:=a;have b:=E5 e f;unfold kr at b;simp only[Bool.and_eq_true]at b;exact qQ b.1.2 c (List.mem_of_find?_eq_some d)
theorem DD{c:Class}(a:nV c=true):∀b∈c.methods,nJ b=true:=by
 unfold nV at a;simp only[Bool.and_eq_true]at a;exact qQ a.2
theorem nD{p:hZ}(g:kU p=true){x:rE}(d:ky p x=true):nJ (method p x)=true∧method? p x=some (method p x):=by
 obtain⟨_,j,h,b,i,e,f,a⟩:=sV d;have c:method p x=b:=by unfold method;rw[a];rfl
 rw[c];exact⟨DD (AL g e) b (List.mem_of_getElem? f),a⟩
structure JH(m:Method):Prop where
 args:(m.args.length:Int)+1<=m.locals
 GJ:m.args.length<=3
 locals:m.locals<=6
 NI:1<=m.stack
 stack:m.stack<=5
 QP:1<=m.code.length
 code:m.code.length<=16
 ins:∀i∈m.code,nO m i=true
 ret:lD m.ret=true
 kinds:∀k∈m.args,lD k=true
 maps:m.maps.length<=5
 uP:∀f∈m.maps,uP m f=true
theorem BP{m:Method}:∀{l:List SMap} {n:Int},kL m n l=true->∀a∈l,uP m a=true
 |[],_,_=>by simp
 |x::r,n,h=>by
  unfold kL at h;simp only[Bool.and_eq_true]at h;intro a b;rcases List.mem_cons.1 b with rfl|b
  . exact h.1.2
  . exact BP h.2 a b
theorem tu{m:Method}(a:nJ m=true):JH m:=by
 unfold nJ codeOk rR at a;simp only[Bool.and_eq_true,decide_eq_true_eq,List.all_eq_true]at a;obtain⟨⟨⟨⟨⟨⟨⟨⟨⟨_,f⟩,g⟩,h⟩,i⟩,j⟩,k⟩,l⟩,⟨⟨n,b⟩,c⟩⟩,d,e⟩:=a;exact⟨i,f,j,k,l,n,b,c,g,h,d,BP e⟩
theorem tN{p:hZ}:∀{l k:List Ref},mq p (l++k)=true->mq p k=true∧∀b∈l,∀a∈k,pE p b a=true
 |[],k,h=>⟨h,by simp⟩
 |x::l,k,h=>by
  simp only[List.cons_append,mq,Bool.and_eq_true,List.all_eq_true]at h;obtain⟨e,f⟩:=tN h.2;refine⟨e,fun b c a d=>?_⟩;rcases List.mem_cons.1 c with rfl|c
  . exact h.1 a (List.mem_append_right _ d)
  . exact f b c a d
theorem J8{p:hZ}{r x:Ref}(a:kg p r=true)(b:x∈chain p r):kg p x=true:=by
 obtain⟨c,f,d⟩:=vJ b;obtain⟨g,e⟩:=vV c;unfold kg at a ⊢;simp only[Bool.and_eq_true,Bool.not_eq_true',List.isEmpty_eq_false_iff]at a ⊢;rw[d]at a;exact⟨by rw[e];simp,(tN a.2).1⟩
theorem Ez{c:Class}{n:ByteArray}{i:Nat}{m:Method}(a:og c n=some i)(e:c.methods[i]?=some m):c.methods.find? (fun b=>b.name=n)=some m:=by
 unfold og at a;have:∀(d:List Method) (i:Nat) (m:Method),d.findIdx? (fun b=>decide (b.name=n))=some i->d[i]?=some m->d.find? (fun b=>decide (b.name=n))=some m:=by
  intro d;induction d with
  |nil=>intro i m a;simp at a
  |cons b k h=>
   intro i m a e;rw[List.findIdx?_cons]at a;rw[List.find?_cons];cases f:decide (b.name=n)
   . rw[f]at a;simp only[Bool.false_eq_true,if_false,Option.map_eq_some_iff]at a;obtain⟨j,g,rfl⟩:=a;exact h j m g (by simpa using e)
   . rw[f]at a;simp only[if_true,Option.some.injEq]at a;subst a;simpa using e
 exact this _ _ _ a e
theorem Bg {p : hZ} {r j : Ref} {n : ByteArray} {x y : rE} (d : pick p r n = some x) (v : under p j x.of = true) (b : pick p j n = some y) : (method p y).args = (method p x).args := by
 have N:=d;have O:=b;unfold pick at d b;split at d
 . split at b
   . rename_i Z c;obtain⟨S,aa,g,k⟩:=tQ d;obtain⟨T,ae,U,V⟩:=tQ b;obtain⟨M,w,t⟩:=vJ (p:=p) (r:=j) (x:=x.of) (by unfold under at v;simpa using v);obtain⟨R,u⟩:=vV M;have Y:=c;unfold kg at c;simp only[Bool.and_eq_true]at c;rw[t]at c;obtain⟨_,_,i',A,Q,l,C,D,W,m⟩:=zu N;obtain⟨_,_,j',B,z,X,H,I,J,h⟩:=zu O;have F:method p x=Q:=by unfold method;rw[m];rfl
     have G:method p y=z:=by unfold method;rw[h];rfl
     rw[F,G];have o:cls p x.of=A:=by unfold cls;rw[C];rfl
     have K:cls p y.of=B:=by unfold cls;rw[H];rfl
     rw[t,u]at b;by_cases q:y.of∈w
     . have i:=(tN c.2).2 y.of q x.of (by rw[u];simp);unfold pE at i;simp only[Bool.and_eq_true,List.all_eq_true]at i;have f:=i.2 z (by rw[K];exact List.mem_of_getElem? I);unfold lX at f;rw[g]at l;have E:=Int.ofNat.inj l;subst E;rw[J,o,Ez (by rw[<-o];exact k) D]at f;simp only[Bool.and_eq_true,decide_eq_true_eq]at f;exact f.1.2
     . have:∀(e:List Ref),sD p n (e++x.of::R)=some y->y.of ∉ e->y=x:=by
        intro e;induction e with
        |nil=>
         intro a _;simp only[List.nil_append,sD,k]at a;cases a;obtain⟨xo,xa⟩:=x;simp at g;subst g;rfl
        |cons af e P=>
         intro a s;simp only[List.cons_append,sD]at a;split at a
         . cases a;simp at s
         . exact P a (fun L=>s (List.mem_cons_of_mem _ L))
       have:=this w b q;subst this;rw[m]at h;cases h;rfl
   . cases b
 . cases d
theorem qy{p:hZ}{r:Ref}{n:ByteArray}{x:rE}(c:pick p r n=some x):ky p x=true:=by
 obtain⟨d,e,k,a,l,f,g,h,i,j⟩:=zu c;unfold ky;have b:cls p x.of=a:=by unfold cls;rw[g];rfl
 rw[J8 d e,f,b];have:=(List.getElem?_eq_some_iff.1 h).1;simp;omega
section
variable {p:hZ} {s:St} {r:List Fr} {t:Fr}
theorem zk(i:kU p=true)(a:Good p s)(d:s.status=1){lk:Bool}{x:rE}{vs:List Val}(g:ky p x=true)(j:∀e∈vs,ko e s.heap.length=true)(hl:(vs.length:Int)<=(method p x).locals):qK p (enter p lk x vs s):=by
 unfold enter;split
 . exact qK.bad a d Zn Zn
 . rename_i k;split
   . exact qK.bad a d Zn Zn
   . split
     . have f:=tu (nD i g).1;refine⟨by simp,by simp,⟨a.heap,?_,by simp;omega,a.outs,a.sw,a.back⟩,fun _=>by simp,d⟩;intro h b;rcases List.mem_append.1 b with b|b
       . exact a.frames h b
       . simp only[List.mem_singleton]at b;subst b;refine jA.2 ⟨g,by simp,by simp only;have:=f.QP;omega,by simp;omega,by simp;have:=f.NI;omega,?_,by simp⟩;intro e c;rcases List.mem_append.1 c with c|c
         . exact j e c
         . rw[List.mem_replicate]at c;rw[c.2];exact Jw _
     . exact qK.bad a d Zn Zn
theorem qR{m:Method}{i:Ins}(c:nO m i=true):lv i=true∧((i.op=2∨i.op=3)->0<=i.a∧i.a<m.locals)∧((i.op=11∨i.op=12∨i.op=13)->0<=i.a∧i.a<m.code.length)∧(i.op=1->nQ i.a=true)∧(1<=i.op∧i.op<=15)∧((i.op=6∨i.op=15)->jC i.name=true)∧((i.op=7∨i.op=8∨i.op=9)->jC i.name=true∧jC i.member=true):=by
 unfold nO at c;simp only[Bool.and_eq_true]at c;have b:=c.1;refine⟨b,?_,?_,?_,?_,?_,?_⟩
 . intro a;have d:=c.2;rw[if_pos a]at d;simp only[decide_eq_true_eq]at d;unfold lv isNum at b;rcases a with a|a<;>rw[a]at b<;>simp[pQ,qI]at b<;>omega
 . intro a;have d:=c.2;rw[if_neg Zm,if_pos a]at d;simp only[decide_eq_true_eq]at d;unfold lv isNum at b;rcases a with a|a|a<;>rw[a]at b<;>simp[pQ,qI]at b<;>omega
 . intro a;unfold lv isNum at b;rw[a]at b;simp[pQ,qI]at b;unfold nQ;simp;omega
 . unfold lv isNum oO pM qU at b;simp only[Bool.or_eq_true,beq_iff_eq]at b;repeat' split at b
   all_goals first|omega|cases b
 . intro a;unfold lv isNum oO at b;rcases a with a|a<;>rw[a]at b<;>simp at b<;>exact b.2
 . intro a;unfold lv isNum oO pM at b;rcases a with a|a|a<;>rw[a]at b<;>simp at b<;>exact⟨b.1.2,b.2⟩
theorem IX (W : kU p = true) (q : Good p s) (o : s.frames = r ++ [t]) (m : s.status = 1) {lk : Bool} {i : Ins} (hi : nO (method p t.of) i = true) : qK p (jF p lk i s) := by
 have h:∀A:Int,1<A->A<=10->qK p (A,s):=fun A j h2=>qK.bad q m j h2;obtain⟨_,i2,L,i4,i5,_,_⟩:=qR hi;have Y:=jA.1 (q.top o);have y:∀{k d},pop s=some (k,d)->ko k s.heap.length=true∧Good p d∧d.frames=r++[{t with stack:=t.stack.take (t.stack.length - 1)}]∧d.heap=s.heap∧d.outs=s.outs∧d.back=s.back∧d.status=1:=fun e=>by
  obtain⟨f,a,b,g,l,n,c⟩:=Nq q o e;exact⟨f,a,b,g,l,n,c.trans m⟩
 unfold jF;by_cases E:i.op=1
 . rw[if_pos E];exact p8 q o m (pg _ (i4 E))
 rw[if_neg E];by_cases I:i.op=2
 . rw[if_pos I];rw[zD o];split
   . exact h _ Zn Zn
   . refine p8 q o m ?_;have af:i.a.toNat<t.locals.length:=by have:=i2 (.inl I);omega
     rw[List.getElem?_eq_getElem af];exact Y.2.2.2.2.2.1 _ (List.getElem_mem _)
 rw[if_neg I];by_cases P:i.op=3
 . rw[if_pos P];split
   . exact h _ Zn Zn
   . rename_i k d e;obtain⟨f,a,b,g,l,n,c⟩:=y e;have z:=jA.1 (a.top b);rw[qw b];refine su (r:=r) (a.turn b (jA.2 ⟨z.1,z.2.1,z.2.2.1,by simp;exact Y.2.2.2.1,z.2.2.2.2.1,?_,z.2.2.2.2.2.2⟩)) rfl c;intro ag J;rcases List.mem_or_eq_of_mem_set J with J|rfl
     . exact z.2.2.2.2.2.1 ag J
     . rw[g];exact f
 rw[if_neg P];by_cases Q:i.op=4
 . rw [if_pos Q]; split
   . rename_i ah ai d e;obtain⟨f,a,b,g,l,n,c,w⟩:=uQ q o e;split
     . split
       . rename_i u;exact p8 b g (w.trans m) (pg _ u)
       . exact qK.bad b (w.trans m) Zn Zn
     . exact qK.bad b (w.trans m) Zn Zn
   . exact h _ Zn Zn
 rw[if_neg Q];by_cases R:i.op=5
 . rw[if_pos R];exact p8 q o m (zF _)
 rw[if_neg R];by_cases S:i.op=6
 . rw[if_pos S];split
   . rename_i B;split
     . exact h _ Zn Zn
     . rename_i aj;unfold qg at B;simp only[Bool.and_eq_true]at B;refine p8 (r:=r) (t:=t) (q.grow B.2 Zm) o m ?_;exact Aq _ Zl Zr
   . exact h _ Zn Zn
 rw[if_neg S];by_cases T:i.op=7
 . rw [if_pos T]; split
   . rename_i hg;split
     . exact h _ Zn Zn
     . rename_i k d e;obtain⟨f,a,b,g,l,n,c⟩:=y e;split
       . rename_i v;obtain⟨_,_,_,M,b1,Z,b3,b4⟩:=xH a hg (by rw[g];exact f) v;refine p8 a b c ?_;rw[b3,List.getElem?_eq_getElem b4];exact((mZ.1 a.heap).2 M Z).2.2 _ (List.getElem_mem _)
       . rename_i v;rcases Bc (p:=p) k (get p (top s).of.of.keeper i.name i.member).1.of d with j|j
         . exact absurd j v
         . exact qK.bad a c j.1 j.2
   . exact h _ Zn Zn
 rw[if_neg T];by_cases U:i.op=8
 . rw [if_pos U]; split
   . split
     . rename_i M k d e;obtain⟨f,a,b,g,l,n,c,w⟩:=uQ q o e;have x:=w.trans m;split
       . split
         . exact su (r:=r) (b.set (by rw[l];exact a k Zl)) g x
         . rename_i v;rcases Bc (p:=p) M (get p (top s).of.of.keeper i.name i.member).1.of d with j|j
           . exact absurd j v
           . exact qK.bad b x j.1 j.2
       . exact qK.bad b x Zn Zn
     . exact h _ Zn Zn
   . exact h _ Zn Zn
 rw[if_neg U];by_cases V:i.op=9
 . rw [if_pos V]; split
   . rename_i B;split
     . rename_i vs d e;obtain⟨f,a,b,g,l,n,c,w⟩:=uQ q o e;have x:=w.trans m;split
       . rename_i v;split
         . rename_i au K;obtain⟨o1,o2⟩:=uC v;obtain⟨ak,hq⟩:=qM B;have ae:=Bg hq o2 K;have hm:=tu (nD W (qy K)).1;refine zk W b x (qy K) (by rw[l];exact a) ?_;have:=hm.args;rw[f,<-ae];simpa using this
         . exact qK.bad b x Zn Zn
       . rename_i v;rcases Bc (p:=p) (vs.headD lQ) (call p (top s).of.of.keeper i.name i.member).1.of d with j|j
         . exact absurd j v
         . exact qK.bad b x j.1 j.2
     . exact h _ Zn Zn
   . exact h _ Zn Zn
 rw[if_neg V];by_cases N:i.op=10
 . rw [if_pos N]; split
   . exact h _ Zn Zn
   . rename_i k d e;obtain⟨f,a,b,g,l,n,c⟩:=y e;split
     . split
       . exact qK.bad (s:={d with back:=k}) ⟨a.heap,a.frames,a.nf,a.outs,a.sw,by rw[g];exact f⟩ c Zn Zn
       . rename_i u;have X:r≠[]:=by
          rintro rfl;rw[b]at u;simp at u
         obtain⟨C,D,rfl⟩:∃C D,r=C++[D]:=⟨r.dropLast,r.getLast X,(List.dropLast_concat_getLast X).symm⟩;have hd:d.frames.dropLast=C++[D]:=by rw[b];simp
         refine p8 (s:={d with frames:=d.frames.dropLast}) (r:=C) (t:=D) ⟨a.heap,?_,?_,a.outs,a.sw,a.back⟩ hd c (by rw[g];exact f)
         . intro aa hf;exact a.frames aa (List.dropLast_subset _ hf)
         . have:=a.nf;simp only[List.length_dropLast];omega
     . exact qK.bad a c Zn Zn
 rw[if_neg N];by_cases F:i.op=11
 . rw [if_pos F]; split
   . exact h _ Zn Zn
   . rename_i k d e;obtain⟨f,a,b,g,l,n,c⟩:=y e;split
     . split
       . exact vN a b c (L (.inl F)).1
       . exact su a b c
     . exact qK.bad a c Zn Zn
 rw[if_neg F];by_cases G:i.op=12
 . rw [if_pos G]; split
   . exact h _ Zn Zn
   . rename_i k d e;obtain⟨f,a,b,g,l,n,c⟩:=y e;split
     . split
       . exact vN a b c (L (.inr (.inl G))).1
       . exact su a b c
     . exact qK.bad a c Zn Zn
 rw[if_neg G];by_cases H:i.op=13
 . rw[if_pos H];exact vN q o m (L (.inr (.inr H))).1
 rw[if_neg H];by_cases O:i.op=14
 . rw [if_pos O]; split
   . exact h _ Zn Zn
   . rename_i k d e;obtain⟨f,a,b,g,l,n,c⟩:=y e;split
     . rename_i hk;split
       . rename_i v;refine su (r:=r) (s:={d with outs:=d.outs++[k.n]}) ⟨a.heap,a.frames,a.nf,by simp;omega,?_,a.back⟩ b c;intro A u;rcases List.mem_append.1 u with u|u
         . exact a.sw A u
         . simp at u;subst u;have:=yP f hk;unfold nQ;simp;omega
       . exact su a b c
     . exact qK.bad a c Zn Zn
 rw[if_neg O]
 . split
   . exact h _ Zn Zn
   . rename_i k d e;obtain⟨f,a,b,g,l,n,c⟩:=y e;split
     . split
       . exact p8 a b c (by rw[g];exact f)
       . split
         . split
           . exact p8 a b c (by rw[g];exact f)
           . exact qK.bad a c Zn Zn
         . exact qK.bad a c Zn Zn
     . exact qK.bad a c Zn Zn
structure zI(p:hZ)(s:St):Prop where
 good:Good p s
 st:1<=s.status∧s.status<=10
 goes:s.status=1↔s.frames≠[]
theorem vT{p:hZ}{s:St}:Cq p s=true↔zI p s:=by
 unfold Cq;simp only[Bool.and_eq_true,decide_eq_true_eq,List.all_eq_true,beq_iff_eq];constructor
 . rintro⟨⟨⟨⟨⟨⟨⟨⟨⟨c,e⟩,j⟩,f⟩,g⟩,a⟩,h⟩,i⟩,b⟩,d⟩;refine⟨⟨b,i,g,f,h,d⟩,⟨c,e⟩,?_⟩;rw[Bool.eq_iff_iff]at a;simp only[decide_eq_true_eq]at a;rw[<-a,List.length_pos_iff]
 . rintro⟨⟨b,i,g,f,h,d⟩,⟨c,e⟩,a⟩;refine⟨⟨⟨⟨⟨⟨⟨⟨⟨c,e⟩,(mZ.1 b).1⟩,f⟩,g⟩,?_⟩,h⟩,i⟩,b⟩,d⟩;rw[Bool.eq_iff_iff];simp only[decide_eq_true_eq];rw[a,List.length_pos_iff]
theorem qK.runs{x:Int×St}(c:qK p x):zI p (end_ x.1 x.2):=by
 obtain⟨h,s⟩:=x;obtain⟨d,e,a,f,g⟩:=c;unfold end_;simp only at*;split
 . rename_i b;exact⟨a,by omega,by simp[g,f b]⟩
 . rename_i b;exact⟨⟨a.heap,by simp,by simp,a.outs,a.sw,a.back⟩,⟨d,e⟩,by simp[b]⟩
theorem NJ(f:kU p=true)(hR:zI p s)(g:s.status=1):∃r t c,s.frames=r++[t]∧kZ p t s.heap.length=true∧(method p t.of).code[t.pc.toNat]?=some c∧nO (method p t.of) c=true:=by
 obtain⟨r,t,a⟩:=I1 (hR.goes.1 g);have b:=hR.good.top a;obtain⟨d,h,i,_⟩:=jA.1 b;have e:t.pc.toNat<(method p t.of).code.length:=by omega
 exact⟨r,t,_,a,b,List.getElem?_eq_getElem e,(tu (nD f d).1).ins _ (List.getElem_mem _)⟩
theorem Fs(b:kU p=true)(hR:zI p s)(lk:Bool):zI p (step p lk s):=by
 unfold step;split
 . rename_i c;obtain⟨r,t,f,a,_,d,e⟩:=NJ b hR c;refine qK.runs ?_;unfold stepped;rw[zD a,d];exact IX b hR.good a c e
 . exact hR
end
end Go.Proofs.YtlhlnddgfcmfkaaGreat.M
namespace Go.Proofs.YtlhlnddgfcmfkaaGreat.PM
open Go Go.RowKit Tryz
abbrev Key:=Int×Int×ByteArray
def lC(r:Key):Value:=.agg #[.int .i64 r.1,.int .i64 r.2.1,.string r.2.2]
def rM(x:Key×Int):Value×Value:=(lC x.1,.int .i64 x.2)
def kH(w:World)(b:Nat)(m:List (Key×Int)):Prop:=
 ∃es clock,w.heap[b]?=some (.map es clock)∧es.toList.map (fun e=>(e.key,e.val))=m.map rM
def look(m:List (Key×Int))(k:Key):Option Int:=(m.find? fun x=>decide (k=x.1)).map Prod.snd
theorem uy{m:List (Key×Int)}{k:Key}{v:Int}(a:look m k=none):look (m++[(k,v)]) k=some v:=by
 unfold look at*;rw[List.find?_append];cases b:m.find? fun c=>decide (k=c.1)
 . simp
 . rw[b]at a;simp at a
theorem sZ{m:List (Key×Int)}{k a:Key}{v:Int}(b:a≠k):look (m++[(k,v)]) a=look m a:=by
 unfold look;rw[List.find?_append];cases d:m.find? fun c=>decide (a=c.1)
 . simp[b]
 . rfl
theorem kH.lt{w:World}{b:Nat}{m:List (Key×Int)}(a:kH w b m):b<w:=by
 obtain⟨e,d,c,_⟩:=a;exact(Array.getElem?_eq_some_iff.1 c).1
theorem kH.keep{w a:World}{b:Nat}{m:List (Key×Int)}(f:kH w b m)(h:a.heap[b]?=w.heap[b]?):kH a b m:=by
 obtain⟨e,c,g,d⟩:=f;exact⟨e,c,h.trans g,d⟩
theorem kH.kp{D:Nat->Prop}{w c:World}{b:Nat}{m:List (Key×Int)}(a:kH w b m)(e:Kp D w c)(d:¬D b):kH c b m:=a.keep (e.block b a.lt d)
theorem kH.new(w:World):kH (w.alloc (.map #[] 0)) w []:=⟨#[],0,heap_alloc_new w _,rfl⟩
theorem uZ(a b:Key)(w:World):(Op.equal 121 (lC a) (lC b)).run prog w=.ok (decide (a=b)) w:=by
 unfold Op.equal lC;show(Op.equalIn 10000 _ _ _).run _ w=_
 go_simp;obtain⟨e,f,c⟩:=a;obtain⟨g,h,d⟩:=b;have i:(c.toList=d.toList)↔c=d:=by
  rw[ByteArray.toList_eq,ByteArray.toList_eq];obtain⟨⟨m⟩⟩:=c;obtain⟨⟨n⟩⟩:=d;simp
 simp only[i,Prod.mk.injEq];by_cases j:e=g<;>by_cases l:f=h<;>by_cases k:c=d<;>simp[j,k,l]
theorem lI(a:Bool)(k b:Int)(s:ByteArray)(w:World):(Instr.checkKey a 10000 121 (.agg #[k,b,s])).run prog w=.ok () w:=by
 cases a<;>kernel_rfl
theorem uB:prog.underlying 158=some (.map 121 3):=underlying158
theorem De:∃a,prog.underlying 121=some (.struct a):=⟨_,underlying121⟩
theorem tC(k:Key)(w:World):∀(a:List MapEntry) (m:List (Key×Int)) (i:Nat),a.map (fun c=>(c.key,c.val))=m.map rM→ (look m k=none∧(Instr.findAsking 121 (lC k) a i).run prog w=.ok none w)∨∃h q,look m k=some h∧(Instr.findAsking 121 (lC k) a i).run prog w=.ok (some (q,.int .i64 h)) w:=by
 intro a;induction a with
 |nil=>
  intro m i d;cases m with
  |nil=>exact .inl ⟨rfl,rfl⟩
  |cons b f=>simp at d
 | cons c a p =>
  intro m i d;cases m with
  |nil=>simp at d
  |cons b f=>
   simp only[List.map_cons,List.cons.injEq]at d;obtain⟨g,j⟩:=d;have l:c.key=lC b.1:=congrArg Prod.fst g;have o:c.val=.int .i64 b.2:=congrArg Prod.snd g;unfold Instr.findAsking;rw[l];simp only[Sem.run_bind,uZ,Result.andThen_ok];by_cases e:k=b.1
   . refine .inr ⟨b.2,i,by unfold look;rw[List.find?_cons_of_pos (by simp[e])];rfl,?_⟩;simp[e,o]
   . have n:look (b::f) k=look f k:=by unfold look;rw[List.find?_cons_of_neg (by simp[e])]
     rw[n,decide_eq_false e];simpa using p f (i+1) j
theorem o9(k:Key)(w:World)(a:List MapEntry)(m:List (Key×Int))(c:a.map (fun b=>(b.key,b.val))=m.map rM):(look m k=none∧(Instr.findKey 121 (lC k) a).run prog w=.ok none w)∨∃d h,look m k=some d∧(Instr.findKey 121 (lC k) a).run prog w=.ok (some (h,.int .i64 d)) w:=by
 obtain⟨e,f⟩:=De;unfold Instr.findKey;simp only[Sem.run_bind,run_underlying f,Result.andThen_ok];cases a with
 |nil=>
  cases m with
  |nil=>exact .inl ⟨rfl,rfl⟩
  |cons j i=>simp at c
 |cons b a=>
  have g:Instr.findNow (.struct e) (lC k) (b::a) 0=none:=by simp[Instr.findNow,Instr.sameNow]
  rw[g];exact tC k w (b::a) m 0 c
theorem oD{w:World}{b:Nat}{m:List (Key×Int)}(g:kH w b m)(k c:Int)(s:ByteArray):(Instr.lookup 158 (.map (some b)) (.agg #[k,c,s]) true).run prog w=.ok (.tuple #[.int .i64 ((look m (k,c,s)).getD 0),.bool (look m (k,c,s)).isSome]) w:=by
 obtain⟨f,i,e,h⟩:=g;unfold Instr.lookup;simp only[Sem.run_bind,run_underlying uB,Result.andThen_ok];rcases o9 (k,c,s) w f.toList m h with⟨d,a⟩|⟨l,j,d,a⟩
 . simp only[lC]at a;simp[getObj,Sem.run,e,lI,a,d,go_sem]
 . simp only[lC]at a;simp[getObj,Sem.run,e,lI,a,d,go_sem]
theorem wL{w:World}{b:Nat}{m:List (Key×Int)}(g:kH w b m)(k d:Int)(s:ByteArray):(Instr.lookup 158 (.map (some b)) (.agg #[k,d,s]) false).run prog w=.ok (.int .i64 ((look m (k,d,s)).getD 0)) w:=by
 obtain⟨f,i,e,h⟩:=g;unfold Instr.lookup;simp only[Sem.run_bind,run_underlying uB,Result.andThen_ok];rcases o9 (k,d,s) w f.toList m h with⟨c,a⟩|⟨l,j,c,a⟩
 . simp only[lC]at a;simp[getObj,Sem.run,e,lI,a,c,go_sem]
 . simp only[lC]at a;simp[getObj,Sem.run,e,lI,a,c,go_sem]
theorem zA{w:World}{b:Nat}{m:List (Key×Int)}(n:kH w b m)(k a:Int)(s:ByteArray)(v:Int)(j:look m (k,a,s)=none):∃c,(Instr.mapUpdate 158 (.map (some b)) (.agg #[k,a,s]) v).run prog w=.ok () c∧kH c b (m++[((k,a,s),v)])∧Kp (·=b) w c∧c.heap.size=w:=by
 obtain⟨f,e,h,i⟩:=n;refine⟨{w with heap:=w.heap.setIfInBounds b (.map (f.push {key:=.agg #[k,a,s],val:=v,born:=e}) (e+1))},?_,?_,?_,by simp⟩
 . unfold Instr.mapUpdate;simp only[Sem.run_bind,run_underlying uB,Result.andThen_ok];rcases o9 (k,a,s) w f.toList m i with⟨g,d⟩|⟨v,t,g,d⟩
   . simp only[lC]at d;simp[getObj,setObj,Sem.run,h,lI,d,go_sem]
   . rw[g]at j;cases j
 . have o:=(Array.getElem?_eq_some_iff.1 h).1;refine⟨_,_,by simp[o];exact⟨rfl,rfl⟩,?_⟩;simp[i,rM,lC]
 . refine⟨rfl,rfl,rfl,by simp,fun r q p=>?_⟩;simp only[Array.getElem?_setIfInBounds];rw[if_neg (fun l=>p l.symm)]
theorem xx(w:World){g:Array Oper}{rest:List Oper}{e:Oper}{a:Act}{Q:Exit->Act->World->Prop}(l:e.guard=none) (f x y:Operand) (p:e.op=Op.mapUpdate 158 f x y) (b:Nat) (m:List (Key×Int)) (k d:Int) (s:ByteArray) (v:Int)(n:a.eval f=.map (some b)) (t:a.eval x=.agg #[k,d,s]) (r:a.eval y=.int .i64 v) (h:kH w b m) (o:look m (k,d,s)=none)(i:∀c,kH c b (m++[((k,d,s),v)])->Kp (·=b) w c->c.heap.size=w->wpList prog g Q rest (a.put e.dst undef) c):wpList prog g Q (e::rest) a w:=by
 refine wpList_plain l fun B j=>?_;obtain⟨c,q,u,z,A⟩:=zA h k d s v o;unfold Oper.wp;simp[execOp,p,n,t,r,q,Result.andThen];exact j _ _ (i c u z A)
end Go.Proofs.YtlhlnddgfcmfkaaGreat.PM
namespace Go.Proofs.YtlhlnddgfcmfkaaGreat.M
structure Gy where
 keeper:Int
 name:ByteArray
 ref:Ref
structure uj where
 one:Int
 two:Int
 name:ByteArray
structure Book where
 jR:List Gy
 jH:List uj
def uT(e:Gy):Int×ByteArray:=(e.keeper,e.name)
def sJ(a:uj):Int×Int×ByteArray:=(a.one,a.two,a.name)
def ES(p:hZ)(e:Gy):Prop:=find p e.keeper e.name=(e.ref,1)
def keeps(p:hZ)(a:uj):Prop:=has p a.one=true∧has p a.two=true∧jC a.name=true∧agree p a.one a.two ⟨2,a.name⟩=true
structure rC(p:hZ)(b:Book):Prop where
 Mh:b.jR.length<=200
 Np:b.jH.length<=200
 P6:(b.jR.map uT).Nodup
 Ql:(b.jH.map sJ).Nodup
 QA:∀e∈b.jR,ES p e
 Nj:∀a∈b.jH,a.one<a.two∧keeps p a
def Book.le(a b:Book):Prop:=(∃r,b.jR=a.jR++r)∧∃r,b.jH=a.jH++r
theorem Book.le.refl(a:Book):a.le a:=⟨⟨[],by simp⟩,[],by simp⟩
theorem Book.le.trans{a b c:Book}(h:a.le b)(k:b.le c):a.le c:=by
 obtain⟨⟨i,d⟩,l,f⟩:=h;obtain⟨⟨j,e⟩,m,g⟩:=k;exact⟨⟨i++j,by rw[e,d,List.append_assoc]⟩,l++m,by rw[g,f,List.append_assoc]⟩
theorem rC.Rl{p:hZ}{b:Book}(c:rC p b){e:Gy}(hl:b.jR.length<200)(h:uT e ∉ b.jR.map uT)(g:ES p e):rC p ⟨b.jR++[e],b.jH⟩:=
 ⟨by simp;omega,c.Np,by rw[List.map_append,List.nodup_append];exact⟨c.P6,by simp,fun f a j d i=>h (by simp at d;rw[<-d,<-i];exact a)⟩,c.Ql,
  fun f a=>by rcases List.mem_append.1 a with a|a;exact c.QA f a;simp at a;rw[a];exact g,c.Nj⟩
theorem rC.Rm{p:hZ}{b:Book}(d:rC p b){a:uj}(hl:b.jH.length<200)(h:sJ a ∉ b.jH.map sJ)(g:a.one<a.two∧keeps p a):rC p ⟨b.jR,b.jH++[a]⟩:=
 ⟨d.Mh,by simp;omega,d.P6,by rw[List.map_append,List.nodup_append];exact⟨d.Ql,by simp,fun f c j e i=>h (by simp at e;rw[<-e,<-i];exact c)⟩,d.QA,
  fun f c=>by rcases List.mem_append.1 c with c|c;exact d.Nj f c;simp at c;rw[c];exact g⟩
theorem DR {p : hZ} (B : kU p = true) {n : ByteArray} : ∀ (f : Nat) (b : List Int) (k : Int) (r : List Int), mG p n f (b ++ [k]) k = (r, 1) → ∃j,r=b++k::j∧(∀(g:Nat) (c:List Int),(∀d∈c,d∈b)->f<=g->mG p n g (c++[k]) k=(c++k::j,1))∧∀i∈j,has p i=true∧∃l m,l<=f∧mG p n l (m++[i]) i=(r,1):=by
 intro f;induction f with
 |zero=>intro b k r a;simp[mG]at a
 | succ f C =>
  intro b k r a;unfold mG at a;cases e:zh p k n with
  |none=>
   rw[e]at a;simp only at a;by_cases t:owned p ⟨k,n⟩=true
   . rw[if_pos t]at a;refine⟨[],(Prod.mk.inj a).1.symm,fun g c _ A=>?_,by simp⟩;obtain⟨g,rfl⟩:∃o,g=o+1:=⟨g - 1,by omega⟩;unfold mG;rw[e];simp only;rw[if_pos t]
   . rw[if_neg t]at a;simp at a
  |some d=>
   rw[e]at a;simp only at a;by_cases q:(b++[k]).contains d=true
   . rw[if_pos q]at a;simp at a
   . rw [if_neg q] at a; obtain ⟨j, w, x, y⟩ := C (b ++ [k]) d r a; refine ⟨d :: j, by rw [w]; simp, fun g c u A => ?_, fun i s => ?_⟩
     . obtain⟨g,rfl⟩:∃o,g=o+1:=⟨g - 1,by omega⟩;unfold mG;rw[e];simp only;have z:¬(c++[k]).contains d=true:=fun v=>q (by
        simp only[List.contains_iff_mem,List.mem_append,List.mem_singleton]at v ⊢;exact v.imp_left (u d))
       rw[if_neg z,x g (c++[k]) (fun D h=>by
        rcases List.mem_append.1 h with h|h
        . exact List.mem_append_left _ (u D h)
        . exact List.mem_append_right _ h) Zm]
       simp
     . rcases List.mem_cons.1 s with rfl|s
       . exact⟨Db B e,f,b++[k],by omega,a⟩
       . obtain⟨q1,l,m,q2,q3⟩:=y i s;exact⟨q1,l,m,by omega,q3⟩
theorem Nk{p:hZ}{k:Int}{n:ByteArray}(a:(path p k n).2=1):has p k=true:=by
 cases b:has p k with
 |true=>rfl
 |false=>unfold path at a;rw[b]at a;simp at a
theorem KZ{p:hZ}(g:kU p=true){k:Int}{n:ByteArray}(e:(path p k n).2=1):∀a∈(path p k n).1,has p a=true∧resolve p a n=resolve p k n:=by
 have f:=Nk e;obtain⟨d,c⟩:∃d,path p k n=(d,1):=⟨(path p k n).1,by rw[<-e]⟩;have q:mG p n 4 ([]++[k]) k=(d,1):=by unfold path at c;rw[if_pos f]at c;exact c
 obtain⟨t,i,-,o⟩:=DR g 4 [] k d q;rw[c];intro a b;rw[i]at b;simp only[List.nil_append]at b;rcases List.mem_cons.1 b with rfl|b
 . exact⟨f,rfl⟩
 . obtain⟨q1,l,h,q2,q3⟩:=o a b;obtain⟨s,j,m,-⟩:=DR g l h a d q3;have r:path p a n=(a::s,1):=by
    unfold path;rw[if_pos q1];exact m 4 [] Zl q2
   refine⟨q1,?_⟩;unfold resolve;rw[r,c,j];simp[List.getLastD_eq_getLast?,List.getLast?_cons]
theorem FI{p:hZ}{k a:Int}{n:ByteArray}(b:resolve p a n=resolve p k n):find p a n=find p k n:=by unfold find;rw[b]
theorem Kg{p:hZ}{k:Int}{n:ByteArray}(a:(find p k n).2=1):(path p k n).2=1:=by
 unfold find at a;split at a
 . rename_i b;exact(Al b).2.1
 . rename_i b;exact absurd a b
theorem KW{p:hZ}(d:kU p=true){k:Int}{n:ByteArray}(b:(find p k n).2=1):∀a∈(path p k n).1,ES p ⟨a,n,(find p k n).1⟩:=fun a c=>by
 unfold ES;rw[FI (KZ d (Kg b) a c).2,<-b]
theorem IL{p:hZ}{a b:Int}{k:Kind}:agree p a b k=agree p b a k:=by
 unfold agree;by_cases c:(find p a k.name).2=1<;>by_cases d:(find p b k.name).2=1<;>simp[c,d,eq_comm]
def ql(p:hZ)(a b:Int)(k:Kind):Prop:=k.kind=1∨a=b∨(has p a=true∧has p b=true∧jC k.name=true∧agree p a b ⟨2,k.name⟩=true)
theorem ql.mk'{p:hZ}{a b:Int}{k:Kind}(f:has p a=true)(g:has p b=true)(c:lD k=true)(e:agree p a b k=true):ql p a b k:=by
 unfold lD at c;simp only[Bool.or_eq_true,Bool.and_eq_true,beq_iff_eq,decide_eq_true_eq]at c;rcases c with c|c
 . exact .inl c.1
 . have d:k=⟨2,k.name⟩:=by cases k;simp at c ⊢;exact c.1
   exact .inr (.inr ⟨f,g,c.2,by rw[<-d];exact e⟩)
theorem ql.keeps{p:hZ}{a b:Int}{k:Kind}(c:ql p a b k)(f:k.kind≠1)(e:a≠b):(⟨min a b,max a b,k.name⟩:uj).one<(⟨min a b,max a b,k.name⟩:uj).two∧M.keeps p ⟨min a b,max a b,k.name⟩:=by
 rcases c with c|c|⟨q1,q2,q3,q4⟩
 . exact absurd c f
 . exact absurd c e
 . rcases Int.lt_or_gt_of_ne e with d|d
   . rw[Int.min_eq_left Zm,Int.max_eq_right Zm];exact⟨d,q1,q2,q3,q4⟩
   . rw[Int.min_eq_right Zm,Int.max_eq_left Zm];exact⟨d,q2,q1,q3,by rw[IL];exact q4⟩
theorem Hm{m:Method}(a:nJ m=true):lD m.ret=true∧∀b∈m.args,lD b=true:=by
 unfold nJ at a;simp only[Bool.and_eq_true,List.all_eq_true]at a;exact⟨a.1.1.1.1.1.1.1.2,a.1.1.1.1.1.1.2⟩
def sG(p:hZ)(a b:Int)(m:Method):Prop:=ql p a b m.ret∧∀k∈m.args,ql p a b k
theorem sG.mk'{p:hZ}{a b:Int}{m:Method}(d:has p a=true)(e:has p b=true)(j:nJ m=true)(c:kP p a b m=true):sG p a b m:=by
 unfold kP at c;simp only[Bool.and_eq_true,List.all_eq_true]at c;obtain⟨h,i⟩:=Hm j;exact⟨.mk' d e h c.2,fun g f=>.mk' d e (i g f) (c.1 g f)⟩
theorem sG.self{p:hZ}{a:Int}{m:Method}:sG p a a m:=⟨.inr (.inl rfl),fun _ _=>.inr (.inl rfl)⟩
theorem Cx{p:hZ}{r:Ref}{c:Class}(a:cls? p r=some c):has p r.keeper=true:=Cy.2 (Cw a)
theorem KU{p:hZ}(q:kU p=true){e b:Ref}{c d:Class}(g:cls? p e=some c)(i:cls? p b=some d)(f:pE p e b=true):∀a∈c.methods,(og d a.name).isSome=true->sG p e.keeper b.keeper a:=by
 intro a j h;unfold pE at f;simp only[Bool.and_eq_true,List.all_eq_true]at f;have l:cls p e=c:=by unfold cls;rw[g];rfl
 have m:cls p b=d:=by unfold cls;rw[i];rfl
 have:=f.2 a (by rw[l];exact j);unfold lX at this;rw[m]at this;unfold og at h;rw[List.findIdx?_isSome]at h;have n:(d.methods.find? fun k=>k.name=a.name).isSome=true:=by rw[List.find?_isSome];simpa using h
 obtain⟨k,o⟩:=Option.isSome_iff_exists.1 n;rw[o]at this;simp only[Bool.and_eq_true,decide_eq_true_eq]at this;exact .mk' (Cx g) (Cx i) (DD (AL q g) a j) this.2
theorem yY{p:hZ}{k:Int}{n m:ByteArray}(a:(jN p k n m).2=1):has p k=true:=by
 unfold jN at a;split at a
 . rename_i b;simp only[Bool.and_eq_true]at b;exact b.1.1
 . simp at a
theorem J7{p:hZ}(i:kU p=true){k:Int}{n m:ByteArray}(b:(call p k n m).2=1):ky p (call p k n m).1=true∧sG p k (call p k n m).1.of.keeper (method p (call p k n m).1):=by
 obtain⟨o,j⟩:=qM b;have d:=qy j;refine⟨d,?_⟩;obtain⟨h,-⟩:=nD i d;obtain⟨-,-,l,-,-,g,-,-⟩:=sV d;have a:=b;unfold call at b;split at b
 . rename_i c;refine .mk' (yY c) (Cx g) h ?_;unfold call at a ⊢;rw[if_pos c]at a ⊢;cases f:pick p (jN p k n m).1 m with
   |none=>rw[f]at a;simp at a
   |some q=>
    rw[f]at a;simp only at a ⊢;split at a
    . rename_i e;rw[if_pos e];exact e
    . simp at a
 . rename_i c;simp only at b;exact absurd b c
theorem BG{p:hZ}{k:Int}{m:ByteArray}{r:Ref}:∀{l:List ry},(rO p k m r l).2=1->agree p k (rO p k m r l).1.of.keeper (rO p k m r l).1.kind=true
 |[],h=>by simp[rO]at h
 |f::l,h=>by
  unfold rO at h ⊢;split
  . rename_i a;rw[if_pos a]at h;split
    . rename_i b;exact b
    . rename_i b;rw[if_neg b]at h;simp at h
  . rename_i a;rw[if_neg a]at h;exact BG h
theorem GX{c:Class}(b:nV c=true):∀a∈c.fields,lD a.kind=true:=by
 unfold nV at b;simp only[Bool.and_eq_true]at b;intro a d;have:=qQ b.1.2 a d;simp only[Bool.and_eq_true]at this;exact this.2
theorem Ms{p:hZ}(o:kU p=true){k:Int}{n m:ByteArray}(a:(get p k n m).2=1):ql p k (get p k n m).1.of.keeper (get p k n m).1.kind:=by
 obtain⟨s,q,j⟩:=EY a;obtain⟨-,l,-,r,h,d,-,g⟩:=yF j;obtain⟨f,c⟩:=mR l;have i:cls p (get p k n m).1.of=f:=by unfold cls;rw[c];rfl
 rw[i]at d;have e:=GX (AL o c) h (List.mem_of_getElem? d);rw[<-g]at e;unfold get at a;split at a
 . rename_i b;refine .mk' (yY b) (Cx c) e ?_;have:=BG a;unfold get;rw[if_pos b];exact this
 . rename_i b;simp only at a;exact absurd a b
theorem zI.link{p:hZ}:zI p pG:=⟨⟨by simp[pG,oV],by simp[pG],by simp[pG],by simp[pG],by simp[pG],by simp[pG,ko,lQ]⟩,by simp[pG],by simp[pG]⟩
theorem Good.one{p:hZ}{q:Ref}(b:kg p q=true):Good p ⟨1,[],[fresh p q],[],lQ⟩:=by
 have a:Good p ⟨1,[],[],[],lQ⟩:=⟨by simp[oV],by simp,by simp,by simp,by simp,by simp[ko,lQ]⟩;exact a.grow b Zl
theorem Jv{p:hZ}(d:kU p=true){lk:Bool}{k:Int}{n m:ByteArray}{args:List Int}(e:args.all nQ=true):zI p (start p lk k n m args):=by
 unfold start;split
 . rename_i f;split
   . rename_i c;obtain⟨j,g⟩:=qM c.1;have a:=qy g;have i:(method p (call p k n m).1).args.length=args.length:=by
      have:=c.2;unfold pF at this;simp only[Bool.and_eq_true,decide_eq_true_eq]at this;exact this.1
     refine qK.runs (zk d (Good.one f.2) rfl a ?_ ?_)
     . intro l b;rcases List.mem_cons.1 b with rfl|b
       . exact Aq _ Zm Zl
       . obtain⟨h,a,rfl⟩:=List.mem_map.1 b;exact pg _ (List.all_eq_true.1 e h a)
     . have:=(tu (nD d a).1).args;simp;omega
   . exact zI.link
 . exact zI.link
open Go Tryz
def wT(h h':List qL):Prop:=h.length<=h'.length∧h'.length<=h.length+1∧∀(k:Nat) (o:qL),h[k]?=some o->∃o',h'[k]?=some o'∧o'.of=o.of∧o'.fields.length=o.fields.length
def JI(o o':List Int):Prop:=o'=o∨∃k,o'=o++[k]
def Fw(f f':List Fr):Prop:=∃r t,f=r++[t]∧((∃t',f'=r++[t'])∨(∃t' x,f'=r++[t',x])∨(∃r0 c c',r=r0++[c]∧f'=r0++[c']))
structure tF(op:Int)(s:St)(x:Int×St):Prop where
 heap:wT s.heap x.2.heap
 outs:JI s.outs x.2.outs
 frames:x.1=1->Fw s.frames x.2.frames
 deep:x.1=7->8<=s.frames.length
 room:x.1=8->12<=s.heap.length
 null:x.1=3->op=7∨op=8∨op=9
 link:x.1=4->op=6∨op=7∨op=8∨op=9∨op=15
 cast:x.1=6->op=15
 big:x.1=9->op=4
 done:x.1=2->op=10
theorem tF.of{op:Int}{s a:St}{n:Int}(j:wT s.heap a.heap)(k:JI s.outs a.outs)(b:n=1->Fw s.frames a.frames)(g:n=7->8<=s.frames.length)(h:n=8->12<=s.heap.length)(d:n=3->op=7∨op=8∨op=9)(e:n=4->op=6∨op=7∨op=8∨op=9∨op=15) (f:n=6->op=15) (i:n=9->op=4) (c:n=2->op=10):tF op s (n,a):=⟨j,k,b,g,h,d,e,f,i,c⟩
theorem wT.refl(a:List qL):wT a a:=⟨Nat.le_refl _,Nat.le_succ _,fun _ c b=>⟨c,b,rfl,rfl⟩⟩
theorem wT.snoc(a:List qL)(x:qL):wT a (a++[x]):=⟨by simp,by simp,fun d c b=>⟨c,by rw[List.getElem?_append_left (List.getElem?_eq_some_iff.1 b).1];exact b,rfl,rfl⟩⟩
theorem wT.set(d:List qL)(n a:Int)(v:Val):wT d (mU d n a v):=by
 refine⟨by simp[mU],by simp[mU],fun f b e=>?_⟩;unfold mU;rw[List.getElem?_modify,e];by_cases c:n.toNat=f
 . exact⟨{b with fields:=b.fields.set a.toNat v},by simp[c],rfl,by simp⟩
 . exact⟨b,by simp[c],rfl,rfl⟩
section
variable {p:hZ} {s s1:St} {r:List Fr} {t t1:Fr} {op:Int}
structure Mid(s s1:St)(r:List Fr):Prop where
 fr:∃t,s.frames=r++[t]
 QS:∃t,s1.frames=r++[t]
 heap:wT s.heap s1.heap
 outs:JI s.outs s1.outs
theorem Mid.refl(a:s.frames=r++[t]):Mid s s r:=⟨⟨_,a⟩,⟨_,a⟩,wT.refl _,.inl rfl⟩
theorem Mid.bad(b:Mid s s1 r)(k:wT s.heap s1.heap){n:Int}(c:n≠1)(h:n≠7)(i:n=8->12<=s.heap.length)(e:n=3->op=7∨op=8∨op=9)(f:n=4->op=6∨op=7∨op=8∨op=9∨op=15)(g:n=6->op=15) (j:n=9->op=4) (d:n=2->op=10):tF op s (n,s1):=
 tF.of k b.outs (fun a=>absurd a c) (fun a=>absurd a h) i e f g j d
theorem Mid.ten(b:Mid s s1 r):tF op s (10,s1):=
 tF.of b.heap b.outs (fun a=>absurd a Zn) (fun a=>absurd a Zn) (fun a=>absurd a Zn) (fun a=>absurd a Zn) (fun a=>absurd a Zn) (fun a=>absurd a Zn) (fun a=>absurd a Zn) (fun a=>absurd a Zn)
theorem Mid.one{b:St}(c:wT s.heap b.heap)(d:JI s.outs b.outs)(e:Fw s.frames b.frames):tF op s (1,b):=
 tF.of c d (fun _=>e) (fun a=>absurd a Zn) (fun a=>absurd a Zn) (fun a=>absurd a Zn) (fun a=>absurd a Zn) (fun a=>absurd a Zn) (fun a=>absurd a Zn) (fun a=>absurd a Zn)
theorem Mid.jump(a:Mid s s1 r)(k:Int):tF op s (jump p k s1):=by
 unfold M.jump;split
 . exact a.ten
 . obtain⟨t,b⟩:=a.fr;obtain⟨t1,c⟩:=a.QS;rw[qw c];exact Mid.one a.heap a.outs ⟨r,t,b,.inl ⟨_,rfl⟩⟩
theorem Mid.next(a:Mid s s1 r):tF op s (next p s1):=a.jump _
theorem Mid.turn(a:Mid s s1 r)(f:Fr->Fr):Mid s (DK s1 f) r:=by
 obtain⟨t1,b⟩:=a.QS;rw[qw b];exact⟨a.fr,⟨_,rfl⟩,a.heap,a.outs⟩
theorem Mid.push(a:Mid s s1 r)(v:Val):tF op s (push p v s1):=by
 unfold M.push;split
 . exact a.ten
 . exact(a.turn _).next
theorem Mid.nL{c:Nat}{vs:List Val}{b:St}(a:Mid s s1 r)(d:nL c s1=some (vs,b)):Mid s b r:=by
 obtain⟨t1,e⟩:=a.QS;obtain⟨-,-,-,rfl⟩:=qY e d;exact⟨a.fr,⟨_,rfl⟩,a.heap,a.outs⟩
theorem Mid.pop{v:Val}{b:St}(c:Mid s s1 r)(a:pop s1=some (v,b)):Mid s b r:=by
 unfold M.pop at a;rw[Option.map_eq_some_iff]at a;obtain⟨⟨g,f⟩,d,e⟩:=a;cases e;exact c.nL d
theorem Mid.enter(b:Mid s s1 r)(hl:s1.frames.length=s.frames.length){lk:Bool}{x:rE}{vs:List Val}:tF op s (enter p lk x vs s1):=by
 unfold M.enter;split
 . rename_i e;exact tF.of b.heap b.outs (fun a=>absurd a Zn) (fun _=>by omega) (fun a=>absurd a Zn) (fun a=>absurd a Zn) (fun a=>absurd a Zn) (fun a=>absurd a Zn) (fun a=>absurd a Zn) (fun a=>absurd a Zn)
 . split
   . exact tF.of b.heap b.outs (fun a=>absurd a Zn) (fun a=>absurd a Zn) (fun a=>absurd a Zn) (fun a=>absurd a Zn) (fun a=>absurd a Zn) (fun a=>absurd a Zn) (fun a=>absurd a Zn) (fun a=>absurd a Zn)
   . split
     . obtain⟨t,c⟩:=b.fr;obtain⟨t1,d⟩:=b.QS;exact Mid.one b.heap b.outs ⟨r,t,c,.inr (.inl ⟨t1,_,by rw[d,List.append_assoc];rfl⟩)⟩
     . exact b.ten
theorem Mid.len(a:Mid s s1 r):s1.frames.length=s.frames.length:=by
 obtain⟨t,b⟩:=a.fr;obtain⟨t1,c⟩:=a.QS;rw[b,c];simp
theorem Mid.obj(b:Mid s s1 r){v:Val}{q:Ref}(c:object p v q s1≠1)(d:op=7∨op=8∨op=9):tF op s (object p v q s1,s1):=by
 have : object p v q s1 = 3 ∨ object p v q s1 = 10 ∨ object p v q s1 = 1 := by
  unfold object;split
  . exact .inl rfl
  . split
    . exact .inr (.inl rfl)
    . split
      . exact .inr (.inr rfl)
      . exact .inr (.inl rfl)
 rcases this with a|a|a
 . rw[a];exact b.bad b.heap Zn Zn (fun a=>absurd a Zn) (fun _=>d) (fun a=>absurd a Zn) (fun a=>absurd a Zn) (fun a=>absurd a Zn) (fun a=>absurd a Zn)
 . rw[a];exact b.ten
 . exact absurd a c
theorem Mid.four(b:Mid s s1 r)(c:op=6∨op=7∨op=8∨op=9∨op=15):tF op s (4,s1):=
 b.bad b.heap Zn Zn (fun a=>absurd a Zn) (fun a=>absurd a Zn) (fun _=>c) (fun a=>absurd a Zn) (fun a=>absurd a Zn) (fun a=>absurd a Zn)
end
theorem Il{p:hZ}{k:Int}{n m:ByteArray}{args:List Int}:(∀b,qD p b k n m args=EK)∨(kU p=true∧∀b,qD p b k n m args=start p b k n m args∧zI p (qD p b k n m args)):=by
 unfold qD;by_cases a:(kU p&&has p k&&jC n&&jC m&&args.all nQ)=true
 . right;simp only[Bool.and_eq_true]at a;refine⟨a.1.1.1.1,fun b=>?_⟩;rw[a.1.1.1.1,a.1.1.1.2,a.1.1.2,a.1.2,a.2];exact⟨rfl,Jv a.1.1.1.1 a.2⟩
 . left;intro b;rw[if_neg a]
end Go.Proofs.YtlhlnddgfcmfkaaGreat.M
