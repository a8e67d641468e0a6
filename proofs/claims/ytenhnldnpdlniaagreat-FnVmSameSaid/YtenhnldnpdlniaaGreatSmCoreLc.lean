/- Walks. -/
import Derived.Test.YtenhnldnpdlniaaGreatSmCoreLa
import Derived.Deep.RegionWith
import Derived.Deep.RegionHeld3
import Derived.Maps.Own
set_option maxRecDepth 100000
set_option maxHeartbeats 4000000
set_option linter.all false
namespace Go.Proofs.YtenhnldnpdlniaaGreat
open Go Go.RowKit Tryz M
variable {m s: ByteArray}{a op v: Int}{b: Nat}{D: Nat->Prop}{c w: World}{p: jl}
theorem Kp.Ib(a:D b)(c d e f g h i j:Value):Kp D w ((((((((w.setCell b c).setCell (b,1) d).setCell (b,2) e).setCell (b,3) f).setCell (b,4) g).setCell (b,5) h).setCell (b,6) i).setCell (b,7) j):=
 (((((((((Kp.refl D w).setCell (p:=⟨b,0,none⟩) (fun _=>a) c).setCell (p:=⟨b,1,none⟩) (fun _=>a) d).setCell (p:=⟨b,2,none⟩) (fun _=>a) e).setCell (p:=⟨b,3,none⟩) (fun _=>a) f).setCell (p:=⟨b,4,none⟩) (fun _=>a) g).setCell (p:=⟨b,5,none⟩) (fun _=>a) h).setCell (p:=⟨b,6,none⟩) (fun _=>a) i).setCell (p:=⟨b,7,none⟩) (fun _=>a) j)
theorem jq.Ib{t:TypeId}{u0 u1 u2 u3 u4 u5 u6 u7:Value}(j:jq w b t #[u0,u1,u2,u3,u4,u5,u6,u7])(a c d e f g h i:Value):jq ((((((((w.setCell b a).setCell (b,1) c).setCell (b,2) d).setCell (b,3) e).setCell (b,4) f).setCell (b,5) g).setCell (b,6) h).setCell (b,7) i) b t #[a,c,d,e,f,g,h,i]:=by
 have k:jq (w.setCell b a) b t #[a,u1,u2,u3,u4,u5,u6,u7]:=j.jR 0 a;have l:jq ((w.setCell b a).setCell (b,1) c) b t #[a,c,u2,u3,u4,u5,u6,u7]:=k.jR 1 c;have m:jq (((w.setCell b a).setCell (b,1) c).setCell (b,2) d) b t #[a,c,d,u3,u4,u5,u6,u7]:=l.jR 2 d;have n:jq ((((w.setCell b a).setCell (b,1) c).setCell (b,2) d).setCell (b,3) e) b t #[a,c,d,e,u4,u5,u6,u7]:=m.jR 3 e;have o:jq (((((w.setCell b a).setCell (b,1) c).setCell (b,2) d).setCell (b,3) e).setCell (b,4) f) b t #[a,c,d,e,f,u5,u6,u7]:=n.jR 4 f;have p:jq ((((((w.setCell b a).setCell (b,1) c).setCell (b,2) d).setCell (b,3) e).setCell (b,4) f).setCell (b,5) g) b t #[a,c,d,e,f,g,u6,u7]:=o.jR 5 g;have q:jq (((((((w.setCell b a).setCell (b,1) c).setCell (b,2) d).setCell (b,3) e).setCell (b,4) f).setCell (b,5) g).setCell (b,6) h) b t #[a,c,d,e,f,g,h,u7]:=p.jR 6 h;have r:jq ((((((((w.setCell b a).setCell (b,1) c).setCell (b,2) d).setCell (b,3) e).setCell (b,4) f).setCell (b,5) g).setCell (b,6) h).setCell (b,7) i) b t #[a,c,d,e,f,g,h,i]:=q.jR 7 i;exact r
theorem Nb(a:isNum op=true):op=1\/op=2\/op=3\/op=11\/op=12\/op=13:=by
 simpa [isNum,or_assoc]using a
theorem Gg(a:qd op=true):op=6\/op=15:=by
 simpa [qd,or_assoc]using a
theorem GD(a:qV op=true):op=7\/op=8\/op=9:=by
 simpa [qV,or_assoc]using a
theorem GI(a:sF op=true):op=4\/op=5\/op=10\/op=14:=by
 simpa [sF,or_assoc]using a
theorem Pq(a:isNum op=false)(b:qd op=false)(c:qV op=false)(d:sF op=false):(¬op=1/\¬op=2/\¬op=3/\¬op=4/\¬op=5/\¬op=6/\¬op=7/\¬op=8)/\¬op=9/\¬op=10/\¬op=11/\¬op=12/\¬op=13/\¬op=14/\¬op=15:=by
 simp[isNum,qd,qV,sF]at a b c d;omega
theorem OD(b:isNum op=true):Calls prog 233 #[.agg #[op,a,s,m]] w fun c d=>c=.returned (.iface 314 (.agg #[op,a]))/\Ext w d:=by
 rcases Nb b with rfl|rfl|rfl|rfl|rfl|rfl
 all_goals
  clear b;go_enter func233,ntmps233;go_wp2;go_ret;exact⟨rfl,(jJ _)⟩
theorem OB(b:qd op=true):Calls prog 233 #[.agg #[op,a,s,m]] w fun c d=>c=.returned (.iface 316 (.agg #[op,s]))/\Ext w d:=by
 rcases Gg b with rfl|rfl
 all_goals
  clear b;go_enter func233,ntmps233;go_wp2;go_ret;exact⟨rfl,(jJ _)⟩
theorem OC(b:qV op=true):Calls prog 233 #[.agg #[op,a,s,m]] w fun c d=>c=.returned (.iface 318 (.agg #[op,s,m]))/\Ext w d:=by
 rcases GD b with rfl|rfl|rfl
 all_goals
  clear b;go_enter func233,ntmps233;go_wp2;go_ret;exact⟨rfl,(jJ _)⟩
theorem OE(b:sF op=true):Calls prog 233 #[.agg #[op,a,s,m]] w fun c d=>c=.returned (.iface 320 (.agg #[op]))/\Ext w d:=by
 rcases GI b with rfl|rfl|rfl|rfl
 all_goals
  clear b;go_enter func233,ntmps233;go_wp2;go_ret;exact⟨rfl,(jJ _)⟩
theorem Qn(b:isNum op=false)(c:qd op=false)(d:qV op=false)(e:sF op=false):Calls prog 233 #[.agg #[op,a,s,m]] w fun f g=>f=.returned .nilIface/\Ext w g:=by
 obtain⟨⟨h,i,j,k,l,n,o,p⟩,q,r,t,u,v,x,y⟩:=Pq b c d e;clear b c d e;go_enter func233,ntmps233;go_wp2;go_ret;exact⟨rfl,(jJ _)⟩
theorem FD(x:Value)(w:World):(Instr.typeAssert (.iface 314 x) 20 320 true).run prog w=.ok (.tuple #[.agg #[Tj],.bool false]) w:=by kernel_rfl
theorem Fv(x:Value)(w:World):(Instr.typeAssert (.iface 316 x) 20 320 true).run prog w=.ok (.tuple #[.agg #[Tj],.bool false]) w:=by kernel_rfl
theorem Fz(x:Value)(w:World):(Instr.typeAssert (.iface 318 x) 20 320 true).run prog w=.ok (.tuple #[.agg #[Tj],.bool false]) w:=by kernel_rfl
theorem FE(x:Value)(w:World):(Instr.typeAssert (.iface 320 x) 20 320 true).run prog w=.ok (.tuple #[x,.bool true]) w:=by kernel_rfl
theorem FC(x:Value)(w:World):(Instr.typeAssert (.iface 314 x) 20 314 true).run prog w=.ok (.tuple #[x,.bool true]) w:=by kernel_rfl
theorem Fu(x:Value)(w:World):(Instr.typeAssert (.iface 316 x) 20 314 true).run prog w=.ok (.tuple #[.agg #[Tj,Tj],.bool false]) w:=by kernel_rfl
theorem Fy(x:Value)(w:World):(Instr.typeAssert (.iface 318 x) 20 314 true).run prog w=.ok (.tuple #[.agg #[Tj,Tj],.bool false]) w:=by kernel_rfl
theorem Fs(x:Value)(w:World):(Instr.typeAssert (.iface 316 x) 20 316 true).run prog w=.ok (.tuple #[x,.bool true]) w:=by kernel_rfl
theorem Fw(x:Value)(w:World):(Instr.typeAssert (.iface 318 x) 20 316 true).run prog w=.ok (.tuple #[.agg #[Tj,none_],.bool false]) w:=by kernel_rfl
theorem Fx(x:Value)(w:World):(Instr.typeAssert (.iface 318 x) 20 318 true).run prog w=.ok (.tuple #[x,.bool true]) w:=by kernel_rfl
theorem Hd:Calls prog 234 #[.iface 314 (.agg #[op,a])] w fun b c=>b=.returned (.agg #[op,a,none_,none_])/\Ext w c:=by
 have d:=FD (.agg #[op,a]);have e:=FC (.agg #[op,a]);go_enter func234,ntmps234;go_wp2;refine PG (v:=.agg #[op,a,none_,none_]) (by simp[results,results234,go_sem]) rfl ?_;exact⟨rfl,kx⟩
theorem Hc:Calls prog 234 #[.iface 316 (.agg #[op,s])] w fun a b=>a=.returned (.agg #[op,Tj,s,none_])/\Ext w b:=by
 have c:=Fv (.agg #[op,s]);have d:=Fu (.agg #[op,s]);have e:=Fs (.agg #[op,s]);go_enter func234,ntmps234;go_wp2;refine PG (v:=.agg #[op,Tj,s,none_]) (by simp[results,results234,go_sem]) rfl ?_;exact⟨rfl,kx⟩
theorem L6:Calls prog 234 #[.iface 318 (.agg #[op,s,m])] w fun a b=>a=.returned (.agg #[op,Tj,s,m])/\Ext w b:=by
 have c:=Fz (.agg #[op,s,m]);have d:=Fy (.agg #[op,s,m]);have e:=Fw (.agg #[op,s,m]);have f:=Fx (.agg #[op,s,m]);go_enter func234,ntmps234;go_wp2;refine PG (v:=.agg #[op,Tj,s,m]) (by simp[results,results234,go_sem]) rfl ?_;exact⟨rfl,kx⟩
theorem Du:Calls prog 234 #[.iface 320 (.agg #[op])] w fun a b=>a=.returned (.agg #[op,Tj,none_,none_])/\Ext w b:=by
 have c:=FE (.agg #[op]);go_enter func234,ntmps234;go_wp2;refine PG (v:=.agg #[op,Tj,none_,none_]) (by simp[results,results234,go_sem]) rfl ?_;exact⟨rfl,kx⟩
theorem Nc(op:Int)(w:World):Calls prog 240 #[op] w fun d g=>d=.returned (.tuple #[(qZ op),(rX op)])/\w=g:=by
 by_cases a:op=1
 . subst a;go_enter func240,ntmps240;go_wp2;go_ret2;exact⟨rfl,rfl⟩
 by_cases e:op=2
 . subst e;go_enter func240,ntmps240;go_wp2;go_ret2;exact⟨rfl,rfl⟩
 by_cases f:op=3
 . subst f;go_enter func240,ntmps240;go_wp2;go_ret2;exact⟨rfl,rfl⟩
 . have b:qZ op=0:=T9 a;have c:rX op=15:=by unfold rX;rw[T9 a,T9 Zm]
   rw[b,c];clear b c;go_enter func240,ntmps240;go_wp2;go_ret2;exact⟨rfl,rfl⟩
theorem Ag:Calls prog 235 #[.iface 314 (.agg #[op,a])] w fun b d=>b=.returned (.bool (decide (qZ op<=a)&&decide (a<=rX op)))/\Ext w d:=by
 have i:=FD (.agg #[op,a]);have j:=FC (.agg #[op,a]);generalize f:qZ op=l;generalize g:rX op=m;have c:=Nc op;rw[f,g]at c;have e:=Zy c;clear c f g;by_cases h:l<=a
 . go_enter func235,ntmps235;go_wp2_with (go_at_call 240;refine(e _).mono ?_;rintro b d ⟨rfl,rfl⟩);go_ret;exact⟨hV (by rw[Tw h];simp),kx⟩
 . go_enter func235,ntmps235;go_wp2_with (go_at_call 240;refine(e _).mono ?_;rintro b d ⟨rfl,rfl⟩);go_ret;exact⟨hV (by rw[SS (p:=l<=a) Zm];simp),kx⟩
theorem Af:Calls prog 235 #[.iface 316 (.agg #[op,s])] w fun a b=>a=.returned (.bool (jL s))/\Ext w b:=by
 have c:=Fv (.agg #[op,s]);have d:=Fu (.agg #[op,s]);have e:=Fs (.agg #[op,s]);go_enter func235,ntmps235;go_wp2_with (go_at_call 40;refine(Bo).mono ?_;rintro a b ⟨rfl,rfl⟩);go_ret;exact⟨rfl,kx⟩
theorem Eg:Calls prog 235 #[.iface 318 (.agg #[op,s,m])] w fun a b=>a=.returned (.bool (jL s&&jL m))/\Ext w b:=by
 have e:=Fz (.agg #[op,s,m]);have f:=Fy (.agg #[op,s,m]);have g:=Fw (.agg #[op,s,m]);have h:=Fx (.agg #[op,s,m]);cases c:jL s
 all_goals
  have d:=Zy c;clear c;go_enter func235,ntmps235;go_wp2_with fail;refine(Bo).mono ?_;rintro a b ⟨rfl,rfl⟩;rw[d.o]
 . go_wp2;go_ret;exact⟨rfl,kx⟩
 . go_wp2_with (go_at_call 40;refine(Bo).mono ?_;rintro a b ⟨rfl,rfl⟩);go_ret;exact⟨rfl,kx⟩
theorem wZ:Calls prog 235 #[.iface 320 (.agg #[op])] w fun a b=>a=.returned (.bool true)/\Ext w b:=by
 have c:=FE (.agg #[op]);go_enter func235,ntmps235;go_wp2;go_ret;exact⟨rfl,kx⟩
abbrev Key:=Int×ByteArray
def rF(r:Key):Value:=.agg #[.int .i64 r.1,.string r.2]
def AJ(x:Key×Int):Value×Value:=(rF x.1,.int .i64 x.2)
def pE(w:World)(b:Nat)(m:List (Key×Int)):Prop:=
 ∃es clock,w.heap[b]?=some (.map es clock)/\es.toList.map (fun e=>(e.key,e.val))=m.map AJ
def look(m:List (Key×Int))(k:Key):Option Int:=(m.find? fun x=>decide (k=x.1)).map Prod.snd
theorem yO{m:List (Key×Int)}{k:Key}(a:look m k=none):look (m++[(k,v)]) k=some v:=by
 unfold look at*;rw[Ws];cases b:m.find? fun c=>decide (k=c.1)
 . simp
 . rw[b]at a;simp at a
theorem xQ{m:List (Key×Int)}{k a:Key}(b:a≠k):look (m++[(k,v)]) a=look m a:=by
 unfold look;rw[Ws];cases d:m.find? fun c=>decide (a=c.1)
 . simp[b]
 . rfl
theorem pE.lt{m:List (Key×Int)}(a:pE w b m):b<w:=by
 obtain⟨e,d,c,_⟩:=a;exact(TW.1 c).1
theorem pE.keep{a: World}{m:List (Key×Int)}(f:pE w b m)(h:a.heap[b]?=w.heap[b]?):pE a b m:=by
 obtain⟨e,c,g,d⟩:=f;exact⟨e,c,h.trans g,d⟩
theorem pE.kp{m:List (Key×Int)}(a:pE w b m)(e:Kp D w c)(d:¬D b):pE c b m:=a.keep (e.block b a.lt d)
theorem pE.new(w:World):pE (w.alloc (.map #[] 0)) w []:=⟨#[],0,heap_alloc_new w _,rfl⟩
theorem FZ(a b:Key)(w:World):(Op.equal 64 (rF a) (rF b)).run prog w=.ok (decide (a=b)) w:=by
 unfold Op.equal rF;show(Op.equalIn 10000 _ _ _).run _ w=_
 go_simp;obtain⟨e,c⟩:=a;obtain⟨f,d⟩:=b;have g:(c.toList=d.toList)↔c=d:=by
  rw[Uv,Uv];obtain⟨⟨j⟩⟩:=c;obtain⟨⟨k⟩⟩:=d;simp
 simp only[g,Wo];by_cases h:e=f<;>by_cases i:c=d<;>simp[h,i]
theorem rR(a:Bool)(k:Int)(s:ByteArray)(w:World):(Instr.checkKey a 10000 64 (.agg #[k,s])).run prog w=.ok () w:=by
 cases a<;>kernel_rfl
theorem ED:prog.underlying 97=some (.map 64 3):=underlying97
theorem OV:∃a,prog.underlying 64=some (.struct a):=⟨_,underlying64⟩
theorem Dh(k:Key)(w:World):∀(a:List MapEntry)(m:List (Key×Int))(i:Nat),a.map (fun c=>(c.key,c.val))=m.map AJ→ (look m k=none/\(Instr.findAsking 64 (rF k) a i).run prog w=.ok none w)\/∃h q,look m k=some h/\(Instr.findAsking 64 (rF k) a i).run prog w=.ok (some (q,.int .i64 h)) w:=by
 intro a;induction a with
 |nil=>
  intro m i d;cases m with
  |nil=>exact .inl ⟨rfl,rfl⟩
  |cons b f=>simp at d
 | cons c a p =>
  intro m i d;cases m with
  |nil=>simp at d
  |cons b f=>
   simp only[Ur,U2]at d;obtain⟨g,j⟩:=d;have l:c.key=rF b.1:=congrArg Prod.fst g;have o:c.val=.int .i64 b.2:=congrArg Prod.snd g;unfold Instr.findAsking;rw[l];simp only[Uu,FZ,UT];by_cases e:k=b.1
   . refine .inr ⟨b.2,i,by unfold look;rw[List.find?_cons_of_pos (by simp[e])];rfl,?_⟩;simp[e,o]
   . have n:look (b::f) k=look f k:=by unfold look;rw[List.find?_cons_of_neg (by simp[e])]
     rw[n,SS e];simpa using p f (i+1) j
theorem xE(k:Key)(w:World)(a:List MapEntry)(m:List (Key×Int))(c:a.map (fun b=>(b.key,b.val))=m.map AJ):(look m k=none/\(Instr.findKey 64 (rF k) a).run prog w=.ok none w)\/∃d h,look m k=some d/\(Instr.findKey 64 (rF k) a).run prog w=.ok (some (h,.int .i64 d)) w:=by
 obtain⟨e,f⟩:=OV;unfold Instr.findKey;simp only[Uu,VU f,UT];cases a with
 |nil=>
  cases m with
  |nil=>exact .inl ⟨rfl,rfl⟩
  |cons j i=>simp at c
 |cons b a=>
  have g:Instr.findNow (.struct e) (rF k) (b::a) 0=none:=by simp[Instr.findNow,Instr.sameNow]
  rw[g];exact Dh k w (b::a) m 0 c
theorem uw{m:List (Key×Int)}(f:pE w b m)(k:Int)(s:ByteArray):(Instr.lookup 97 (.map (some b)) (.agg #[k,s]) true).run prog w=.ok (.tuple #[.int .i64 ((look m (k,s)).getD 0),.bool (look m (k,s)).isSome]) w:=by
 obtain⟨e,h,d,g⟩:=f;unfold Instr.lookup;simp only[Uu,VU ED,UT];rcases xE (k,s) w e.toList m g with⟨c,a⟩|⟨j,i,c,a⟩
 . simp only[rF]at a;simp[getObj,Sem.run,d,rR,a,c,go_sem]
 . simp only[rF]at a;simp[getObj,Sem.run,d,rR,a,c,go_sem]
theorem Al{m:List (Key×Int)}(f:pE w b m)(k:Int)(s:ByteArray):(Instr.lookup 97 (.map (some b)) (.agg #[k,s]) false).run prog w=.ok (.int .i64 ((look m (k,s)).getD 0)) w:=by
 obtain⟨e,h,d,g⟩:=f;unfold Instr.lookup;simp only[Uu,VU ED,UT];rcases xE (k,s) w e.toList m g with⟨c,a⟩|⟨j,i,c,a⟩
 . simp only[rF]at a;simp[getObj,Sem.run,d,rR,a,c,go_sem]
 . simp only[rF]at a;simp[getObj,Sem.run,d,rR,a,c,go_sem]
theorem K3{m:List (Key×Int)}(l:pE w b m)(k:Int)(s:ByteArray)(v:Int)(i:look m (k,s)=none):∃a,(Instr.mapUpdate 97 (.map (some b)) (.agg #[k,s]) v).run prog w=.ok () a/\pE a b (m++[((k,s),v)])/\Kp (·=b) w a/\a.heap.size=w:=by
 obtain⟨e,d,g,h⟩:=l;refine⟨{w with heap:=w.heap.setIfInBounds b (.map (e.push {key:=.agg #[k,s],val:=v,born:=d}) (d+1))},?_,?_,?_,Zl⟩
 . unfold Instr.mapUpdate;simp only[Uu,VU ED,UT];rcases xE (k,s) w e.toList m h with⟨f,c⟩|⟨v,r,f,c⟩
   . simp only[rF]at c;simp[getObj,setObj,Sem.run,g,rR,c,go_sem]
   . rw[f]at i;cases i
 . have n:=(TW.1 g).1;refine⟨_,_,by simp[n];exact⟨rfl,rfl⟩,?_⟩;simp[h,AJ,rF]
 . refine⟨rfl,rfl,rfl,Zl,fun q p o=>?_⟩;simp only[Array.getElem?_setIfInBounds];rw[T9 (fun j=>o j.symm)]
theorem nT{f:Array Oper}{rest:List Oper}{d:Oper}{a:Act}{Q:Exit->Act->World->Prop}(j:d.guard=none){e x y:Operand}(o:d.op=Op.mapUpdate 97 e x y)(b:Nat)(m:List (Key×Int))(k:Int)(s:ByteArray)(v:Int)(l:a.eval e=.map (some b))(r:a.eval x=.agg #[k,s])(q:a.eval y=.int .i64 v)(g:pE w b m)(n:look m (k,s)=none)(h:∀c,pE c b (m++[((k,s),v)])->Kp (·=b) w c->c.heap.size=w->wpList prog f Q rest (a.put d.dst undef) c):wpList prog f Q (d::rest) a w:=by
 refine Wx j fun A i=>?_;obtain⟨c,p,t,u,z⟩:=K3 g k s v n;unfold Oper.wp;simp[execOp,o,l,r,q,p,Result.andThen];exact i _ _ (h c t u z)
structure jB where
 L:Nat
 O:Nat
 A:Nat
 D:Nat
structure jD(w:World)(l:jB)(p:jl):Prop where
 ok:kv p=true
 ord:l.O<l.A/\l.A<l.D/\l.D<l.L
 blk:∃a cap,jq w l.L 99 #[.slice a p.length cap,.map (some l.O),.map (some l.A),.map (some l.D)]/\SliceOf 2 jo w (· <l.O) (.slice a p.length cap) p
 own:∃m,pE w l.O m/\∀k s,look m (k,s)=(wQ p ⟨k,s⟩).map Int.ofNat
 ask:∃m,pE w l.A m/\∀k s,look m (k,s)=ve p k s
 laid:∃m,pE w l.D m/\∀k s v,look m (k,s)=some v->v=if jW p ⟨k,s⟩then 1 else 2
theorem jD.lt{l:jB}(a:jD w l p):l.L<w:=by
 obtain⟨c,d,b,_⟩:=a.blk;exact b.lt
theorem jD.keep{g: World}{l:jB}(a:jD w l p)(c:∀f,f<=l.L->g.heap[f]?=w.heap[f]?):jD g l p:=by
 obtain⟨r,s,t⟩:=a.ord;refine⟨a.ok,a.ord,?_,?_,?_,?_⟩
 . obtain⟨h,j,k,n⟩:=a.blk;exact⟨h,j,k.keep (c _ (Tu _)),n.keep jo.stays (fun i q u o m=>(V6 (c i Zm)).trans m) fun _ a=>a⟩
 . obtain⟨e,d,b⟩:=a.own;exact⟨e,d.keep (c _ Zm),b⟩
 . obtain⟨e,d,b⟩:=a.ask;exact⟨e,d.keep (c _ Zm),b⟩
 . obtain⟨e,d,b⟩:=a.laid;exact⟨e,d.keep (c _ Zm),b⟩
theorem jD.kp{l:jB}(b:jD w l p)(e:Kp D w c)(d:∀a,a<=l.L->¬D a):jD c l p:=
 b.keep fun a f=>e.block a (Te b.lt) (d a f)
theorem jD.ext{a: World}{l:jB}(b:jD w l p)(c:Ext w a):jD a l p:=b.kp c fun _ _ d=>d
theorem jD.Ho{l:jB}(e:jD w l p):∀a,Ext w a->∀b c,(Instr.lookup 97 (.map (some l.O)) (.agg #[.int .i64 b,.string c]) true).run prog a=.ok (.tuple #[.int .i64 (((wQ p ⟨b,c⟩).map Int.ofNat).getD 0),.bool (wQ p ⟨b,c⟩).isSome]) a:=by
 intro a f b c;obtain⟨i,g,d⟩:=e.own;rw[uw (g.kp f fun h=>h),d];simp
theorem jD.O5{l:jB}(e:jD w l p):∀a,Ext w a->∀b c,(Instr.lookup 97 (.map (some l.O)) (.agg #[.int .i64 b,.string c]) false).run prog a=.ok (.int .i64 (((wQ p ⟨b,c⟩).map Int.ofNat).getD 0)) a:=by
 intro a f b c;obtain⟨i,g,d⟩:=e.own;rw[Al (g.kp f fun h=>h),d]
theorem jD.Hn{l:jB}(e:jD w l p):∀a,Ext w a->∀b c,(Instr.lookup 97 (.map (some l.A)) (.agg #[.int .i64 b,.string c]) true).run prog a=.ok (.tuple #[.int .i64 ((ve p b c).getD 0),.bool (ve p b c).isSome]) a:=by
 intro a f b c;obtain⟨i,g,d⟩:=e.ask;rw[uw (g.kp f fun h=>h),d]
theorem jD.cells{l:jB}(f:jD w l p):∃c d,SliceOf 2 jo w (· <l.O) (.slice c p.length d) p/\(∀a,Ext w a->a.cell? l.L=some (.slice c p.length d))/\(∀a,Ext w a->a.cell? (l.L,1)=some (.map (some l.O)))/\(∀a,Ext w a->a.cell? (l.L,2)=some (.map (some l.A)))/\(∀a,Ext w a->a.cell? (l.L,3)=some (.map (some l.D))):=by
 obtain⟨c,d,e,g⟩:=f.blk;exact⟨c,d,g,fun a b=>Kp.jm b (e.c 0 _ rfl),fun a b=>Kp.jm b (e.c 1 _ rfl),fun a b=>Kp.jm b (e.c 2 _ rfl),fun a b=>Kp.jm b (e.c 3 _ rfl)⟩
end Go.Proofs.YtenhnldnpdlniaaGreat
namespace Go.Proofs.YtenhnldnpdlniaaGreat.M
variable {m n: ByteArray}{t: Fr}{k: Int}{c i: Nat}{q r: Ref}{b s: St}{v: Val}{p: jl}{x: pU}
theorem EM:∀{f:Nat} {a:List Int} {k:Int},a.getLastD 0=k->(pK p n f a k).2=1→
    ve p ((pK p n f a k).1.getLastD 0) n=none
 |0,_,_,_,h=>by simp[pK]at h
 |f+1,a,k,hl,h=>by
  unfold pK at h |-;split at h
  . rename_i c;split at h
    . rename_i b;simp only[b,Uy];rw[hl];exact c
    . simp at h
  . rename_i next c
    split at h
    . simp at h
    . rename_i b;simp only[b,Uq,U3];exact EM Zl h
theorem Hz(b:(resolve p k n).2=1):(resolve p k n).1.name=n/\(path p k n).2=1/\(resolve p k n).1.keeper=(path p k n).1.getLastD 0:=by
 unfold resolve at b |-;split at b
 . rename_i a;rw[Ty a];exact⟨rfl,a,rfl⟩
 . rename_i a;exact absurd b a
theorem Bi(b:(resolve p k n).2=1):resolve p (resolve p k n).1.keeper (resolve p k n).1.name=((resolve p k n).1,1):=by
 obtain⟨e,a,f⟩:=Hz b;obtain⟨j,c⟩:=nN b;have h:=Aw c;have g:ve p (resolve p k n).1.keeper (resolve p k n).1.name=none:=by
  rw[e,f];unfold path at a |-;split at a
  . rename_i i;rw[Ty i];exact EM rfl a
  . simp at a
 have d:path p (resolve p k n).1.keeper (resolve p k n).1.name=([(resolve p k n).1.keeper],1):=by
  unfold path;rw[Ty (Dr.2 h)];unfold pK;rw[g];simp only;rw[Ty (by unfold owned;show(cls? p (resolve p k n).1).isSome=true;rw[c];rfl)]
 generalize (resolve p k n).1=x at d;unfold resolve;rw[d];rfl
theorem CF{x:Ref}(f:resolve p x.keeper x.name=(x,1))(h:∃b a,ku p b x=some a/\a.length<=6):mE p x=true/\∃b a,ku p b x=some a/\chain p x=a:=by
 obtain⟨b,a,c,g⟩:=h;have d:nk p x=some a:=wW _ _ _ c 6 g;have e:mE p x=true:=by
  unfold mE find;rw[f];simp[d]
 exact⟨e,b,a,c,by unfold chain;rw[Ty e,d];rfl⟩
theorem tX(a:mE p r=true):resolve p r.keeper r.name=(r,1)/\∃c,nk p r=some c/\chain p r=c:=by
 have g:=a;unfold mE find at a;by_cases b:(resolve p r.keeper r.name).2=1
 . rw[Ty b]at a;split at a
   . rename_i e;simp at a;have d:resolve p r.keeper r.name=(r,1):=Prod.ext a b;rw[d]at e;obtain⟨c,f⟩:=Vh.1 e;exact⟨d,c,f,by unfold chain;rw[Ty g,f];rfl⟩
   . simp at a
 . rw[T9 b]at a;simp at a;exact absurd a.1 b
theorem BB:∀(f:Nat)(r:Ref)(l:List Ref),ku p f r=some l->resolve p r.keeper r.name=(r,1)->∀c∈l,resolve p c.keeper c.name=(c,1):=by
 intro f;induction f with
 |zero=>intro r l a;simp[ku]at a
 |succ f h=>
  intro r l a e c b;unfold ku at a;split at a
  . cases a;simp at b;subst b;exact e
  . split at a
    . rename_i g;cases d:ku p f (resolve p r.keeper (jE p r)).1 with
      |none=>rw[d]at a;simp at a
      |some i=>
       rw[d]at a;simp at a;subst a;rcases Ui.1 b with rfl|b
       . exact e
       . exact h _ _ d (Bi g) c b
    . cases a
theorem pW{x: Ref}(a:x∈chain p r):mE p x=true/\∃n,chain p r=n++chain p x:=by
 have l:mE p r=true:=by
  unfold chain at a;split at a
  . rename_i b;exact b
  . simp at a
 obtain⟨h,m,b,j⟩:=tX l;rw[j]at a |-;obtain⟨d,k⟩:=Vj a;obtain⟨i,c⟩:=vg _ _ _ b d x k;have q:=vQ _ _ _ b;obtain⟨e,o,s,f,g⟩:=CF (BB _ _ _ b h x a) ⟨i,_,c,by simp;omega⟩;refine⟨e,m.take d,?_⟩;rw[g,Cu f c,Vs]
theorem tO(a:mE p r=true):∃d,chain p r=r::d:=by
 obtain⟨e,f,b,c⟩:=tX a;rw[c];exact wV _ _ _ b
theorem mr{x: Ref}(c:x∈chain p r):∃b,cls? p x=some b:=by
 obtain⟨a,_⟩:=tX (pW c).1;have:=nN (p:=p) (k:=x.keeper) (n:=x.name) (by rw[a]);rwa[a]at this
def yB(p:jl)(r:Ref):Nat:=(kL p (chain p r).reverse []).length
theorem xh(p:jl):∀(a:List Ref)(b:List oO),(kL p a b).length=b.length+(a.map fun c=>(cls p c).fields.length).sum:=by
 intro a;induction a with
 |nil=>intro b;simp[kL]
 |cons c e d=>intro b;unfold kL;rw[d,qC];simp;omega
theorem AR(p:jl)(c:Ref):∀(a K:List Ref)(n:Nat),c ∉ a->qh p c (a++c::K) n=n+(a.map fun c=>(cls p c).fields.length).sum:=by
 intro a;induction a with
 |nil=>intro K n _;simp[qh]
 |cons f g e=>
  intro K n b;simp only[Ui,not_or]at b;simp only[TR,qh];rw[T9 (fun d=>b.1 d.symm),e _ _ b.2];simp;omega
theorem AY{f:oO}(g:(layout p r)[i]?=some f):i<yB p f.of:=by
 obtain⟨_,k,_,q,n,h,b,_⟩:=sG g;obtain⟨j,s,l⟩:=pW k;obtain⟨m,a⟩:=tO j;have c:=yw p f.of;rw[a,We]at c;have e:nW p f.of r=((m.reverse).map fun d=>(cls p d).fields.length).sum:=by
  unfold nW;rw[l,a,UC,List.reverse_cons,TG,List.singleton_append,AR _ _ _ _ _ (by simpa using c.1),Tk]
 have o:=(Tt.1 h).1;unfold yB;rw[xh,a,List.reverse_cons,Ux,List.sum_append];simp;rw[e]at b;simp at b;omega
theorem JR{a top:Ref}(d:jW p a=true)(b:under p a top=true):yB p top<=(layout p a).length:=by
 unfold under at b;obtain⟨_,f,e⟩:=pW (by simpa using b);unfold layout yB;rw[Ty d,e,UC,qy];obtain⟨g,c⟩:=uO p f.reverse (kL p (chain p top).reverse []);rw[c];simp
theorem oG(a:jW p r=true):mE p r=true/\r∈chain p r:=by
 have b:mE p r=true:=by
  unfold jW at a;cases b:mE p r
  . unfold chain at a;rw[b]at a;simp at a
  . rfl
 obtain⟨d,c⟩:=tO b;exact⟨b,by rw[c];simp⟩
theorem yF:∀{l:List oO},(pO p k m r l).2=1->(pO p k m r l).1∈l
 |[],h=>by simp[pO]at h
 |f::l,h=>by
  unfold pO at h |-;split at h
  . rename_i a;rw[Ty a];split at h
    . rename_i b;rw[Ty b];simp
    . simp at h
  . rename_i a;rw[T9 a];exact UI _ (yF h)
theorem MB(a:(get p k n m).2=1):∃(r:Ref)(i:Nat),(layout p r)[i]?=some (get p k n m).1:=by
 unfold get at a |-;split at a
 . rename_i b;rw[Ty b];obtain⟨i,c⟩:=Vj (yF a);exact⟨_,i,c⟩
 . rename_i b;exact absurd a b
theorem Mx(c:(get p k n m).2=1){a:Ref}(d:jW p a=true)(e:under p a (get p k n m).1.of=true):0<=(get p k n m).1.at_/\(get p k n m).1.at_.toNat<(layout p a).length:=by
 obtain⟨j,i,b⟩:=MB c;have f:=(sG b).2.2.1;have g:=AY b;have h:=JR d e;omega
theorem qw:∀{l:List Ref} {x:pU},mq p n l=some x->x.of∈l/\∃a:Nat,x.at_=a/\pY (cls p x.of) n=some a
 |[],x,h=>by simp[mq]at h
 |c::r,x,h=>by
  unfold mq at h;split at h
  . rename_i a e;cases h;exact⟨Zl,a,rfl,e⟩
  . obtain⟨b,d⟩:=qw h;exact⟨UI _ b,d⟩
theorem pM(b:pick p r n=some x):jW p r=true/\x.of∈chain p r/\∃i a d,x.at_=(i:Nat)/\cls? p x.of=some a/\a.methods[i]?=some d/\d.name=n/\method? p x=some d:=by
 unfold pick at b;split at b
 . rename_i l;obtain⟨f,i,g,c⟩:=qw b;obtain⟨a,h⟩:=mr f;have e:cls p x.of=a:=by unfold cls;rw[h];rfl
   rw[e]at c;unfold pY at c;rw[TH]at c;obtain⟨j,k,_⟩:=c;exact⟨l,f,i,a,a.methods[i],g,h,CU j,by simpa using k,by
    unfold method?;rw[g,Ty (Int.natCast_nonneg i),e];exact CU j⟩
 . cases b
theorem su(a:(call p k n m).2=1):∃e,pick p e m=some (call p k n m).1:=by
 unfold call at a |-;split at a
 . rename_i b;rw[Ty b];cases c:pick p (ko p k n m).1 m with
   |none=>rw[c]at a;simp at a
   |some f=>
    rw[c]at a;refine⟨_,c.trans ?_⟩;simp only at a |-;split at a
    . rename_i d;rw[Ty d]
    . simp at a
 . rename_i b;exact absurd a b
theorem uI(b:kg p x=true):jW p x.of=true/\∃i a g,x.at_=(i:Nat)/\cls? p x.of=some a/\a.methods[i]?=some g/\method? p x=some g:=by
 unfold kg at b;simp only[RV,Tv]at b;obtain⟨⟨d,h⟩,j⟩:=b;obtain⟨a,e⟩:=mr (oG d).2;have c:cls p x.of=a:=by unfold cls;rw[e];rfl
 rw[c]at j;have f:x.at_.toNat<a.methods.length:=Zm
 exact⟨d,x.at_.toNat,a,a.methods[x.at_.toNat],Zm,e,CU f,by
  unfold method?;rw[Ty h,c];exact CU f⟩
structure Good(p:jl)(s:St):Prop where
 heap:pX p s.heap=true
 frames:∀f∈s.frames,l8 p f s.heap.length=true
 nf:s.frames.length<=8
 outs:s.outs.length<=40
 uh:∀n∈s.outs,oD n=true
 back:jV s.back s.heap.length=true
theorem jK{f:Fr}{n:Nat}:l8 p f n=true↔kg p f.of=true/\0<=f.pc/\f.pc<(method p f.of).code.length/\(f.locals.length:Int)=(method p f.of).locals/\(f.stack.length:Int)<=(method p f.of).stack/\(∀a∈f.locals,jV a n=true)/\(∀a∈f.stack,jV a n=true):=by
 unfold l8;simp only[RV,Tv,Tc,and_assoc]
theorem lV{a:List ou}:pX p a=true↔a.length<=12/\∀b∈a,jW p b.of=true/\b.fields.length=(layout p b.of).length/\∀c∈b.fields,jV c a.length=true:=by
 unfold pX;simp only[RV,Tv,Tc,and_assoc]
theorem xK{n m:Nat}(a:jV v n=true)(e:n<=m):jV v m=true:=by
 unfold jV at*;split at a
 . rename_i b;rw[Ty b];exact a
 . rename_i b;rw[T9 b];split at a
   . rename_i c;rw[Ty c];exact a
   . rename_i c;rw[T9 c];split at a
     . rename_i d;rw[Ty d];simp only[RV,Tv]at*;omega
     . cases a
theorem qa{n:Nat}(a:jV v n=true)(b:v.kind=2):0<=v.n/\v.n<n:=by
 unfold jV at a;rw[b]at a;simpa using a
theorem zN{n:Nat}(a:jV v n=true)(b:v.kind=1): -9999<=v.n/\v.n<=9999:=by
 unfold jV oD at a;rw[b]at a;simpa using a
theorem Am(n:Nat):jV qH n=true:=by simp[jV,qH]
theorem LA(n:Nat):jV l9 n=true:=by simp[jV,l9]
theorem pJ(n:Nat)(a:oD k=true):jV (mh k) n=true:=by
 unfold jV mh;simpa using a
theorem ze(n:Nat)(a:0<=k)(b:k<n):jV ⟨2,k⟩ n=true:=by
 unfold jV;simp;omega
theorem p9{r:List Fr}(a:s.frames=r++[t]):top s=t:=by unfold top;rw[a];simp
theorem oV{r:List Fr}(a:s.frames=r++[t])(f:Fr->Fr):EK s f={s with frames:=r++[f t]}:=by unfold EK;rw[a];simp
theorem KC(a:s.frames≠[]):∃b c,s.frames=b++[c]:=⟨s.frames.dropLast,s.frames.getLast a,(UK a).symm⟩
section
variable {p:jl}{s:St}{r:List Fr}{t:Fr}
theorem Good.top(b:Good p s)(a:s.frames=r++[t]):l8 p t s.heap.length=true:=b.frames t (by rw[a];simp)
theorem Good.turn(a:Good p s)(c:s.frames=r++[t]){d:Fr}(f:l8 p d s.heap.length=true):Good p {s with frames:=r++[d]}:=by
 refine⟨a.heap,?_,?_,a.outs,a.uh,a.back⟩
 . intro e b;rcases TU.1 b with b|b
   . exact a.frames e (by rw[c];exact List.mem_append_left _ b)
   . simp at b;subst b;exact f
 . have:=a.nf;rw[c]at this;simpa using this
def r9(p:jl)(x:Int×St):Prop:=1<=x.1/\x.1<=10/\Good p x.2/\(x.1=1->x.2.frames≠[])/\x.2.status=1
theorem wM(c:Good p s)(b:s.frames=r++[t])(d:s.status=1){e:Int}(h0:0<=e):r9 p (jump p e s):=by
 have g:=c.top b;have a:=jK.1 g;unfold jump;rw[p9 b,oV b];split
 . exact⟨Zl,Zl,c,fun f=>by simp at f,d⟩
 . rename_i h;refine⟨Zl,Zl,c.turn b (jK.2 ⟨a.1,h0,by simp only;omega,a.2.2.2.1,a.2.2.2.2.1,a.2.2.2.2.2.1,a.2.2.2.2.2.2⟩),fun _=>by simp,d⟩
theorem tZ(b:Good p s)(a:s.frames=r++[t])(c:s.status=1):r9 p (next p s):=by
 have d:=jK.1 (b.top a);unfold next
 rw[p9 a];exact wM b a c Zm
theorem ru(d:Good p s)(c:s.frames=r++[t])(e:s.status=1){v:Val}(g:jV v s.heap.length=true):r9 p (push p v s):=by
 have a:=jK.1 (d.top c);unfold push;rw[p9 c,oV c];split
 . exact⟨Zl,Zl,d,fun f=>by simp at f,e⟩
 . rename_i i;refine tZ (r:=r) (t:={t with stack:=t.stack++[v]}) (d.turn c (jK.2 ⟨a.1,a.2.1,a.2.2.1,a.2.2.2.1,by simp;omega,a.2.2.2.2.2.1,?_⟩)) rfl e;intro h b;rcases TU.1 b with b|b
   . exact a.2.2.2.2.2.2 h b
   . simp at b;subst b;exact g
theorem sN(b:s.frames=r++[t]){vs:List Val}{d:St}(a:oh c s=some (vs,d)):
    c<=t.stack.length/\vs=t.stack.drop (t.stack.length - c)/\vs.length=c/\d={s with frames:=r++[{t with stack:=t.stack.take (t.stack.length - c)}]}:=by
 unfold oh at a;rw[p9 b,oV b]at a;split at a
 . cases a
 . cases a;refine⟨Zm,rfl,by simp;omega,rfl⟩
theorem Good.popped(c:Good p s)(b:s.frames=r++[t])(n:Nat):Good p {s with frames:=r++[{t with stack:=t.stack.take n}]}:=by
 have a:=jK.1 (c.top b);refine c.turn b (jK.2 ⟨a.1,a.2.1,a.2.2.1,a.2.2.2.1,?_,a.2.2.2.2.2.1,fun e d=>a.2.2.2.2.2.2 e (Uo d)⟩);have:(t.stack.take n).length<=t.stack.length:=by simp;omega
 have:=a.2.2.2.2.1;simp only;omega
theorem vW(e:Good p s)(b:s.frames=r++[t]){vs:List Val}{a:St}(h:oh c s=some (vs,a)):
    vs.length=c/\(∀d∈vs,jV d s.heap.length=true)/\Good p a/\a.frames=r++[{t with stack:=t.stack.take (t.stack.length - c)}]/\a.heap=s.heap/\a.outs=s.outs/\a.back=s.back/\a.status=s.status:=by
 obtain⟨j,f,g,rfl⟩:=sN b h;refine⟨g,fun d i=>?_,e.popped b _,rfl,rfl,rfl,rfl,rfl⟩;subst f;exact(jK.1 (e.top b)).2.2.2.2.2.2 d (Vk i)
theorem Pz(i:Good p s)(f:s.frames=r++[t]){v:Val}{a:St}(b:pop s=some (v,a)):
    jV v s.heap.length=true/\Good p a/\a.frames=r++[{t with stack:=t.stack.take (t.stack.length - 1)}]/\a.heap=s.heap/\a.outs=s.outs/\a.back=s.back/\a.status=s.status:=by
 unfold pop at b;rw[UX]at b;obtain⟨⟨j,k⟩,g,h⟩:=b;cases h;obtain⟨c,d,e⟩:=vW i f g;refine⟨?_,e⟩;match j,c with
 |[x],_=>exact d x Zl
theorem r9.bad{n:Int}(c:Good p s)(d:s.status=1)(e:1<n)(b:n<=10):r9 p (n,s):=⟨by simp only;omega,b,c,fun a=>by simp only at a;omega,d⟩
theorem BX(v:Val)(q:Ref)(s:St):object p v q s=1\/(1<object p v q s/\object p v q s<=10):=by
 unfold object;split
 . right;decide
 . split
   . right;decide
   . split
     . left;rfl
     . right;decide
theorem vH(a:object p v q s=1):v.kind=2/\under p (qL s.heap v.n) q=true:=by
 unfold object at a;split at a
 . cases a
 . split at a
   . cases a
   . rename_i c;split at a
     . rename_i b;exact⟨Zm,b⟩
     . cases a
theorem Dt{n:Int}(h0:0<=n)(c:n<s.heap.length):∃a,s.heap[n.toNat]?=some a/\a∈s.heap/\qL s.heap n=a.of/\qQ s.heap n=a.fields:=by
 have b:n.toNat<s.heap.length:=Zm
 refine⟨s.heap[n.toNat],CU b,Vw _,?_,?_⟩
 . unfold qL;rw[CU b];rfl
 . unfold qQ;rw[CU b];rfl
theorem yA(o:Good p s){k:Int}{n m:ByteArray}(q:(get p k n m).2=1){v:Val}(t:jV v s.heap.length=true)(r:object p v (get p k n m).1.of s=1):0<=v.n/\v.n<s.heap.length/\0<=(get p k n m).1.at_/\∃a,s.heap[v.n.toNat]?=some a/\a∈s.heap/\qQ s.heap v.n=a.fields/\(get p k n m).1.at_.toNat<a.fields.length:=by
 obtain⟨h,b⟩:=vH r;obtain⟨c,d⟩:=qa t h;obtain⟨a,i,e,j,l⟩:=Dt (s:=s) c d;rw[j]at b;have:=(lV.1 o.heap).2 a e;obtain⟨f,g⟩:=Mx q this.1 b;exact⟨c,d,f,a,i,e,l,by rw[this.2.1];exact g⟩
theorem OG(n:Nat):∀b∈(fresh p q).fields,jV b n=true:=by
 intro b a;unfold fresh at a;simp only[V5]at a;obtain⟨c,_,rfl⟩:=a;split
 . exact pJ n Zn
 . exact Am n
theorem Good.grow(a:Good p s){q:Ref}(v:jW p q=true)(x:s.heap.length<12):Good p {s with heap:=s.heap++[fresh p q]}:=by
 have e:s.heap.length<=(s.heap++[fresh p q]).length:=by simp
 obtain⟨_,t⟩:=lV.1 a.heap;refine⟨lV.2 ⟨by simp;omega,?_⟩,?_,a.nf,a.outs,a.uh,xK a.back e⟩
 . intro w b;rcases TU.1 b with b|b
   . obtain⟨f,n,o⟩:=t w b;exact⟨f,n,fun d c=>xK (o d c) e⟩
   . simp at b;subst b;exact⟨v,by simp[fresh],OG _⟩
 . intro r u;obtain⟨g,h,i,j,k,l,m⟩:=jK.1 (a.frames r u);exact jK.2 ⟨g,h,i,j,k,fun d c=>xK (l d c) e,fun d c=>xK (m d c) e⟩
theorem Good.set(c:Good p s){n a:Int}{v:Val}(q:jV v s.heap.length=true):Good p {s with heap:=nS s.heap n a v}:=by
 have d:(nS s.heap n a v).length=s.heap.length:=by simp[nS]
 obtain⟨k,l⟩:=lV.1 c.heap;refine⟨lV.2 ⟨by rw[d];exact k,?_⟩,?_,c.nf,c.outs,c.uh,?_⟩
 . intro w o;rw[d];obtain⟨r,b⟩:=Vj o;unfold nS at b;rw[VT]at b;cases e:s.heap[r]? with
   |none=>rw[e]at b;simp at b
   |some t=>
    rw[e]at b;obtain⟨g,h,i⟩:=l t (Tx e);simp at b;subst b;split
    . refine⟨g,by simpa using h,?_⟩;intro u f;rcases Vo f with f|rfl
      . exact i u f
      . exact q
    . exact⟨g,h,i⟩
 . intro j m;simp only[d];exact c.frames j m
 . simp only[d];exact c.back
end
theorem BC(e:kv p=true){r:Ref}{c:Class}(a:cls? p r=some c):o9 c=true:=by
 unfold cls? at a;rw[V8]at a;obtain⟨g,f,d⟩:=a;have b:=zu e f;unfold kC at b;simp only[RV]at b;exact qc b.1.2 c (U5 d)
theorem EH{c:Class}(a:o9 c=true):∀b∈c.methods,nR b=true:=by
 unfold o9 at a;simp only[RV]at a;exact qc a.2
theorem lT(g:kv p=true){x:pU}(d:kg p x=true):nR (method p x)=true/\method? p x=some (method p x):=by
 obtain⟨_,j,h,b,i,e,f,a⟩:=uI d;have c:method p x=b:=by unfold method;rw[a];rfl
 rw[c];exact⟨EH (BC g e) b (Tx f),a⟩
structure LP(m:Method):Prop where
 args:(m.args.length:Int)+1<=m.locals
 IK:m.args.length<=3
 locals:m.locals<=6
 PW:1<=m.stack
 stack:m.stack<=5
 Q0:1<=m.code.length
 code:m.code.length<=16
 ins:∀i∈m.code,oL m i=true
 ret:mg m.ret=true
 kinds:∀k∈m.args,mg k=true
 maps:m.maps.length<=5
 tC:∀f∈m.maps,tC m f=true
theorem yT{m:Method}:∀{l:List SMap} {n:Int},lC m n l=true->∀a∈l,tC m a=true
 |[],_,_=>by simp
 |x::r,n,h=>by
  unfold lC at h;simp only[RV]at h;intro a b;rcases Ui.1 b with rfl|b
  . exact h.1.2
  . exact yT h.2 a b
theorem qE{m:Method}(a:nR m=true):LP m:=by
 unfold nR codeOk sw at a;simp only[RV,Tv,Tc]at a;obtain⟨⟨⟨⟨⟨⟨⟨⟨⟨_,f⟩,g⟩,h⟩,i⟩,j⟩,k⟩,l⟩,⟨⟨n,b⟩,c⟩⟩,d,e⟩:=a;exact⟨i,f,j,k,l,n,b,c,g,h,d,yT e⟩
theorem uN:∀{l k:List Ref},kZ p (l++k)=true->kZ p k=true/\∀b∈l,∀a∈k,mG p b a=true
 |[],k,h=>⟨h,Zl⟩
 |x::l,k,h=>by
  simp only[TR,kZ,RV,Tc]at h;obtain⟨e,f⟩:=uN h.2;refine⟨e,fun b c a d=>?_⟩;rcases Ui.1 c with rfl|c
  . exact h.1 a (List.mem_append_right _ d)
  . exact f b c a d
theorem Gd{x: Ref}(a:jW p r=true)(b:x∈chain p r):jW p x=true:=by
 obtain⟨c,f,d⟩:=pW b;obtain⟨g,e⟩:=tO c;unfold jW at a |-;simp only[RV,VI,List.isEmpty_eq_false_iff]at a |-;rw[d]at a;exact⟨by rw[e];simp,(uN a.2).1⟩
theorem Ab{c:Class}{m:Method}(a:pY c n=some i)(e:c.methods[i]?=some m):c.methods.find? (fun b=>b.name=n)=some m:=by
 unfold pY at a;have:∀(d:List Method)(i:Nat)(m:Method),d.findIdx? (fun b=>decide (b.name=n))=some i->d[i]?=some m->d.find? (fun b=>decide (b.name=n))=some m:=by
  intro d;induction d with
  |nil=>intro i m a;simp at a
  |cons b k h=>
   intro i m a e;rw[VM]at a;rw[List.find?_cons];cases f:decide (b.name=n)
   . rw[f]at a;simp only[U3,Uq,UX]at a;obtain⟨j,g,rfl⟩:=a;exact h j m g (by simpa using e)
   . rw[f]at a;simp only[Uy,TQ]at a;subst a;simpa using e
 exact this _ _ _ a e
theorem Ca{j: Ref}{y: pU}(d:pick p r n=some x)(v:under p j x.of=true)(b:pick p j n=some y):(method p y).args=(method p x).args:=by
 have N:=d;have O:=b;unfold pick at d b;split at d
 . split at b
   . rename_i Z c;obtain⟨S,aa,g,k⟩:=qw d;obtain⟨T,ae,U,V⟩:=qw b;obtain⟨M,w,t⟩:=pW (p:=p) (r:=j) (x:=x.of) (by unfold under at v;simpa using v);obtain⟨R,u⟩:=tO M;have Y:=c;unfold jW at c;simp only[RV]at c;rw[t]at c;obtain⟨_,_,i',A,Q,l,C,D,W,m⟩:=pM N;obtain⟨_,_,j',B,z,X,H,I,J,h⟩:=pM O;have F:method p x=Q:=by unfold method;rw[m];rfl
     have G:method p y=z:=by unfold method;rw[h];rfl
     rw[F,G];have o:cls p x.of=A:=by unfold cls;rw[C];rfl
     have K:cls p y.of=B:=by unfold cls;rw[H];rfl
     rw[t,u]at b;by_cases q:y.of∈w
     . have i:=(uN c.2).2 y.of q x.of (by rw[u];simp);unfold mG at i;simp only[RV,Tc]at i;have f:=i.2 z (by rw[K];exact Tx I);unfold lh at f;rw[g]at l;have E:=Int.ofNat.inj l;subst E;rw[J,o,Ab (by rw[<-o];exact k) D]at f;simp only[RV,Tv]at f;exact f.1.2
     . have:∀(e:List Ref),mq p n (e++x.of::R)=some y->y.of ∉ e->y=x:=by
        intro e;induction e with
        |nil=>
         intro a _;simp only[TZ,mq,k]at a;cases a;obtain⟨xo,xa⟩:=x;simp at g;subst g;rfl
        |cons af e P=>
         intro a s;simp only[TR,mq]at a;split at a
         . cases a;simp at s
         . exact P a (fun L=>s (UI _ L))
       have:=this w b q;subst this;rw[m]at h;cases h;rfl
   . cases b
 . cases d
theorem qB(c:pick p r n=some x):kg p x=true:=by
 obtain⟨d,e,k,a,l,f,g,h,i,j⟩:=pM c;unfold kg;have b:cls p x.of=a:=by unfold cls;rw[g];rfl
 rw[Gd d e,f,b];have:=(Tt.1 h).1;simp;omega
section
variable {p:jl}{s:St}{r:List Fr}{t:Fr}
theorem wY(i:kv p=true)(a:Good p s)(d:s.status=1){lk:Bool}{x:pU}{vs:List Val}(g:kg p x=true)(j:∀e∈vs,jV e s.heap.length=true)(hl:(vs.length:Int)<=(method p x).locals):r9 p (enter p lk x vs s):=by
 unfold enter;split
 . exact r9.bad a d Zn Zn
 . rename_i k;split
   . exact r9.bad a d Zn Zn
   . split
     . have f:=qE (lT i g).1;refine⟨Zl,Zl,⟨a.heap,?_,by simp;omega,a.outs,a.uh,a.back⟩,fun _=>by simp,d⟩;intro h b;rcases TU.1 b with b|b
       . exact a.frames h b
       . simp only[U4]at b;subst b;refine jK.2 ⟨g,Zl,by simp only;have:=f.Q0;omega,by simp;omega,by simp;have:=f.PW;omega,?_,Zl⟩;intro e c;rcases TU.1 c with c|c
         . exact j e c
         . rw[List.mem_replicate]at c;rw[c.2];exact LA _
     . exact r9.bad a d Zn Zn
theorem rC{m:Method}{i:Ins}(c:oL m i=true):mf i=true/\((i.op=2\/i.op=3)->0<=i.a/\i.a<m.locals)/\((i.op=11\/i.op=12\/i.op=13)->0<=i.a/\i.a<m.code.length)/\(i.op=1->oD i.a=true)/\(1<=i.op/\i.op<=15)/\((i.op=6\/i.op=15)->jL i.name=true)/\((i.op=7\/i.op=8\/i.op=9)->jL i.name=true/\jL i.member=true):=by
 unfold oL at c;simp only[RV]at c;have b:=c.1;refine⟨b,?_,?_,?_,?_,?_,?_⟩
 . intro a;have d:=c.2;rw[Ty a]at d;simp only[Tv]at d;unfold mf isNum at b;rcases a with a|a<;>rw[a]at b<;>simp[qZ,rX]at b<;>omega
 . intro a;have d:=c.2;rw[T9 Zm,Ty a]at d;simp only[Tv]at d;unfold mf isNum at b;rcases a with a|a|a<;>rw[a]at b<;>simp[qZ,rX]at b<;>omega
 . intro a;unfold mf isNum at b;rw[a]at b;simp[qZ,rX]at b;unfold oD;simp;omega
 . unfold mf isNum qd qV sF at b;simp only[Vn,Ue]at b;repeat' split at b
   all_goals first|omega|cases b
 . intro a;unfold mf isNum qd at b;rcases a with a|a<;>rw[a]at b<;>simp at b<;>exact b.2
 . intro a;unfold mf isNum qd qV at b;rcases a with a|a|a<;>rw[a]at b<;>simp at b<;>exact⟨b.1.2,b.2⟩
theorem D6(W:kv p=true)(q:Good p s)(o:s.frames=r++[t])(m:s.status=1){lk:Bool}{i:Ins}(hi:oL (method p t.of) i=true):r9 p (jN p lk i s):=by
 have h:∀A:Int,1<A->A<=10->r9 p (A,s):=fun A j h2=>r9.bad q m j h2;obtain⟨_,i2,L,i4,i5,_,_⟩:=rC hi;have Y:=jK.1 (q.top o);have y:∀{k d},pop s=some (k,d)->jV k s.heap.length=true/\Good p d/\d.frames=r++[{t with stack:=t.stack.take (t.stack.length - 1)}]/\d.heap=s.heap/\d.outs=s.outs/\d.back=s.back/\d.status=1:=fun e=>by
  obtain⟨f,a,b,g,l,n,c⟩:=Pz q o e;exact⟨f,a,b,g,l,n,c.trans m⟩
 unfold jN;by_cases E:i.op=1
 . rw[Ty E];exact ru q o m (pJ _ (i4 E))
 rw[T9 E];by_cases I:i.op=2
 . rw[Ty I];rw[p9 o];split
   . exact h _ Zn Zn
   . refine ru q o m ?_;have af:i.a.toNat<t.locals.length:=by have:=i2 (.inl I);omega
     rw[CU af];exact Y.2.2.2.2.2.1 _ (Vw _)
 rw[T9 I];by_cases P:i.op=3
 . rw[Ty P];split
   . exact h _ Zn Zn
   . rename_i k d e;obtain⟨f,a,b,g,l,n,c⟩:=y e;have z:=jK.1 (a.top b);rw[oV b];refine tZ (r:=r) (a.turn b (jK.2 ⟨z.1,z.2.1,z.2.2.1,by simp;exact Y.2.2.2.1,z.2.2.2.2.1,?_,z.2.2.2.2.2.2⟩)) rfl c;intro ag J;rcases Vo J with J|rfl
     . exact z.2.2.2.2.2.1 ag J
     . rw[g];exact f
 rw[T9 P];by_cases Q:i.op=4
 . rw[Ty Q];split
   . rename_i ah ai d e;obtain⟨f,a,b,g,l,n,c,w⟩:=vW q o e;split
     . split
       . rename_i u;exact ru b g (w.trans m) (pJ _ u)
       . exact r9.bad b (w.trans m) Zn Zn
     . exact r9.bad b (w.trans m) Zn Zn
   . exact h _ Zn Zn
 rw[T9 Q];by_cases R:i.op=5
 . rw[Ty R];exact ru q o m (Am _)
 rw[T9 R];by_cases S:i.op=6
 . rw[Ty S];split
   . rename_i B;split
     . exact h _ Zn Zn
     . rename_i aj;unfold qD at B;simp only[RV]at B;refine ru (r:=r) (t:=t) (q.grow B.2 Zm) o m ?_;exact ze _ Zl Zr
   . exact h _ Zn Zn
 rw[T9 S];by_cases T:i.op=7
 . rw[Ty T];split
   . rename_i hg;split
     . exact h _ Zn Zn
     . rename_i k d e;obtain⟨f,a,b,g,l,n,c⟩:=y e;split
       . rename_i v;obtain⟨_,_,_,M,b1,Z,b3,b4⟩:=yA a hg (by rw[g];exact f) v;refine ru a b c ?_;rw[b3,CU b4];exact((lV.1 a.heap).2 M Z).2.2 _ (Vw _)
       . rename_i v;rcases BX (p:=p) k (get p (top s).of.of.keeper i.name i.member).1.of d with j|j
         . exact absurd j v
         . exact r9.bad a c j.1 j.2
   . exact h _ Zn Zn
 rw[T9 T];by_cases U:i.op=8
 . rw[Ty U];split
   . split
     . rename_i M k d e;obtain⟨f,a,b,g,l,n,c,w⟩:=vW q o e;have x:=w.trans m;split
       . split
         . exact tZ (r:=r) (b.set (by rw[l];exact a k Zl)) g x
         . rename_i v;rcases BX (p:=p) M (get p (top s).of.of.keeper i.name i.member).1.of d with j|j
           . exact absurd j v
           . exact r9.bad b x j.1 j.2
       . exact r9.bad b x Zn Zn
     . exact h _ Zn Zn
   . exact h _ Zn Zn
 rw[T9 U];by_cases V:i.op=9
 . rw[Ty V];split
   . rename_i B;split
     . rename_i vs d e;obtain⟨f,a,b,g,l,n,c,w⟩:=vW q o e;have x:=w.trans m;split
       . rename_i v;split
         . rename_i au K;obtain⟨o1,o2⟩:=vH v;obtain⟨ak,hq⟩:=su B;have ae:=Ca hq o2 K;have hm:=qE (lT W (qB K)).1;refine wY W b x (qB K) (by rw[l];exact a) ?_;have:=hm.args;rw[f,<-ae];simpa using this
         . exact r9.bad b x Zn Zn
       . rename_i v;rcases BX (p:=p) (vs.headD l9) (call p (top s).of.of.keeper i.name i.member).1.of d with j|j
         . exact absurd j v
         . exact r9.bad b x j.1 j.2
     . exact h _ Zn Zn
   . exact h _ Zn Zn
 rw[T9 V];by_cases N:i.op=10
 . rw[Ty N];split
   . exact h _ Zn Zn
   . rename_i k d e;obtain⟨f,a,b,g,l,n,c⟩:=y e;split
     . split
       . exact r9.bad (s:={d with back:=k}) ⟨a.heap,a.frames,a.nf,a.outs,a.uh,by rw[g];exact f⟩ c Zn Zn
       . rename_i u;have X:r≠[]:=by
          rintro rfl;rw[b]at u;simp at u
         obtain⟨C,D,rfl⟩:∃C D,r=C++[D]:=⟨r.dropLast,r.getLast X,(UK X).symm⟩;have hd:d.frames.dropLast=C++[D]:=by rw[b];simp
         refine ru (s:={d with frames:=d.frames.dropLast}) (r:=C) (t:=D) ⟨a.heap,?_,?_,a.outs,a.uh,a.back⟩ hd c (by rw[g];exact f)
         . intro aa hf;exact a.frames aa (List.dropLast_subset _ hf)
         . have:=a.nf;simp only[List.length_dropLast];omega
     . exact r9.bad a c Zn Zn
 rw[T9 N];by_cases F:i.op=11
 . rw[Ty F];split
   . exact h _ Zn Zn
   . rename_i k d e;obtain⟨f,a,b,g,l,n,c⟩:=y e;split
     . split
       . exact wM a b c (L (.inl F)).1
       . exact tZ a b c
     . exact r9.bad a c Zn Zn
 rw[T9 F];by_cases G:i.op=12
 . rw[Ty G];split
   . exact h _ Zn Zn
   . rename_i k d e;obtain⟨f,a,b,g,l,n,c⟩:=y e;split
     . split
       . exact wM a b c (L (.inr (.inl G))).1
       . exact tZ a b c
     . exact r9.bad a c Zn Zn
 rw[T9 G];by_cases H:i.op=13
 . rw[Ty H];exact wM q o m (L (.inr (.inr H))).1
 rw[T9 H];by_cases O:i.op=14
 . rw[Ty O];split
   . exact h _ Zn Zn
   . rename_i k d e;obtain⟨f,a,b,g,l,n,c⟩:=y e;split
     . rename_i hk;split
       . rename_i v;refine tZ (r:=r) (s:={d with outs:=d.outs++[k.n]}) ⟨a.heap,a.frames,a.nf,by simp;omega,?_,a.back⟩ b c;intro A u;rcases TU.1 u with u|u
         . exact a.uh A u
         . simp at u;subst u;have:=zN f hk;unfold oD;simp;omega
       . exact tZ a b c
     . exact r9.bad a c Zn Zn
 rw[T9 O]
 . split
   . exact h _ Zn Zn
   . rename_i k d e;obtain⟨f,a,b,g,l,n,c⟩:=y e;split
     . split
       . exact ru a b c (by rw[g];exact f)
       . split
         . split
           . exact ru a b c (by rw[g];exact f)
           . exact r9.bad a c Zn Zn
         . exact r9.bad a c Zn Zn
     . exact r9.bad a c Zn Zn
structure yh(p:jl)(s:St):Prop where
 good:Good p s
 st:1<=s.status/\s.status<=10
 goes:s.status=1↔s.frames≠[]
theorem EU{p:jl}{s:St}:FI p s=true↔yh p s:=by
 unfold FI;simp only[RV,Tv,Tc,Ue];constructor
 . rintro⟨⟨⟨⟨⟨⟨⟨⟨⟨c,e⟩,j⟩,f⟩,g⟩,a⟩,h⟩,i⟩,b⟩,d⟩;refine⟨⟨b,i,g,f,h,d⟩,⟨c,e⟩,?_⟩;rw[Vz]at a;simp only[Tv]at a;rw[<-a,VO]
 . rintro⟨⟨b,i,g,f,h,d⟩,⟨c,e⟩,a⟩;refine⟨⟨⟨⟨⟨⟨⟨⟨⟨c,e⟩,(lV.1 b).1⟩,f⟩,g⟩,?_⟩,h⟩,i⟩,b⟩,d⟩;rw[Vz];simp only[Tv];rw[a,VO]
theorem r9.runs{x:Int×St}(c:r9 p x):yh p (end_ x.1 x.2):=by
 obtain⟨h,s⟩:=x;obtain⟨d,e,a,f,g⟩:=c;unfold end_;simp only at*;split
 . rename_i b;exact⟨a,Zm,by simp[g,f b]⟩
 . rename_i b;exact⟨⟨a.heap,Zl,Zl,a.outs,a.uh,a.back⟩,⟨d,e⟩,by simp[b]⟩
theorem Fh(f:kv p=true)(hR:yh p s)(g:s.status=1):∃r t c,s.frames=r++[t]/\l8 p t s.heap.length=true/\(method p t.of).code[t.pc.toNat]?=some c/\oL (method p t.of) c=true:=by
 obtain⟨r,t,a⟩:=KC (hR.goes.1 g);have b:=hR.good.top a;obtain⟨d,h,i,_⟩:=jK.1 b;have e:t.pc.toNat<(method p t.of).code.length:=Zm
 exact⟨r,t,_,a,b,CU e,(qE (lT f d).1).ins _ (Vw _)⟩
theorem Ch(b:kv p=true)(hR:yh p s)(lk:Bool):yh p (step p lk s):=by
 unfold step;split
 . rename_i c;obtain⟨r,t,f,a,_,d,e⟩:=Fh b hR c;refine r9.runs ?_;unfold stepped;rw[p9 a,d];exact D6 b hR.good a c e
 . exact hR
end
theorem yh.link:yh p nY:=⟨⟨by simp[nY,pX],by simp[nY],by simp[nY],by simp[nY],by simp[nY],by simp[nY,jV,l9]⟩,by simp[nY],by simp[nY]⟩
theorem Good.one(b:jW p q=true):Good p ⟨1,[],[fresh p q],[],l9⟩:=by
 have a:Good p ⟨1,[],[],[],l9⟩:=⟨by simp[pX],by simp,by simp,by simp,by simp,by simp[jV,l9]⟩;exact a.grow b Zl
theorem Lv(d:kv p=true){lk:Bool}{k:Int}{n m:ByteArray}{args:List Int}(e:args.all oD=true):yh p (start p lk k n m args):=by
 unfold start;split
 . rename_i f;split
   . rename_i c;obtain⟨j,g⟩:=su c.1;have a:=qB g;have i:(method p (call p k n m).1).args.length=args.length:=by
      have:=c.2;unfold p8 at this;simp only[RV,Tv]at this;exact this.1
     refine r9.runs (wY d (Good.one f.2) rfl a ?_ ?_)
     . intro l b;rcases Ui.1 b with rfl|b
       . exact ze _ Zm Zl
       . obtain⟨h,a,rfl⟩:=V5.1 b;exact pJ _ (Tc.1 e h a)
     . have:=(qE (lT d a).1).args;simp;omega
   . exact yh.link
 . exact yh.link
theorem FJ{lk:Bool}{f:Nat}(a:kv p=true)(b:yh p s)(c:f<=400):rT p lk s f=steps p lk f s:=by
 unfold rT;rw[Tw Zm,a,EU.2 b];rfl
open Go Tryz M
def Cq(h h':List ou):Prop:=h.length<=h'.length/\h'.length<=h.length+1/\∀(k:Nat)(o:ou),h[k]?=some o->∃o',h'[k]?=some o'/\o'.of=o.of/\o'.fields.length=o.fields.length
def LQ(o o':List Int):Prop:=o'=o\/∃k,o'=o++[k]
def GX(f f':List Fr):Prop:=∃r t,f=r++[t]/\((∃t',f'=r++[t'])\/(∃t' x,f'=r++[t',x])\/(∃r0 c c',r=r0++[c]/\f'=r0++[c']))
structure uZ(op:Int)(s:St)(x:Int×St):Prop where
 heap:Cq s.heap x.2.heap
 outs:LQ s.outs x.2.outs
 frames:x.1=1->GX s.frames x.2.frames
 deep:x.1=7->8<=s.frames.length
 room:x.1=8->12<=s.heap.length
 null:x.1=3->op=7\/op=8\/op=9
 link:x.1=4->op=6\/op=7\/op=8\/op=9\/op=15
 cast:x.1=6->op=15
 big:x.1=9->op=4
 done:x.1=2->op=10
theorem uZ.of{op:Int}{a: St}{n:Int}(j:Cq s.heap a.heap)(k:LQ s.outs a.outs)(b:n=1->GX s.frames a.frames)(g:n=7->8<=s.frames.length)(h:n=8->12<=s.heap.length)(d:n=3->op=7\/op=8\/op=9)(e:n=4->op=6\/op=7\/op=8\/op=9\/op=15)(f:n=6->op=15)(i:n=9->op=4)(c:n=2->op=10):uZ op s (n,a):=⟨j,k,b,g,h,d,e,f,i,c⟩
theorem Cq.refl(a:List ou):Cq a a:=⟨Tu _,VS _,fun _ c b=>⟨c,b,rfl,rfl⟩⟩
section
variable {p:jl}{s s1:St}{r:List Fr}{t t1:Fr}{op:Int}
structure Mid(s s1:St)(r:List Fr):Prop where
 fr:∃t,s.frames=r++[t]
 Sk:∃t,s1.frames=r++[t]
 heap:Cq s.heap s1.heap
 outs:LQ s.outs s1.outs
theorem Mid.refl(a:s.frames=r++[t]):Mid s s r:=⟨⟨_,a⟩,⟨_,a⟩,Cq.refl _,.inl rfl⟩
theorem Mid.bad(b:Mid s s1 r)(k:Cq s.heap s1.heap){n:Int}(c:n≠1)(h:n≠7)(i:n=8->12<=s.heap.length)(e:n=3->op=7\/op=8\/op=9)(f:n=4->op=6\/op=7\/op=8\/op=9\/op=15)(g:n=6->op=15)(j:n=9->op=4)(d:n=2->op=10):uZ op s (n,s1):=
 uZ.of k b.outs (fun a=>absurd a c) (fun a=>absurd a h) i e f g j d
theorem Mid.ten(b:Mid s s1 r):uZ op s (10,s1):=
 uZ.of b.heap b.outs (fun a=>absurd a Zn) (fun a=>absurd a Zn) (fun a=>absurd a Zn) (fun a=>absurd a Zn) (fun a=>absurd a Zn) (fun a=>absurd a Zn) (fun a=>absurd a Zn) (fun a=>absurd a Zn)
theorem Mid.one(c:Cq s.heap b.heap)(d:LQ s.outs b.outs)(e:GX s.frames b.frames):uZ op s (1,b):=
 uZ.of c d (fun _=>e) (fun a=>absurd a Zn) (fun a=>absurd a Zn) (fun a=>absurd a Zn) (fun a=>absurd a Zn) (fun a=>absurd a Zn) (fun a=>absurd a Zn) (fun a=>absurd a Zn)
theorem Mid.jump(a:Mid s s1 r)(k:Int):uZ op s (jump p k s1):=by
 unfold M.jump;split
 . exact a.ten
 . obtain⟨t,b⟩:=a.fr;obtain⟨t1,c⟩:=a.Sk;rw[oV c];exact Mid.one a.heap a.outs ⟨r,t,b,.inl ⟨_,rfl⟩⟩
theorem Mid.next(a:Mid s s1 r):uZ op s (next p s1):=a.jump _
theorem Mid.turn(a:Mid s s1 r)(f:Fr->Fr):Mid s (EK s1 f) r:=by
 obtain⟨t1,b⟩:=a.Sk;rw[oV b];exact⟨a.fr,⟨_,rfl⟩,a.heap,a.outs⟩
theorem Mid.push(a:Mid s s1 r)(v:Val):uZ op s (push p v s1):=by
 unfold M.push;split
 . exact a.ten
 . exact(a.turn _).next
theorem Mid.oh{vs:List Val}(a:Mid s s1 r)(d:oh c s1=some (vs,b)):Mid s b r:=by
 obtain⟨t1,e⟩:=a.Sk;obtain⟨-,-,-,rfl⟩:=sN e d;exact⟨a.fr,⟨_,rfl⟩,a.heap,a.outs⟩
theorem Mid.pop(c:Mid s s1 r)(a:pop s1=some (v,b)):Mid s b r:=by
 unfold M.pop at a;rw[UX]at a;obtain⟨⟨g,f⟩,d,e⟩:=a;cases e;exact c.oh d
theorem Mid.enter(b:Mid s s1 r)(hl:s1.frames.length=s.frames.length){lk:Bool}{x:pU}{vs:List Val}:uZ op s (enter p lk x vs s1):=by
 unfold M.enter;split
 . rename_i e;exact uZ.of b.heap b.outs (fun a=>absurd a Zn) (fun _=>Zm) (fun a=>absurd a Zn) (fun a=>absurd a Zn) (fun a=>absurd a Zn) (fun a=>absurd a Zn) (fun a=>absurd a Zn) (fun a=>absurd a Zn)
 . split
   . exact uZ.of b.heap b.outs (fun a=>absurd a Zn) (fun a=>absurd a Zn) (fun a=>absurd a Zn) (fun a=>absurd a Zn) (fun a=>absurd a Zn) (fun a=>absurd a Zn) (fun a=>absurd a Zn) (fun a=>absurd a Zn)
   . split
     . obtain⟨t,c⟩:=b.fr;obtain⟨t1,d⟩:=b.Sk;exact Mid.one b.heap b.outs ⟨r,t,c,.inr (.inl ⟨t1,_,by rw[d,TG];rfl⟩)⟩
     . exact b.ten
theorem Mid.len(a:Mid s s1 r):s1.frames.length=s.frames.length:=by
 obtain⟨t,b⟩:=a.fr;obtain⟨t1,c⟩:=a.Sk;rw[b,c];simp
theorem Mid.obj(b:Mid s s1 r){v:Val}{q:Ref}(c:object p v q s1≠1)(d:op=7\/op=8\/op=9):uZ op s (object p v q s1,s1):=by
 have:object p v q s1=3\/object p v q s1=10\/object p v q s1=1:=by
  unfold object;split
  . exact .inl rfl
  . split
    . exact .inr (.inl rfl)
    . split
      . exact .inr (.inr rfl)
      . exact .inr (.inl rfl)
 rcases this with a|a|a
 . rw[a];exact b.bad b.heap Zn Zn (fun a=>absurd a Zn) (fun _=>d) (fun a=>absurd a Zn) (fun a=>absurd a Zn) (fun a=>absurd a Zn) (fun a=>absurd a Zn)
 . rw[a];exact b.ten
 . exact absurd a c
end
theorem Ea{c:Int}(b:s.status=1):(end_ c s).status=c:=by
 unfold end_;split
 . rename_i a;rw[b,a]
 . rfl
theorem D9{c:Int}(a:c=1):(end_ c s).frames=s.frames:=by unfold end_;rw[Ty a]
theorem AO(c:Int)(s:St):(end_ c s).heap=s.heap:=by unfold end_;split<;>rfl
theorem Eb(p:jl)(x:pU)(vs:List Val)(s:St):enter p true x vs s=enter p false x vs s\/(enter p true x vs s).1=5:=by
 unfold enter;split
 . exact .inl rfl
 . cases right p x
   . exact .inr rfl
   . exact .inl rfl
theorem Kt(p:jl)(i:Ins)(s:St):jN p true i s=jN p false i s\/(jN p true i s).1=5:=by
 unfold jN;by_cases a:i.op=9
 . simp only[a,show¬((9:Int)=1) by decide,show¬((9:Int)=2) by decide,show¬((9:Int)=3) by decide,show¬((9:Int)=4) by decide,show¬((9:Int)=5) by decide,show¬((9:Int)=6) by decide,show¬((9:Int)=7) by decide,show¬((9:Int)=8) by decide,Uq,Uy];split
   . split
     . split
       . split
         . exact Eb _ _ _ _
         . exact .inl rfl
       . exact .inl rfl
     . exact .inl rfl
   . exact .inl rfl
 . exact .inl (by simp only[T9 a])
theorem NK(h:kv p=true){s:St}(hR:yh p s):step p true s=step p false s\/(step p true s).status=5:=by
 by_cases a:s.status=1
 . obtain⟨k,l,d,f,i,g,j⟩:=Fh h hR a;have e:∀b,step p b s=end_ (jN p b d s).1 (jN p b d s).2:=fun b=>by
    unfold step stepped;rw[Ty a,p9 f,g];rfl
   rw[e,e];rcases Kt p d s with c|c
   . rw[c];exact .inl rfl
   . right;rw[c];rfl
 . left;unfold step;rw[T9 a,T9 a]
theorem Fj(c:kv p=true):∀(f:Nat){s:St},yh p s->steps p true f s=steps p false f s\/(steps p true f s).status=5
 |0,_,_=>.inl rfl
 |f+1,s,hR=>by
  unfold steps;by_cases b:s.status=1
  . rw[Ty b,Ty b];rcases NK c hR with a|a
    . rw[a];exact Fj c f (Ch c hR false)
    . right;cases f with
      |zero=>exact a
      |succ f=>unfold steps;rw[T9 Zm];exact a
  . rw[T9 b,T9 b];exact .inl rfl
theorem Ff(p:jl)(k:Int)(n m:ByteArray)(args:List Int):start p true k n m args=start p false k n m args\/(start p true k n m args).status=5:=by
 unfold start;split
 . split
   . rcases Eb p (call p k n m).1 (⟨2,0⟩::args.map mh) ⟨1,[],[fresh p (find p k n).1],[],l9⟩with a|a
     . rw[a];exact .inl rfl
     . right;rw[a];rfl
   . exact .inl rfl
 . exact .inl rfl
theorem JU{args:List Int}:(∀b,nK p b k n m args=GV)\/(kv p=true/\∀b,nK p b k n m args=start p b k n m args/\yh p (nK p b k n m args)):=by
 unfold nK;by_cases a:(kv p&&has p k&&jL n&&jL m&&args.all oD)=true
 . right;simp only[RV]at a;refine⟨a.1.1.1.1,fun b=>?_⟩;rw[a.1.1.1.1,a.1.1.1.2,a.1.1.2,a.1.2,a.2];exact⟨rfl,Lv a.1.1.1.1 a.2⟩
 . left;intro b;rw[T9 a]
end Go.Proofs.YtenhnldnpdlniaaGreat.M
namespace Go.Proofs.YtenhnldnpdlniaaGreat.M
open Go Tryz M
variable {m n: ByteArray}{k: Int}{r: Ref}{p: jl}
theorem ym(c:Ref):∀(g:List Field)(a:List oO),∃b,kK c g a=a++b/\b.length=g.length/\∀e∈b,e.of=c
 |[],a=>⟨[],by simp[kK],rfl,Zl⟩
 |f::r,a=>by
  obtain⟨b,h,i,j⟩:=ym c r (a++[⟨c,a.length,f.kind⟩]);refine⟨⟨c,a.length,f.kind⟩::b,by unfold kK;rw[h];simp,by simp[i],fun e d=>?_⟩;rcases Ui.1 d with rfl|d
  . rfl
  . exact j e d
theorem KP{i j:Nat}{f:oO}(v:(layout p r)[i]?=some f)(g:i=nW p f.of r+j)(hl:j<=(cls p f.of).fields.length):((layout p r).take i).countP (fun b=>decide (b.of=f.of))=j:=by
 obtain⟨z,C,-,-⟩:=sG v;unfold layout;rw[Ty z];have h:=GH (yw p r);unfold nW at g;obtain⟨e,l⟩:∃e,(chain p r).reverse=e:=⟨_,rfl⟩;have D:f.of∈e:=by rw[<-l];exact List.mem_reverse.2 C
 rw[l]at h g |-;obtain⟨d,s,rfl⟩:=List.append_of_mem D;have q:f.of ∉ d:=fun c=>(Wq.1 h).2.2 _ c _ Zl rfl;rw[AR p f.of d s 0 q]at g;have o:=xh p d [];rw[qy];obtain⟨a,m⟩:∃a,kL p d []=a:=⟨_,rfl⟩;rw[m]at o |-;unfold kL;obtain⟨J,u⟩:=uO p s (kK f.of (cls p f.of).fields a);obtain⟨G,t,I,E⟩:=ym f.of (cls p f.of).fields a;rw[u,t,TG];have B:i=a.length+j:=by simp only[U8]at o;omega
 rw[B,List.take_append,Tq Zm,show a.length+j - a.length=j by omega,List.countP_append,List.take_append_of_le_length Zm];have x:a.countP (fun b=>decide (b.of=f.of))=0:=by
  rw[List.countP_eq_zero];intro k c;obtain⟨F,n⟩:=VY.1 c;rw[<-m]at n;rcases CB p d [] (Wq.1 h).1 F k n with w|⟨H,A,_,_,_,_,rfl⟩
  . simp at w
  . simp only[Tv];rintro rfl;exact q A
 have y:(G.take j).countP (fun b=>decide (b.of=f.of))=j:=by
  rw[List.countP_eq_length.2 (fun k c=>by simpa using E k (Uo c)),TN];omega
 rw[x,y,Tk]
theorem BG(a:(find p k n).2=1):mE p (find p k n).1=true/\chain p (find p k n).1=(nk p (find p k n).1).getD []:=by
 unfold find at a |-;by_cases b:(resolve p k n).2=1
 . rw[Ty b]at a |-;cases c:nk p (resolve p k n).1 with
   |none=>rw[c]at a;simp at a
   |some e=>
    simp only[Ul,Uy];have d:=(CF (Bi b) ⟨6,e,c,vQ _ _ _ c⟩).1;exact⟨d,by unfold chain;rw[Ty d]⟩
 . rw[T9 b]at a;exact absurd a b
theorem G9(a:(find p k n).2=1):kZ p ((nk p (find p k n).1).getD [])=jW p (find p k n).1:=by
 obtain⟨c,b⟩:=BG a;obtain⟨e,d⟩:=tO c;unfold jW;rw[<-b,d];simp
def DZ(p:jl)(k:Int)(n:ByteArray):Ref×Int:=
 if(find p k n).2=1 then(if jW p (find p k n).1 then((find p k n).1,1)else(q9,4))else(q9,2)
theorem IX(a:has p k=true)(c:jL n=true)(b:jL m=true):ko p k n m=DZ p k n:=by
 unfold ko DZ;rw[a,c,b];rfl
theorem Gf(a:(DZ p k n).2=1):jW p (DZ p k n).1=true/\owned p (DZ p k n).1=true/\chain p (DZ p k n).1=(nk p (DZ p k n).1).getD []:=by
 unfold DZ at a |-;by_cases c:(find p k n).2=1
 . rw[Ty c]at a |-;by_cases b:jW p (find p k n).1=true
   . rw[Ty b]at a |-;obtain⟨e,d⟩:=mr (oG b).2;exact⟨b,by unfold owned;rw[d];rfl,(BG c).2⟩
   . rw[T9 b]at a;cases a
 . rw[T9 c]at a;cases a
theorem He(a:jW p r=true):kL p ((nk p r).getD []).reverse []=layout p r:=by
 unfold layout;rw[Ty a];obtain⟨b,-⟩:=oG a;unfold chain;rw[Ty b]
end Go.Proofs.YtenhnldnpdlniaaGreat.M
namespace Go.Proofs.YtenhnldnpdlniaaGreat.M
variable {k: Int}{a b: List ou}{v: Val}{p: jl}{x: pU}
def Cv(p:jl)(k:Int)(a b:List Tag):Bool:=decide (a.length=b.length)&&mU p k a b
def yE(p:jl)(k:Int)(f:lU)(x:SMap):Bool:=Cv p k f.locals x.locals&&Cv p k f.stack x.stack
def qJ(p:jl)(k:Int)(m:Method)(i:Ins)(s:lU):Option lU:=
 if i.op=11 then lX p k lG s else if i.op=12 then qA s else if i.op=13 then some s else jQ p k m i s
def C9(p:jl)(k:Int)(m:Method)(a:Int)(g:lU):Bool:=match qW m a with
 |none=>false
 |some x=>yE p k g x
def uJ(p:jl)(k:Int)(m:Method)(i:Ins)(g:lU):Bool:=
 if i.op=11\/i.op=12\/i.op=13 then C9 p k m i.a g else true
def Ba(p:jl)(k:Int)(m:Method)(goes:Bool)(a:Int)(s:lU):Option lU:=match qW m a with
 |none=>if goes then some s else none
 |some x=>if goes&& !yE p k s x then none else some ⟨x.locals,x.stack⟩
def vF(p:jl)(k:Int)(m:Method):List Ins->Nat->Bool->lU->Int
 |[],n,goes,_=>if goes then n+1 else 0
 | i :: r, n, goes, s => match Ba p k m goes n s with
  |none=>n+1
  |some s1=>match qJ p k m i s1 with
   |none=>n+1
   |some s2=>if uJ p k m i s2 then vF p k m r (n+1) (decide (i.op≠10)&&decide (i.op≠13)) s2 else n+1
section
variable {p:jl}{k:Int}{m:Method}{i:Ins}{s g:lU}{t:Tag}
theorem Eh{x:SMap}(a:s.locals.length=x.locals.length):yE p k s x=lY p k s x:=by
 unfold yE Cv lY;rw[show decide (s.locals.length=x.locals.length)=true from Tw a,TJ];have:decide (x.stack.length=s.stack.length)=decide (s.stack.length=x.stack.length):=by rw[UH];exact eq_comm
 rw[this];cases decide (s.stack.length=x.stack.length)<;>cases mU p k s.locals x.locals<;>simp
theorem wu{x:Tag×lU}(a:nZ s=some x):x.2.locals=s.locals:=by
 unfold nZ at a;cases b:s.stack.getLast? with
 |none=>rw[b]at a;simp at a
 |some c=>rw[b]at a;cases a;rfl
theorem yI(a:lX p k t s=some g):g.locals=s.locals:=by
 unfold lX at a;cases b:nZ s with
 |none=>rw[b]at a;simp at a
 |some c=>
  rw[b,Tn]at a;split at a
  . cases a;exact wu b
  . cases a
theorem A7(a:qA s=some g):g.locals=s.locals:=by
 unfold qA at a;cases b:nZ s with
 |none=>rw[b]at a;simp at a
 |some c=>
  rw[b,Tn]at a;split at a
  . cases a;exact wu b
  . cases a
theorem Hj(a:lK m t s=some g):g.locals=s.locals:=by
 unfold lK at a;split at a
 . cases a
 . cases a;rfl
theorem yH:∀{l:List Kind} {s:lU},lW p k l s=some g->g.locals=s.locals
 |[],s,h=>by unfold lW at h;cases h;rfl
 | a :: r, s, h => by
  unfold lW at h;cases b:lX p k (kH a) s with
  |none=>rw[b]at h;simp at h
  |some c=>
   rw[b,Tn]at h;rw[yH h,yI b]
theorem qP{d:Option lU}{f:lU->Option lU}(b:d.bind f=some g)(h:∀a,d=some a->a.locals.length=s.locals.length)(i:∀a e,f a=some e->e.locals.length=a.locals.length):g.locals.length=s.locals.length:=by
 cases c:d with
 |none=>rw[c]at b;simp at b
 |some a=>
  rw[c,Tn]at b;rw[i a g b,h a c]
theorem Jd(a:qJ p k m i s=some g):g.locals.length=s.locals.length:=by
 have b:∀{t s g},lX p k t s=some g->g.locals.length=s.locals.length:=fun a=>by rw[yI a]
 have c:∀{t s g},lK m t s=some g->g.locals.length=s.locals.length:=fun a=>by rw[Hj a]
 have B:∀{s g},qA s=some g->g.locals.length=s.locals.length:=fun a=>by rw[A7 a]
 unfold qJ at a;by_cases e:i.op=11
 . rw[Ty e]at a;exact b a
 rw[T9 e]at a;by_cases f:i.op=12
 . rw[Ty f]at a;exact B a
 rw[T9 f]at a;by_cases h:i.op=13
 . rw[Ty h]at a;cases a;rfl
 rw[T9 h]at a;unfold jQ at a;by_cases n:i.op=1
 . rw[Ty n]at a;exact c a
 rw[T9 n]at a;by_cases r:i.op=2
 . rw[Ty r]at a;cases d:s.locals[i.a.toNat]? with
   |none=>rw[d]at a;simp at a
   |some l=>
    rw[d,Tn]at a;split at a
    . cases a
    . exact c a
 rw[T9 r]at a;by_cases u:i.op=3
 . rw[Ty u]at a;cases d:nZ s with
   |none=>rw[d]at a;simp at a
   |some l=>rw[d]at a;cases a;simp[wu d]
 rw[T9 u]at a;by_cases v:i.op=4
 . rw[Ty v]at a;exact qP a (fun _=>b) (fun l C j=>qP j (fun _=>b) (fun _ _=>c))
 rw[T9 v]at a;by_cases w:i.op=5
 . rw[Ty w]at a;exact c a
 rw[T9 w]at a;by_cases x:i.op=6
 . rw[Ty x]at a;exact c a
 rw[T9 x]at a;by_cases y:i.op=7
 . rw[Ty y]at a;split at a
   . exact qP a (fun _=>b) (fun _ _=>c)
   . cases a
 rw[T9 y]at a;by_cases z:i.op=8
 . rw[Ty z]at a;split at a
   . exact qP a (fun _=>b) (fun _ _=>b)
   . cases a
 rw[T9 z]at a;by_cases A:i.op=9
 . rw[Ty A]at a;split at a
   . exact qP a (fun _ a=>by rw[yH a]) (fun l C j=>qP j (fun _=>b) (fun _ _=>c))
   . cases a
 rw[T9 A]at a;by_cases o:i.op=10
 . rw[Ty o]at a;exact b a
 rw[T9 o,T9 e,T9 f,T9 h]at a;by_cases q:i.op=14
 . rw[Ty q]at a;exact b a
 rw[T9 q]at a;exact qP a (fun _=>B) (fun _ _=>c)
theorem LX(f:(s.locals.length:Int)=m.locals)(e:∀b∈m.maps,(b.locals.length:Int)=m.locals)(a:Int):mO p k m a s=if C9 p k m a s then some s else none:=by
 unfold mO;cases d:qW m a with
 |none=>
  have c:C9 p k m a s=false:=by unfold C9;rw[d]
  rw[c];rfl
 |some b=>
  have:=e b (U5 d);have c:C9 p k m a s=lY p k s b:=by unfold C9;rw[d];exact Eh Zm
  rw[Tn,c]
theorem Pm(f:(s.locals.length:Int)=m.locals)(d:∀b∈m.maps,(b.locals.length:Int)=m.locals)(c:Bool)(a:Int):nQ p k m c a s=Ba p k m c a s:=by
 unfold nQ Ba;cases e:qW m a with
 |none=>rfl
 |some b=>
  have:=d b (U5 e);simp only;rw[Eh Zm]
theorem O0(j:(s.locals.length:Int)=m.locals)(h:∀a∈m.maps,(a.locals.length:Int)=m.locals):jQ p k m i s=(qJ p k m i s).bind fun g=>if uJ p k m i g then some g else none:=by
 have f:∀(b:Option lU),(∀a,b=some a->a.locals=s.locals)->b.bind (mO p k m i.a)=b.bind fun g=>if C9 p k m i.a g then some g else none:=by
  intro b n;cases l:b with
  |none=>rfl
  |some a=>rw[Tn,Tn,LX (by rw[n a l];exact j) h]
 by_cases c:i.op=11
 . unfold qJ uJ jQ;simp only[c,true_or,Uy];exact f _ (fun _=>yI)
 by_cases d:i.op=12
 . unfold qJ uJ jQ;simp only[d,true_or,or_true,Uy];exact f _ (fun _=>A7)
 by_cases e:i.op=13
 . unfold qJ uJ jQ;simp only[e,or_true,Uy];exact LX j h _
 unfold qJ uJ;rw[T9 c,T9 d,T9 e];simp only[c,d,e,or_self,Uq,Uy];cases jQ p k m i s<;>rfl
theorem A8(d:∀f∈m.maps,(f.locals.length:Int)=m.locals):∀(r:List Ins)(n:Nat)(b:Bool)(s:lU)(e:List lU),(s.locals.length:Int)=m.locals→
    vF p k m r n b s=match lH p k m r n b s e with| .inl n=>n| .inr _=>0
 |[],n,b,s,e,_=>by unfold vF lH;cases b<;>rfl
 | i :: r, n, b, s, e, hs => by
  unfold vF lH;rw[Pm hs d];cases a:Ba p k m b n s with
  |none=>rfl
  | some h =>
   have g:(h.locals.length:Int)=m.locals:=by
    unfold Ba at a;split at a
    . split at a
      . cases a;exact hs
      . cases a
    . rename_i f o;split at a
      . cases a
      . cases a;exact d f (U5 o)
   simp only;rw[O0 g d];cases l:qJ p k m i h with
   |none=>rfl
   |some j=>
    rw[Tn];simp only;by_cases c:uJ p k m i j=true
    . rw[Ty c,Ty c];exact A8 d r (n+1) _ j _ (by rw[Jd l];exact g)
    . rw[T9 c,T9 c]
end
theorem Jj(c:nR (method p x)=true):decide (vF p x.of.keeper (method p x) (method p x).code 0 true (rW x (method p x))=0)=right p x:=by
 have b:=qE c;have d:∀a∈(method p x).maps,(a.locals.length:Int)=(method p x).locals:=fun a f=>by
  have:=b.tC a f;unfold tC at this;simp only[RV,Tv]at this;exact this.1.1.1.2
 have e:((rW x (method p x)).locals.length:Int)=(method p x).locals:=by
  unfold rW;have:=b.args;simp only[TK,TL,UJ,UA];omega
 unfold right look;rw[A8 d _ 0 true _ [] e];cases lH p x.of.keeper (method p x) (method p x).code 0 true (rW x (method p x)) []<;>rfl
def Grown(h h':List ou):Prop:=∀(i:Nat)(o:ou),h[i]?=some o->∃o':ou,h'[i]?=some o'/\o'.of=o.of
theorem Grown.more(a:List ou)(c:ou):Grown a (a++[c]):=fun e d b=>⟨d,by rw[TY (Tt.1 b).1];exact b,rfl⟩
theorem Grown.set(d:List ou)(n a:Int)(v:Val):Grown d (nS d n a v):=fun f b e=>by
 unfold nS;rw[VT,e];by_cases c:n.toNat=f
 . exact⟨⟨b.of,b.fields.set a.toNat v⟩,by simp[c],rfl⟩
 . exact⟨b,by simp[c],rfl⟩
theorem Grown.of{c: List ou}(f:Grown a c){v:Val}(i:jV v a.length=true)(g:v.kind=2):qL c v.n=qL a v.n:=by
 obtain⟨j,k⟩:=qa i g;obtain⟨b,d⟩:∃b,a[v.n.toNat]?=some b:=⟨a[v.n.toNat]'Zm,CU Zm⟩;obtain⟨l,h,e⟩:=f _ b d;unfold qL;rw[d,h];exact e
section
variable {p:jl}{k k':Int}{h h':List ou}{v:Val}{t:Kind}
theorem rO(c:Grown h h')(d:jV v h.length=true):hasType p k h' v t=hasType p k h v t:=by
 unfold hasType;by_cases a:v.kind=2
 . rw[c.of d a]
 . by_cases b:v.kind=3
   . simp[b]
   . simp[a,b]
theorem KA(a:Grown h h')(b:jV v h.length=true)(t:Tag):fits p k h' v t=fits p k h v t:=by
 unfold fits;rw[rO a b]
def Fit(p:jl)(k:Int)(h:List ou):List Val->List Tag->Prop
 |[],[]=>True
 |v::r,t::l=>fits p k h v t=true/\Fit p k h r l
 |_,_=>False
theorem Fit.len:∀{a:List Val} {b:List Tag},Fit p k h a b->a.length=b.length
 |[],[],_=>rfl
 |_::_,_::_,h=>by rw[TL,TL,h.2.len]
 |[],_::_,h=>h.elim
 |_::_,[],h=>h.elim
theorem Fit.grown(c:Grown h h'):∀{a:List Val} {b:List Tag},(∀v∈a,jV v h.length=true)->Fit p k h a b->Fit p k h' a b
 |[],[],_,_=>trivial
 |v::_,_::_,hv,hf=>⟨by rw[KA c (hv v Zl)];exact hf.1,Fit.grown c (fun e d=>hv e (by simp[d])) hf.2⟩
 |[],_::_,_,h=>h.elim
 |_::_,[],_,h=>h.elim
theorem Fit.app:∀{a c:List Val} {b d:List Tag},Fit p k h a b->Fit p k h c d->Fit p k h (a++c) (b++d)
 |[],_,[],_,_,h2=>h2
 |_::_,_,_::_,_,h1,h2=>⟨h1.1,h1.2.app h2⟩
 |[],_,_::_,_,h,_=>h.elim
 |_::_,_,[],_,h,_=>h.elim
theorem Fit.one{t:Tag}(a:fits p k h v t=true):Fit p k h [v] [t]:=⟨a,trivial⟩
theorem Fit.split:∀{b e:List Tag} {a:List Val},Fit p k h a (b++e)->∃c d,a=c++d/\Fit p k h c b/\Fit p k h d e
 |[],_,a,h=>⟨[],a,rfl,trivial,h⟩
 |_::_,_,v::_,h=>by
  obtain⟨c,d,f,g,i⟩:=Fit.split h.2;exact⟨v::c,d,by rw[f];rfl,⟨h.1,g⟩,i⟩
 |_::_,_,[],h=>h.elim
theorem Fit.get:∀{a:List Val} {b:List Tag} {i:Nat} {t:Tag},Fit p k h a b->b[i]?=some t->∃v,a[i]?=some v/\fits p k h v t=true
 |_::_,_::_,0,t,hf,ht=>by simp at ht;subst ht;exact⟨_,rfl,hf.1⟩
 |_::_,_::_,i+1,t,hf,ht=>by
  obtain⟨v,c,d⟩:=Fit.get (i:=i) hf.2 (by simpa using ht);exact⟨v,by simpa using c,d⟩
 |[],[],_,_,_,ht=>by simp at ht
 |[],_::_,_,_,h,_=>h.elim
 |_::_,[],_,_,h,_=>h.elim
theorem Fit.set{v:Val}{t:Tag}(c:fits p k h v t=true):∀{a:List Val} {b:List Tag} (i:Nat),Fit p k h a b->Fit p k h (a.set i v) (b.set i t)
 |[],[],_,_=>trivial
 |_::_,_::_,0,hf=>⟨c,hf.2⟩
 |_::_,_::_,i+1,hf=>⟨hf.1,Fit.set c i hf.2⟩
 |[],_::_,_,h=>h.elim
 |_::_,[],_,h=>h.elim
theorem Fit.last{b:List Tag}{t:Tag}{a:List Val}(f:Fit p k h a b)(d:b.getLast?=some t):∃i v,a=i++[v]/\Fit p k h i b.dropLast/\fits p k h v t=true:=by
 have l:b=b.dropLast++[t]:=by
  have g:b≠[]:=fun e=>by rw[e]at d;cases d
  rw[List.getLast?_eq_some_getLast g]at d;cases d;exact(UK g).symm
 rw[l]at f;obtain⟨m,n,e,j,c⟩:=f.split;match n,c with
 |[v],c=>exact⟨m,v,e,j,c.1⟩
 |[],c=>exact c.elim
 |_::_::_,c=>exact c.2.elim
theorem Da{a b c:Ref}(e:under p a b=true)(f:under p b c=true):under p a c=true:=by
 unfold under at*;rw[Vr]at*;obtain⟨-,g,d⟩:=pW e;rw[d];exact TU.2 (.inr f)
theorem I7{a b:Tag}(c:fits p k h v a=true)(d:may p k a b=true):fits p k h v b=true:=by
 unfold may at d;split at d
 . rename_i e;rcases e with e|e
   . unfold fits;rw[Ty e]
   . rw[<-e];exact c
 . rename_i e;split at d
   . cases d
   . rename_i i;have n:b.kind=2:=by simpa using i
     unfold fits at c |-;rw[T9 Zm,T9 Zm];unfold hasType;rw[T9 (by simp only;omega)];split at d
     . rename_i g;rw[T9 Zm,Ty g]at c;rw[Ty (U0 c)]
     . rename_i g;split at d
       . cases d
       . rename_i j;have m:a.kind=2:=by simpa using j
         simp only[RV,Tv]at d;rw[T9 Zm,T9 Zm]at c;unfold hasType at c;rw[T9 (by simp only;omega)]at c;split at c
         . rename_i f;rw[Ty f]
         . rename_i f;rw[T9 f];split at c
           . cases c
           . rename_i l;rw[T9 l];simp only[RV,Tv]at c |-;exact⟨d.1.2,Da c.2 d.2⟩
theorem Fit.RD:∀{a:List Val} {b c:List Tag},b.length=c.length->mU p k b c=true->Fit p k h a b->Fit p k h a c
 |[],[],[],_,_,_=>trivial
 |_::_,_::_,_::_,hl,hm,hf=>by
  unfold mU at hm;simp only[RV]at hm;exact⟨I7 hf.1 hm.1,Fit.RD (by simpa using hl) hm.2 hf.2⟩
 |[],[],_::_,hl,_,_=>by simp at hl
 |_::_,_::_,[],hl,_,_=>by simp at hl
 |[],_::_,_,_,_,h=>h.elim
 |_::_,[],_,_,_,h=>h.elim
end
def qU(i:Ins):Bool:=decide (i.op≠10)&&decide (i.op≠13)
theorem Gs{m:Method}:∀(g:List Ins)(a:Nat)(f:Bool)(s:lU)(j l:List lU),lH p k m g a f s j=.inr l->j.length=a→
    (∃x,l=j++x/\x.length=g.length)/\(g=[]->f=false)/\
    (g≠[]->∃d,l[a]?=some d/\nQ p k m f a s=some d)/\
    (∀i t,g[i]?=some t->∃d u,l[a+i]?=some d/\jQ p k m t d=some u/\(qU t=true->∃w,l[a+(i+1)]?=some w/\nQ p k m true ((a+(i+1):Nat):Int) u=some w))/\
    (∀i n,i<g.length->qW m ((a+i:Nat):Int)=some n->l[a+i]?=some ⟨n.locals,n.stack⟩)
 |[],a,f,s,j,l,b,hk=>by
  unfold lH at b;cases f
  . simp at b;subst b;exact⟨⟨[],Zl⟩,fun _=>rfl,fun b=>absurd rfl b,Zl,Zl⟩
  . simp at b
 | i :: r, a, f, s, j, l, b, hk => by
  unfold lH at b;cases e:nQ p k m f a s with
  |none=>rw[e]at b;cases b
  | some d =>
   rw[e]at b;simp only at b;cases A:jQ p k m i d with
   |none=>rw[A]at b;cases b
   |some u=>
    rw[A]at b;simp only at b;obtain⟨⟨x,D,F⟩,G,H,I,J⟩:=Gs r (a+1) _ u (j++[d]) l b (by simp[hk]);have B:l[a]?=some d:=by rw[D,<-hk];simp
    refine⟨⟨d::x,by rw[D];simp,by simp[F]⟩,(fun h=>by cases h),fun _=>⟨d,B,rfl⟩,fun c t q=>?_,fun c n q z=>?_⟩
    . cases c with
      | zero =>
       simp only[List.getElem?_cons_zero,TQ]at q;subst q;refine⟨d,u,B,A,fun o=>?_⟩;have K:r≠[]:=fun h=>by
        have:=G h;unfold qU at o;rw[this]at o;cases o
       obtain⟨w,y,v⟩:=H K;unfold qU at o;rw[o]at v;exact⟨w,y,v⟩
      |succ c=>
       obtain⟨y,v,C,E,h⟩:=I c t (by simpa using q);rw[show a+1+c=a+(c+1) by omega]at C;rw[show a+1+(c+1)=a+(c+1+1) by omega]at h;exact⟨y,v,C,E,h⟩
    . cases c with
      |zero=>
       rw[UU]at z |-;unfold nQ at e;rw[z]at e;simp only at e;split at e
       . cases e
       . cases e;exact B
      |succ c=>
       have:=J c n (by simpa using q) (by rw[show a+1+c=a+(c+1) by omega];exact z);rwa[show a+1+c=a+(c+1) by omega]at this
structure Bt(p:jl)(x:pU)(l:List lU):Prop where
 len:l.length=(method p x).code.length
 start:(method p x).code≠[]->∃s,l[0]?=some s/\nQ p x.of.keeper (method p x) true 0 (rW x (method p x))=some s
 ins:∀i ins,(method p x).code[i]?=some ins->∃s1 s2,l[i]?=some s1/\jQ p x.of.keeper (method p x) ins s1=some s2/\(qU ins=true->∃s3,l[i+1]?=some s3/\nQ p x.of.keeper (method p x) true ((i+1:Nat):Int) s2=some s3)
 map:∀i f,i<(method p x).code.length->qW (method p x) ((i:Nat):Int)=some f->l[i]?=some ⟨f.locals,f.stack⟩
theorem H5(b:right p x=true):∃f,Bt p x f:=by
 unfold right at b;have b:=U0 b;unfold look at b;cases c:lH p x.of.keeper (method p x) (method p x).code 0 true (rW x (method p x)) []with
 | inl d =>
  exfalso;rw[c]at b;simp only at b;have:∀(g:List Ins)(k:Nat)(q:Bool)(i:lU)(z:List lU)(d:Int),lH p x.of.keeper (method p x) g k q i z=.inl d->d≠0:=by
   intro g;induction g with
   |nil=>
    intro j o i y d a;unfold lH at a;split at a
    . cases a;omega
    . cases a
   |cons e A v=>
    intro j o i y d a;unfold lH at a;split at a
    . cases a;omega
    . split at a
      . cases a;omega
      . exact v _ _ _ _ _ a
  exact this _ _ _ _ _ _ c b
 |inr f=>
  obtain⟨⟨B,l,m⟩,-,r,s,t⟩:=Gs _ 0 _ _ [] f c rfl;refine⟨f,by rw[l];simpa using m,fun u=>by simpa using r u,fun e w h=>?_,fun e n h c=>?_⟩
  . have:=s e w h;simpa only[Tk]using this
  . have:=t e n h (by simpa only[Tk]using c);simpa only[Tk]using this
section
variable {p:jl}{k:Int}{h:List ou}{m:Method}{vl vs:List Val}{s s':lU}
structure rG(p:jl)(k:Int)(h:List ou)(vl vs:List Val)(s:lU):Prop where
 loc:Fit p k h vl s.locals
 kY:Fit p k h vs s.stack
theorem rG.suffices(b:rG p k h vl vs s){f:SMap}(a:lY p k s f=true)(hl:f.locals.length=vl.length):rG p k h vl vs ⟨f.locals,f.stack⟩:=by
 unfold lY at a;simp only[RV,Tv]at a;exact⟨b.loc.RD (by rw[hl,b.loc.len]) a.1.2,b.kY.RD a.1.1.symm a.2⟩
theorem map_ok{m:Method}(b:nR m=true){c:Int}{f:SMap}(h:qW m c=some f):(f.locals.length:Int)=m.locals:=by
 have d:=U5 h;unfold nR at b;simp only[RV]at b;have a:=b.2;unfold sw at a;simp only[RV]at a;have:=yT a.2 f d;unfold tC at this;simp only[RV,Tv]at this;exact this.1.1.1.2
theorem rG.meet(f:nR m=true)(i:(vl.length:Int)=m.locals)(b:rG p k h vl vs s){c:Int}(a:nQ p k m true c s=some s'):rG p k h vl vs s':=by
 unfold nQ at a;split at a
 . simp only[Uy,TQ]at a;subst a;exact b
 . rename_i g e;simp only[TJ]at a;split at a
   . cases a
   . rename_i d;cases a;exact b.suffices (by simpa using d) (Te (map_ok f e))
theorem rG.branch(g:nR m=true)(i:(vl.length:Int)=m.locals)(f:rG p k h vl vs s){d:Int}(a:mO p k m d s=some s'):s'=s/\∃b,qW m d=some b/\rG p k h vl vs ⟨b.locals,b.stack⟩:=by
 unfold mO at a;cases c:qW m d with
 |none=>rw[c]at a;cases a
 |some b=>
  rw[c,Tn]at a;split at a
  . rename_i e;cases a;exact⟨rfl,b,rfl,f.suffices e (Te (map_ok g c))⟩
  . cases a
theorem rG.take(e:rG p k h vl vs s){t:Tag}(a:nZ s=some (t,s')):∃b c,vs=b++[c]/\fits p k h c t=true/\rG p k h vl b s'/\s'.locals=s.locals:=by
 unfold nZ at a;cases d:s.stack.getLast? with
 |none=>rw[d]at a;cases a
 |some j=>
  rw[d]at a;simp only[Vy,TQ,Wo]at a;obtain⟨rfl,rfl⟩:=a;obtain⟨b,c,f,g,i⟩:=e.kY.last d;exact⟨b,c,f,i,⟨e.loc,g⟩,rfl⟩
theorem rG.as(j:rG p k h vl vs s){t:Tag}(a:lX p k t s=some s'):∃b c,vs=b++[c]/\fits p k h c t=true/\rG p k h vl b s':=by
 unfold lX at a;cases d:nZ s with
 |none=>rw[d]at a;cases a
 |some l=>
  obtain⟨n,m⟩:=l;rw[d,Tn]at a;obtain⟨b,c,e,f,g,-⟩:=j.take d;split at a
  . rename_i i;cases a;exact⟨b,c,e,I7 f i,g⟩
  . cases a
theorem Oz{t:Tag}(a:fits p k h v t=true)(b:t.kind=2\/t.kind=3):v.kind=2\/v.kind=3:=by
 unfold fits at a;rw[T9 Zm]at a;split at a
 . exact .inr (U0 a)
 . unfold hasType at a;rw[T9 (by simp only;omega)]at a;split at a
   . exact .inr ‹_›
   . split at a
     . cases a
     . exact .inl Zm
theorem rG.obj(j:rG p k h vl vs s)(a:qA s=some s'):∃c b,vs=c++[b]/\(b.kind=2\/b.kind=3)/\rG p k h vl c s':=by
 unfold qA at a;cases d:nZ s with
 |none=>rw[d]at a;cases a
 |some l=>
  obtain⟨n,m⟩:=l;rw[d,Tn]at a;obtain⟨c,b,e,f,g,-⟩:=j.take d;split at a
  . rename_i i;cases a;exact⟨c,b,e,Oz f i,g⟩
  . cases a
theorem rG.put(b:rG p k h vl vs s){t:Tag}(a:lK m t s=some s'){v:Val}(c:fits p k h v t=true):(vs.length:Int)<m.stack/\rG p k h vl (vs++[v]) s':=by
 unfold lK at a;split at a
 . cases a
 . rename_i d;cases a;exact⟨by rw[b.kY.len];omega,b.loc,b.kY.app (Fit.one c)⟩
end
section
variable {p:jl}{k a b:Int}{h:List ou}{v:Val}{t:Kind}
theorem Kg(a:Int)(t:Kind):agree p a a t=true:=by
 unfold agree;by_cases b:(find p a t.name).2=1
 . simp[b]
 . simp[b]
theorem Bu(a:Int)(m:Method):jY p a a m=true:=by
 unfold jY;simp[Kg]
theorem rM(c:agree p a b t=true):hasType p a h v t=hasType p b h v t:=by
 unfold agree at c;simp only[Vn,Ue]at c;unfold hasType;rcases c with c|c
 . rw[Ty c,Ty c]
 . split at c
   . rename_i d;have e:=U0 c;rw[d.1,d.2,e]
   . simp only[RV,Tv]at c;rw[SS c.1,SS c.2];simp
theorem tQ(a:mg t=true):fits p k h v (kH t)=hasType p k h v t:=by
 unfold kH;rw[Ty a];have b:t.kind=1\/t.kind=2:=by
  unfold mg at a;simp only[Vn,RV,Ue]at a;rcases a with a|a
  . exact .inl a.1
  . exact .inr a.1
 unfold fits;rw[T9 (by simp only;omega),T9 (by simp only;omega)]
theorem yD(n:ByteArray):fits p k h v (kP n)=hasType p k h v ⟨2,n⟩:=by
 unfold fits kP;rw[T9 Zl,T9 Zl]
theorem zW:∀{vs:List Val} {a:List Kind},vs.length=a.length->kU p k h vs a=true->hasType p k h v t=true->kU p k h (vs++[v]) (a++[t])=true
 |[],[],_,_,hv=>by simp[kU,hv]
 |x::vs,y::a,hl,hh,hv=>by
  unfold kU at hh;simp only[RV]at hh;rw[TR,TR];unfold kU;rw[hh.1,zW (by simpa using hl) hh.2 hv];rfl
 |[],_::_,hl,_,_=>by simp at hl
 |_::_,[],hl,_,_=>by simp at hl
theorem vE:∀{vs:List Val} {c:List Kind},(∀t∈c,agree p a b t=true)->kU p a h vs c=kU p b h vs c
 |[],[],_=>rfl
 |x::vs,y::c,hg=>by
  unfold kU;rw[rM (hg y Zl),vE fun t d=>hg t (by simp[d])]
 |[],_::_,_=>rfl
 |_::_,[],_=>rfl
theorem AU:∀{vs:List Val} {a:List Kind},(∀t∈a,mg t=true)->vs.length=a.length->kU p k h vs a=true->Fit p k h vs (a.map kH)
 |[],[],_,_,_=>trivial
 |x::vs,y::a,hk,hl,hh=>by
  unfold kU at hh;simp only[RV]at hh;exact⟨by rw[tQ (hk y Zl)];exact hh.1,AU (fun t b=>hk t (by simp[b])) (by simpa using hl) hh.2⟩
 |[],_::_,_,hl,_=>by simp at hl
 |_::_,[],_,hl,_=>by simp at hl
theorem rG.QZ{f:List Val}:∀(a:List Kind){vs:List Val}{s s':lU},rG p k h f vs s->lW p k a s=some s'->(∀x∈a,mg x=true)->∃c b,vs=c++b/\b.length=a.length/\kU p k h b a.reverse=true/\rG p k h f c s'
 |[],vs,s,s',hf,hs,_=>by
  simp only[lW,TQ]at hs;subst hs;exact⟨vs,[],Zl,rfl,rfl,hf⟩
 | x :: a, vs, s, s', hf, hs, hk => by
  unfold lW at hs;cases d:lX p k (kH x) s with
  |none=>rw[d]at hs;cases hs
  |some u=>
   rw[d,Tn]at hs;obtain⟨t,q,g,j,l⟩:=hf.as d;obtain⟨c,b,i,e,m,n⟩:=rG.QZ a l hs fun r o=>hk r (by simp[o]);refine⟨c,b++[q],by rw[g,i,TG],by simp[e],?_,n⟩;rw[List.reverse_cons];exact zW (by simpa using e) m (by rw[<-tQ (hk x Zl)];exact j)
end
section
variable {p:jl}{r o:Ref}{n:ByteArray}{x y:pU}
theorem Nh(e:pick p r n=some x)(t:under p o x.of=true)(b:pick p o n=some y):(method p y).args=(method p x).args/\(method p y).ret=(method p x).ret/\jY p y.of.keeper x.of.keeper (method p y)=true:=by
 have N:=e;have O:=b;unfold pick at e b;split at e
 . split at b
   . rename_i Z d;obtain⟨S,aa,g,i⟩:=qw e;obtain⟨T,ae,U,V⟩:=qw b;obtain⟨M,u,q⟩:=pW (p:=p) (r:=o) (x:=x.of) (by unfold under at t;simpa using t);obtain⟨R,s⟩:=tO M;have Y:=d;unfold jW at d;simp only[RV]at d;rw[q]at d;obtain⟨_,_,i',w,Q,j,A,B,W,C⟩:=pM N;obtain⟨_,_,j',z,v,X,G,H,I,J⟩:=pM O;have E:method p x=Q:=by unfold method;rw[C];rfl
     have F:method p y=v:=by unfold method;rw[J];rfl
     have k:cls p x.of=w:=by unfold cls;rw[A];rfl
     have K:cls p y.of=z:=by unfold cls;rw[G];rfl
     rw[q,s]at b;by_cases l:y.of∈u
     . rw[E,F];have h:=(uN d.2).2 y.of l x.of (by rw[s];simp);unfold mG at h;simp only[RV,Tc]at h;have c:=h.2 v (by rw[K];exact Tx H);unfold lh at c;rw[g]at j;have D:=Int.ofNat.inj j;subst D;rw[I,k,Ab (by rw[<-k];exact i) B]at c;simp only[RV,Tv]at c;exact⟨c.1.2,c.1.1,c.2⟩
     . have:∀(f:List Ref),mq p n (f++x.of::R)=some y->y.of ∉ f->y=x:=by
        intro f;induction f with
        |nil=>
         intro a _;simp only[TZ,mq,i]at a;cases a;obtain⟨xo,xa⟩:=x;simp at g;subst g;rfl
        |cons af f P=>
         intro a m;simp only[TR,mq]at a;split at a
         . cases a;simp at m
         . exact P a (fun L=>m (UI _ L))
       have:=this u b l;subst this;exact⟨rfl,rfl,Bu _ _⟩
   . cases b
 . cases e
theorem CR:∀{l:List Ref} {c:Ref} {i:Nat},c∈l->pY (cls p c) n=some i->∃y,mq p n l=some y
 |[],_,_,a,_=>by cases a
 | d :: l, c, i, a, hi => by
  unfold mq;cases b:pY (cls p d) n with
  |some e=>exact⟨_,rfl⟩
  |none=>
   rcases Ui.1 a with rfl|a
   . rw[b]at hi;cases hi
   . exact CR a hi
theorem KT(a:pick p r n=some x)(b:under p o x.of=true)(d:jW p o=true):∃y,pick p o n=some y:=by
 unfold pick at a |-;rw[Ty d];split at a
 . obtain⟨-,e,-,c⟩:=qw a;exact CR (by unfold under at b;simpa using b) c
 . cases a
theorem CE{i:Nat}{f:oO}(a:(layout p r)[i]?=some f)(j:jW p o=true)(d:under p o f.of=true):(layout p o)[f.at_.toNat]?=some f:=by
 have c:=sG a;have b:=AY a;have e:f.at_.toNat=i:=Te c.2.2.1
 rw[e];obtain⟨-,n,l⟩:=pW c.2.1;obtain⟨-,q,m⟩:=pW (p:=p) (r:=o) (x:=f.of) (by unfold under at d;simpa using d);have k:jW p r=true:=by
  unfold layout at a;split at a
  . assumption
  . simp at a
 unfold layout at a |-;rw[Ty k,l,UC,qy]at a;rw[Ty j,m,UC,qy];obtain⟨s,g⟩:=uO p n.reverse (kL p (chain p f.of).reverse []);obtain⟨t,h⟩:=uO p q.reverse (kL p (chain p f.of).reverse []);unfold yB at b;rw[g,TY b]at a;rw[h,TY b];exact a
theorem Gu {n m : ByteArray}(a : (get p k n m).2 = 1) : (find p k n).2 = 1 /\ under p (find p k n).1 (get p k n m).1.of = true /\ agree p k (get p k n m).1.of.keeper (get p k n m).1.kind = true /\ ∃ e : Nat, (layout p (find p k n).1)[e]? = some (get p k n m).1 := by
 unfold get at a |-;split at a
 . rename_i b;rw[Ty b];unfold ko at b a |-;split at b
   . rename_i i;rw[Ty i]at a |-;split at b
     . rename_i f;rw[Ty f]at a |-;split at b
       . rename_i j;rw[Ty j]at a |-;simp only at a |-;have l:=yF a;obtain⟨e,h⟩:=Vj l;refine⟨f,?_,?_,e,h⟩
         . have:=(sG h).2.1;unfold under;simpa using this
         . have:∀c:List oO,(pO p k m (find p k n).1 c).2=1->agree p k (pO p k m (find p k n).1 c).1.of.keeper (pO p k m (find p k n).1 c).1.kind=true:=by
            intro c;induction c with
            |nil=>intro a;simp[pO]at a
            |cons q c o=>
             intro a;unfold pO at a |-;split at a
             . rename_i d;rw[Ty d];split at a
               . rename_i g;rw[Ty g];exact g
               . simp at a
             . rename_i d;rw[T9 d];exact o a
           exact this _ a
       . simp at b
     . simp at b
   . simp at b
 . rename_i b;exact absurd a b
theorem DX{n m:ByteArray}(a:(call p k n m).2=1):(find p k n).2=1/\pick p (find p k n).1 m=some (call p k n m).1/\under p (find p k n).1 (call p k n m).1.of=true/\jY p k (call p k n m).1.of.keeper (method p (call p k n m).1)=true:=by
 unfold call at a |-;split at a
 . rename_i b;rw[Ty b];unfold ko at b a |-;split at b
   . rename_i f;rw[Ty f]at a |-;split at b
     . rename_i d;rw[Ty d]at a |-;split at b
       . rename_i g;rw[Ty g]at a |-;simp only at a |-;cases c:pick p (find p k n).1 m with
         |none=>rw[c]at a;simp at a
         |some x=>
          rw[c]at a;simp only at a |-;split at a
          . rename_i e;rw[Ty e];exact⟨d,rfl,by
             obtain⟨-,h,-⟩:=pM c;unfold under;simpa using h,e⟩
          . simp at a
       . simp at b
     . simp at b
   . simp at b
 . rename_i b;exact absurd a b
end
def uy(p:jl)(h:List ou):Prop:=∀o∈h,∀(i:Nat)(f:oO),(layout p o.of)[i]?=some f->∃v,o.fields[i]?=some v/\hasType p f.of.keeper h v f.kind=true
def Qc(p:jl)(h:List ou)(t:Fr):Prop:=∃l K,Bt p t.of l/\l[t.pc.toNat]?=some K/\rG p t.of.of.keeper h t.locals t.stack K
def vN(p:jl)(h:List ou):List Fr->pU->Prop
 |[],_=>True
 |f::r,x=>(∃l s2 s3 s4 tg,Bt p f.of l/\lK (method p f.of) tg s2=some s3/\l[f.pc.toNat+1]?=some s4/\nQ p f.of.of.keeper (method p f.of) true ((f.pc.toNat+1:Nat):Int) s3=some s4/\
     rG p f.of.of.keeper h f.locals f.stack s2/\∀h' v,hasType p x.of.keeper h' v (method p x).ret=true->fits p f.of.of.keeper h' v tg=true)/\vN p h r f.of
def uX(p:jl):Prop:=∀x,kg p x=true->right p x=true
def Safe(p:jl)(x:Int×St):Prop:=x.1≠10/\(uX p->x.1≠5)/\(x.1=1->uy p x.2.heap/\∃r t,x.2.frames=r++[t]/\Qc p x.2.heap t/\vN p x.2.heap r.reverse t.of)
structure Sv(p:jl)(t:Fr):Prop where
 has:kg p t.of=true
 pc:0<=t.pc
 loc:(t.locals.length:Int)=(method p t.of).locals
section
variable {p:jl}{s s1:St}{r:List Fr}{t:Fr}{l:List lU}{s2 s3 s4:lU}
theorem Safe.end_{n:Int}(b:n≠10)(c:n≠1)(d:n≠5:=by decide):Safe p (n,s):=⟨b,fun _=>d,fun a=>absurd a c⟩
theorem BJ(j:kv p=true)(c:s.frames=r++[t])(i:Sv p t)(b:Bt p t.of l){a:Int}(h0:0<=a)(h:a<(method p t.of).code.length){f:SMap}(g:qW (method p t.of) a=some f)(hF:rG p t.of.of.keeper s.heap t.locals t.stack ⟨f.locals,f.stack⟩)(d:uy p s.heap)(e:vN p s.heap r.reverse t.of):Safe p (jump p a s):=by
 unfold jump;rw[p9 c,T9 Zm,oV c];refine⟨Zl,fun _=>by simp,fun _=>⟨d,r,_,rfl,⟨l,_,b,b.map a.toNat f Zm (by rw[VP h0];exact g),hF⟩,e⟩⟩
theorem ug(i:kv p=true)(d:s.frames=r++[t])(a:Sv p t)(c:Bt p t.of l)(b:l[t.pc.toNat+1]?=some s4)(h:nQ p t.of.of.keeper (method p t.of) true ((t.pc.toNat+1:Nat):Int) s3=some s4)(hF:rG p t.of.of.keeper s.heap t.locals t.stack s3)(f:uy p s.heap)(g:vN p s.heap r.reverse t.of):Safe p (next p s):=by
 have e:=(Tt.1 b).1;rw[c.len]at e;have j:=a.pc;unfold next jump
 rw[p9 d,T9 Zm,oV d];refine⟨Zl,fun _=>by simp,fun _=>⟨f,r,_,rfl,⟨l,s4,c,?_,hF.meet (lT i a.has).1 a.loc h⟩,g⟩⟩;rw[show(t.pc+1).toNat=t.pc.toNat+1 by omega];exact b
theorem ry(j:kv p=true)(b:s.frames=r++[t])(a:Sv p t)(g:Bt p t.of l)(e:l[t.pc.toNat+1]?=some s4)(i:nQ p t.of.of.keeper (method p t.of) true ((t.pc.toNat+1:Nat):Int) s3=some s4){c:Tag}(k:lK (method p t.of) c s2=some s3){v:Val}(m:fits p t.of.of.keeper s.heap v c=true)(hF:rG p t.of.of.keeper s.heap t.locals t.stack s2)(f:uy p s.heap)(h:vN p s.heap r.reverse t.of):Safe p (push p v s):=by
 obtain⟨n,d⟩:=hF.put k m;unfold push;rw[p9 b,T9 Zm,oV b];exact ug (s3:=s3) j rfl ⟨a.has,a.pc,a.loc⟩ g e i d f h
theorem xA(a:s.frames=r++[t]){q ws:List Val}(b:t.stack=q++ws):oh ws.length s=some (ws,{s with frames:=r++[{t with stack:=q}]}):=by
 unfold oh;rw[p9 a,oV a,b,T9 Zl,TK,Vu,List.drop_left,List.take_left]
theorem xB(a:s.frames=r++[t]){q:List Val}{v:Val}(b:t.stack=q++[v]):pop s=some (v,{s with frames:=r++[{t with stack:=q}]}):=by
 unfold pop;rw[show(1:Nat)=[v].length from rfl,xA a b];rfl
theorem Hb{t:Kind}(a:hasType p k b v t=true):v.kind=1\/v.kind=2\/v.kind=3:=by
 unfold hasType at a;split at a
 . exact .inl (U0 a)
 . split at a
   . exact .inr (.inr ‹_›)
   . split at a
     . cases a
     . exact .inr (.inl Zm)
theorem Mt{t:Tag}(a:fits p k b v t=true)(c:t.kind≠0):v.kind≠0:=by
 unfold fits at a;rw[T9 c]at a;split at a
 . have:=U0 a;omega
 . have:=Hb a;omega
theorem wK:fits p k a v lG=true↔v.kind=1:=by
 simp[fits,lG,hasType]
theorem Kz{n:ByteArray}(a:fits p k b v (kP n)=true):v.kind=3\/(v.kind=2/\(find p k n).2=1/\under p (qL b v.n) (find p k n).1=true):=by
 rw[yD]at a;unfold hasType at a;rw[T9 Zl]at a;split at a
 . exact .inl ‹_›
 . split at a
   . cases a
   . simp only[RV,Tv]at a;exact .inr ⟨Zm,a⟩
theorem Jw{q:Ref}(a:v.kind=3\/(v.kind=2/\under p (qL s.heap v.n) q=true)):(object p v q s=1/\v.kind=2/\under p (qL s.heap v.n) q=true)\/object p v q s=3:=by
 unfold object;rcases a with a|⟨a,b⟩
 . right;rw[Ty a]
 . left;rw[T9 Zm,T9 Zm,Ty b];exact⟨rfl,a,b⟩
theorem vN.grown{d: List ou}(b:Grown a d):∀{r:List Fr} {x:pU},(∀f∈r,(∀c∈f.locals,jV c a.length=true)/\∀c∈f.stack,jV c a.length=true)->vN p a r x->vN p d r x
 |[],_,_,_=>trivial
 |f::r,x,hv,⟨⟨l,s2,s3,s4,tg,h1,h2,h3,h4,h5,h6⟩,hw⟩=>
  ⟨⟨l,s2,s3,s4,tg,h1,h2,h3,h4,⟨Fit.grown b (hv f Zl).1 h5.loc,Fit.grown b (hv f Zl).2 h5.kY⟩,h6⟩,vN.grown b (fun e g=>hv e (by simp[g])) hw⟩
theorem uy.more(i:Good p s)(j:uy p s.heap){q:Ref}:uy p (s.heap++[fresh p q]):=fun f b e c d=>by
 rcases TU.1 b with b|b
 . obtain⟨g,a,h⟩:=j f b e c d;exact⟨g,a,by rw[rO (Grown.more _ _) (((lV.1 i.heap).2 f b).2.2 g (Tx a))];exact h⟩
 . simp only[U4]at b;subst b;have k:(layout p q)[e]?=some c:=d;refine⟨if c.kind.kind=1 then mh 0 else qH,by unfold fresh;rw[UG,k];rfl,?_⟩;unfold hasType;by_cases a:c.kind.kind=1
   . rw[Ty a,Ty a];rfl
   . rw[T9 a,T9 a];rfl
theorem uy.put(o:Good p s)(q:uy p s.heap){n a:Int}{v:Val}(z:0<=n/\n<s.heap.length)(y:jV v s.heap.length=true)(w:∀c,(layout p (qL s.heap n))[a.toNat]?=some c->hasType p c.of.keeper s.heap v c.kind=true):uy p (nS s.heap n a v):=fun A x i c r=>by
 have m:=Grown.set s.heap n a v;obtain⟨u,b⟩:=Vj x;unfold nS at b;rw[VT]at b;cases g:s.heap[u]? with
 |none=>rw[g]at b;simp at b
 |some e=>
  rw[g]at b;have h:=Tx g;by_cases j:n.toNat=u
  . simp[j]at b;subst b;have t:(layout p e.of)[i]?=some c:=r;obtain⟨f,d,l⟩:=q e h i c t;simp only;by_cases k:a.toNat=i
    . refine⟨v,by rw[k,List.getElem?_set_self (Tt.1 d).1],?_⟩;rw[rO m y];refine w c ?_;have:qL s.heap n=e.of:=by unfold qL;rw[j,g];rfl
      rw[this,k];exact t
    . refine⟨f,by rw[List.getElem?_set_ne k];exact d,?_⟩;rw[rO m (((lV.1 o.heap).2 e h).2.2 f (Tx d))];exact l
  . simp[j]at b;subst b;obtain⟨f,d,l⟩:=q e h i c r;exact⟨f,d,by rw[rO m (((lV.1 o.heap).2 e h).2.2 f (Tx d))];exact l⟩
end
section
variable {p:jl}{s:St}{r:List Fr}{t:Fr}
theorem Ed(l:kv p=true){q:Ref}{i:Nat}{f:oO}(h:(layout p q)[i]?=some f):mg f.kind=true:=by
 obtain⟨-,k,-,m,g,b,-,j⟩:=sG h;obtain⟨d,c⟩:=mr k;have e:cls p f.of=d:=by unfold cls;rw[c];rfl
 rw[e]at b;have a:=BC l c;unfold o9 at a;simp only[RV]at a;have:=qc a.1.2 g (Tx b);simp only[RV]at this;rw[j];exact this.2
theorem entered(g:kv p=true){x:pU}(h:kg p x=true)(n:right p x=true){c:List ou}{vs:List Val}(hl:vs.length=(method p x).args.length+1)(a:kU p x.of.keeper c vs (⟨2,x.of.name⟩::(method p x).args)=true):Qc p c ⟨x,0,vs++List.replicate ((method p x).locals.toNat - vs.length) l9,[]⟩:=by
 have e:=qE (lT g h).1;obtain⟨q,f⟩:=H5 n;obtain⟨i,l,m⟩:=f.start (fun d=>by have:=e.Q0;rw[d]at this;simp at this);have r:=e.args;refine⟨q,i,f,l,rG.meet (s:=rW x (method p x)) (lT g h).1 Zr ⟨?_,trivial⟩ m⟩;match vs,hl,a with
 | v :: vs, hl, a =>
  unfold kU at a;simp only[RV]at a;have j:Fit p x.of.keeper c (v::vs) (kP x.of.name::(method p x).args.map kH):=
   ⟨by rw[yD];exact a.1,AU e.kinds (by simpa using hl) a.2⟩
  have k:∀b:Nat,Fit p x.of.keeper c (List.replicate b l9) (List.replicate b wU):=fun b=>by
   induction b with
   |zero=>exact trivial
   |succ b o=>rw[List.replicate_succ,List.replicate_succ];exact⟨by simp[fits,wU],o⟩
  have d:(method p x).locals.toNat - (v::vs).length=(method p x).locals.toNat - ((method p x).args.length+1):=by rw[hl]
  have:=j.app (k ((method p x).locals.toNat - ((method p x).args.length+1)));unfold rW;simp only;rw[d];exact this
theorem Ec(i:kv p=true){lk:Bool}(h:∀x,kg p x=true->lk=true\/right p x=true){x:pU}(c:kg p x=true){vs:List Val}(hl:vs.length=(method p x).args.length+1)(k:kU p x.of.keeper s.heap vs (⟨2,x.of.name⟩::(method p x).args)=true)(e:uy p s.heap)(f:vN p s.heap s.frames.reverse x):Safe p (enter p lk x vs s):=by
 unfold enter;split
 . exact Safe.end_ Zn Zn
 . split
   . rename_i a;exact⟨Zl,fun g=>by simp[g x c]at a,fun d=>by simp at d⟩
   . rename_i a;have j:right p x=true:=by
      rcases h x c with b|b
      . rw[b]at a;simpa using a
      . exact b
     refine⟨Zl,fun _=>by simp,fun _=>⟨e,s.frames,_,rfl,entered i c j hl k,f⟩⟩
theorem Ku(h:kv p=true)(J:Good p s)(j:s.frames=r++[t]){lk:Bool}(aV:∀S,kg p S=true->lk=true\/right p S=true){i:Ins}(hc:(method p t.of).code[t.pc.toNat]?=some i)(hi:oL (method p t.of) i=true)(n:uy p s.heap)(hT:Qc p s.heap t)(o:vN p s.heap r.reverse t.of):Safe p (jN p lk i s):=by
 obtain⟨bB,F,u,hK,hF⟩:=hT;obtain⟨K',s3,aI,a,y⟩:=u.ins t.pc.toNat i hc;rw[hK]at aI;cases aI;have E:=jK.1 (J.top j);have b:Sv p t:=⟨E.1,E.2.1,E.2.2.2.1⟩;obtain⟨_,i2,R,i4,i5,_,_⟩:=rC hi;have aP:∀I∈r.reverse,(∀c∈I.locals,jV c s.heap.length=true)/\∀c∈I.stack,jV c s.heap.length=true:=fun I Z=>by
  have:=jK.1 (J.frames I (by rw[j];simp at Z;simp[Z]));exact⟨this.2.2.2.2.2.1,this.2.2.2.2.2.2⟩
 have aF:∀{c:Val} {aS:ByteArray} {q:Ref} (x:St),x.heap=s.heap->fits p t.of.of.keeper s.heap c (kP aS)=true->under p (find p t.of.of.keeper aS).1 q=true->(object p c q x=1/\c.kind=2/\under p (qL x.heap c.n) q=true)\/object p c q x=3:=fun x e m M=>
  Jw (by
   rw[e];rcases Kz m with v|⟨v,-,B⟩
   . exact .inl v
   . exact .inr ⟨v,Da B M⟩)
 unfold jN;unfold jQ at a;by_cases e1:i.op=1
 . rw[Ty e1]at a |-;obtain⟨z,f,g⟩:=y (by unfold qU;simp[e1]);exact ry h j b u f g a (wK.2 rfl) hF n o
 rw[T9 e1]at a |-;by_cases e2:i.op=2
 . rw[Ty e2]at a |-;obtain⟨z,f,g⟩:=y (by unfold qU;simp[e2]);cases k:F.locals[i.a.toNat]? with
   |none=>rw[k]at a;cases a
   |some tg=>
    rw[k,Tn]at a;split at a
    . cases a
    . rename_i h0;obtain⟨c,m,aO⟩:=hF.loc.get k;rw[p9 j,m,TC,T9 (Mt aO h0)];exact ry h j b u f g a aO hF n o
 rw[T9 e2]at a |-;by_cases e3:i.op=3
 . rw[Ty e3]at a |-;obtain⟨z,f,g⟩:=y (by unfold qU;simp[e3]);cases k:nZ F with
   |none=>rw[k]at a;cases a
   |some S=>
    obtain⟨tg,s'⟩:=S;rw[k,Vy,TQ]at a;subst a;obtain⟨q,c,e,m,l,-⟩:=hF.take k;rw[xB j e];simp only;rw[oV (r:=r) (t:={t with stack:=q}) rfl];exact ug (r:=r) (t:={t with stack:=q,locals:=t.locals.set i.a.toNat c}) h rfl ⟨b.has,b.pc,by simp;exact b.loc⟩ u f g ⟨Fit.set m _ l.loc,l.kY⟩ n o
 rw[T9 e3]at a |-;by_cases e4:i.op=4
 . rw[Ty e4]at a |-;obtain⟨z,f,g⟩:=y (by unfold qU;simp[e4]);cases k:lX p t.of.of.keeper lG F with
   |none=>rw[k]at a;cases a
   | some x =>
    rw[k,Tn]at a;cases D:lX p t.of.of.keeper lG x with
    |none=>rw[D]at a;cases a
    |some s2=>
     rw[D,Tn]at a;obtain⟨q,aH,e,Y,l⟩:=hF.as k;obtain⟨q2,A,H,d,N⟩:=l.as D;have K:=xA j (q:=q2) (ws:=[A,aH]) (by rw[e,H];simp);rw[show [A,aH].length=2 from rfl]at K;rw[K];simp only;rw[Ty ⟨wK.1 d,wK.1 Y⟩];split
     . exact ry (r:=r) (t:={t with stack:=q2}) h rfl ⟨b.has,b.pc,b.loc⟩ u f g a (wK.2 rfl) N n o
     . exact Safe.end_ Zn Zn
 rw[T9 e4]at a |-;by_cases e5:i.op=5
 . rw[Ty e5]at a |-;obtain⟨z,f,g⟩:=y (by unfold qU;simp[e5]);exact ry h j b u f g a (by simp[fits,zC,qH]) hF n o
 rw[T9 e5]at a |-;by_cases e6:i.op=6
 . rw[Ty e6]at a |-;obtain⟨z,f,g⟩:=y (by unfold qU;simp[e6]);split
   . rename_i C;split
     . exact Safe.end_ Zn Zn
     . unfold qD at C |-;rw[p9 j]at C |-;simp only[RV,Tv]at C;obtain⟨-,aU⟩:=oG C.2;have k:=Grown.more s.heap (fresh p (find p t.of.of.keeper i.name).1);have az:∀c∈t.locals,jV c s.heap.length=true:=E.2.2.2.2.2.1;have aA:∀c∈t.stack,jV c s.heap.length=true:=E.2.2.2.2.2.2;refine ry (s:=(create p (find p t.of.of.keeper i.name).1 s).2) h j b u f g a ?_ ⟨Fit.grown k az hF.loc,Fit.grown k aA hF.kY⟩ (uy.more J n) (vN.grown k aP o);rw[yD];unfold hasType create;simp only;rw[T9 Zn,T9 Zn,T9 Zn];simp only[RV,Tv];refine⟨C.1,?_⟩;have e:qL (s.heap++[fresh p (find p t.of.of.keeper i.name).1]) (s.heap.length:Int)=(find p t.of.of.keeper i.name).1:=by
        unfold qL;simp[fresh]
       rw[e];unfold under;rw[Vr];exact aU
   . exact Safe.end_ Zn Zn
 rw[T9 e6]at a |-;by_cases e7:i.op=7
 . rw[Ty e7]at a |-;obtain⟨z,f,g⟩:=y (by unfold qU;simp[e7]);rw[p9 j];split at a
   . rename_i k;rw[Ty k];obtain⟨aL,D,aa,bA,hj⟩:=Gu k;cases d:lX p t.of.of.keeper (kP i.name) F with
     |none=>rw[d]at a;cases a
     |some x=>
      rw[d,Tn]at a;obtain⟨q,c,e,m,l⟩:=hF.as d;rw[xB j e];simp only;have aB:jV c s.heap.length=true:=E.2.2.2.2.2.2 c (by rw[e];simp);rcases aF {s with frames:=r++[{t with stack:=q}]} rfl m D with⟨v,W,B⟩|v
      . rw[Ty v];obtain⟨aX,aY⟩:=qa aB W;obtain⟨w,ho,P,af,bf⟩:=Dt (s:=s) aX aY;have bg:=(lV.1 J.heap).2 w P;have au:under p w.of (get p t.of.of.keeper i.name i.member).1.of=true:=by rw[<-af];exact B
        obtain⟨aG,M,bq⟩:=n w P _ _ (CE hj bg.1 au);refine ry (r:=r) (t:={t with stack:=q}) h rfl ⟨b.has,b.pc,b.loc⟩ u f g a ?_ l n o;have bn:(qQ s.heap c.n)[(get p t.of.of.keeper i.name i.member).1.at_.toNat]?=some aG:=by rw[bf];exact M
        simp only;rw[bn,TC,tQ (Ed h hj),rM aa];exact bq
      . rw[T9 (by rw[v];decide),v];exact Safe.end_ Zn Zn
   . cases a
 rw[T9 e7]at a |-;by_cases e8:i.op=8
 . rw[Ty e8]at a |-;obtain⟨z,f,g⟩:=y (by unfold qU;simp[e8]);rw[p9 j];split at a
   . rename_i k;rw[Ty k];obtain⟨aL,D,aa,bA,hj⟩:=Gu k;cases d:lX p t.of.of.keeper (kH (get p t.of.of.keeper i.name i.member).1.kind) F with
     |none=>rw[d]at a;cases a
     | some x =>
      rw[d,Tn]at a;obtain⟨q,c,e,m,l⟩:=hF.as d;obtain⟨q2,w,H,ho,N⟩:=l.as a;have K:=xA j (q:=q2) (ws:=[w,c]) (by rw[e,H];simp);rw[show [w,c].length=2 from rfl]at K;rw[K];simp only;have aB:jV c s.heap.length=true:=E.2.2.2.2.2.2 c (by rw[e];simp);have ay:jV w s.heap.length=true:=E.2.2.2.2.2.2 w (by rw[e,H];simp);have ag:hasType p (get p t.of.of.keeper i.name i.member).1.of.keeper s.heap c (get p t.of.of.keeper i.name i.member).1.kind=true:=by
       rw[<-rM aa,<-tQ (Ed h hj)];exact m
      rw[Ty ag];rcases aF {s with frames:=r++[{t with stack:=q2}]} rfl ho D with⟨v,W,B⟩|v
      . rw[Ty v];have G:=qa ay W;have ax:=Grown.set s.heap w.n (get p t.of.of.keeper i.name i.member).1.at_ c;obtain⟨ob,aZ,P,af,-⟩:=Dt (s:=s) G.1 G.2;have az:∀c∈t.locals,jV c s.heap.length=true:=E.2.2.2.2.2.1;have aA:∀c∈q2,jV c s.heap.length=true:=fun aG M=>E.2.2.2.2.2.2 aG (by rw[e,H];simp[M]);refine ug (r:=r) (t:={t with stack:=q2}) h rfl ⟨b.has,b.pc,b.loc⟩ u f g ⟨Fit.grown ax az N.loc,Fit.grown ax aA N.kY⟩ (uy.put J n G aB fun I Z=>?_) (vN.grown ax aP o);have au:under p (qL s.heap w.n) (get p t.of.of.keeper i.name i.member).1.of=true:=B;rw[CE hj (by rw[af];exact((lV.1 J.heap).2 ob P).1) au]at Z;cases Z;exact ag
      . rw[T9 (by rw[v];decide),v];exact Safe.end_ Zn Zn
   . cases a
 rw[T9 e8]at a |-;by_cases e9:i.op=9
 . rw[Ty e9]at a |-;obtain⟨z,f,g⟩:=y (by unfold qU;simp[e9]);rw[p9 j];split at a
   . rename_i k;rw[Ty k];obtain⟨aL,D,aa,O⟩:=DX k;have bu:=qB D;have aN:=qE (lT h bu).1;cases d:lW p t.of.of.keeper (method p (call p t.of.of.keeper i.name i.member).1).args.reverse F with
     |none=>rw[d]at a;cases a
     | some x =>
      rw[d,Tn]at a;cases Y:lX p t.of.of.keeper (kP i.name) x with
      |none=>rw[Y]at a;cases a
      |some s2=>
       rw[Y,Tn]at a;obtain⟨q,ws,e,aC,aQ,l⟩:=rG.QZ _ hF d fun S hx=>aN.kinds S (by simpa using hx);rw[List.reverse_reverse]at aQ;rw[UB]at aC;obtain⟨q2,w,H,ho,N⟩:=l.as Y;have K:=xA j (q:=q2) (ws:=w::ws) (by rw[e,H];simp);rw[show(w::ws).length=(method p (call p t.of.of.keeper i.name i.member).1).args.length+1 by simp[aC]]at K;rw[K];simp only[List.headD_cons];have ay:jV w s.heap.length=true:=E.2.2.2.2.2.2 w (by rw[e,H];simp);rcases aF {s with frames:=r++[{t with stack:=q2}]} rfl ho aa with⟨v,W,B⟩|v
       . simp only[v,Uy];have G:=qa ay W;obtain⟨ob,aZ,P,af,-⟩:=Dt (s:=s) G.1 G.2;have C:jW p (qL s.heap w.n)=true:=by rw[af];exact((lV.1 J.heap).2 ob P).1
         obtain⟨L,hy⟩:=KT D B C;have ai:pick p (qL s.heap w.n) i.member=some L:=hy;obtain⟨aD,bz,Q⟩:=Nh D B ai;obtain⟨-,aR,-⟩:=pM ai;rw[ai];simp only;have aJ:∀A∈(method p L).args,agree p t.of.of.keeper (call p t.of.of.keeper i.name i.member).1.of.keeper A=true/\agree p L.of.keeper (call p t.of.of.keeper i.name i.member).1.of.keeper A=true:=fun A d=>by
          unfold jY at O Q;simp only[RV,Tc]at O Q;exact⟨O.1 A (by rw[<-aD];exact d),Q.1 A d⟩
         refine Ec h aV (qB ai) (by simp[aD,aC]) ?_ n ?_
         . unfold kU;have aM:=(pW aR).1;have aK:(find p L.of.keeper L.of.name).2=1/\(find p L.of.keeper L.of.name).1=L.of:=by
            unfold mE at aM;simpa using aM
           simp only[RV];refine⟨?_,?_⟩
           . unfold hasType;rw[T9 Zl,T9 Zm,T9 Zm,aK.2];simp only[RV,Tv];refine⟨aK.1,?_⟩;unfold under;rw[Vr];exact aR
           . rw[vE fun A d=>(aJ A d).2,<-vE fun A d=>(aJ A d).1,aD];exact aQ
         . simp only[UC];refine⟨⟨bB,s2,s3,z,kH (method p (call p t.of.of.keeper i.name i.member).1).ret,u,a,f,g,N,fun h' c m=>?_⟩,o⟩;rw[tQ aN.ret];unfold jY at O Q;simp only[RV]at O Q;rw[rM O.2,<-bz,<-rM Q.2];exact m
       . simp only[v,show¬((3:Int)=1) by decide,Uq];exact Safe.end_ Zn Zn
   . cases a
 rw[T9 e9]at a |-;by_cases aj:i.op=10
 . rw[Ty aj]at a |-;obtain⟨q,c,e,m,l⟩:=hF.as a;rw[xB j e,p9 j];simp only;have aW:=qE (lT h b.has).1;have ag:hasType p t.of.of.keeper s.heap c (method p t.of).ret=true:=by rw[<-tQ aW.ret];exact m
   rw[Ty ag];split
   . exact Safe.end_ Zn Zn
   . rename_i G;have hr:r≠[]:=fun e=>by rw[e]at G;simp at G
     obtain⟨r2,ah,rfl⟩:∃r2 ah,r=r2++[ah]:=⟨r.dropLast,r.getLast hr,(UK hr).symm⟩;rw[UC]at o;obtain⟨⟨l',bC,bD,bE,tg,w1,w2,w3,w4,w5,w6⟩,aT⟩:=o;have av:=jK.1 (J.frames ah (by rw[j];simp));exact ry (r:=r2) (t:=ah) h Zl ⟨av.1,av.2.1,av.2.2.2.1⟩ w1 w3 w4 w2 (w6 _ _ ag) w5 n aT
 rw[T9 aj]at a |-;by_cases T:i.op=11
 . rw[Ty T]at a |-;obtain⟨z,f,g⟩:=y (by unfold qU;simp[T]);cases d:lX p t.of.of.keeper lG F with
   |none=>rw[d]at a;cases a
   |some x=>
    rw[d,Tn]at a;obtain⟨q,c,e,m,l⟩:=hF.as d;obtain⟨rfl,I,ae,X⟩:=l.branch (lT h b.has).1 b.loc a;rw[xB j e];simp only;rw[Ty (wK.1 m)];split
    . exact BJ (r:=r) (t:={t with stack:=q}) h rfl ⟨b.has,b.pc,b.loc⟩ u (R (.inl T)).1 (R (.inl T)).2 ae X n o
    . exact ug (r:=r) (t:={t with stack:=q}) h rfl ⟨b.has,b.pc,b.loc⟩ u f g l n o
 rw[T9 T]at a |-;by_cases U:i.op=12
 . rw[Ty U]at a |-;obtain⟨z,f,g⟩:=y (by unfold qU;simp[U]);cases d:qA F with
   |none=>rw[d]at a;cases a
   |some x=>
    rw[d,Tn]at a;obtain⟨q,c,e,m,l⟩:=hF.obj d;obtain⟨rfl,I,ae,X⟩:=l.branch (lT h b.has).1 b.loc a;rw[xB j e];simp only;rw[Ty m];split
    . exact BJ (r:=r) (t:={t with stack:=q}) h rfl ⟨b.has,b.pc,b.loc⟩ u (R (.inr (.inl U))).1 (R (.inr (.inl U))).2 ae X n o
    . exact ug (r:=r) (t:={t with stack:=q}) h rfl ⟨b.has,b.pc,b.loc⟩ u f g l n o
 rw[T9 U]at a |-;by_cases V:i.op=13
 . rw[Ty V]at a |-;obtain⟨rfl,I,ae,X⟩:=hF.branch (lT h b.has).1 b.loc a;exact BJ h j b u (R (.inr (.inr V))).1 (R (.inr (.inr V))).2 ae X n o
 rw[T9 V]at a |-;by_cases ak:i.op=14
 . rw[Ty ak]at a |-;obtain⟨z,f,g⟩:=y (by unfold qU;simp[ak]);obtain⟨q,c,e,m,l⟩:=hF.as a;rw[xB j e];simp only;rw[Ty (wK.1 m)];split
   . exact ug (r:=r) (t:={t with stack:=q}) h rfl ⟨b.has,b.pc,b.loc⟩ u f g l n o
   . exact ug (r:=r) (t:={t with stack:=q}) h rfl ⟨b.has,b.pc,b.loc⟩ u f g l n o
 rw[T9 ak]at a |-;obtain⟨z,f,g⟩:=y (by unfold qU;simp[aj,V]);cases d:qA F with
 |none=>rw[d]at a;cases a
 |some x=>
  rw[d,Tn]at a;obtain⟨q,c,e,m,l⟩:=hF.obj d;rw[xB j e];simp only;rw[Ty m];split
  . rename_i B;exact ry (r:=r) (t:={t with stack:=q}) h rfl ⟨b.has,b.pc,b.loc⟩ u f g a (by rw[yD];unfold hasType;simp[B]) l n o
  . rename_i B;split
    . rename_i C;unfold qD at C |-;rw[p9 (r:=r) (t:={t with stack:=q}) rfl]at C |-;simp only[RV,Tv]at C;split
      . rename_i M;refine ry (r:=r) (t:={t with stack:=q}) h rfl ⟨b.has,b.pc,b.loc⟩ u f g a ?_ l n o;rw[yD];unfold hasType;rw[T9 Zl,T9 B,T9 Zm];simp only[RV,Tv];exact⟨C.1,M⟩
      . exact Safe.end_ Zn Zn
    . exact Safe.end_ Zn Zn
end
def DL(p:jl)(s:St):Prop:=uy p s.heap/\(s.frames=[]\/∃r t,s.frames=r++[t]/\Qc p s.heap t/\vN p s.heap r.reverse t.of)
theorem Hq{r:Ref}:r∈classes p↔(∃b,cls? p r=some b)/\0<(chain p r).length:=by
 unfold classes;simp only[List.mem_flatMap,List.mem_filter,Uk,Tv];constructor
 . rintro⟨f,g,c,d⟩;refine⟨?_,d⟩;rw[CU g]at c;simp only[Vy,TC,V5]at c;obtain⟨b,a,rfl⟩:=c;have i:mQ p (f:Int)=some p[f]:=by unfold mQ;simp[g]
   unfold cls?;rw[i,Tn];cases j:p[f].owns.find? (fun m=>decide (m.name=b.name))with
   |none=>exact absurd (List.find?_eq_none.1 j b a) Zl
   |some h=>exact⟨h,rfl⟩
 . rintro⟨⟨b,a⟩,d⟩;obtain⟨l,n⟩:=Aw a;have k:=Oo a;unfold cls? mQ at a;rw[Ty l]at a;have e:r.keeper.toNat<p.length:=Zm
   rw[CU e,Tn]at a;refine⟨r.keeper.toNat,e,?_,d⟩;rw[CU e];simp only[Vy,TC,V5];exact⟨b,U5 a,Ref.oU.2 ⟨by simp only;omega,k⟩⟩
section
variable {p:jl}{s:St}
theorem NL(d:kv p=true)(hR:yh p s)(e:s.status=1){lk:Bool}(t:∀j,kg p j=true->lk=true\/right p j=true)(b:DL p s):(step p lk s).status≠10/\(uX p->(step p lk s).status≠5)/\((step p lk s).status=1->DL p (step p lk s)):=by
 obtain⟨x,z,v,a,w,h,i⟩:=Fh d hR e;obtain⟨q,b⟩:=b;rcases b with f|⟨y,A,g,b,r⟩
 . rw[a]at f;simp at f
 rw[a]at g;obtain⟨rfl,c⟩:=List.append_inj' g rfl;cases c;have:=Ku d hR.good a t h i q b r;obtain⟨m,n,o⟩:=this;unfold step;rw[Ty e];unfold stepped;rw[p9 a,h,TC];have u:(jN p lk v s).2.status=1:=(D6 d hR.good a e i).2.2.2.2;rw[Ea u];refine⟨m,n,fun c=>?_⟩;obtain⟨k,l⟩:=o c;exact⟨by rw[AO];exact k,.inr (by rw[AO,D9 c];exact l)⟩
theorem Fp(b:kv p=true){lk:Bool}(c:∀d,kg p d=true->lk=true\/right p d=true):∀(f:Nat){s:St},yh p s->s.status≠10->(uX p->s.status≠5)->(s.status=1->DL p s)→
    (steps p lk f s).status≠10/\(uX p->(steps p lk f s).status≠5)
 |0,s,_,h1,h2,_=>⟨h1,h2⟩
 |f+1,s,hR,h1,h2,hT=>by
  unfold steps;by_cases a:s.status=1
  . rw[Ty a];obtain⟨e,g,h⟩:=NL b hR a c (hT a);exact Fp b c f (Ch b hR lk) e g h
  . rw[T9 a];exact⟨h1,h2⟩
theorem Lx(j:kv p=true){lk:Bool}(C:∀x,kg p x=true->lk=true\/right p x=true){k:Int}{n m:ByteArray}{args:List Int}(w:args.all oD=true):(start p lk k n m args).status≠10/\(uX p->(start p lk k n m args).status≠5)/\((start p lk k n m args).status=1->DL p (start p lk k n m args)):=by
 have s:nY.status≠10/\(uX p->nY.status≠5)/\(nY.status=1->DL p nY):=⟨Zn,fun _=>by decide,fun e=>by cases e⟩;unfold start;split
 . rename_i A;split
   . rename_i l;have i:=DX l.1;have c:=qB i.2.1;have u:Good p ⟨1,[],[fresh p (find p k n).1],[],l9⟩:=Good.one A.2;have v:uy p [fresh p (find p k n).1]:=by
      have:=uy.more (p:=p) (s:=⟨1,[],[],[],l9⟩) ⟨by simp[pX],Zl,Zl,Zl,Zl,by simp[jV,l9]⟩ (fun I F=>by simp at F) (q:=(find p k n).1);simpa using this
     have f:=l.2;unfold p8 at f;simp only[RV,Tv,Tc]at f;obtain⟨-,z,-⟩:=pM i.2.1;have r:=(pW z).1;have o:(find p (call p k n m).1.of.keeper (call p k n m).1.of.name).2=1/\(find p (call p k n m).1.of.keeper (call p k n m).1.of.name).1=(call p k n m).1.of:=by
      unfold mE at r;simpa using r
     have E:∀(g:List Int)(a:List Kind),(∀x∈a,x.kind=1)->kU p (call p k n m).1.of.keeper [fresh p (find p k n).1] (g.map mh) a=true:=by
      intro g;induction g with
      |nil=>intro a _;cases a<;>rfl
      | cons d g G =>
       intro a q;cases a with
       |nil=>rfl
       |cons H a=>
        rw[Ur];unfold kU;rw[G a fun x c=>q x (by simp[c])];unfold hasType;rw[Ty (q H Zl)];rfl
     have b:kU p (call p k n m).1.of.keeper [fresh p (find p k n).1] (⟨2,0⟩::args.map mh) (⟨2,(call p k n m).1.of.name⟩::(method p (call p k n m).1).args)=true:=by
      unfold kU;rw[E args _ f.2];unfold hasType;rw[T9 Zl,T9 Zl,T9 Zl,o.2];simp only[RV,Tv,Vm];exact⟨o.1,i.2.2.1⟩
     have h:Safe p (enter p lk (call p k n m).1 (⟨2,0⟩::args.map mh) ⟨1,[],[fresh p (find p k n).1],[],l9⟩):=
      Ec j C c (by simp[f.1]) b v trivial
     have B:=wY j u rfl (lk:=lk) (x:=(call p k n m).1) (vs:=⟨2,0⟩::args.map mh) c (fun J b=>by
      rcases Ui.1 b with rfl|b
      . exact ze _ Zm Zl
      . obtain⟨d,y,rfl⟩:=V5.1 b;exact pJ _ (Tc.1 w d y)) (by
      have D:=qE (lT j c).1;have:=D.args;simp;omega)
     rw[Ea B.2.2.2.2];refine⟨h.1,h.2.1,fun e=>?_⟩;obtain⟨d,t⟩:=h.2.2 e;exact⟨by rw[AO];exact d,.inr (by rw[AO,D9 e];exact t)⟩
   . exact s
 . exact s
theorem Mj(a:ni p=true):uX p:=fun e k=>by
 obtain⟨j,l,c,n,g,d,h,m⟩:=uI k;unfold ni at a;simp only[RV,Tc]at a;have b:=a.2 e.of (Hq.2 ⟨⟨c,d⟩,by
  obtain⟨-,i⟩:=oG j;exact List.length_pos_of_mem i⟩)
 unfold lS at b;simp only[RV,Tc]at b;have f:cls p e.of=c:=by unfold cls;rw[d];rfl
 have:=b.2 l (by rw[Uk,f];exact(Tt.1 h).1);rw[<-g]at this;exact this
theorem PL(s:ni p=true){k:Int}{n m:ByteArray}{args:List Int}:nK p false k n m args=nK p true k n m args/\((nK p true k n m args).status≠0→ rT p false (nK p true k n m args) 400=rT p true (nK p true k n m args) 400/\(rT p true (nK p true k n m args) 400).status≠5/\(rT p true (nK p true k n m args) 400).status≠10):=by
 have h:=Mj s;rcases JU (p:=p) (k:=k) (n:=n) (m:=m) (args:=args)with f|⟨d,l⟩
 . exact⟨by rw[f,f],fun a=>by rw[f]at a;exact absurd rfl a⟩
 . obtain⟨c,b⟩:=l true;obtain⟨i,z⟩:=l false;by_cases e:start p true k n m args=nY
   . have u:start p false k n m args=nY:=by
      rcases Ff p k n m args with a|a
      . rw[<-a,e]
      . rw[e]at a;cases a
     refine⟨by rw[c,i,e,u],fun _=>?_⟩;have o:∀lk,rT p lk (nK p true k n m args) 400=nY:=fun lk=>by
      have:=FJ (lk:=lk) d b (f:=400) Zm;have a:rT p lk (nK p true k n m args) ((400:Nat):Int)=rT p lk (nK p true k n m args) 400:=rfl;rw[<-a,this,c,e];rfl
     rw[o,o];exact⟨rfl,Zn,Zn⟩
   . have t:args.all oD=true:=by
      by_cases g:(kv p&&has p k&&jL n&&jL m&&args.all oD)=true
      . simp only[RV]at g;exact g.2
      . have w:nK p true k n m args=GV:=by unfold nK;rw[T9 g]
        rw[w]at b;exact absurd b.st.1 Zn
     obtain⟨x,q,y⟩:=Lx (k:=k) (n:=n) (m:=m) d (lk:=true) (fun _ _=>.inl rfl) t;have v:start p true k n m args=start p false k n m args:=(Ff p k n m args).resolve_right (q h);refine⟨by rw[c,i,v],fun _=>?_⟩;have q1:rT p true (nK p true k n m args) 400=steps p true 400 (nK p true k n m args):=FJ d b (f:=400) Zm;have q2:rT p false (nK p true k n m args) 400=steps p false 400 (nK p true k n m args):=FJ d b (f:=400) Zm;rw[q1,q2];obtain⟨r,j⟩:=Fp d (lk:=true) (fun _ _=>.inl rfl) 400 b (by rw[c];exact x) (by rw[c];exact q) (by rw[c];exact y);exact⟨((Fj d 400 b).resolve_right (j h)).symm,j h,r⟩
end
end Go.Proofs.YtenhnldnpdlniaaGreat.M
