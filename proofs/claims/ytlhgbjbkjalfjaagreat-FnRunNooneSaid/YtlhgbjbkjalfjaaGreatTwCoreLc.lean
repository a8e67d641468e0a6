/- Walks. -/
import Derived.Test.YtlhgbjbkjalfjaaGreatTwCoreLa
import Derived.Maps.Own
import Derived.Deep.RegionWith
import Derived.Deep.RegionHeld3
set_option maxRecDepth 100000
set_option maxHeartbeats 4000000
set_option linter.all false
namespace Go.Proofs.YtlhgbjbkjalfjaaGreat
open Go Go.RowKit Tryz M
variable {m s: ByteArray}{a op v: Int}{b: Nat}{D: Nat->Prop}{c w: World}{p: iZ}
theorem O1:yH 49 8:=⟨_,underlying49,by kernel_rfl⟩
abbrev Key:=Int×ByteArray
def lK(r:Key):Value:=.agg #[.int .i64 r.1,.string r.2]
def rR(x:Key×Int):Value×Value:=(lK x.1,.int .i64 x.2)
def kE(w:World)(b:Nat)(m:List (Key×Int)):Prop:=
 ∃es clock,w.heap[b]?=some (.map es clock)/\es.toList.map (fun e=>(e.key,e.val))=m.map rR
def look(m:List (Key×Int))(k:Key):Option Int:=(m.find? fun x=>decide (k=x.1)).map Prod.snd
theorem uG{m:List (Key×Int)}{k:Key}(a:look m k=none):look (m++[(k,v)]) k=some v:=by
 unfold look at*;rw[Vk];cases b:m.find? fun c=>decide (k=c.1)
 . simp
 . rw[b]at a;simp at a
theorem tF{m:List (Key×Int)}{k a:Key}(b:a≠k):look (m++[(k,v)]) a=look m a:=by
 unfold look;rw[Vk];cases d:m.find? fun c=>decide (a=c.1)
 . simp[b]
 . rfl
theorem kE.lt{m:List (Key×Int)}(a:kE w b m):b<w:=by
 obtain⟨e,d,c,_⟩:=a;exact(Tg.1 c).1
theorem kE.keep{a: World}{m:List (Key×Int)}(f:kE w b m)(h:a.heap[b]?=w.heap[b]?):kE a b m:=by
 obtain⟨e,c,g,d⟩:=f;exact⟨e,c,h.trans g,d⟩
theorem kE.kp{m:List (Key×Int)}(a:kE w b m)(e:Kp D w c)(d:¬D b):kE c b m:=a.keep (e.block b a.lt d)
theorem kE.new(w:World):kE (w.alloc (.map #[] 0)) w []:=⟨#[],0,heap_alloc_new w _,rfl⟩
theorem vK(a b:Key)(w:World):(Op.equal 60 (lK a) (lK b)).run prog w=.ok (decide (a=b)) w:=by
 unfold Op.equal lK;show(Op.equalIn 10000 _ _ _).run _ w=_
 go_simp;obtain⟨e,c⟩:=a;obtain⟨f,d⟩:=b;have g:(c.toList=d.toList)↔c=d:=by
  rw[Ut,Ut];obtain⟨⟨j⟩⟩:=c;obtain⟨⟨k⟩⟩:=d;simp
 simp only[g,Wp];by_cases h:e=f<;>by_cases i:c=d<;>simp[h,i]
theorem lQ(a:Bool)(k:Int)(s:ByteArray)(w:World):(Instr.checkKey a 10000 60 (.agg #[k,s])).run prog w=.ok () w:=by
 cases a<;>kernel_rfl
theorem uI:prog.underlying 116=some (.map 60 3):=underlying116
theorem DC:∃a,prog.underlying 60=some (.struct a):=⟨_,underlying60⟩
theorem tL(k:Key)(w:World):∀(a:List MapEntry) (m:List (Key×Int)) (i:Nat),a.map (fun c=>(c.key,c.val))=m.map rR→ (look m k=none/\(Instr.findAsking 60 (lK k) a i).run prog w=.ok none w)\/∃h q,look m k=some h/\(Instr.findAsking 60 (lK k) a i).run prog w=.ok (some (q,.int .i64 h)) w:=by
 intro a;induction a with
 |nil=>
  intro m i d;cases m with
  |nil=>exact .inl ⟨rfl,rfl⟩
  |cons b f=>simp at d
 | cons c a p =>
  intro m i d;cases m with
  |nil=>simp at d
  |cons b f=>
   simp only[UU,TH]at d;obtain⟨g,j⟩:=d;have l:c.key=lK b.1:=congrArg Prod.fst g;have o:c.val=.int .i64 b.2:=congrArg Prod.snd g;unfold Instr.findAsking;rw[l];simp only[U8,vK,U6];by_cases e:k=b.1
   . refine .inr ⟨b.2,i,by unfold look;rw[VO (by simp[e])];rfl,?_⟩;simp[e,o]
   . have n:look (b::f) k=look f k:=by unfold look;rw[VN (by simp[e])]
     rw[n,SL e];simpa using p f (i+1) j
theorem pI(k:Key)(w:World)(a:List MapEntry)(m:List (Key×Int))(c:a.map (fun b=>(b.key,b.val))=m.map rR):(look m k=none/\(Instr.findKey 60 (lK k) a).run prog w=.ok none w)\/∃d h,look m k=some d/\(Instr.findKey 60 (lK k) a).run prog w=.ok (some (h,.int .i64 d)) w:=by
 obtain⟨e,f⟩:=DC;unfold Instr.findKey;simp only[U8,Uf f,U6];cases a with
 |nil=>
  cases m with
  |nil=>exact .inl ⟨rfl,rfl⟩
  |cons j i=>simp at c
 |cons b a=>
  have g:Instr.findNow (.struct e) (lK k) (b::a) 0=none:=by simp[Instr.findNow,Instr.sameNow]
  rw[g];exact tL k w (b::a) m 0 c
theorem oK{m:List (Key×Int)}(f:kE w b m)(k:Int)(s:ByteArray):(Instr.lookup 116 (.map (some b)) (.agg #[k,s]) true).run prog w=.ok (.tuple #[.int .i64 ((look m (k,s)).getD 0),.bool (look m (k,s)).isSome]) w:=by
 obtain⟨e,h,d,g⟩:=f;unfold Instr.lookup;simp only[U8,Uf uI,U6];rcases pI (k,s) w e.toList m g with⟨c,a⟩|⟨j,i,c,a⟩
 . simp only[lK]at a;simp[getObj,Sem.run,d,lQ,a,c,go_sem]
 . simp only[lK]at a;simp[getObj,Sem.run,d,lQ,a,c,go_sem]
theorem wV{m:List (Key×Int)}(f:kE w b m)(k:Int)(s:ByteArray):(Instr.lookup 116 (.map (some b)) (.agg #[k,s]) false).run prog w=.ok (.int .i64 ((look m (k,s)).getD 0)) w:=by
 obtain⟨e,h,d,g⟩:=f;unfold Instr.lookup;simp only[U8,Uf uI,U6];rcases pI (k,s) w e.toList m g with⟨c,a⟩|⟨j,i,c,a⟩
 . simp only[lK]at a;simp[getObj,Sem.run,d,lQ,a,c,go_sem]
 . simp only[lK]at a;simp[getObj,Sem.run,d,lQ,a,c,go_sem]
theorem zZ{m:List (Key×Int)}(l:kE w b m)(k:Int)(s:ByteArray)(v:Int)(i:look m (k,s)=none):∃a,(Instr.mapUpdate 116 (.map (some b)) (.agg #[k,s]) v).run prog w=.ok () a/\kE a b (m++[((k,s),v)])/\Kp (·=b) w a/\a.heap.size=w:=by
 obtain⟨e,d,g,h⟩:=l;refine⟨{w with heap:=w.heap.setIfInBounds b (.map (e.push {key:=.agg #[k,s],val:=v,born:=d}) (d+1))},?_,?_,?_,by simp⟩
 . unfold Instr.mapUpdate;simp only[U8,Uf uI,U6];rcases pI (k,s) w e.toList m h with⟨f,c⟩|⟨v,r,f,c⟩
   . simp only[lK]at c;simp[getObj,setObj,Sem.run,g,lQ,c,go_sem]
   . rw[f]at i;cases i
 . have n:=(Tg.1 g).1;refine⟨_,_,by simp[n];exact⟨rfl,rfl⟩,?_⟩;simp[h,rR,lK]
 . refine⟨rfl,rfl,rfl,by simp,fun q p o=>?_⟩;simp only[VA];rw[Tt (fun j=>o j.symm)]
theorem lW{f:Array Oper}{rest:List Oper}{d:Oper}{a:Act}{Q:Exit->Act->World->Prop}(j:d.guard=none) {e x y:Operand} (o:d.op=Op.mapUpdate 116 e x y) (b:Nat) (m:List (Key×Int)) (k:Int) (s:ByteArray) (v:Int)(l:a.eval e=.map (some b)) (r:a.eval x=.agg #[k,s]) (q:a.eval y=.int .i64 v) (g:kE w b m) (n:look m (k,s)=none)(h:∀c,kE c b (m++[((k,s),v)])->Kp (·=b) w c->c.heap.size=w->wpList prog f Q rest (a.put d.dst undef) c):wpList prog f Q (d::rest) a w:=by
 refine VS j fun A i=>?_;obtain⟨c,p,t,u,z⟩:=zZ g k s v n;unfold Oper.wp;simp[execOp,o,l,r,q,p,Result.andThen];exact i _ _ (h c t u z)
structure jk where
 L:Nat
 O:Nat
 A:Nat
 D:Nat
structure ji(w:World)(l:jk)(p:iZ):Prop where
 ok:kQ p=true
 ord:l.O<l.A/\l.A<l.D/\l.D<l.L
 blk:∃a cap,hZ w l.L 118 #[.slice a p.length cap,.map (some l.O),.map (some l.A),.map (some l.D)]/\SliceOf 2 ja w (· <l.O) (.slice a p.length cap) p
 own:∃m,kE w l.O m/\∀k s,look m (k,s)=(vZ p ⟨k,s⟩).map Int.ofNat
 ask:∃m,kE w l.A m/\∀k s,look m (k,s)=zK p k s
 laid:∃m,kE w l.D m/\∀k s v,look m (k,s)=some v->v=if ko p ⟨k,s⟩then 1 else 2
theorem ji.lt{l:jk}(a:ji w l p):l.L<w:=by
 obtain⟨c,d,b,_⟩:=a.blk;exact b.lt
theorem ji.keep{g: World}{l:jk}(a:ji w l p)(c:∀f,f<=l.L->g.heap[f]?=w.heap[f]?):ji g l p:=by
 obtain⟨r,s,t⟩:=a.ord;refine⟨a.ok,a.ord,?_,?_,?_,?_⟩
 . obtain⟨h,j,k,n⟩:=a.blk;exact⟨h,j,k.keep (c _ (T9 _)),n.keep ja.stays (fun i q u o m=>(Un (c i Zm)).trans m) fun _ a=>a⟩
 . obtain⟨e,d,b⟩:=a.own;exact⟨e,d.keep (c _ Zm),b⟩
 . obtain⟨e,d,b⟩:=a.ask;exact⟨e,d.keep (c _ Zm),b⟩
 . obtain⟨e,d,b⟩:=a.laid;exact⟨e,d.keep (c _ Zm),b⟩
theorem ji.kp{l:jk}(b:ji w l p)(e:Kp D w c)(d:∀a,a<=l.L->¬D a):ji c l p:=
 b.keep fun a f=>e.block a (SX b.lt) (d a f)
theorem ji.ext{a: World}{l:jk}(b:ji w l p)(c:Ext w a):ji a l p:=b.kp c fun _ _ d=>d
theorem ji.GK{l:jk}(e:ji w l p):∀a,Ext w a->∀b c,(Instr.lookup 116 (.map (some l.O)) (.agg #[.int .i64 b,.string c]) true).run prog a=.ok (.tuple #[.int .i64 (((vZ p ⟨b,c⟩).map Int.ofNat).getD 0),.bool (vZ p ⟨b,c⟩).isSome]) a:=by
 intro a f b c;obtain⟨i,g,d⟩:=e.own;rw[oK (g.kp f fun h=>h),d];simp
theorem ji.NK{l:jk}(e:ji w l p):∀a,Ext w a->∀b c,(Instr.lookup 116 (.map (some l.O)) (.agg #[.int .i64 b,.string c]) false).run prog a=.ok (.int .i64 (((vZ p ⟨b,c⟩).map Int.ofNat).getD 0)) a:=by
 intro a f b c;obtain⟨i,g,d⟩:=e.own;rw[wV (g.kp f fun h=>h),d]
theorem ji.GJ{l:jk}(e:ji w l p):∀a,Ext w a->∀b c,(Instr.lookup 116 (.map (some l.A)) (.agg #[.int .i64 b,.string c]) true).run prog a=.ok (.tuple #[.int .i64 ((zK p b c).getD 0),.bool (zK p b c).isSome]) a:=by
 intro a f b c;obtain⟨i,g,d⟩:=e.ask;rw[oK (g.kp f fun h=>h),d]
theorem ji.cells{l:jk}(f:ji w l p):∃c d,SliceOf 2 ja w (· <l.O) (.slice c p.length d) p/\(∀a,Ext w a->a.cell? l.L=some (.slice c p.length d))/\(∀a,Ext w a->a.cell? (l.L,1)=some (.map (some l.O)))/\(∀a,Ext w a->a.cell? (l.L,2)=some (.map (some l.A)))/\(∀a,Ext w a->a.cell? (l.L,3)=some (.map (some l.D))):=by
 obtain⟨c,d,e,g⟩:=f.blk;exact⟨c,d,g,fun a b=>Kp.je b (e.c 0 _ rfl),fun a b=>Kp.je b (e.c 1 _ rfl),fun a b=>Kp.je b (e.c 2 _ rfl),fun a b=>Kp.je b (e.c 3 _ rfl)⟩
theorem LY(a:isNum op=true):op=1\/op=2\/op=3\/op=11\/op=12\/op=13:=by
 simpa [isNum,or_assoc]using a
theorem FE(a:qZ op=true):op=6\/op=15:=by
 simpa [qZ,or_assoc]using a
theorem FX(a:sW op=true):op=7\/op=8\/op=9:=by
 simpa [sW,or_assoc]using a
theorem FZ(a:uS op=true):op=4\/op=5\/op=10\/op=14:=by
 simpa [uS,or_assoc]using a
theorem N8(a:isNum op=false)(b:qZ op=false)(c:sW op=false)(d:uS op=false):(¬op=1/\¬op=2/\¬op=3/\¬op=4/\¬op=5/\¬op=6/\¬op=7/\¬op=8)/\¬op=9/\¬op=10/\¬op=11/\¬op=12/\¬op=13/\¬op=14/\¬op=15:=by
 simp[isNum,qZ,sW,uS]at a b c d;omega
theorem Nn(b:isNum op=true):Calls prog 230 #[.agg #[op,a,s,m]] w fun c d=>c=.returned (.iface 363 (.agg #[op,a]))/\Ext w d:=by
 rcases LY b with rfl|rfl|rfl|rfl|rfl|rfl
 all_goals
  clear b;go_enter func230,ntmps230;go_wp2;go_ret;exact⟨rfl,(jw _)⟩
theorem Nk(b:qZ op=true):Calls prog 230 #[.agg #[op,a,s,m]] w fun c d=>c=.returned (.iface 365 (.agg #[op,s]))/\Ext w d:=by
 rcases FE b with rfl|rfl
 all_goals
  clear b;go_enter func230,ntmps230;go_wp2;go_ret;exact⟨rfl,(jw _)⟩
theorem Nl(b:sW op=true):Calls prog 230 #[.agg #[op,a,s,m]] w fun c d=>c=.returned (.iface 367 (.agg #[op,s,m]))/\Ext w d:=by
 rcases FX b with rfl|rfl|rfl
 all_goals
  clear b;go_enter func230,ntmps230;go_wp2;go_ret;exact⟨rfl,(jw _)⟩
theorem Np(b:uS op=true):Calls prog 230 #[.agg #[op,a,s,m]] w fun c d=>c=.returned (.iface 369 (.agg #[op]))/\Ext w d:=by
 rcases FZ b with rfl|rfl|rfl|rfl
 all_goals
  clear b;go_enter func230,ntmps230;go_wp2;go_ret;exact⟨rfl,(jw _)⟩
theorem Po(b:isNum op=false)(c:qZ op=false)(d:sW op=false)(e:uS op=false):Calls prog 230 #[.agg #[op,a,s,m]] w fun f g=>f=.returned .nilIface/\Ext w g:=by
 obtain⟨⟨h,i,j,k,l,n,o,p⟩,q,r,t,u,v,x,y⟩:=N8 b c d e;clear b c d e;go_enter func230,ntmps230;go_wp2;go_ret;exact⟨rfl,(jw _)⟩
theorem EF(x:Value)(w:World):(Instr.typeAssert (.iface 363 x) 20 369 true).run prog w=.ok (.tuple #[.agg #[Tc],.bool false]) w:=by kernel_rfl
theorem Ez(x:Value)(w:World):(Instr.typeAssert (.iface 365 x) 20 369 true).run prog w=.ok (.tuple #[.agg #[Tc],.bool false]) w:=by kernel_rfl
theorem ED(x:Value)(w:World):(Instr.typeAssert (.iface 367 x) 20 369 true).run prog w=.ok (.tuple #[.agg #[Tc],.bool false]) w:=by kernel_rfl
theorem EG(x:Value)(w:World):(Instr.typeAssert (.iface 369 x) 20 369 true).run prog w=.ok (.tuple #[x,.bool true]) w:=by kernel_rfl
theorem EE(x:Value)(w:World):(Instr.typeAssert (.iface 363 x) 20 363 true).run prog w=.ok (.tuple #[x,.bool true]) w:=by kernel_rfl
theorem Ey(x:Value)(w:World):(Instr.typeAssert (.iface 365 x) 20 363 true).run prog w=.ok (.tuple #[.agg #[Tc,Tc],.bool false]) w:=by kernel_rfl
theorem EC(x:Value)(w:World):(Instr.typeAssert (.iface 367 x) 20 363 true).run prog w=.ok (.tuple #[.agg #[Tc,Tc],.bool false]) w:=by kernel_rfl
theorem Ex(x:Value)(w:World):(Instr.typeAssert (.iface 365 x) 20 365 true).run prog w=.ok (.tuple #[x,.bool true]) w:=by kernel_rfl
theorem EA(x:Value)(w:World):(Instr.typeAssert (.iface 367 x) 20 365 true).run prog w=.ok (.tuple #[.agg #[Tc,none_],.bool false]) w:=by kernel_rfl
theorem EB(x:Value)(w:World):(Instr.typeAssert (.iface 367 x) 20 367 true).run prog w=.ok (.tuple #[x,.bool true]) w:=by kernel_rfl
theorem Gu:Calls prog 231 #[.iface 363 (.agg #[op,a])] w fun b c=>b=.returned (.agg #[op,a,none_,none_])/\Ext w c:=by
 have d:=EF (.agg #[op,a]);have e:=EE (.agg #[op,a]);go_enter func231,ntmps231;go_wp2;refine Cv (v:=.agg #[op,a,none_,none_]) (by simp[results,results231,go_sem]) rfl ?_;exact⟨rfl,kx⟩
theorem Gt:Calls prog 231 #[.iface 365 (.agg #[op,s])] w fun a b=>a=.returned (.agg #[op,Tc,s,none_])/\Ext w b:=by
 have c:=Ez (.agg #[op,s]);have d:=Ey (.agg #[op,s]);have e:=Ex (.agg #[op,s]);go_enter func231,ntmps231;go_wp2;refine Cv (v:=.agg #[op,Tc,s,none_]) (by simp[results,results231,go_sem]) rfl ?_;exact⟨rfl,kx⟩
theorem KF:Calls prog 231 #[.iface 367 (.agg #[op,s,m])] w fun a b=>a=.returned (.agg #[op,Tc,s,m])/\Ext w b:=by
 have c:=ED (.agg #[op,s,m]);have d:=EC (.agg #[op,s,m]);have e:=EA (.agg #[op,s,m]);have f:=EB (.agg #[op,s,m]);go_enter func231,ntmps231;go_wp2;refine Cv (v:=.agg #[op,Tc,s,m]) (by simp[results,results231,go_sem]) rfl ?_;exact⟨rfl,kx⟩
theorem CV:Calls prog 231 #[.iface 369 (.agg #[op])] w fun a b=>a=.returned (.agg #[op,Tc,none_,none_])/\Ext w b:=by
 have c:=EG (.agg #[op]);go_enter func231,ntmps231;go_wp2;refine Cv (v:=.agg #[op,Tc,none_,none_]) (by simp[results,results231,go_sem]) rfl ?_;exact⟨rfl,kx⟩
theorem LZ(op:Int)(w:World):Calls prog 245 #[op] w fun d g=>d=.returned (.tuple #[(rY op),(sO op)])/\w=g:=by
 by_cases a:op=1
 . subst a;go_enter func245,ntmps245;go_wp2;go_ret2;exact⟨rfl,rfl⟩
 by_cases e:op=2
 . subst e;go_enter func245,ntmps245;go_wp2;go_ret2;exact⟨rfl,rfl⟩
 by_cases f:op=3
 . subst f;go_enter func245,ntmps245;go_wp2;go_ret2;exact⟨rfl,rfl⟩
 . have b:rY op=0:=Tt a;have c:sO op=15:=by unfold sO;rw[Tt a,Tt Zm]
   rw[b,c];clear b c;go_enter func245,ntmps245;go_wp2;go_ret2;exact⟨rfl,rfl⟩
theorem zR:Calls prog 232 #[.iface 363 (.agg #[op,a])] w fun b d=>b=.returned (.bool (decide (rY op<=a)&&decide (a<=sO op)))/\Ext w d:=by
 have i:=EF (.agg #[op,a]);have j:=EE (.agg #[op,a]);generalize f:rY op=l;generalize g:sO op=m;have c:=LZ op;rw[f,g]at c;have e:=Zy c;clear c f g;by_cases h:l<=a
 . go_enter func232,ntmps232;go_wp2_with (go_at_call 245;refine(e _).mono ?_;rintro b d ⟨rfl,rfl⟩);go_ret;exact⟨hQ (by rw[Tz h];simp),kx⟩
 . go_enter func232,ntmps232;go_wp2_with (go_at_call 245;refine(e _).mono ?_;rintro b d ⟨rfl,rfl⟩);go_ret;exact⟨hQ (by rw[SL (p:=l<=a) Zm];simp),kx⟩
theorem zQ:Calls prog 232 #[.iface 365 (.agg #[op,s])] w fun a b=>a=.returned (.bool (jJ s))/\Ext w b:=by
 have c:=Ez (.agg #[op,s]);have d:=Ey (.agg #[op,s]);have e:=Ex (.agg #[op,s]);go_enter func232,ntmps232;go_wp2_with (go_at_call 64;refine(Be).mono ?_;rintro a b ⟨rfl,rfl⟩);go_ret;exact⟨rfl,kx⟩
theorem Dr:Calls prog 232 #[.iface 367 (.agg #[op,s,m])] w fun a b=>a=.returned (.bool (jJ s&&jJ m))/\Ext w b:=by
 have e:=ED (.agg #[op,s,m]);have f:=EC (.agg #[op,s,m]);have g:=EA (.agg #[op,s,m]);have h:=EB (.agg #[op,s,m]);cases c:jJ s
 all_goals
  have d:=Zy c;clear c;go_enter func232,ntmps232;go_wp2_with fail;refine(Be).mono ?_;rintro a b ⟨rfl,rfl⟩;rw[d.o]
 . go_wp2;go_ret;exact⟨rfl,kx⟩
 . go_wp2_with (go_at_call 64;refine(Be).mono ?_;rintro a b ⟨rfl,rfl⟩);go_ret;exact⟨rfl,kx⟩
theorem wK:Calls prog 232 #[.iface 369 (.agg #[op])] w fun a b=>a=.returned (.bool true)/\Ext w b:=by
 have c:=EG (.agg #[op]);go_enter func232,ntmps232;go_wp2;go_ret;exact⟨rfl,kx⟩
end Go.Proofs.YtlhgbjbkjalfjaaGreat
namespace Go.Proofs.YtlhgbjbkjalfjaaGreat.M
variable {n: ByteArray}{c: Class}{t: Fr}{k: Int}{m: Method}{i: Nat}{q r: Ref}{s: St}{v: Val}{p: iZ}{x: rH}
theorem Ei:∀{f:Nat} {a:List Int} {k:Int},a.getLastD 0=k->(mO p n f a k).2=1→
    zK p ((mO p n f a k).1.getLastD 0) n=none
 |0,_,_,_,h=>by simp[mO]at h
 |f+1,a,k,hl,h=>by
  unfold mO at h |-;split at h
  . rename_i c;split at h
    . rename_i b;simp only[b,U2];rw[hl];exact c
    . simp at h
  . rename_i next c
    split at h
    . simp at h
    . rename_i b;simp only[b,TA,Vn];exact Ei Zl h
theorem AY(b:(resolve p k n).2=1):(resolve p k n).1.name=n/\(path p k n).2=1/\(resolve p k n).1.keeper=(path p k n).1.getLastD 0:=by
 unfold resolve at b |-;split at b
 . rename_i a;rw[Tv a];exact⟨rfl,a,rfl⟩
 . rename_i a;exact absurd b a
theorem GX(b:(resolve p k n).2=1):resolve p (resolve p k n).1.keeper (resolve p k n).1.name=((resolve p k n).1,1):=by
 obtain⟨e,a,f⟩:=AY b;obtain⟨j,c⟩:=l8 b;have h:=CS c;have g:zK p (resolve p k n).1.keeper (resolve p k n).1.name=none:=by
  rw[e,f];unfold path at a |-;split at a
  . rename_i i;rw[Tv i];exact Ei rfl a
  . simp at a
 have d:path p (resolve p k n).1.keeper (resolve p k n).1.name=([(resolve p k n).1.keeper],1):=by
  unfold path;rw[Tv (Gs.2 h)];unfold mO;rw[g];simp only;rw[Tv (by unfold owned;show(cls? p (resolve p k n).1).isSome=true;rw[c];rfl)]
 generalize (resolve p k n).1=x at d;unfold resolve;rw[d];rfl
theorem Ie{x:Ref}(f:resolve p x.keeper x.name=(x,1))(h:∃b a,ky p b x=some a/\a.length<=6):nT p x=true/\∃b a,ky p b x=some a/\chain p x=a:=by
 obtain⟨b,a,c,g⟩:=h;have d:uC p x=some a:=wG _ _ _ c 6 g;have e:nT p x=true:=by
  unfold nT find;rw[f];simp[d]
 exact⟨e,b,a,c,by unfold chain;rw[Tv e,d];rfl⟩
theorem sF(a:nT p r=true):resolve p r.keeper r.name=(r,1)/\∃c,uC p r=some c/\chain p r=c:=by
 have g:=a;unfold nT find at a;by_cases b:(resolve p r.keeper r.name).2=1
 . rw[Tv b]at a;split at a
   . rename_i e;simp at a;have d:resolve p r.keeper r.name=(r,1):=Prod.ext a b;rw[d]at e;obtain⟨c,f⟩:=Vu.1 e;exact⟨d,c,f,by unfold chain;rw[Tv g,f];rfl⟩
   . simp at a
 . rw[Tt b]at a;simp at a;exact absurd a.1 b
theorem Bq:∀(f:Nat) (r:Ref) (l:List Ref),ky p f r=some l->resolve p r.keeper r.name=(r,1)->∀c∈l,resolve p c.keeper c.name=(c,1):=by
 intro f;induction f with
 |zero=>intro r l a;simp[ky]at a
 |succ f h=>
  intro r l a e c b;unfold ky at a;split at a
  . cases a;simp at b;subst b;exact e
  . split at a
    . rename_i g;cases d:ky p f (resolve p r.keeper (jl p r)).1 with
      |none=>rw[d]at a;simp at a
      |some i=>
       rw[d]at a;simp at a;subst a;rcases Ud.1 b with rfl|b
       . exact e
       . exact h _ _ d (GX g) c b
    . cases a
theorem vS{x: Ref}(a:x∈chain p r):nT p x=true/\∃n,chain p r=n++chain p x:=by
 have l:nT p r=true:=by
  unfold chain at a;split at a
  . rename_i b;exact b
  . simp at a
 obtain⟨h,m,b,j⟩:=sF l;rw[j]at a |-;obtain⟨d,k⟩:=VE a;obtain⟨i,c⟩:=uD _ _ _ b d x k;have q:=Cc _ _ _ b;obtain⟨e,o,s,f,g⟩:=Ie (Bq _ _ _ b h x a) ⟨i,_,c,by simp;omega⟩;refine⟨e,m.take d,?_⟩;rw[g,Ce f c,V9]
theorem wE(a:nT p r=true):∃d,chain p r=r::d:=by
 obtain⟨e,f,b,c⟩:=sF a;rw[c];exact wF _ _ _ b
theorem ng{x: Ref}(c:x∈chain p r):∃b,cls? p x=some b:=by
 obtain⟨a,_⟩:=sF (vS c).1;have:=l8 (p:=p) (k:=x.keeper) (n:=x.name) (by rw[a]);rwa[a]at this
def Aq(p:iZ)(r:Ref):Nat:=(lG p (chain p r).reverse []).length
theorem Ay(p:iZ):∀(a:List Ref) (b:List rF),(lG p a b).length=b.length+(a.map fun c=>(cls p c).fields.length).sum:=by
 intro a;induction a with
 |nil=>intro b;simp[lG]
 |cons c e d=>intro b;unfold lG;rw[d,sM];simp;omega
theorem Gr(p:iZ)(c:Ref):∀(a K:List Ref) (n:Nat),c ∉ a->pq p c (a++c::K) n=n+(a.map fun c=>(cls p c).fields.length).sum:=by
 intro a;induction a with
 |nil=>intro K n _;simp[pq]
 |cons f g e=>
  intro K n b;simp only[Ud,not_or]at b;simp only[TF,pq];rw[Tt (fun d=>b.1 d.symm),e _ _ b.2];simp;omega
theorem Gy{f:rF}(g:(layout p r)[i]?=some f):i<Aq p f.of:=by
 obtain⟨_,k,_,q,n,h,b,_⟩:=yS g;obtain⟨j,s,l⟩:=vS k;obtain⟨m,a⟩:=wE j;have c:=Cb p f.of;rw[a,Wd]at c;have e:oI p f.of r=((m.reverse).map fun d=>(cls p d).fields.length).sum:=by
  unfold oI;rw[l,a,Wz,List.reverse_cons,U1,List.singleton_append,Gr _ _ _ _ _ (by simpa using c.1),Tm]
 have o:=(Tw.1 h).1;unfold Aq;rw[Ay,a,List.reverse_cons,TB,List.sum_append];simp;rw[e]at b;simp at b;omega
theorem Jf{a top:Ref}(d:ko p a=true)(b:under p a top=true):Aq p top<=(layout p a).length:=by
 unfold under at b;obtain⟨_,f,e⟩:=vS (by simpa using b);unfold layout Aq;rw[Tv d,e,Wz,xw];obtain⟨g,c⟩:=Gx p f.reverse (lG p (chain p top).reverse []);rw[c];simp
theorem Ak(a:ko p r=true):nT p r=true/\r∈chain p r:=by
 have b:nT p r=true:=by
  unfold ko at a;cases b:nT p r
  . unfold chain at a;rw[b]at a;simp at a
  . rfl
 obtain⟨d,c⟩:=wE b;exact⟨b,by rw[c];simp⟩
theorem Ci{m:ByteArray}:∀{l:List rF},(rT p k m r l).2=1->(rT p k m r l).1∈l
 |[],h=>by simp[rT]at h
 |f::l,h=>by
  unfold rT at h |-;split at h
  . rename_i a;rw[Tv a];split at h
    . rename_i b;rw[Tv b];simp
    . simp at h
  . rename_i a;rw[Tt a];exact TU _ (Ci h)
theorem FP{m: ByteArray}(a:(get p k n m).2=1):∃(r:Ref) (i:Nat),(layout p r)[i]?=some (get p k n m).1:=by
 unfold get at a |-;split at a
 . rename_i b;rw[Tv b];obtain⟨i,c⟩:=VE (Ci a);exact⟨_,i,c⟩
 . rename_i b;exact absurd a b
theorem Lh{m: ByteArray}(c:(get p k n m).2=1){a:Ref}(d:ko p a=true)(e:under p a (get p k n m).1.of=true):0<=(get p k n m).1.at_/\(get p k n m).1.at_.toNat<(layout p a).length:=by
 obtain⟨j,i,b⟩:=FP c;have f:=(yS b).2.2.1;have g:=Gy b;have h:=Jf d e;omega
theorem tY:∀{l:List Ref} {x:rH},sI p n l=some x->x.of∈l/\∃a:Nat,x.at_=a/\oC (cls p x.of) n=some a
 |[],x,h=>by simp[sI]at h
 |c::r,x,h=>by
  unfold sI at h;split at h
  . rename_i a e;cases h;exact⟨by simp,a,rfl,e⟩
  . obtain⟨b,d⟩:=tY h;exact⟨TU _ b,d⟩
theorem zU(b:pick p r n=some x):ko p r=true/\x.of∈chain p r/\∃i a d,x.at_=(i:Nat)/\cls? p x.of=some a/\a.methods[i]?=some d/\d.name=n/\method? p x=some d:=by
 unfold pick at b;split at b
 . rename_i l;obtain⟨f,i,g,c⟩:=tY b;obtain⟨a,h⟩:=ng f;have e:cls p x.of=a:=by unfold cls;rw[h];rfl
   rw[e]at c;unfold oC at c;rw[Uy]at c;obtain⟨j,k,_⟩:=c;exact⟨l,f,i,a,a.methods[i],g,h,Ou j,by simpa using k,by
    unfold method?;rw[g,Tv (Int.natCast_nonneg i),e];exact Ou j⟩
 . cases b
theorem qU{m: ByteArray}(a:(call p k n m).2=1):∃e,pick p e m=some (call p k n m).1:=by
 unfold call at a |-;split at a
 . rename_i b;rw[Tv b];cases c:pick p (jP p k n m).1 m with
   |none=>rw[c]at a;simp at a
   |some f=>
    rw[c]at a;refine⟨_,c.trans ?_⟩;simp only at a |-;split at a
    . rename_i d;rw[Tv d]
    . simp at a
 . rename_i b;exact absurd a b
theorem tC(b:kC p x=true):ko p x.of=true/\∃i a g,x.at_=(i:Nat)/\cls? p x.of=some a/\a.methods[i]?=some g/\method? p x=some g:=by
 unfold kC at b;simp only[Ty,Tq]at b;obtain⟨⟨d,h⟩,j⟩:=b;obtain⟨a,e⟩:=ng (Ak d).2;have c:cls p x.of=a:=by unfold cls;rw[e];rfl
 rw[c]at j;have f:x.at_.toNat<a.methods.length:=Zm
 exact⟨d,x.at_.toNat,a,a.methods[x.at_.toNat],Zm,e,Ou f,by
  unfold method?;rw[Tv h,c];exact Ou f⟩
structure Good(p:iZ)(s:St):Prop where
 heap:pE p s.heap=true
 frames:∀f∈s.frames,kZ p f s.heap.length=true
 nf:s.frames.length<=8
 outs:s.outs.length<=40
 sH:∀n∈s.outs,nZ n=true
 back:jS s.back s.heap.length=true
theorem jD{f:Fr}{n:Nat}:kZ p f n=true↔kC p f.of=true/\0<=f.pc/\f.pc<(method p f.of).code.length/\(f.locals.length:Int)=(method p f.of).locals/\(f.stack.length:Int)<=(method p f.of).stack/\(∀a∈f.locals,jS a n=true)/\(∀a∈f.stack,jS a n=true):=by
 unfold kZ;simp only[Ty,Tq,TY,and_assoc]
theorem nD{a:List qG}:pE p a=true↔a.length<=12/\∀b∈a,ko p b.of=true/\b.fields.length=(layout p b.of).length/\∀c∈b.fields,jS c a.length=true:=by
 unfold pE;simp only[Ty,Tq,TY,and_assoc]
theorem xg{n m:Nat}(a:jS v n=true)(e:n<=m):jS v m=true:=by
 unfold jS at*;split at a
 . rename_i b;rw[Tv b];exact a
 . rename_i b;rw[Tt b];split at a
   . rename_i c;rw[Tv c];exact a
   . rename_i c;rw[Tt c];split at a
     . rename_i d;rw[Tv d];simp only[Ty,Tq]at*;omega
     . cases a
theorem sJ{n:Nat}(a:jS v n=true)(b:v.kind=2):0<=v.n/\v.n<n:=by
 unfold jS at a;rw[b]at a;simpa using a
theorem zk{n:Nat}(a:jS v n=true)(b:v.kind=1): -9999<=v.n/\v.n<=9999:=by
 unfold jS nZ at a;rw[b]at a;simpa using a
theorem Aa(n:Nat):jS qQ n=true:=by simp[jS,qQ]
theorem Kg(n:Nat):jS lX n=true:=by simp[jS,lX]
theorem pJ(n:Nat)(a:nZ k=true):jS (mM k) n=true:=by
 unfold jS mM;simpa using a
theorem Ba(n:Nat)(a:0<=k)(b:k<n):jS ⟨2,k⟩ n=true:=by
 unfold jS;simp;omega
theorem yF{r:List Fr}(a:s.frames=r++[t]):top s=t:=by unfold top;rw[a];simp
theorem pO{r:List Fr}(a:s.frames=r++[t])(f:Fr->Fr):Eg s f={s with frames:=r++[f t]}:=by unfold Eg;rw[a];simp
theorem JJ(a:s.frames≠[]):∃b c,s.frames=b++[c]:=⟨s.frames.dropLast,s.frames.getLast a,(UO a).symm⟩
section
variable {p:iZ} {s:St} {r:List Fr} {t:Fr}
theorem Good.top(b:Good p s)(a:s.frames=r++[t]):kZ p t s.heap.length=true:=b.frames t (by rw[a];simp)
theorem Good.turn(a:Good p s)(c:s.frames=r++[t]){d:Fr}(f:kZ p d s.heap.length=true):Good p {s with frames:=r++[d]}:=by
 refine⟨a.heap,?_,?_,a.outs,a.sH,a.back⟩
 . intro e b;rcases TZ.1 b with b|b
   . exact a.frames e (by rw[c];exact List.mem_append_left _ b)
   . simp at b;subst b;exact f
 . have:=a.nf;rw[c]at this;simpa using this
def qD(p:iZ)(x:Int×St):Prop:=1<=x.1/\x.1<=10/\Good p x.2/\(x.1=1->x.2.frames≠[])/\x.2.status=1
theorem vV(c:Good p s)(b:s.frames=r++[t])(d:s.status=1){e:Int}(h0:0<=e):qD p (jump p e s):=by
 have g:=c.top b;have a:=jD.1 g;unfold jump;rw[yF b,pO b];split
 . exact⟨by simp,by simp,c,fun f=>by simp at f,d⟩
 . rename_i h;refine⟨by simp,by simp,c.turn b (jD.2 ⟨a.1,h0,by simp only;omega,a.2.2.2.1,a.2.2.2.2.1,a.2.2.2.2.2.1,a.2.2.2.2.2.2⟩),fun _=>by simp,d⟩
theorem sG(b:Good p s)(a:s.frames=r++[t])(c:s.status=1):qD p (next p s):=by
 have d:=jD.1 (b.top a);unfold next
 rw[yF a];exact vV b a c Zm
theorem ql(d:Good p s)(c:s.frames=r++[t])(e:s.status=1){v:Val}(g:jS v s.heap.length=true):qD p (push p v s):=by
 have a:=jD.1 (d.top c);unfold push;rw[yF c,pO c];split
 . exact⟨by simp,by simp,d,fun f=>by simp at f,e⟩
 . rename_i i;refine sG (r:=r) (t:={t with stack:=t.stack++[v]}) (d.turn c (jD.2 ⟨a.1,a.2.1,a.2.2.1,a.2.2.2.1,by simp;omega,a.2.2.2.2.2.1,?_⟩)) rfl e;intro h b;rcases TZ.1 b with b|b
   . exact a.2.2.2.2.2.2 h b
   . simp at b;subst b;exact g
theorem o9{c:Nat}(b:s.frames=r++[t]){vs:List Val}{d:St}(a:nk c s=some (vs,d)):
    c<=t.stack.length/\vs=t.stack.drop (t.stack.length - c)/\vs.length=c/\d={s with frames:=r++[{t with stack:=t.stack.take (t.stack.length - c)}]}:=by
 unfold nk at a;rw[yF b,pO b]at a;split at a
 . cases a
 . cases a;refine⟨Zm,rfl,by simp;omega,rfl⟩
theorem Good.popped(c:Good p s)(b:s.frames=r++[t])(n:Nat):Good p {s with frames:=r++[{t with stack:=t.stack.take n}]}:=by
 have a:=jD.1 (c.top b);refine c.turn b (jD.2 ⟨a.1,a.2.1,a.2.2.1,a.2.2.2.1,?_,a.2.2.2.2.2.1,fun e d=>a.2.2.2.2.2.2 e (Uv d)⟩);have:(t.stack.take n).length<=t.stack.length:=by simp;omega
 have:=a.2.2.2.2.1;simp only;omega
theorem uY{c:Nat}(e:Good p s)(b:s.frames=r++[t]){vs:List Val}{a:St}(h:nk c s=some (vs,a)):
    vs.length=c/\(∀d∈vs,jS d s.heap.length=true)/\Good p a/\a.frames=r++[{t with stack:=t.stack.take (t.stack.length - c)}]/\a.heap=s.heap/\a.outs=s.outs/\a.back=s.back/\a.status=s.status:=by
 obtain⟨j,f,g,rfl⟩:=o9 b h;refine⟨g,fun d i=>?_,e.popped b _,rfl,rfl,rfl,rfl,rfl⟩;subst f;exact(jD.1 (e.top b)).2.2.2.2.2.2 d (Vv i)
theorem Oj(i:Good p s)(f:s.frames=r++[t]){v:Val}{a:St}(b:pop s=some (v,a)):
    jS v s.heap.length=true/\Good p a/\a.frames=r++[{t with stack:=t.stack.take (t.stack.length - 1)}]/\a.heap=s.heap/\a.outs=s.outs/\a.back=s.back/\a.status=s.status:=by
 unfold pop at b;rw[Uk]at b;obtain⟨⟨j,k⟩,g,h⟩:=b;cases h;obtain⟨c,d,e⟩:=uY i f g;refine⟨?_,e⟩;match j,c with
 |[x],_=>exact d x Zl
theorem qD.bad{n:Int}(c:Good p s)(d:s.status=1)(e:1<n)(b:n<=10):qD p (n,s):=⟨by simp only;omega,b,c,fun a=>by simp only at a;omega,d⟩
theorem BG(v:Val)(q:Ref)(s:St):object p v q s=1\/(1<object p v q s/\object p v q s<=10):=by
 unfold object;split
 . right;decide
 . split
   . right;decide
   . split
     . left;rfl
     . right;decide
theorem uL(a:object p v q s=1):v.kind=2/\under p (vI s.heap v.n) q=true:=by
 unfold object at a;split at a
 . cases a
 . split at a
   . cases a
   . rename_i c;split at a
     . rename_i b;exact⟨Zm,b⟩
     . cases a
theorem Pp{n:Int}(h0:0<=n)(c:n<s.heap.length):∃a,s.heap[n.toNat]?=some a/\a∈s.heap/\vI s.heap n=a.of/\qI s.heap n=a.fields:=by
 have b:n.toNat<s.heap.length:=Zm
 refine⟨s.heap[n.toNat],Ou b,Vq _,?_,?_⟩
 . unfold vI;rw[Ou b];rfl
 . unfold qI;rw[Ou b];rfl
theorem xS(o:Good p s){k:Int}{n m:ByteArray}(q:(get p k n m).2=1){v:Val}(t:jS v s.heap.length=true)(r:object p v (get p k n m).1.of s=1):0<=v.n/\v.n<s.heap.length/\0<=(get p k n m).1.at_/\∃a,s.heap[v.n.toNat]?=some a/\a∈s.heap/\qI s.heap v.n=a.fields/\(get p k n m).1.at_.toNat<a.fields.length:=by
 obtain⟨h,b⟩:=uL r;obtain⟨c,d⟩:=sJ t h;obtain⟨a,i,e,j,l⟩:=Pp (s:=s) c d;rw[j]at b;have:=(nD.1 o.heap).2 a e;obtain⟨f,g⟩:=Lh q this.1 b;exact⟨c,d,f,a,i,e,l,by rw[this.2.1];exact g⟩
theorem Nq(n:Nat):∀b∈(fresh p q).fields,jS b n=true:=by
 intro b a;unfold fresh at a;simp only[Vw]at a;obtain⟨c,_,rfl⟩:=a;split
 . exact pJ n Zn
 . exact Aa n
theorem Good.grow(a:Good p s){q:Ref}(v:ko p q=true)(x:s.heap.length<12):Good p {s with heap:=s.heap++[fresh p q]}:=by
 have e:s.heap.length<=(s.heap++[fresh p q]).length:=by simp
 obtain⟨_,t⟩:=nD.1 a.heap;refine⟨nD.2 ⟨by simp;omega,?_⟩,?_,a.nf,a.outs,a.sH,xg a.back e⟩
 . intro w b;rcases TZ.1 b with b|b
   . obtain⟨f,n,o⟩:=t w b;exact⟨f,n,fun d c=>xg (o d c) e⟩
   . simp at b;subst b;exact⟨v,by simp[fresh],Nq _⟩
 . intro r u;obtain⟨g,h,i,j,k,l,m⟩:=jD.1 (a.frames r u);exact jD.2 ⟨g,h,i,j,k,fun d c=>xg (l d c) e,fun d c=>xg (m d c) e⟩
theorem Good.set(c:Good p s){n a:Int}{v:Val}(q:jS v s.heap.length=true):Good p {s with heap:=ny s.heap n a v}:=by
 have d:(ny s.heap n a v).length=s.heap.length:=by simp[ny]
 obtain⟨k,l⟩:=nD.1 c.heap;refine⟨nD.2 ⟨by rw[d];exact k,?_⟩,?_,c.nf,c.outs,c.sH,?_⟩
 . intro w o;rw[d];obtain⟨r,b⟩:=VE o;unfold ny at b;rw[VD]at b;cases e:s.heap[r]? with
   |none=>rw[e]at b;simp at b
   |some t=>
    rw[e]at b;obtain⟨g,h,i⟩:=l t (RA e);simp at b;subst b;split
    . refine⟨g,by simpa using h,?_⟩;intro u f;rcases UG f with f|rfl
      . exact i u f
      . exact q
    . exact⟨g,h,i⟩
 . intro j m;simp only[d];exact c.frames j m
 . simp only[d];exact c.back
end
theorem zM(e:kQ p=true){r:Ref}{c:Class}(a:cls? p r=some c):rP c=true:=by
 unfold cls? at a;rw[VV]at a;obtain⟨g,f,d⟩:=a;have b:=FR e f;unfold lF at b;simp only[Ty]at b;exact sU b.1.2 c (Vb d)
theorem Ec(a:rP c=true):∀b∈c.methods,uK b=true:=by
 unfold rP at a;simp only[Ty]at a;exact sU a.2
theorem nQ(g:kQ p=true){x:rH}(d:kC p x=true):uK (method p x)=true/\method? p x=some (method p x):=by
 obtain⟨_,j,h,b,i,e,f,a⟩:=tC d;have c:method p x=b:=by unfold method;rw[a];rfl
 rw[c];exact⟨Ec (zM g e) b (RA f),a⟩
structure Kv(m:Method):Prop where
 args:(m.args.length:Int)+1<=m.locals
 Hr:m.args.length<=3
 locals:m.locals<=6
 OL:1<=m.stack
 stack:m.stack<=5
 RS:1<=m.code.length
 code:m.code.length<=16
 ins:∀i∈m.code,oP m i=true
 ret:nN m.ret=true
 kinds:∀k∈m.args,nN k=true
 maps:m.maps.length<=5
 xC:∀f∈m.maps,xC m f=true
theorem Cr:∀{l:List SMap} {n:Int},rW m n l=true->∀a∈l,xC m a=true
 |[],_,_=>by simp
 |x::r,n,h=>by
  unfold rW at h;simp only[Ty]at h;intro a b;rcases Ud.1 b with rfl|b
  . exact h.1.2
  . exact Cr h.2 a b
theorem tJ(a:uK m=true):Kv m:=by
 unfold uK codeOk yo at a;simp only[Ty,Tq,TY]at a;obtain⟨⟨⟨⟨⟨⟨⟨⟨⟨_,f⟩,g⟩,h⟩,i⟩,j⟩,k⟩,l⟩,⟨⟨n,b⟩,c⟩⟩,d,e⟩:=a;exact⟨i,f,j,k,l,n,b,c,g,h,d,Cr e⟩
theorem tT:∀{l k:List Ref},mH p (l++k)=true->mH p k=true/\∀b∈l,∀a∈k,pQ p b a=true
 |[],k,h=>⟨h,by simp⟩
 |x::l,k,h=>by
  simp only[TF,mH,Ty,TY]at h;obtain⟨e,f⟩:=tT h.2;refine⟨e,fun b c a d=>?_⟩;rcases Ud.1 c with rfl|c
  . exact h.1 a (VH _ d)
  . exact f b c a d
theorem KZ{x: Ref}(a:ko p r=true)(b:x∈chain p r):ko p x=true:=by
 obtain⟨c,f,d⟩:=vS b;obtain⟨g,e⟩:=wE c;unfold ko at a |-;simp only[Ty,Vl,List.isEmpty_eq_false_iff]at a |-;rw[d]at a;exact⟨by rw[e];simp,(tT a.2).1⟩
theorem Ff(a:oC c n=some i)(e:c.methods[i]?=some m):c.methods.find? (fun b=>b.name=n)=some m:=by
 unfold oC at a;have:∀(d:List Method) (i:Nat) (m:Method),d.findIdx? (fun b=>decide (b.name=n))=some i->d[i]?=some m->d.find? (fun b=>decide (b.name=n))=some m:=by
  intro d;induction d with
  |nil=>intro i m a;simp at a
  |cons b k h=>
   intro i m a e;rw[VY]at a;rw[List.find?_cons];cases f:decide (b.name=n)
   . rw[f]at a;simp only[Vn,TA,Uk]at a;obtain⟨j,g,rfl⟩:=a;exact h j m g (by simpa using e)
   . rw[f]at a;simp only[U2,TT]at a;subst a;simpa using e
 exact this _ _ _ a e
theorem BJ {j: Ref} {y: rH} (d : pick p r n = some x) (v : under p j x.of = true) (b : pick p j n = some y) : (method p y).args = (method p x).args := by
 have N:=d;have O:=b;unfold pick at d b;split at d
 . split at b
   . rename_i Z c;obtain⟨S,aa,g,k⟩:=tY d;obtain⟨T,ae,U,V⟩:=tY b;obtain⟨M,w,t⟩:=vS (p:=p) (r:=j) (x:=x.of) (by unfold under at v;simpa using v);obtain⟨R,u⟩:=wE M;have Y:=c;unfold ko at c;simp only[Ty]at c;rw[t]at c;obtain⟨_,_,i',A,Q,l,C,D,W,m⟩:=zU N;obtain⟨_,_,j',B,z,X,H,I,J,h⟩:=zU O;have F:method p x=Q:=by unfold method;rw[m];rfl
     have G:method p y=z:=by unfold method;rw[h];rfl
     rw[F,G];have o:cls p x.of=A:=by unfold cls;rw[C];rfl
     have K:cls p y.of=B:=by unfold cls;rw[H];rfl
     rw[t,u]at b;by_cases q:y.of∈w
     . have i:=(tT c.2).2 y.of q x.of (by rw[u];simp);unfold pQ at i;simp only[Ty,TY]at i;have f:=i.2 z (by rw[K];exact RA I);unfold l9 at f;rw[g]at l;have E:=Int.ofNat.inj l;subst E;rw[J,o,Ff (by rw[<-o];exact k) D]at f;simp only[Ty,Tq]at f;exact f.1.2
     . have:∀(e:List Ref),sI p n (e++x.of::R)=some y->y.of ∉ e->y=x:=by
        intro e;induction e with
        |nil=>
         intro a _;simp only[TW,sI,k]at a;cases a;obtain⟨xo,xa⟩:=x;simp at g;subst g;rfl
        |cons af e P=>
         intro a s;simp only[TF,sI]at a;split at a
         . cases a;simp at s
         . exact P a (fun L=>s (TU _ L))
       have:=this w b q;subst this;rw[m]at h;cases h;rfl
   . cases b
 . cases d
theorem qK(c:pick p r n=some x):kC p x=true:=by
 obtain⟨d,e,k,a,l,f,g,h,i,j⟩:=zU c;unfold kC;have b:cls p x.of=a:=by unfold cls;rw[g];rfl
 rw[KZ d e,f,b];have:=(Tw.1 h).1;simp;omega
section
variable {p:iZ} {s:St} {r:List Fr} {t:Fr}
theorem zP(i:kQ p=true)(a:Good p s)(d:s.status=1){lk:Bool}{x:rH}{vs:List Val}(g:kC p x=true)(j:∀e∈vs,jS e s.heap.length=true)(hl:(vs.length:Int)<=(method p x).locals):qD p (enter p lk x vs s):=by
 unfold enter;split
 . exact qD.bad a d Zn Zn
 . rename_i k;split
   . exact qD.bad a d Zn Zn
   . split
     . have f:=tJ (nQ i g).1;refine⟨by simp,by simp,⟨a.heap,?_,by simp;omega,a.outs,a.sH,a.back⟩,fun _=>by simp,d⟩;intro h b;rcases TZ.1 b with b|b
       . exact a.frames h b
       . simp only[U7]at b;subst b;refine jD.2 ⟨g,by simp,by simp only;have:=f.RS;omega,by simp;omega,by simp;have:=f.OL;omega,?_,by simp⟩;intro e c;rcases TZ.1 c with c|c
         . exact j e c
         . rw[List.mem_replicate]at c;rw[c.2];exact Kg _
     . exact qD.bad a d Zn Zn
theorem qJ{i:Ins}(c:oP m i=true):pM i=true/\((i.op=2\/i.op=3)->0<=i.a/\i.a<m.locals)/\((i.op=11\/i.op=12\/i.op=13)->0<=i.a/\i.a<m.code.length)/\(i.op=1->nZ i.a=true)/\(1<=i.op/\i.op<=15)/\((i.op=6\/i.op=15)->jJ i.name=true)/\((i.op=7\/i.op=8\/i.op=9)->jJ i.name=true/\jJ i.member=true):=by
 unfold oP at c;simp only[Ty]at c;have b:=c.1;refine⟨b,?_,?_,?_,?_,?_,?_⟩
 . intro a;have d:=c.2;rw[Tv a]at d;simp only[Tq]at d;unfold pM isNum at b;rcases a with a|a<;>rw[a]at b<;>simp[rY,sO]at b<;>omega
 . intro a;have d:=c.2;rw[Tt Zm,Tv a]at d;simp only[Tq]at d;unfold pM isNum at b;rcases a with a|a|a<;>rw[a]at b<;>simp[rY,sO]at b<;>omega
 . intro a;unfold pM isNum at b;rw[a]at b;simp[rY,sO]at b;unfold nZ;simp;omega
 . unfold pM isNum qZ sW uS at b;simp only[VZ,Uq]at b;repeat' split at b
   all_goals first|omega|cases b
 . intro a;unfold pM isNum qZ at b;rcases a with a|a<;>rw[a]at b<;>simp at b<;>exact b.2
 . intro a;unfold pM isNum qZ sW at b;rcases a with a|a|a<;>rw[a]at b<;>simp at b<;>exact⟨b.1.2,b.2⟩
theorem Dm (W : kQ p = true) (q : Good p s) (o : s.frames = r ++ [t]) (m : s.status = 1) {lk : Bool} {i : Ins} (hi : oP (method p t.of) i = true) : qD p (jH p lk i s) := by
 have h:∀A:Int,1<A->A<=10->qD p (A,s):=fun A j h2=>qD.bad q m j h2;obtain⟨_,i2,L,i4,i5,_,_⟩:=qJ hi;have Y:=jD.1 (q.top o);have y:∀{k d},pop s=some (k,d)->jS k s.heap.length=true/\Good p d/\d.frames=r++[{t with stack:=t.stack.take (t.stack.length - 1)}]/\d.heap=s.heap/\d.outs=s.outs/\d.back=s.back/\d.status=1:=fun e=>by
  obtain⟨f,a,b,g,l,n,c⟩:=Oj q o e;exact⟨f,a,b,g,l,n,c.trans m⟩
 unfold jH;by_cases E:i.op=1
 . rw[Tv E];exact ql q o m (pJ _ (i4 E))
 rw[Tt E];by_cases I:i.op=2
 . rw[Tv I];rw[yF o];split
   . exact h _ Zn Zn
   . refine ql q o m ?_;have af:i.a.toNat<t.locals.length:=by have:=i2 (.inl I);omega
     rw[Ou af];exact Y.2.2.2.2.2.1 _ (Vq _)
 rw[Tt I];by_cases P:i.op=3
 . rw[Tv P];split
   . exact h _ Zn Zn
   . rename_i k d e;obtain⟨f,a,b,g,l,n,c⟩:=y e;have z:=jD.1 (a.top b);rw[pO b];refine sG (r:=r) (a.turn b (jD.2 ⟨z.1,z.2.1,z.2.2.1,by simp;exact Y.2.2.2.1,z.2.2.2.2.1,?_,z.2.2.2.2.2.2⟩)) rfl c;intro ag J;rcases UG J with J|rfl
     . exact z.2.2.2.2.2.1 ag J
     . rw[g];exact f
 rw[Tt P];by_cases Q:i.op=4
 . rw [Tv Q]; split
   . rename_i ah ai d e;obtain⟨f,a,b,g,l,n,c,w⟩:=uY q o e;split
     . split
       . rename_i u;exact ql b g (w.trans m) (pJ _ u)
       . exact qD.bad b (w.trans m) Zn Zn
     . exact qD.bad b (w.trans m) Zn Zn
   . exact h _ Zn Zn
 rw[Tt Q];by_cases R:i.op=5
 . rw[Tv R];exact ql q o m (Aa _)
 rw[Tt R];by_cases S:i.op=6
 . rw[Tv S];split
   . rename_i B;split
     . exact h _ Zn Zn
     . rename_i aj;unfold pY at B;simp only[Ty]at B;refine ql (r:=r) (t:=t) (q.grow B.2 Zm) o m ?_;exact Ba _ Zl Zr
   . exact h _ Zn Zn
 rw[Tt S];by_cases T:i.op=7
 . rw [Tv T]; split
   . rename_i hg;split
     . exact h _ Zn Zn
     . rename_i k d e;obtain⟨f,a,b,g,l,n,c⟩:=y e;split
       . rename_i v;obtain⟨_,_,_,M,b1,Z,b3,b4⟩:=xS a hg (by rw[g];exact f) v;refine ql a b c ?_;rw[b3,Ou b4];exact((nD.1 a.heap).2 M Z).2.2 _ (Vq _)
       . rename_i v;rcases BG (p:=p) k (get p (top s).of.of.keeper i.name i.member).1.of d with j|j
         . exact absurd j v
         . exact qD.bad a c j.1 j.2
   . exact h _ Zn Zn
 rw[Tt T];by_cases U:i.op=8
 . rw [Tv U]; split
   . split
     . rename_i M k d e;obtain⟨f,a,b,g,l,n,c,w⟩:=uY q o e;have x:=w.trans m;split
       . split
         . exact sG (r:=r) (b.set (by rw[l];exact a k Zl)) g x
         . rename_i v;rcases BG (p:=p) M (get p (top s).of.of.keeper i.name i.member).1.of d with j|j
           . exact absurd j v
           . exact qD.bad b x j.1 j.2
       . exact qD.bad b x Zn Zn
     . exact h _ Zn Zn
   . exact h _ Zn Zn
 rw[Tt U];by_cases V:i.op=9
 . rw [Tv V]; split
   . rename_i B;split
     . rename_i vs d e;obtain⟨f,a,b,g,l,n,c,w⟩:=uY q o e;have x:=w.trans m;split
       . rename_i v;split
         . rename_i au K;obtain⟨o1,o2⟩:=uL v;obtain⟨ak,hq⟩:=qU B;have ae:=BJ hq o2 K;have hm:=tJ (nQ W (qK K)).1;refine zP W b x (qK K) (by rw[l];exact a) ?_;have:=hm.args;rw[f,<-ae];simpa using this
         . exact qD.bad b x Zn Zn
       . rename_i v;rcases BG (p:=p) (vs.headD lX) (call p (top s).of.of.keeper i.name i.member).1.of d with j|j
         . exact absurd j v
         . exact qD.bad b x j.1 j.2
     . exact h _ Zn Zn
   . exact h _ Zn Zn
 rw[Tt V];by_cases N:i.op=10
 . rw [Tv N]; split
   . exact h _ Zn Zn
   . rename_i k d e;obtain⟨f,a,b,g,l,n,c⟩:=y e;split
     . split
       . exact qD.bad (s:={d with back:=k}) ⟨a.heap,a.frames,a.nf,a.outs,a.sH,by rw[g];exact f⟩ c Zn Zn
       . rename_i u;have X:r≠[]:=by
          rintro rfl;rw[b]at u;simp at u
         obtain⟨C,D,rfl⟩:∃C D,r=C++[D]:=⟨r.dropLast,r.getLast X,(UO X).symm⟩;have hd:d.frames.dropLast=C++[D]:=by rw[b];simp
         refine ql (s:={d with frames:=d.frames.dropLast}) (r:=C) (t:=D) ⟨a.heap,?_,?_,a.outs,a.sH,a.back⟩ hd c (by rw[g];exact f)
         . intro aa hf;exact a.frames aa (List.dropLast_subset _ hf)
         . have:=a.nf;simp only[List.length_dropLast];omega
     . exact qD.bad a c Zn Zn
 rw[Tt N];by_cases F:i.op=11
 . rw [Tv F]; split
   . exact h _ Zn Zn
   . rename_i k d e;obtain⟨f,a,b,g,l,n,c⟩:=y e;split
     . split
       . exact vV a b c (L (.inl F)).1
       . exact sG a b c
     . exact qD.bad a c Zn Zn
 rw[Tt F];by_cases G:i.op=12
 . rw [Tv G]; split
   . exact h _ Zn Zn
   . rename_i k d e;obtain⟨f,a,b,g,l,n,c⟩:=y e;split
     . split
       . exact vV a b c (L (.inr (.inl G))).1
       . exact sG a b c
     . exact qD.bad a c Zn Zn
 rw[Tt G];by_cases H:i.op=13
 . rw[Tv H];exact vV q o m (L (.inr (.inr H))).1
 rw[Tt H];by_cases O:i.op=14
 . rw [Tv O]; split
   . exact h _ Zn Zn
   . rename_i k d e;obtain⟨f,a,b,g,l,n,c⟩:=y e;split
     . rename_i hk;split
       . rename_i v;refine sG (r:=r) (s:={d with outs:=d.outs++[k.n]}) ⟨a.heap,a.frames,a.nf,by simp;omega,?_,a.back⟩ b c;intro A u;rcases TZ.1 u with u|u
         . exact a.sH A u
         . simp at u;subst u;have:=zk f hk;unfold nZ;simp;omega
       . exact sG a b c
     . exact qD.bad a c Zn Zn
 rw[Tt O]
 . split
   . exact h _ Zn Zn
   . rename_i k d e;obtain⟨f,a,b,g,l,n,c⟩:=y e;split
     . split
       . exact ql a b c (by rw[g];exact f)
       . split
         . split
           . exact ql a b c (by rw[g];exact f)
           . exact qD.bad a c Zn Zn
         . exact qD.bad a c Zn Zn
     . exact qD.bad a c Zn Zn
structure Ad(p:iZ)(s:St):Prop where
 good:Good p s
 st:1<=s.status/\s.status<=10
 goes:s.status=1↔s.frames≠[]
theorem wm{p:iZ}{s:St}:CO p s=true↔Ad p s:=by
 unfold CO;simp only[Ty,Tq,TY,Uq];constructor
 . rintro⟨⟨⟨⟨⟨⟨⟨⟨⟨c,e⟩,j⟩,f⟩,g⟩,a⟩,h⟩,i⟩,b⟩,d⟩;refine⟨⟨b,i,g,f,h,d⟩,⟨c,e⟩,?_⟩;rw[UI]at a;simp only[Tq]at a;rw[<-a,Vs]
 . rintro⟨⟨b,i,g,f,h,d⟩,⟨c,e⟩,a⟩;refine⟨⟨⟨⟨⟨⟨⟨⟨⟨c,e⟩,(nD.1 b).1⟩,f⟩,g⟩,?_⟩,h⟩,i⟩,b⟩,d⟩;rw[UI];simp only[Tq];rw[a,Vs]
theorem qD.runs{x:Int×St}(c:qD p x):Ad p (end_ x.1 x.2):=by
 obtain⟨h,s⟩:=x;obtain⟨d,e,a,f,g⟩:=c;unfold end_;simp only at*;split
 . rename_i b;exact⟨a,Zm,by simp[g,f b]⟩
 . rename_i b;exact⟨⟨a.heap,by simp,by simp,a.outs,a.sH,a.back⟩,⟨d,e⟩,by simp[b]⟩
theorem Jc(f:kQ p=true)(hR:Ad p s)(g:s.status=1):∃r t c,s.frames=r++[t]/\kZ p t s.heap.length=true/\(method p t.of).code[t.pc.toNat]?=some c/\oP (method p t.of) c=true:=by
 obtain⟨r,t,a⟩:=JJ (hR.goes.1 g);have b:=hR.good.top a;obtain⟨d,h,i,_⟩:=jD.1 b;have e:t.pc.toNat<(method p t.of).code.length:=Zm
 exact⟨r,t,_,a,b,Ou e,(tJ (nQ f d).1).ins _ (Vq _)⟩
theorem MC(b:kQ p=true)(hR:Ad p s)(lk:Bool):Ad p (step p lk s):=by
 unfold step;split
 . rename_i c;obtain⟨r,t,f,a,_,d,e⟩:=Jc b hR c;refine qD.runs ?_;unfold stepped;rw[yF a,d];exact Dm b hR.good a c e
 . exact hR
end
end Go.Proofs.YtlhgbjbkjalfjaaGreat.M
namespace Go.Proofs.YtlhgbjbkjalfjaaGreat.PM
open Go Go.RowKit Tryz M
variable {v: Int}{b: Nat}{w: World}
abbrev Key:=Int×Int×ByteArray
def lK(r:Key):Value:=.agg #[.int .i64 r.1,.int .i64 r.2.1,.string r.2.2]
def rR(x:Key×Int):Value×Value:=(lK x.1,.int .i64 x.2)
def kE(w:World)(b:Nat)(m:List (Key×Int)):Prop:=
 ∃es clock,w.heap[b]?=some (.map es clock)/\es.toList.map (fun e=>(e.key,e.val))=m.map rR
def look(m:List (Key×Int))(k:Key):Option Int:=(m.find? fun x=>decide (k=x.1)).map Prod.snd
theorem uG{m:List (Key×Int)}{k:Key}(a:look m k=none):look (m++[(k,v)]) k=some v:=by
 unfold look at*;rw[Vk];cases b:m.find? fun c=>decide (k=c.1)
 . simp
 . rw[b]at a;simp at a
theorem tF{m:List (Key×Int)}{k a:Key}(b:a≠k):look (m++[(k,v)]) a=look m a:=by
 unfold look;rw[Vk];cases d:m.find? fun c=>decide (a=c.1)
 . simp[b]
 . rfl
theorem kE.lt{m:List (Key×Int)}(a:kE w b m):b<w:=by
 obtain⟨e,d,c,_⟩:=a;exact(Tg.1 c).1
theorem kE.keep{a: World}{m:List (Key×Int)}(f:kE w b m)(h:a.heap[b]?=w.heap[b]?):kE a b m:=by
 obtain⟨e,c,g,d⟩:=f;exact⟨e,c,h.trans g,d⟩
theorem kE.kp{D:Nat->Prop}{c: World}{m:List (Key×Int)}(a:kE w b m)(e:Kp D w c)(d:¬D b):kE c b m:=a.keep (e.block b a.lt d)
theorem kE.new(w:World):kE (w.alloc (.map #[] 0)) w []:=⟨#[],0,heap_alloc_new w _,rfl⟩
theorem vK(a b:Key)(w:World):(Op.equal 112 (lK a) (lK b)).run prog w=.ok (decide (a=b)) w:=by
 unfold Op.equal lK;show(Op.equalIn 10000 _ _ _).run _ w=_
 go_simp;obtain⟨e,f,c⟩:=a;obtain⟨g,h,d⟩:=b;have i:(c.toList=d.toList)↔c=d:=by
  rw[Ut,Ut];obtain⟨⟨m⟩⟩:=c;obtain⟨⟨n⟩⟩:=d;simp
 simp only[i,Wp];by_cases j:e=g<;>by_cases l:f=h<;>by_cases k:c=d<;>simp[j,k,l]
theorem lQ(a:Bool)(k b:Int)(s:ByteArray)(w:World):(Instr.checkKey a 10000 112 (.agg #[k,b,s])).run prog w=.ok () w:=by
 cases a<;>kernel_rfl
theorem uI:prog.underlying 155=some (.map 112 3):=underlying155
theorem DC:∃a,prog.underlying 112=some (.struct a):=⟨_,underlying112⟩
theorem tL(k:Key)(w:World):∀(a:List MapEntry) (m:List (Key×Int)) (i:Nat),a.map (fun c=>(c.key,c.val))=m.map rR→ (look m k=none/\(Instr.findAsking 112 (lK k) a i).run prog w=.ok none w)\/∃h q,look m k=some h/\(Instr.findAsking 112 (lK k) a i).run prog w=.ok (some (q,.int .i64 h)) w:=by
 intro a;induction a with
 |nil=>
  intro m i d;cases m with
  |nil=>exact .inl ⟨rfl,rfl⟩
  |cons b f=>simp at d
 | cons c a p =>
  intro m i d;cases m with
  |nil=>simp at d
  |cons b f=>
   simp only[UU,TH]at d;obtain⟨g,j⟩:=d;have l:c.key=lK b.1:=congrArg Prod.fst g;have o:c.val=.int .i64 b.2:=congrArg Prod.snd g;unfold Instr.findAsking;rw[l];simp only[U8,vK,U6];by_cases e:k=b.1
   . refine .inr ⟨b.2,i,by unfold look;rw[VO (by simp[e])];rfl,?_⟩;simp[e,o]
   . have n:look (b::f) k=look f k:=by unfold look;rw[VN (by simp[e])]
     rw[n,SL e];simpa using p f (i+1) j
theorem pI(k:Key)(w:World)(a:List MapEntry)(m:List (Key×Int))(c:a.map (fun b=>(b.key,b.val))=m.map rR):(look m k=none/\(Instr.findKey 112 (lK k) a).run prog w=.ok none w)\/∃d h,look m k=some d/\(Instr.findKey 112 (lK k) a).run prog w=.ok (some (h,.int .i64 d)) w:=by
 obtain⟨e,f⟩:=DC;unfold Instr.findKey;simp only[U8,Uf f,U6];cases a with
 |nil=>
  cases m with
  |nil=>exact .inl ⟨rfl,rfl⟩
  |cons j i=>simp at c
 |cons b a=>
  have g:Instr.findNow (.struct e) (lK k) (b::a) 0=none:=by simp[Instr.findNow,Instr.sameNow]
  rw[g];exact tL k w (b::a) m 0 c
theorem oK{m:List (Key×Int)}(g:kE w b m)(k c:Int)(s:ByteArray):(Instr.lookup 155 (.map (some b)) (.agg #[k,c,s]) true).run prog w=.ok (.tuple #[.int .i64 ((look m (k,c,s)).getD 0),.bool (look m (k,c,s)).isSome]) w:=by
 obtain⟨f,i,e,h⟩:=g;unfold Instr.lookup;simp only[U8,Uf uI,U6];rcases pI (k,c,s) w f.toList m h with⟨d,a⟩|⟨l,j,d,a⟩
 . simp only[lK]at a;simp[getObj,Sem.run,e,lQ,a,d,go_sem]
 . simp only[lK]at a;simp[getObj,Sem.run,e,lQ,a,d,go_sem]
theorem wV{m:List (Key×Int)}(g:kE w b m)(k d:Int)(s:ByteArray):(Instr.lookup 155 (.map (some b)) (.agg #[k,d,s]) false).run prog w=.ok (.int .i64 ((look m (k,d,s)).getD 0)) w:=by
 obtain⟨f,i,e,h⟩:=g;unfold Instr.lookup;simp only[U8,Uf uI,U6];rcases pI (k,d,s) w f.toList m h with⟨c,a⟩|⟨l,j,c,a⟩
 . simp only[lK]at a;simp[getObj,Sem.run,e,lQ,a,c,go_sem]
 . simp only[lK]at a;simp[getObj,Sem.run,e,lQ,a,c,go_sem]
theorem zZ{m:List (Key×Int)}(n:kE w b m)(k a:Int)(s:ByteArray)(v:Int)(j:look m (k,a,s)=none):∃c,(Instr.mapUpdate 155 (.map (some b)) (.agg #[k,a,s]) v).run prog w=.ok () c/\kE c b (m++[((k,a,s),v)])/\Kp (·=b) w c/\c.heap.size=w:=by
 obtain⟨f,e,h,i⟩:=n;refine⟨{w with heap:=w.heap.setIfInBounds b (.map (f.push {key:=.agg #[k,a,s],val:=v,born:=e}) (e+1))},?_,?_,?_,by simp⟩
 . unfold Instr.mapUpdate;simp only[U8,Uf uI,U6];rcases pI (k,a,s) w f.toList m i with⟨g,d⟩|⟨v,t,g,d⟩
   . simp only[lK]at d;simp[getObj,setObj,Sem.run,h,lQ,d,go_sem]
   . rw[g]at j;cases j
 . have o:=(Tg.1 h).1;refine⟨_,_,by simp[o];exact⟨rfl,rfl⟩,?_⟩;simp[i,rR,lK]
 . refine⟨rfl,rfl,rfl,by simp,fun r q p=>?_⟩;simp only[VA];rw[Tt (fun l=>p l.symm)]
theorem xK(w:World){g:Array Oper}{rest:List Oper}{e:Oper}{a:Act}{Q:Exit->Act->World->Prop}(l:e.guard=none) (f x y:Operand) (p:e.op=Op.mapUpdate 155 f x y) (b:Nat) (m:List (Key×Int)) (k d:Int) (s:ByteArray) (v:Int)(n:a.eval f=.map (some b)) (t:a.eval x=.agg #[k,d,s]) (r:a.eval y=.int .i64 v) (h:kE w b m) (o:look m (k,d,s)=none)(i:∀c,kE c b (m++[((k,d,s),v)])->Kp (·=b) w c->c.heap.size=w->wpList prog g Q rest (a.put e.dst undef) c):wpList prog g Q (e::rest) a w:=by
 refine VS l fun B j=>?_;obtain⟨c,q,u,z,A⟩:=zZ h k d s v o;unfold Oper.wp;simp[execOp,p,n,t,r,q,Result.andThen];exact j _ _ (i c u z A)
end Go.Proofs.YtlhgbjbkjalfjaaGreat.PM
namespace Go.Proofs.YtlhgbjbkjalfjaaGreat.M
variable {n: ByteArray}{c: Class}{a b k: Int}{m: Method}{r: Ref}{p: iZ}
structure FB where
 keeper:Int
 name:ByteArray
 ref:Ref
structure uB where
 one:Int
 two:Int
 name:ByteArray
structure Book where
 jI:List FB
 jq:List uB
def vD(e:FB):Int×ByteArray:=(e.keeper,e.name)
def sP(a:uB):Int×Int×ByteArray:=(a.one,a.two,a.name)
def xR(p:iZ)(e:FB):Prop:=find p e.keeper e.name=(e.ref,1)
def keeps(p:iZ)(a:uB):Prop:=has p a.one=true/\has p a.two=true/\jJ a.name=true/\agree p a.one a.two ⟨2,a.name⟩=true
structure nJ(p:iZ)(b:Book):Prop where
 Ld:b.jI.length<=200
 Mg:b.jq.length<=200
 Pj:(b.jI.map vD).Nodup
 PR:(b.jq.map sP).Nodup
 Qk:∀e∈b.jI,xR p e
 JY:∀a∈b.jq,a.one<a.two/\keeps p a
def Book.le(a b:Book):Prop:=(∃r,b.jI=a.jI++r)/\∃r,b.jq=a.jq++r
theorem Book.le.refl(a:Book):a.le a:=⟨⟨[],by simp⟩,[],by simp⟩
theorem Book.le.trans{a b c:Book}(h:a.le b)(k:b.le c):a.le c:=by
 obtain⟨⟨i,d⟩,l,f⟩:=h;obtain⟨⟨j,e⟩,m,g⟩:=k;exact⟨⟨i++j,by rw[e,d,U1]⟩,l++m,by rw[g,f,U1]⟩
theorem nJ.Sy{b:Book}(c:nJ p b){e:FB}(hl:b.jI.length<200)(h:vD e ∉ b.jI.map vD)(g:xR p e):nJ p ⟨b.jI++[e],b.jq⟩:=
 ⟨by simp;omega,c.Mg,by rw[TB,VM];exact⟨c.Pj,by simp,fun f a j d i=>h (by simp at d;rw[<-d,<-i];exact a)⟩,c.PR,
  fun f a=>by rcases TZ.1 a with a|a;exact c.Qk f a;simp at a;rw[a];exact g,c.JY⟩
theorem nJ.Sz{b:Book}(d:nJ p b){a:uB}(hl:b.jq.length<200)(h:sP a ∉ b.jq.map sP)(g:a.one<a.two/\keeps p a):nJ p ⟨b.jI,b.jq++[a]⟩:=
 ⟨d.Ld,by simp;omega,d.Pj,by rw[TB,VM];exact⟨d.PR,by simp,fun f c j e i=>h (by simp at e;rw[<-e,<-i];exact c)⟩,d.Qk,
  fun f c=>by rcases TZ.1 c with c|c;exact d.JY f c;simp at c;rw[c];exact g⟩
theorem Ej (B : kQ p = true) {n : ByteArray} : ∀ (f : Nat) (b : List Int) (k : Int) (r : List Int), mO p n f (b ++ [k]) k = (r, 1) → ∃j,r=b++k::j/\(∀(g:Nat) (c:List Int),(∀d∈c,d∈b)->f<=g->mO p n g (c++[k]) k=(c++k::j,1))/\∀i∈j,has p i=true/\∃l m,l<=f/\mO p n l (m++[i]) i=(r,1):=by
 intro f;induction f with
 |zero=>intro b k r a;simp[mO]at a
 | succ f C =>
  intro b k r a;unfold mO at a;cases e:zK p k n with
  |none=>
   rw[e]at a;simp only at a;by_cases t:owned p ⟨k,n⟩=true
   . rw[Tv t]at a;refine⟨[],(Prod.mk.inj a).1.symm,fun g c _ A=>?_,by simp⟩;obtain⟨g,rfl⟩:∃o,g=o+1:=⟨g - 1,Zm⟩;unfold mO;rw[e];simp only;rw[Tv t]
   . rw[Tt t]at a;simp at a
  |some d=>
   rw[e]at a;simp only at a;by_cases q:(b++[k]).contains d=true
   . rw[Tv q]at a;simp at a
   . rw [Tt q] at a; obtain ⟨j, w, x, y⟩ := C (b ++ [k]) d r a; refine ⟨d :: j, by rw [w]; simp, fun g c u A => ?_, fun i s => ?_⟩
     . obtain⟨g,rfl⟩:∃o,g=o+1:=⟨g - 1,Zm⟩;unfold mO;rw[e];simp only;have z:¬(c++[k]).contains d=true:=fun v=>q (by
        simp only[VG,TZ,U7]at v |-;exact v.imp_left (u d))
       rw[Tt z,x g (c++[k]) (fun D h=>by
        rcases TZ.1 h with h|h
        . exact List.mem_append_left _ (u D h)
        . exact VH _ h) Zm]
       simp
     . rcases Ud.1 s with rfl|s
       . exact⟨Dw B e,f,b++[k],Zm,a⟩
       . obtain⟨q1,l,m,q2,q3⟩:=y i s;exact⟨q1,l,m,Zm,q3⟩
theorem Og(a:(path p k n).2=1):has p k=true:=by
 cases b:has p k with
 |true=>rfl
 |false=>unfold path at a;rw[b]at a;simp at a
theorem Me(g:kQ p=true){k:Int}{n:ByteArray}(e:(path p k n).2=1):∀a∈(path p k n).1,has p a=true/\resolve p a n=resolve p k n:=by
 have f:=Og e;obtain⟨d,c⟩:∃d,path p k n=(d,1):=⟨(path p k n).1,by rw[<-e]⟩;have q:mO p n 4 ([]++[k]) k=(d,1):=by unfold path at c;rw[Tv f]at c;exact c
 obtain⟨t,i,-,o⟩:=Ej g 4 [] k d q;rw[c];intro a b;rw[i]at b;simp only[TW]at b;rcases Ud.1 b with rfl|b
 . exact⟨f,rfl⟩
 . obtain⟨q1,l,h,q2,q3⟩:=o a b;obtain⟨s,j,m,-⟩:=Ej g l h a d q3;have r:path p a n=(a::s,1):=by
    unfold path;rw[Tv q1];exact m 4 [] Zl q2
   refine⟨q1,?_⟩;unfold resolve;rw[r,c,j];simp[List.getLastD_eq_getLast?,List.getLast?_cons]
theorem Gq(b:resolve p a n=resolve p k n):find p a n=find p k n:=by unfold find;rw[b]
theorem Le(a:(find p k n).2=1):(path p k n).2=1:=by
 unfold find at a;split at a
 . rename_i b;exact(AY b).2.1
 . rename_i b;exact absurd a b
theorem Mc(d:kQ p=true){k:Int}{n:ByteArray}(b:(find p k n).2=1):∀a∈(path p k n).1,xR p ⟨a,n,(find p k n).1⟩:=fun a c=>by
 unfold xR;rw[Gq (Me d (Le b) a c).2,<-b]
theorem JB{k:Kind}:agree p a b k=agree p b a k:=by
 unfold agree;by_cases c:(find p a k.name).2=1<;>by_cases d:(find p b k.name).2=1<;>simp[c,d,eq_comm]
def qE(p:iZ)(a b:Int)(k:Kind):Prop:=k.kind=1\/a=b\/(has p a=true/\has p b=true/\jJ k.name=true/\agree p a b ⟨2,k.name⟩=true)
theorem qE.mk'{k:Kind}(f:has p a=true)(g:has p b=true)(c:nN k=true)(e:agree p a b k=true):qE p a b k:=by
 unfold nN at c;simp only[VZ,Ty,Uq,Tq]at c;rcases c with c|c
 . exact .inl c.1
 . have d:k=⟨2,k.name⟩:=by cases k;simp at c |-;exact c.1
   exact .inr (.inr ⟨f,g,c.2,by rw[<-d];exact e⟩)
theorem qE.keeps{k:Kind}(c:qE p a b k)(f:k.kind≠1)(e:a≠b):(⟨min a b,max a b,k.name⟩:uB).one<(⟨min a b,max a b,k.name⟩:uB).two/\M.keeps p ⟨min a b,max a b,k.name⟩:=by
 rcases c with c|c|⟨q1,q2,q3,q4⟩
 . exact absurd c f
 . exact absurd c e
 . rcases Int.lt_or_gt_of_ne e with d|d
   . rw[Int.min_eq_left Zm,Int.max_eq_right Zm];exact⟨d,q1,q2,q3,q4⟩
   . rw[Int.min_eq_right Zm,Int.max_eq_left Zm];exact⟨d,q2,q1,q3,by rw[JB];exact q4⟩
theorem Iw(a:uK m=true):nN m.ret=true/\∀b∈m.args,nN b=true:=by
 unfold uK at a;simp only[Ty,TY]at a;exact⟨a.1.1.1.1.1.1.1.2,a.1.1.1.1.1.1.2⟩
def sK(p:iZ)(a b:Int)(m:Method):Prop:=qE p a b m.ret/\∀k∈m.args,qE p a b k
theorem sK.mk'(d:has p a=true)(e:has p b=true)(j:uK m=true)(c:kT p a b m=true):sK p a b m:=by
 unfold kT at c;simp only[Ty,TY]at c;obtain⟨h,i⟩:=Iw j;exact⟨.mk' d e h c.2,fun g f=>.mk' d e (i g f) (c.1 g f)⟩
theorem sK.self:sK p a a m:=⟨.inr (.inl rfl),fun _ _=>.inr (.inl rfl)⟩
theorem CU(a:cls? p r=some c):has p r.keeper=true:=Gs.2 (CS a)
theorem L9(q:kQ p=true){e b:Ref}{c d:Class}(g:cls? p e=some c)(i:cls? p b=some d)(f:pQ p e b=true):∀a∈c.methods,(oC d a.name).isSome=true->sK p e.keeper b.keeper a:=by
 intro a j h;unfold pQ at f;simp only[Ty,TY]at f;have l:cls p e=c:=by unfold cls;rw[g];rfl
 have m:cls p b=d:=by unfold cls;rw[i];rfl
 have:=f.2 a (by rw[l];exact j);unfold l9 at this;rw[m]at this;unfold oC at h;rw[Vh]at h;have n:(d.methods.find? fun k=>k.name=a.name).isSome=true:=by rw[Wq];simpa using h
 obtain⟨k,o⟩:=Vu.1 n;rw[o]at this;simp only[Ty,Tq]at this;exact .mk' (CU g) (CU i) (Ec (zM q g) a j) this.2
theorem zC{m: ByteArray}(a:(jP p k n m).2=1):has p k=true:=by
 unfold jP at a;split at a
 . rename_i b;simp only[Ty]at b;exact b.1.1
 . simp at a
theorem KY(i:kQ p=true){k:Int}{n m:ByteArray}(b:(call p k n m).2=1):kC p (call p k n m).1=true/\sK p k (call p k n m).1.of.keeper (method p (call p k n m).1):=by
 obtain⟨o,j⟩:=qU b;have d:=qK j;refine⟨d,?_⟩;obtain⟨h,-⟩:=nQ i d;obtain⟨-,-,l,-,-,g,-,-⟩:=tC d;have a:=b;unfold call at b;split at b
 . rename_i c;refine .mk' (zC c) (CU g) h ?_;unfold call at a |-;rw[Tv c]at a |-;cases f:pick p (jP p k n m).1 m with
   |none=>rw[f]at a;simp at a
   |some q=>
    rw[f]at a;simp only at a |-;split at a
    . rename_i e;rw[Tv e];exact e
    . simp at a
 . rename_i c;simp only at b;exact absurd b c
theorem Ch{m:ByteArray}:∀{l:List rF},(rT p k m r l).2=1->agree p k (rT p k m r l).1.of.keeper (rT p k m r l).1.kind=true
 |[],h=>by simp[rT]at h
 |f::l,h=>by
  unfold rT at h |-;split
  . rename_i a;rw[Tv a]at h;split
    . rename_i b;exact b
    . rename_i b;rw[Tt b]at h;simp at h
  . rename_i a;rw[Tt a]at h;exact Ch h
theorem HU(b:rP c=true):∀a∈c.fields,nN a.kind=true:=by
 unfold rP at b;simp only[Ty]at b;intro a d;have:=sU b.1.2 a d;simp only[Ty]at this;exact this.2
theorem Ns(o:kQ p=true){k:Int}{n m:ByteArray}(a:(get p k n m).2=1):qE p k (get p k n m).1.of.keeper (get p k n m).1.kind:=by
 obtain⟨s,q,j⟩:=FP a;obtain⟨-,l,-,r,h,d,-,g⟩:=yS j;obtain⟨f,c⟩:=ng l;have i:cls p (get p k n m).1.of=f:=by unfold cls;rw[c];rfl
 rw[i]at d;have e:=HU (zM o c) h (RA d);rw[<-g]at e;unfold get at a;split at a
 . rename_i b;refine .mk' (zC b) (CU c) e ?_;have:=Ch a;unfold get;rw[Tv b];exact this
 . rename_i b;simp only at a;exact absurd a b
theorem Ad.link:Ad p pV:=⟨⟨by simp[pV,pE],by simp[pV],by simp[pV],by simp[pV],by simp[pV],by simp[pV,jS,lX]⟩,by simp[pV],by simp[pV]⟩
theorem Good.one{q:Ref}(b:ko p q=true):Good p ⟨1,[],[fresh p q],[],lX⟩:=by
 have a:Good p ⟨1,[],[],[],lX⟩:=⟨by simp[pE],by simp,by simp,by simp,by simp,by simp[jS,lX]⟩;exact a.grow b Zl
theorem Ke(d:kQ p=true){lk:Bool}{k:Int}{n m:ByteArray}{args:List Int}(e:args.all nZ=true):Ad p (start p lk k n m args):=by
 unfold start;split
 . rename_i f;split
   . rename_i c;obtain⟨j,g⟩:=qU c.1;have a:=qK g;have i:(method p (call p k n m).1).args.length=args.length:=by
      have:=c.2;unfold pU at this;simp only[Ty,Tq]at this;exact this.1
     refine qD.runs (zP d (Good.one f.2) rfl a ?_ ?_)
     . intro l b;rcases Ud.1 b with rfl|b
       . exact Ba _ Zm Zl
       . obtain⟨h,a,rfl⟩:=Vw.1 b;exact pJ _ (TY.1 e h a)
     . have:=(tJ (nQ d a).1).args;simp;omega
   . exact Ad.link
 . exact Ad.link
open Go Tryz M
def uO(h h':List qG):Prop:=h.length<=h'.length/\h'.length<=h.length+1/\∀(k:Nat) (o:qG),h[k]?=some o->∃o',h'[k]?=some o'/\o'.of=o.of/\o'.fields.length=o.fields.length
def Kw(o o':List Int):Prop:=o'=o\/∃k,o'=o++[k]
def Gc(f f':List Fr):Prop:=∃r t,f=r++[t]/\((∃t',f'=r++[t'])\/(∃t' x,f'=r++[t',x])\/(∃r0 c c',r=r0++[c]/\f'=r0++[c']))
structure qF(op:Int)(s:St)(x:Int×St):Prop where
 heap:uO s.heap x.2.heap
 outs:Kw s.outs x.2.outs
 frames:x.1=1->Gc s.frames x.2.frames
 deep:x.1=7->8<=s.frames.length
 room:x.1=8->12<=s.heap.length
 null:x.1=3->op=7\/op=8\/op=9
 link:x.1=4->op=6\/op=7\/op=8\/op=9\/op=15
 cast:x.1=6->op=15
 big:x.1=9->op=4
 done:x.1=2->op=10
theorem qF.of{op:Int}{s a:St}{n:Int}(j:uO s.heap a.heap)(k:Kw s.outs a.outs)(b:n=1->Gc s.frames a.frames)(g:n=7->8<=s.frames.length)(h:n=8->12<=s.heap.length)(d:n=3->op=7\/op=8\/op=9)(e:n=4->op=6\/op=7\/op=8\/op=9\/op=15) (f:n=6->op=15) (i:n=9->op=4) (c:n=2->op=10):qF op s (n,a):=⟨j,k,b,g,h,d,e,f,i,c⟩
theorem uO.refl(a:List qG):uO a a:=⟨T9 _,UC _,fun _ c b=>⟨c,b,rfl,rfl⟩⟩
theorem uO.snoc(a:List qG)(x:qG):uO a (a++[x]):=⟨by simp,by simp,fun d c b=>⟨c,by rw[Te (Tw.1 b).1];exact b,rfl,rfl⟩⟩
theorem uO.set(d:List qG)(n a:Int)(v:Val):uO d (ny d n a v):=by
 refine⟨by simp[ny],by simp[ny],fun f b e=>?_⟩;unfold ny;rw[VD,e];by_cases c:n.toNat=f
 . exact⟨{b with fields:=b.fields.set a.toNat v},by simp[c],rfl,by simp⟩
 . exact⟨b,by simp[c],rfl,rfl⟩
section
variable {p:iZ} {s s1:St} {r:List Fr} {t t1:Fr} {op:Int}
structure Mid(s s1:St)(r:List Fr):Prop where
 fr:∃t,s.frames=r++[t]
 Ql:∃t,s1.frames=r++[t]
 heap:uO s.heap s1.heap
 outs:Kw s.outs s1.outs
theorem Mid.refl(a:s.frames=r++[t]):Mid s s r:=⟨⟨_,a⟩,⟨_,a⟩,uO.refl _,.inl rfl⟩
theorem Mid.bad(b:Mid s s1 r)(k:uO s.heap s1.heap){n:Int}(c:n≠1)(h:n≠7)(i:n=8->12<=s.heap.length)(e:n=3->op=7\/op=8\/op=9)(f:n=4->op=6\/op=7\/op=8\/op=9\/op=15)(g:n=6->op=15) (j:n=9->op=4) (d:n=2->op=10):qF op s (n,s1):=
 qF.of k b.outs (fun a=>absurd a c) (fun a=>absurd a h) i e f g j d
theorem Mid.ten(b:Mid s s1 r):qF op s (10,s1):=
 qF.of b.heap b.outs (fun a=>absurd a Zn) (fun a=>absurd a Zn) (fun a=>absurd a Zn) (fun a=>absurd a Zn) (fun a=>absurd a Zn) (fun a=>absurd a Zn) (fun a=>absurd a Zn) (fun a=>absurd a Zn)
theorem Mid.one{b:St}(c:uO s.heap b.heap)(d:Kw s.outs b.outs)(e:Gc s.frames b.frames):qF op s (1,b):=
 qF.of c d (fun _=>e) (fun a=>absurd a Zn) (fun a=>absurd a Zn) (fun a=>absurd a Zn) (fun a=>absurd a Zn) (fun a=>absurd a Zn) (fun a=>absurd a Zn) (fun a=>absurd a Zn)
theorem Mid.jump(a:Mid s s1 r)(k:Int):qF op s (jump p k s1):=by
 unfold M.jump;split
 . exact a.ten
 . obtain⟨t,b⟩:=a.fr;obtain⟨t1,c⟩:=a.Ql;rw[pO c];exact Mid.one a.heap a.outs ⟨r,t,b,.inl ⟨_,rfl⟩⟩
theorem Mid.next(a:Mid s s1 r):qF op s (next p s1):=a.jump _
theorem Mid.turn(a:Mid s s1 r)(f:Fr->Fr):Mid s (Eg s1 f) r:=by
 obtain⟨t1,b⟩:=a.Ql;rw[pO b];exact⟨a.fr,⟨_,rfl⟩,a.heap,a.outs⟩
theorem Mid.push(a:Mid s s1 r)(v:Val):qF op s (push p v s1):=by
 unfold M.push;split
 . exact a.ten
 . exact(a.turn _).next
theorem Mid.nk{c:Nat}{vs:List Val}{b:St}(a:Mid s s1 r)(d:nk c s1=some (vs,b)):Mid s b r:=by
 obtain⟨t1,e⟩:=a.Ql;obtain⟨-,-,-,rfl⟩:=o9 e d;exact⟨a.fr,⟨_,rfl⟩,a.heap,a.outs⟩
theorem Mid.pop{v:Val}{b:St}(c:Mid s s1 r)(a:pop s1=some (v,b)):Mid s b r:=by
 unfold M.pop at a;rw[Uk]at a;obtain⟨⟨g,f⟩,d,e⟩:=a;cases e;exact c.nk d
theorem Mid.enter(b:Mid s s1 r)(hl:s1.frames.length=s.frames.length){lk:Bool}{x:rH}{vs:List Val}:qF op s (enter p lk x vs s1):=by
 unfold M.enter;split
 . rename_i e;exact qF.of b.heap b.outs (fun a=>absurd a Zn) (fun _=>Zm) (fun a=>absurd a Zn) (fun a=>absurd a Zn) (fun a=>absurd a Zn) (fun a=>absurd a Zn) (fun a=>absurd a Zn) (fun a=>absurd a Zn)
 . split
   . exact qF.of b.heap b.outs (fun a=>absurd a Zn) (fun a=>absurd a Zn) (fun a=>absurd a Zn) (fun a=>absurd a Zn) (fun a=>absurd a Zn) (fun a=>absurd a Zn) (fun a=>absurd a Zn) (fun a=>absurd a Zn)
   . split
     . obtain⟨t,c⟩:=b.fr;obtain⟨t1,d⟩:=b.Ql;exact Mid.one b.heap b.outs ⟨r,t,c,.inr (.inl ⟨t1,_,by rw[d,U1];rfl⟩)⟩
     . exact b.ten
theorem Mid.len(a:Mid s s1 r):s1.frames.length=s.frames.length:=by
 obtain⟨t,b⟩:=a.fr;obtain⟨t1,c⟩:=a.Ql;rw[b,c];simp
theorem Mid.obj(b:Mid s s1 r){v:Val}{q:Ref}(c:object p v q s1≠1)(d:op=7\/op=8\/op=9):qF op s (object p v q s1,s1):=by
 have : object p v q s1 = 3 \/ object p v q s1 = 10 \/ object p v q s1 = 1 := by
  unfold object;split
  . exact .inl rfl
  . split
    . exact .inr (.inl rfl)
    . split
      . exact .inr (.inr rfl)
      . exact .inr (.inl rfl)
 rcases this with a|a|a
 . rw[a];exact b.bad b.heap Zn Zn (fun a=>absurd a Zn) (fun _=>d) (fun a=>absurd a Zn) (fun a=>absurd a Zn) (fun a=>absurd a Zn) (fun a=>absurd a Zn)
 . rw[a];exact b.ten
 . exact absurd a c
theorem Mid.four(b:Mid s s1 r)(c:op=6\/op=7\/op=8\/op=9\/op=15):qF op s (4,s1):=
 b.bad b.heap Zn Zn (fun a=>absurd a Zn) (fun a=>absurd a Zn) (fun _=>c) (fun a=>absurd a Zn) (fun a=>absurd a Zn) (fun a=>absurd a Zn)
theorem Pb(e:s.frames=r++[t]){lk:Bool}{i:Ins}(Q:i.op<=15)(C:1<=i.op):qF i.op s (jH p lk i s):=by
 have c:=Mid.refl e;unfold jH;by_cases u:i.op=1
 . rw[Tv u];exact c.push _
 rw[Tt u];by_cases z:i.op=2
 . rw[Tv z];split
   . exact c.ten
   . exact c.push _
 rw[Tt z];by_cases A:i.op=3
 . rw[Tv A];split
   . exact c.ten
   . rename_i d;exact((c.pop d).turn _).next
 rw[Tt A];by_cases l:i.op=4
 . rw [Tv l]; have M := l; split
   . rename_i d;have b:=c.nk d;split
     . split
       . exact b.push _
       . exact b.bad b.heap Zn Zn (fun a=>absurd a Zn) (fun a=>absurd a Zn) (fun a=>absurd a Zn) (fun a=>absurd a Zn) (fun _=>M) (fun a=>absurd a Zn)
     . exact b.ten
   . exact c.ten
 rw[Tt l];by_cases B:i.op=5
 . rw[Tv B];exact c.push _
 rw[Tt B];by_cases m:i.op=6
 . rw[Tv m];have N:=m;split
   . split
     . rename_i j;exact c.bad c.heap Zn Zn (fun _=>j) (fun a=>absurd a Zn) (fun a=>absurd a Zn) (fun a=>absurd a Zn) (fun a=>absurd a Zn) (fun a=>absurd a Zn)
     . have b:Mid s (create p (pY p i.name s).1 s).2 r:=⟨⟨_,e⟩,⟨_,e⟩,uO.snoc _ _,.inl rfl⟩;exact b.push _
   . exact c.four (.inl N)
 rw[Tt m];by_cases n:i.op=7
 . rw [Tv n]; have E := n; split
   . split
     . exact c.ten
     . rename_i d;have b:=c.pop d;split
       . exact b.push _
       . rename_i h;exact b.obj h (.inl E)
   . exact c.four (.inr (.inl E))
 rw[Tt n];by_cases o:i.op=8
 . rw [Tv o]; have F := o; split
   . split
     . rename_i d;have b:=c.nk d;split
       . split
         . have R:Mid s {s with frames:=s.frames} r:=c;refine Mid.next (r:=r) ⟨b.fr,b.Ql,?_,b.outs⟩;obtain⟨-,-,-,a⟩:=o9 e d;rw[a];exact uO.set _ _ _ _
         . rename_i h;exact b.obj h (.inr (.inl F))
       . exact b.ten
     . exact c.ten
   . exact c.four (.inr (.inr (.inl F)))
 rw[Tt o];by_cases q:i.op=9
 . rw [Tv q]; have G := q; split
   . split
     . rename_i d;have b:=c.nk d;split
       . split
         . exact b.enter b.len
         . exact b.ten
       . rename_i h;exact b.obj h (.inr (.inr G))
     . exact c.ten
   . exact c.four (.inr (.inr (.inr (.inl G))))
 rw[Tt q];by_cases k:i.op=10
 . rw [Tv k]; have K := k; split
   . exact c.ten
   . rename_i J s1 d;have b:=c.pop d;split
     . split
       . exact qF.of (n:=2) b.heap b.outs (fun a=>absurd a Zn) (fun a=>absurd a Zn) (fun a=>absurd a Zn) (fun a=>absurd a Zn) (fun a=>absurd a Zn) (fun a=>absurd a Zn) (fun a=>absurd a Zn) (fun _=>K)
       . rename_i H;obtain⟨t1,I⟩:=b.Ql;have j:r≠[]:=by
          intro a;rw[I,a]at H;exact H rfl
         obtain⟨f,g,rfl⟩:∃f g,r=f++[g]:=⟨r.dropLast,r.getLast j,(UO j).symm⟩;have O:s1.frames.dropLast=f++[g]:=by rw[I];simp
         unfold push;split
         . exact qF.of b.heap b.outs (fun a=>absurd a Zn) (fun a=>absurd a Zn) (fun a=>absurd a Zn) (fun a=>absurd a Zn) (fun a=>absurd a Zn) (fun a=>absurd a Zn) (fun a=>absurd a Zn) (fun a=>absurd a Zn)
         . rw[pO (s:={s1 with frames:=s1.frames.dropLast}) O];unfold next jump
           split
           . exact qF.of b.heap b.outs (fun a=>absurd a Zn) (fun a=>absurd a Zn) (fun a=>absurd a Zn) (fun a=>absurd a Zn) (fun a=>absurd a Zn) (fun a=>absurd a Zn) (fun a=>absurd a Zn) (fun a=>absurd a Zn)
           . rw[pO (r:=f) rfl];exact Mid.one b.heap b.outs ⟨f++[g],t,e,.inr (.inr ⟨f,g,_,rfl,rfl⟩)⟩
     . exact b.ten
 rw[Tt k];by_cases v:i.op=11
 . rw [Tv v]; split
   . exact c.ten
   . rename_i d;have b:=c.pop d;split
     . split
       . exact b.jump _
       . exact b.next
     . exact b.ten
 rw[Tt v];by_cases w:i.op=12
 . rw [Tv w]; split
   . exact c.ten
   . rename_i d;have b:=c.pop d;split
     . split
       . exact b.jump _
       . exact b.next
     . exact b.ten
 rw[Tt w];by_cases x:i.op=13
 . rw[Tv x];exact c.jump _
 rw[Tt x];by_cases y:i.op=14
 . rw [Tv y]; split
   . exact c.ten
   . rename_i J s1 d;have b:=c.pop d;have P:s1.outs=s.outs:=by
      unfold pop at d;rw[Uk]at d;obtain⟨⟨T,S⟩,C,L⟩:=d;cases L;obtain⟨-,-,-,a⟩:=o9 e C;rw[a]
     split
     . refine Mid.next (r:=r) ?_;split
       . exact⟨b.fr,b.Ql,b.heap,.inr ⟨J.n,by simp[P]⟩⟩
       . exact b
     . exact b.ten
 rw[Tt y];have D:i.op=15:=Zm
 split
 . exact c.ten
 . rename_i d;have b:=c.pop d;split
   . split
     . exact b.push _
     . split
       . split
         . exact b.push _
         . exact b.bad b.heap Zn Zn (fun a=>absurd a Zn) (fun a=>absurd a Zn) (fun a=>absurd a Zn) (fun _=>D) (fun a=>absurd a Zn) (fun a=>absurd a Zn)
       . exact b.four (.inr (.inr (.inr (.inr D))))
   . exact b.ten
end
theorem Rn(i:kQ p=true){s:St}(hR:Ad p s)(e:s.status=1)(lk:Bool):∃f b a c,s.frames=f++[b]/\kZ p b s.heap.length=true/\(method p b.of).code[b.pc.toNat]?=some a/\step p lk s=end_ c.1 c.2/\qF a.op s c/\qD p c/\c=jH p lk a s:=by
 obtain⟨f,b,a,d,j,g,h⟩:=Jc i hR e;obtain⟨-,-,-,-,⟨k,l⟩,-⟩:=qJ h;refine⟨f,b,a,jH p lk a s,d,j,g,?_,Pb d l k,Dm i hR.good d e h,rfl⟩;unfold step stepped;rw[Tv e,yF d,g];rfl
theorem Jh{m: ByteArray}{args:List Int}:(∀b,qM p b k n m args=Kt)\/(kQ p=true/\∀b,qM p b k n m args=start p b k n m args/\Ad p (qM p b k n m args)):=by
 unfold qM;by_cases a:(kQ p&&has p k&&jJ n&&jJ m&&args.all nZ)=true
 . right;simp only[Ty]at a;refine⟨a.1.1.1.1,fun b=>?_⟩;rw[a.1.1.1.1,a.1.1.1.2,a.1.1.2,a.1.2,a.2];exact⟨rfl,Ke a.1.1.1.1 a.2⟩
 . left;intro b;rw[Tt a]
end Go.Proofs.YtlhgbjbkjalfjaaGreat.M
namespace Go.Proofs.YtlhgbjbkjalfjaaGreat.M
variable {b: Book}{p: iZ}
def stays(p q:iZ)(b:Book):Prop:=(∀e∈b.jI,xR q e/\cls p e.ref=cls q e.ref)/\∀a∈b.jq,keeps q a
theorem nJ.turn{q: iZ}(a:nJ p b)(e:stays p q b):nJ q b:=
 ⟨a.Ld,a.Mg,a.Pj,a.PR,fun f g=>(e.1 f g).1,fun c d=>⟨(a.JY c d).1,e.2 c d⟩⟩
theorem stays.refl(a:nJ p b):stays p p b:=⟨fun d f=>⟨a.Qk d f,rfl⟩,fun c e=>(a.JY c e).2⟩
end Go.Proofs.YtlhgbjbkjalfjaaGreat.M
