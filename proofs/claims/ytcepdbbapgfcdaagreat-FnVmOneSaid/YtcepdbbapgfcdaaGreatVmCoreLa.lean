/- Walks. -/
import Derived.Test.YtcepdbbapgfcdaaGreatVmCoren
set_option maxRecDepth 100000
set_option maxHeartbeats 4000000
set_option linter.unusedSimpArgs false
set_option linter.unusedVariables false
namespace Go.Proofs.YtcepdbbapgfcdaaGreat
open Go Go.RowKit
theorem uw(x:M.Tag):∀u∈ik x,u.oneCell'=true:=by simp[ik,Value.oneCell']
theorem pR(w:World)(v:Value)(n:Nat)(xs:List Value)(h:Flat w 2 v n xs)(hn:n≤4294967296):
    Calls Tryz.prog 174 #[v] w fun e w'=>(∃v',e=.returned v'∧w'.ownsRow w.heap.size 66 2 v' n xs)∧Ext w w':=by
 obtain⟨a,c,rfl,h0,hc⟩:=h.ex;have en:=fun W=>Lib.run_eql_slice_nil (P:=Tryz.prog) W 225 66 a n c 0 0 Tryz.underlying225;have NA:=h.len;cases a with
 |none=>
  obtain rfl:=h0 rfl;have hx:xs=[]:=List.eq_nil_of_length_eq_zero (by simpa using NA);subst hx;clear h h0 hc NA;go_enter Tryz.func174,Tryz.ntmps174;go_wp2;go_ret;exact⟨⟨_,rfl,World.ownsRow_nil _ _ _ _⟩,Kp.refl _ _⟩
 |some ad=>
  have HF:=Ys (h.ext ((Kp.refl _ _).alloc (.cells #[] 66):Ext w _));have OW:0+n≤8589934592:=by omega
  clear h h0 hc NA;go_enter Tryz.func174,Tryz.ntmps174;go_wp2_with (at_builtin;refine iQ r9 _ rfl _ _ rfl w.heap.size _ 0 [] rfl (dx w _ 2 _ (Nat.le_refl _) _ rfl) ad n c xs rfl HF.o OW (by simp) ?_);intro v' w' dX hK;have HO:=Ys dX;have HK:=Ys hK;clear dX hK;go_wp2;go_ret;exact⟨⟨_,rfl,by simpa using HO.o⟩,((Kp.refl _ _).alloc _:Ext w _).own HK.o (fun b hb=>by simp only[Value.ownBlock,Option.some.injEq]at hb;omega)⟩
end Go.Proofs.YtcepdbbapgfcdaaGreat
namespace Go
variable {F:Fence} {n:Nat} {P:Program}
def NQ(P:Program)(l:Nat)(R:Ending→World→Prop):Exit→Act→World→Prop
 | .panic chain,a,w=>a.defers=[]∧R (.panicked chain) w
 |e,a,w=>roundPost P l R e a w
theorem BP{l:Nat}{f:FuncId}{tmps:Array Value}{assign body:Code}{w:World}{R:Ending→World→Prop}(hF:F.fn f)(hf:∃fn,P.funcs[f]?=some fn)
    (h:assign.wpIn (F.inRound l) n P (Exit.then (fun a₁ w₁=>∃w₂,(Instr.beginRound l).run P w₁=.ok () w₂∧body.wpIn (F.inRound l) n P (NQ P l R) a₁ w₂) (fun _ _ _=>False))
     {tmps:=tmps,defers:=[]} w):
    RoundIn F n P l f tmps assign body w R:=by
 refine⟨hF,fun c cs hr=>?_⟩;let b:Frame:={(default:Frame)with fn:=f,kind:=.normal,roundOf:=some l}
 have hb0:Frame.round l f tmps assign body .normal=b.atR {tmps:=tmps,defers:=[]} [.code assign,.beginRound,.code body]:=by
  simp[Frame.round,Frame.atR,b]
 have WN:(F.inRound l).room ((c::cs).length+1+n):=hr;have X3:(F.inRound l).fn b.fn:=hF;obtain⟨e,a₁,w₁,hq,qx⟩:=h b [.beginRound,.code body] (c::cs) rfl X3 WN;rw[←hb0]at qx;cases e with
 | normal =>
  obtain⟨w₂,OQ,hbody⟩:=hq;have s1:StepsIn (Machine.fenced P (F.inRound l)) P (lone (b.atR a₁ [.beginRound,.code body]) (c::cs) w₁) (lone (b.atR a₁ [.code body]) (c::cs) w₂):=
   .one (fenced_calm (fr:=b.atR a₁ [.beginRound,.code body]) X3 WN rfl) (stepR_beginRound rfl OQ)
  obtain⟨e₂,a₂,w₃,hq₂,harr₂⟩:=hbody b [] (c::cs) rfl X3 WN;cases e₂ with
  |normal=>
   obtain⟨v,w₄,Bp,hR⟩:=hq₂;exact⟨.returned v,w₄,hR,(StepsIn.trans qx s1).trans (StepsIn.trans harr₂ (.one (fenced_calm (fr:=b.atR a₂ []) X3 WN rfl) (stepR_round_end rfl rfl Bp)))⟩
  |ret=>
   obtain⟨v,w₄,Bp,hR⟩:=hq₂;obtain⟨k₁,hs⟩:=harr₂.2 rfl;exact⟨.returned v,w₄,hR,(StepsIn.trans qx s1).trans (StepsIn.trans hs (.one (fenced_calm (fr:=b.atR a₂ (.code .ret::k₁)) X3 WN rfl) (stepR_round_ret rfl rfl Bp)))⟩
  |exit id=>
   obtain⟨v,w₄,Bp,hR⟩:=hq₂;obtain⟨k₁,hk,hs⟩:=harr₂.2 rfl rfl;exact⟨.returned v,w₄,hR,(StepsIn.trans qx s1).trans (StepsIn.trans hs (.one (fenced_calm (fr:=b.atR a₂ (.code (.exit id)::k₁)) X3 WN rfl) (stepR_round_exit rfl rfl hk Bp)))⟩
  |goto t=>
   obtain⟨v,w₄,Bp,hR⟩:=hq₂;obtain⟨k₁,hk,hs⟩:=harr₂.2 rfl rfl;exact⟨.returned v,w₄,hR,(StepsIn.trans qx s1).trans (StepsIn.trans hs (.one (fenced_calm (fr:=b.atR a₂ (.code (.goto t)::k₁)) X3 WN rfl) (stepR_round_goto rfl rfl hk Bp)))⟩
  |panic chain=>
   obtain⟨hd,hR⟩:=hq₂;obtain⟨todo,hs⟩:=harr₂;have hl:({b.atR a₂ todo with mode:=.panicking chain}:Frame).leaving P w₃ (.panicked chain):=⟨rfl,hd,hf⟩;exact⟨.panicked chain,w₃,hR,(StepsIn.trans qx s1).trans (StepsIn.trans hs (.one (fenced_leaving (n:=n) X3 WN hl) (step_leave_panicked hl)))⟩
  |outgrown=>exact hq₂.elim
 |exit id=>exact hq.elim
 |goto t=>exact hq.elim
 |ret=>exact hq.elim
 |panic chain=>exact hq.elim
 |outgrown=>exact hq.elim
def Code.xh(f:FuncId)(P:Program)(c:Code)(Q:Exit→Act→World→Prop)(a:Act)(w:World):Prop:=
 ∀(b:Frame) (k:List Item) (cs:List Frame),b.roundOf=none→b.fn=f→∃e a' w',Q e a' w'∧ArrivesIn (Machine.fenced P Fence.wide) P (lone (b.atR a (.code c::k)) cs w) b k cs e a' w'
theorem F9{f:FuncId}{c:Code}{Q:Exit→Act→World→Prop}{a:Act}{w:World}(h:c.wpIn Fence.wide n P Q a w):c.xh f P Q a w:=
 fun b k cs Mq _=>h b k cs Mq trivial (room_wide _)
theorem L9{f:FuncId}{x y:Code}{Q:Exit→Act→World→Prop}{a:Act}{w:World}(h:x.xh f P (Exit.then (y.xh f P Q) Q) a w):(Code.seq x y).xh f P Q a w:=by
 intro b k cs Mq hb;have one:StepsIn (Machine.fenced P Fence.wide) P (lone (b.atR a (.code (.seq x y)::k)) cs w) (lone (b.atR a (.code x:: .code y::k)) cs w):=.one (fenced_wide _ _) stepR_seq;obtain⟨e,a₁,w₁,hq,qx⟩:=h b (.code y::k) cs Mq hb;by_cases hn:e=.normal
 · subst hn;obtain⟨e₂,a₂,w₂,hq₂,harr₂⟩:=hq b k cs Mq hb;exact⟨e₂,a₂,w₂,hq₂,.of_steps (one.trans qx) harr₂⟩
 · refine⟨e,a₁,w₁,?_,.of_steps one (.pass (x:=.code y) rfl (fun _ _=>.inl hn) qx)⟩;cases e<;>first|exact absurd rfl hn|exact hq
theorem CW{f:FuncId}{x y:Code}{Q:Exit→Act→World→Prop}{a:Act}{w:World}(h:x.wpIn Fence.wide n P (Exit.then (y.xh f P Q) Q) a w):(Code.seq x y).xh f P Q a w:=L9 (F9 h)
theorem Hk{f:FuncId}{x y:Code}{Q:Exit→Act→World→Prop}{a:Act}{w:World}(h:∀K:Act→World→Prop,(∀a w,y.xh f P Q a w→K a w)→x.wpIn Fence.wide n P (Exit.then K Q) a w):(Code.seq x y).xh f P Q a w:=
 CW (h _ fun _ _ h=>h)
theorem Od{f:FuncId}{id:Nat}{c:Code}{Q:Exit→Act→World→Prop}{a:Act}{w:World}
    (h:c.xh f P (fun e a w=>(∀x,e≠ .exit x)∧(∀x,e≠ .goto x)∧Q e a w) a w):(Code.block id c).xh f P Q a w:=by
 intro b k cs Mq hb;have one:StepsIn (Machine.fenced P Fence.wide) P (lone (b.atR a (.code (.block id c)::k)) cs w) (lone (b.atR a (.code c:: .inBlock id::k)) cs w):=.one (fenced_wide _ _) stepR_block;obtain⟨e,a₁,w₁,⟨h1,h2,hq⟩,qx⟩:=h b (.inBlock id::k) cs Mq hb;refine⟨e,a₁,w₁,hq,?_⟩;cases e with
 |normal=>exact one.trans (StepsIn.trans qx (.one (fenced_wide _ _) stepR_inBlock))
 |ret=>exact .of_steps one (show ArrivesIn _ P _ b k cs .ret a₁ w₁ from⟨qx.1,qx.2⟩)
 |panic ch=>exact .of_steps one (show ArrivesIn _ P _ b k cs (.panic ch) a₁ w₁ from qx)
 |outgrown=>exact .of_steps one (show ArrivesIn _ P _ b k cs .outgrown a₁ w₁ from qx)
 |exit x=>exact absurd rfl (h1 x)
 |goto x=>exact absurd rfl (h2 x)
def QE(R:Ending→World→Prop):Exit→Act→World→Prop
 | .panic c,a,w=>a.defers=[]∧R (.panicked c) w
 | .outgrown,_,w=>R .outgrown w
 |_,_,_=>False
theorem uI{f:FuncId}{fn:Func}{x y:Code}{R:Ending→World→Prop}{a:Act}{w:World}(h:∀K:Act→World→Prop,(∀a w,y.xh f P (bodyPostM Fence.wide n P fn R) a w→K a w)→x.wp P (Exit.then K (QE R)) a w):
    (Code.seq x y).xh f P (bodyPostM Fence.wide n P fn R) a w:=by
 refine CW (n:=n) (wpIn_mono (wpIn_wide.2 (h _ fun _ _ h=>h)) ?_);intro e a w hq;cases e with
 |normal=>exact hq
 |panic c=>
  obtain⟨hd,hR⟩:=hq;show LeavesInM _ _ _ _ _ _ a.defers _ _
  rw[hd];exact hR
 |outgrown=>exact hq
 |ret=>exact hq.elim
 |exit x=>exact hq.elim
 |goto x=>exact hq.elim
def V4(ds:List Deferred)(R:Ending→World→Prop):Exit→Act→World→Prop
 | .normal,a,w=>a.defers=ds∧R (.returned (.tuple #[])) w
 | .panic c,a,w=>a.defers=ds∧R (.panicked c) w
 |_,_,_=>False
theorem UU{f:FuncId}{c:Code}{ds:List Deferred}{R:Ending→World→Prop}{Q:Exit→Act→World→Prop}{a:Act}{w:World}(h:c.wp P (V4 ds R) a w)
    (hN:∀a w,a.defers=ds→R (.returned (.tuple #[])) w→Q .normal a w) (hP:∀c a w,a.defers=ds→R (.panicked c) w→Q (.panic c) a w):c.xh f P Q a w:=by
 refine F9 (n:=10) (wpIn_mono (wpIn_wide.2 h) ?_);intro e a w hq;cases e with
 |normal=>exact hN _ _ hq.1 hq.2
 |panic c=>exact hP _ _ _ hq.1 hq.2
 |outgrown=>exact hq.elim
 |ret=>exact hq.elim
 |exit x=>exact hq.elim
 |goto x=>exact hq.elim
theorem vF{f:FuncId}{fn:Func}{c:Code}{args:Array Value}{w:World}{R:Ending→World→Prop}
    (hf:P.funcs[f]?=some fn) (hb:fn.body=some c)
    (h:c.xh f P (bodyPostM Fence.wide n P fn R) {tmps:=args++Array.replicate (fn.ntmps - args.size) undef,defers:=[]} w):CallsIn Fence.wide n P f args w R:=by
 refine⟨trivial,fun cs hr=>?_⟩;obtain⟨b,hbe⟩:∃b:Frame,b={(default:Frame)with fn:=f,kind:=.normal,roundOf:=none}:=⟨_,rfl⟩;have OU:b.fn=f:=by rw[hbe]
 have Mq:b.roundOf=none:=by rw[hbe]
 have hkd:b.kind=.normal:=by rw[hbe]
 have henter:Frame.enter P f args .normal=b.atR {tmps:=args++Array.replicate (fn.ntmps - args.size) undef,defers:=[]} [.code c]:=by
  simp[Frame.enter,Frame.atR,hf,hb,hbe]
 have leave:∀(fr:Frame) (u:FrameMode) (a':Act) (w':World),fr.fn=f→fr.kind=.normal→fr.mode=u→fr.defers=a'.defers→fr.tmps=a'.tmps→LeavesInM Fence.wide n P fn a'.tmps R a'.defers u w'→
     StepsIn (Machine.fenced P Fence.wide) P (lone (Frame.enter P f args .normal) cs w) (lone fr cs w')→
     ∃e w' fr,R e w'∧ComesIn (Machine.fenced P Fence.wide) P (lone (Frame.enter P f args .normal) cs w) (lone fr cs w') e∧fr.fn=f∧fr.leaving P w' e:=by
  intro fr u a' w' h1 h2 h3 h4 h5 hl hs;obtain⟨e',w'',fr',hR,xV,ael,Tt⟩:=leaves_stepsInM a'.defers u w' fr cs h3 h4 h5 (h1▸hf) h2 trivial hr hl;exact⟨e',w'',fr',hR,ComesIn.of_steps hs xV,ael.trans h1,Tt⟩
 obtain⟨e,a',w',hq,qx⟩:=h b [] cs Mq OU;rw[←henter]at qx;cases e with
 |normal=>exact leave {b.atR a' []with mode:=.returning} .returning a' w' OU hkd rfl rfl rfl hq (StepsIn.trans qx (.one (fenced_wide _ _) (stepR_end Mq)))
 |ret=>
  obtain⟨todo,hs⟩:=qx.1 Mq;exact leave {b.atR a' todo with mode:=.returning} .returning a' w' OU hkd rfl rfl rfl hq hs
 |panic chain=>
  obtain⟨todo,hs⟩:=qx;exact leave {b.atR a' todo with mode:=.panicking chain} (.panicking chain) a' w' OU hkd rfl rfl rfl hq hs
 |exit id=>exact hq.elim
 |goto l=>exact hq.elim
 |outgrown=>exact⟨.outgrown,w',b,hq,qx.resolve_left (by simp[hkd]),OU,trivial⟩
theorem Ga{g:Operand}{ps:Array Tmp}{assign body:Code}{Q:Exit→Act→World→Prop}{a:Act}{w:World}{fn:FuncId}
    (h:∃(l:Nat) (mark:List Deferred) (w₁:World) (d:Deferred) (w₁':World) (f:FuncId) (args:Array Value) (w₂:World),
     (Instr.enterLoop fn a.tmps ps assign body none).run P w=.ok (l,mark) w₁∧(resolve a.eval (rangeCall g l) 0).run P w₁=.ok d w₁'∧(invoke d.target d.args).run P w₁'=.ok (.enter f args) w₂∧
     CallsIn Fence.wide (n - 1) P f args w₂ (rangePost Fence.wide n P l Q {a with defers:=mark++a.defers})):
    (Code.rangeFunc g ps assign body).xh fn P Q a w:=by
 obtain⟨l,mark,w₁,d,w₁',f,args,w₂,he,KY,hinv,hF,ng⟩:=h;intro b k cs Mq hb;subst hb;rw[←Mq]at he;have henter:=stepR_rangeFunc (P:=P) (b:=b) (a:=a) (k:=k) (cs:=cs) (w:=w) he KY hinv;obtain⟨e,w₃,fr,hR,hsteps,OU,hleave⟩:=ng (b.atR {a with defers:=mark++a.defers} (.inRangeFunc l::k)::cs) (room_wide _);cases e with
 |outgrown=>
  obtain⟨a₀,w₀,hq⟩:=hR;exact⟨.outgrown,a₀,w₀,hq,.inr (Outgrown.of_steps (.one henter) hsteps)⟩
 |panicked chain=>
  have TA:=step_leave_panicked (c:=b.atR {a with defers:=mark++a.defers} (.inRangeFunc l::k)) (cs:=cs) hleave;rw[Frame.raise_atR]at TA;exact⟨.panic chain,_,w₃,hR,.inRangeFunc l::k,.head (fenced_wide _ _) henter (StepsIn.trans hsteps (.one (fenced_wide _ _) TA))⟩
 | returned v =>
  obtain⟨jump,w₄,Bp,hj⟩:=hR;have TA:=step_leave_returned (c:=b.atR {a with defers:=mark++a.defers} (.inRangeFunc l::k)) (cs:=cs) hleave;rw[finish_atR_inRangeFunc]at TA;have back:StepsIn (Machine.fenced P Fence.wide) P (lone (b.atR a (.code (.rangeFunc g ps assign body)::k)) cs w) (lone (b.atR {a with defers:=mark++a.defers} ((jump.map Item.code).toList++k)) cs w₄):=
   .head (fenced_wide _ _) henter (StepsIn.trans hsteps (.head (fenced_wide _ _) TA (.one (fenced_wide _ _) (stepR_endRangeFunc Bp))))
  cases jump with
  |none=>exact⟨.normal,_,w₄,hj,back⟩
  |some c=>
   obtain⟨e',a'',w₅,hq,qx⟩:=hj b k cs Mq trivial (room_wide _);exact⟨e',a'',w₅,hq,.of_steps back qx⟩
end Go
namespace Go.Proofs.YtcepdbbapgfcdaaGreat
open Go Go.RowKit
def XT{α:Type}(P:Program)(gf:Nat)(lb:Array Value)(encs:α→Array Value)(Gx Bd:Nat→Prop)(S Sp Vs:List α→Prop)(VM:World→Prop)(Nx:List α→α→Prop:=fun _ _=>True):Prop:=
 ∀(l:Nat) (J Jx:List α→World→Prop) (Jp:List PanicEntry→List α→World→Prop) (W:World),VM W→(∀s A B,J s A→Kp Gx A B→J s B)→(∀s A B,Jx s A→Kp Gx A B→Jx s B)→(∀c s A B,Jp c s A→Kp Gx A B→Jp c s B)→(∀s A,J s A→Vs s)→
  (∀pre x W1,Nx pre x→J pre W1→YieldAt Fence.wide 8 P l (encs x) W1 fun e W'=>Kp Bd W1 W'∧((e=.returned (.bool true)∧J (pre++[x]) W')∨(e=.returned (.bool false)∧Jx (pre++[x]) W')∨∃c,e=.panicked c∧Jp c (pre++[x]) W'))→
  J [] W→CallsIn Fence.wide 9 P gf (#[.func (.yield l) #[] #[]]++lb) W fun e W'=>((∃v,e=.returned v)∧((∃xs,S xs∧J xs W')∨(∃pre,Sp pre∧Jx pre W')))∨∃c pre,e=.panicked c∧Sp pre∧Jp c pre W'
def QI{α:Type}(Bb:Nat→Prop)(I:List α→World→Prop)(Ix:Code→List α→World→Prop)(Ip:List PanicEntry→List α→World→Prop)(xs:List α)(W:World):Exit→Act→World→Prop
 | .panic c,a,W'=>a.defers=[]∧Kp Bb W W'∧Ip c xs W'
 |e,a,W'=>roundEnd Bb I Ix xs W e a W'
theorem QG {α : Type} {P : Program} {g : Operand} {ps : Array Tmp} {assign body : Code} {Q : Exit → Act → World → Prop} {a : Act} {w : World} {gf : Nat} {lb : Array Value}
    (hg:a.eval g=.func (.func gf) #[] lb) (eg:∀args w,(callFunc gf args).run P w=.ok (.enter gf args) w) {encs:α→Array Value} (hps:∀x,(encs x).size=ps.size)
    {S Sp Vs:List α→Prop} {Gx Bb:Nat→Prop} {VM:World→Prop} {Nx:List α→α→Prop} (aat:XT P gf lb encs Gx (fun k=>Bb k∨k=w.heap.size+1) S Sp Vs VM Nx)
    (hIt:∀W,Ext w W→VM W) (hD1:¬Gx w.heap.size) (hD2:¬Gx (w.heap.size+1)) (hB1:¬Bb w.heap.size) (hB2:¬Bb (w.heap.size+1))
    (I:List α→World→Prop) (Ix:Code→List α→World→Prop) (Ip:List PanicEntry→List α→World→Prop) {fn:FuncId} (OU:∃f,P.funcs[fn]?=some f) (hIp:∀c s A B,Ip c s A→Kp (fun k=>Gx k∨k=w.heap.size+1) A B→Ip c s B)
    (hI:∀s A B,I s A→Kp (fun k=>Gx k∨k=w.heap.size+1) A B→I s B) (hIx:∀c s A B,Ix c s A→Kp (fun k=>Gx k∨k=w.heap.size+1) A B→Ix c s B) (h0:I [] w) (hIB:∀s A,I s A→Vs s)
    (Ax:List α→α→World→Act→World→Prop)
    (hassign:∀(pre:List α) (x:α) (W:World) (K:Act→World→Prop),Nx pre x→I pre W→w.heap.size+1<W.heap.size→(∀a₁ W₁,Ax pre x W a₁ W₁→K a₁ W₁)→
     assign.wpIn (Fence.wide.inRound (w.heap.size+1)) 8 P (Exit.then K (fun _ _ _=>False)) {tmps:=(ps.zip (encs x)).foldl (fun t (p,v)=>t.setIfInBounds p v) a.tmps,defers:=[]} W)
    (hAx:∀pre x W a₁ W₁,Ax pre x W a₁ W₁→Kp Bb W W₁)
    (hbody:∀(pre:List α) (x:α) (W:World) (a₁:Act) (W₁ W₂:World),Ax pre x W a₁ W₁→Kp (·=w.heap.size+1) W₁ W₂→W₂.heap.size=W₁.heap.size→
     body.wpIn (Fence.wide.inRound (w.heap.size+1)) 8 P (QI Bb I Ix Ip (pre++[x]) W₂) a₁ W₂)
    (hdone:∀(xs:List α) (W:World),S xs→I xs W→W.heap[w.heap.size]?=some (.deferred (some []))→Q .normal {a with defers:={target:=.collected w.heap.size,args:=#[]}::a.defers} W)
    (hstop:∀(c:Code) (pre:List α) (W:World),Sp pre→Ix c pre W→W.heap[w.heap.size]?=some (.deferred (some []))→c.wpIn Fence.wide 10 P Q {a with defers:={target:=.collected w.heap.size,args:=#[]}::a.defers} W)
    (hpanic:∀(c:List PanicEntry) (pre:List α) (W:World),Sp pre→Ip c pre W→W.heap[w.heap.size]?=some (.deferred (some []))→Q (.panic c) {a with defers:={target:=.collected w.heap.size,args:=#[]}::a.defers} W):
    (Code.rangeFunc g ps assign body).xh fn P Q a w:=by
 refine Ga (n:=10) ?_;obtain⟨rec,ug⟩:∃rec:LoopState→Option Code→Loop,rec=fun st pe=>{state:=st,pending:=pe,fn,tmps:=a.tmps,params:=ps,assign,body,defers:=w.heap.size}:=⟨_,rfl⟩;obtain⟨W1,Jd⟩:∃W1,(w.alloc (.deferred (some []))).alloc (.loop (rec .ready none))=W1:=⟨_,rfl⟩;have Ct:W1.heap[w.heap.size+1]?=some (.loop (rec .ready none)):=by
  rw[←Jd];have:=World.alloc_heap_new (w.alloc (.deferred (some []))) (.loop (rec .ready none));rwa[World.size_alloc]at this
 have lU:W1.heap[w.heap.size]?=some (.deferred (some [])):=by
  rw[←Jd];exact(Below.heap_alloc _ _ _ (by simp)).trans (World.alloc_heap_new w _)
 have bA:Ext w W1:=by rw[←Jd];exact((Kp.refl _ _).alloc _).alloc _
 have hI1:I [] W1:=hI _ _ _ h0 bA.any;have keep:∀{D:Nat→Prop} {A B:World} {o:Obj} {k:Nat},Kp D A B→¬D k→A.heap[k]?=some o→B.heap[k]?=some o:=fun h hd ho=>
  (h.block _ (Array.getElem?_eq_some_iff.1 ho).1 hd).trans ho
 refine⟨w.heap.size+1,[{target:=.collected w.heap.size,args:=#[]}],W1,{target:=.fn (.func gf) lb,args:=#[.func (.yield (w.heap.size+1)) #[] #[]]},W1,gf,
  #[.func (.yield (w.heap.size+1)) #[] #[]]++lb,W1,?_,?_,?_,?_⟩
 · rw[←Jd,ug];exact run_enterLoop_outer _ _ _ _ _
 · simp only[resolve,hg];simp[go_sem]
 · simp[invoke,go_sem,eg]
 · refine(aat (w.heap.size+1)
    (fun pre W=>I pre W∧W.heap[w.heap.size+1]?=some (.loop (rec .ready none))∧W.heap[w.heap.size]?=some (.deferred (some [])))
    (fun pre W=>∃c,Ix c pre W∧W.heap[w.heap.size+1]?=some (.loop (rec .done (some c)))∧W.heap[w.heap.size]?=some (.deferred (some [])))
    (fun c pre W=>Ip c pre W∧W.heap[w.heap.size]?=some (.deferred (some [])))
    W1 (hIt _ bA)
    (fun s A B hs hk=>⟨hI s A B hs.1 (hk.weak fun _ _ h=>.inl h),keep hk hD2 hs.2.1,keep hk hD1 hs.2.2⟩)
    (fun s A B hs hk=>by
     obtain⟨c,hc,hl,hd⟩:=hs;exact⟨c,hIx c s A B hc (hk.weak fun _ _ h=>.inl h),keep hk hD2 hl,keep hk hD1 hd⟩)
    (fun c s A B hs hk=>⟨hIp c s A B hs.1 (hk.weak fun _ _ h=>.inl h),keep hk hD1 hs.2⟩)
    (fun s A hs=>hIB s A hs.1) ?_ ⟨hI1,Ct,lU⟩).mono ?_
   · rintro pre x W OX ⟨hi,hl,hk⟩;have bZ:w.heap.size+1<W.heap.size:=(Array.getElem?_eq_some_iff.1 hl).1;have hy:=run_yield (P:=P) (args:=encs x) hl (by rw[ug];exact hps x);rw[ug]at hy;refine⟨fn,_,assign,body,hy,BP trivial OU (hassign pre x W _ OX hi bZ ?_)⟩;intro a₁ W₁ hax;have jD:=hAx _ _ _ _ _ hax;have Bt:W₁.heap[w.heap.size+1]?=some (.loop (rec .ready none)):=keep jD hB2 hl;have tY:W₁.heap[w.heap.size]?=some (.deferred (some [])):=keep jD hB1 hk;refine⟨_,run_beginRound Bt (by rw[ug]),?_⟩;have aaq:w.heap.size+1<W₁.heap.size:=(Array.getElem?_eq_some_iff.1 Bt).1;have Bu:(W₁.putObj (w.heap.size+1) (.loop {rec .ready none with state:=.busy})).heap[w.heap.size+1]?=some (.loop {rec .ready none with state:=.busy}):=World.putObj_heap_same aaq;have qJ:(W₁.putObj (w.heap.size+1) (.loop {rec .ready none with state:=.busy})).heap[w.heap.size]?=some (.deferred (some [])):=(World.putObj_heap_other (by omega)).trans tY;refine wpIn_mono (hbody pre x W a₁ W₁ _ hax (Kp.putObj _ _ _) (by simp)) ?_;have Aj:∀(W3:World),Kp Bb (W₁.putObj (w.heap.size+1) (.loop {rec .ready none with state:=.busy})) W3→∀o,Kp (fun k=>Bb k∨k=w.heap.size+1) W (W3.putObj (w.heap.size+1) o):=fun W3 h3 o=>
      (((jD.weak fun _ _ h=>.inl h).trans ((Kp.putObj _ _ _).weak fun _ _ h=>.inr h)).trans (h3.weak fun _ _ h=>.inl h)).trans ((Kp.putObj _ _ _).weak fun _ _ h=>.inr h)
     have fin:∀(jump:Option Code) (W3:World),Kp Bb (W₁.putObj (w.heap.size+1) (.loop {rec .ready none with state:=.busy})) W3→
         (Instr.endRound (w.heap.size+1) jump).run P W3=.ok (.bool jump.isNone) (W3.putObj (w.heap.size+1) (.loop (rec (if jump.isNone then .ready else .done) jump)))∧
         (W3.putObj (w.heap.size+1) (.loop (rec (if jump.isNone then .ready else .done) jump))).heap[w.heap.size+1]?=some (.loop (rec (if jump.isNone then .ready else .done) jump))∧
         (W3.putObj (w.heap.size+1) (.loop (rec (if jump.isNone then .ready else .done) jump))).heap[w.heap.size]?=some (.deferred (some [])):=fun jump W3 rF=>by
      have Yl:=keep rF hB2 Bu;have:=run_endRound (P:=P) jump Yl;rw[ug]at this ⊢;exact⟨this,World.putObj_heap_same (Array.getElem?_eq_some_iff.1 Yl).1,(World.putObj_heap_other (by omega)).trans (keep rF hB1 qJ)⟩
     have tr:∀(W3:World) (o:Obj),Kp (fun k=>Gx k∨k=w.heap.size+1) W3 (W3.putObj (w.heap.size+1) o):=fun W3 o=>(Kp.putObj _ _ _).weak fun _ _ h=>.inr h;rintro e a3 W3 hp;cases e with
     |normal=>
      obtain⟨rF,KV⟩:=hp;obtain⟨hr,Np,GU⟩:=fin none W3 rF;exact⟨_,_,hr,Aj _ rF _,.inl ⟨rfl,hI _ _ _ KV (tr _ _),Np,GU⟩⟩
     |ret=>
      obtain⟨rF,KV⟩:=hp;obtain⟨hr,Np,GU⟩:=fin (some .ret) W3 rF;exact⟨_,_,hr,Aj _ rF _,.inr (.inl ⟨rfl,.ret,hIx _ _ _ _ KV (tr _ _),Np,GU⟩)⟩
     |exit id=>
      obtain⟨rF,KV⟩:=hp;obtain⟨hr,Np,GU⟩:=fin (some (.exit id)) W3 rF;exact⟨_,_,hr,Aj _ rF _,.inr (.inl ⟨rfl,.exit id,hIx _ _ _ _ KV (tr _ _),Np,GU⟩)⟩
     |goto t=>
      obtain⟨rF,KV⟩:=hp;obtain⟨hr,Np,GU⟩:=fin (some (.goto t)) W3 rF;exact⟨_,_,hr,Aj _ rF _,.inr (.inl ⟨rfl,.goto t,hIx _ _ _ _ KV (tr _ _),Np,GU⟩)⟩
     |panic ch=>
      obtain⟨hd,rF,KV⟩:=hp;exact⟨hd,((jD.weak fun _ _ h=>.inl h).trans ((Kp.putObj _ _ _).weak fun _ _ h=>.inr h)).trans (rF.weak fun _ _ h=>.inl h),.inr (.inr ⟨ch,rfl,KV,keep rF hB1 qJ⟩)⟩
     |outgrown=>exact hp.elim
   · rintro e W2 (⟨⟨v,rfl⟩,(⟨xs,hS,hi,hl,hk⟩|⟨pre,hSp,c,hi,hl,hk⟩)⟩|⟨c,pre,rfl,hSp,hi,hk⟩)
     · exact⟨none,_,by have:=run_endLoop (P:=P) hl (by rw[ug];simp);rw[ug]at this;exact this,
        hdone xs _ hS (hI _ _ _ hi ((Kp.putObj _ _ _).weak fun _ _ h=>.inr h)) ((World.putObj_heap_other (by omega)).trans hk)⟩
     · exact⟨some c,_,by have:=run_endLoop (P:=P) hl (by rw[ug];simp);rw[ug]at this;exact this,
        hstop c pre _ hSp (hIx _ _ _ _ hi ((Kp.putObj _ _ _).weak fun _ _ h=>.inr h)) ((World.putObj_heap_other (by omega)).trans hk)⟩
     · exact hpanic c pre _ hSp hi hk
end Go.Proofs.YtcepdbbapgfcdaaGreat
namespace Go.Proofs.YtcepdbbapgfcdaaGreat
open Go Go.RowKit
section
variable {F:Fence} {m:Nat} {P:Program} {ops:Array Oper} {md:Region.Mode} {Q:Exit→Act→World→Prop} {C:World→Prop} {n:Nat}
end
section
variable {F:Fence} {m:Nat} {P:Program} {l:List Oper} {C:World→Prop} {Q:Exit→Act→World→Prop} {fin:Act→World→Prop} {q:List Nat} {i j:Nat} {q':List Nat} {r:List (List Nat×Nat)} {a:Act} {w:World} {o o2:Oper}
theorem acI(ho:(l[i]?).toList=[o])(h:∀K2:Act→World→Prop,(∀a'' w',C w'→mP F m P l C Q fin r q' a'' w'→K2 a'' w')→wpListIn F m P l.toArray (Exit.then K2 Q) [o] a w):mP F m P l C Q fin (([],i)::r) q' a w:=TU [] rfl ho fun _ hK=>qn hK h
end
end Go.Proofs.YtcepdbbapgfcdaaGreat
namespace Go.Proofs.YtcepdbbapgfcdaaGreat
open Go Go.RowKit
theorem gG(w:World)(kb:Nat)(n:Int)(hc:w.cell? ⟨kb,10,none⟩=some (.int .i64 n))(h0:0≤n)(h1:n≤1000):
    Calls Tryz.prog 175 #[.pointer (some ⟨kb,0,none⟩)] w fun e w'=>e=.panicked (zi (n+1))∧w=w':=by
 go_enter Tryz.func175,Tryz.ntmps175;go_wp2;exact⟨rfl,rfl,rfl⟩
theorem BC(w:World)(l:aI)(p:M.au)(h:aF w l p)(k:Int)(a b:M.Tag):
    Calls Tryz.prog 193 #[.pointer (some ⟨l.L,0,none⟩),.int .i64 k,.agg #[.int .i64 a.kind,.string a.name],.agg #[.int .i64 b.kind,.string b.name]] w fun e w'=>
     e=.returned (.bool (M.may p k a b))∧Ext w w':=by
 obtain⟨ak,an⟩:=a;obtain⟨bk,bn⟩:=b;have H:=Ys h;clear h;by_cases h0:bk=0
 · subst h0;have HV:Zs (M.may p k ⟨ak,an⟩ ⟨0,bn⟩=true):=Ys (by unfold M.may;rw[if_pos (.inl rfl)]);go_enter Tryz.func193,Tryz.ntmps193;go_wp2;go_ret;exact⟨ag HV.o.symm,kx⟩
 by_cases he:ak=bk∧an=bn
 · obtain⟨rfl,rfl⟩:=he;have HV:Zs (M.may p k ⟨ak,an⟩ ⟨ak,an⟩=true):=Ys (by unfold M.may;rw[if_pos (.inr rfl)]);have V8:(ak==0)=false:=beq_eq_false_iff_ne.2 h0;clear h0;go_enter Tryz.func193,Tryz.ntmps193;go_wp2;go_ret;exact⟨ag HV.o.symm,kx⟩
 have HU:Zs (M.may p k ⟨ak,an⟩ ⟨bk,bn⟩=if bk≠2 then false else if ak=3 then true else if ak≠2 then false
  else decide ((M.find p k an).2=1)&&decide ((M.find p k bn).2=1)&&M.under p (M.find p k an).1 (M.find p k bn).1):=Ys (by
  unfold M.may;rw[if_neg (by
   rintro(h|h)
   · exact h0 h
   · rw[M.Tag.jd]at h;exact he h)])
 have V8:(bk==0)=false:=beq_eq_false_iff_ne.2 h0;have Tj:(ak==bk)=false∨(ak=bk∧(an.toList==bn.toList)=false):=by
  rcases xJ ak bk an bn with⟨h1,h2⟩|⟨h1,h2,_⟩|⟨h1,_⟩
  · exact absurd ⟨h1,h2⟩ he
  · exact .inr ⟨h1,h2⟩
  · exact .inl h1
 clear h0 he;by_cases iU:bk=2
 · subst iU;by_cases Vj:ak=3
   · subst Vj;have HV:Zs (M.may p k ⟨3,an⟩ ⟨2,bn⟩=true):=Ys (by rw[HU.o];rfl);clear Tj;go_enter Tryz.func193,Tryz.ntmps193;go_wp2;go_ret;exact⟨ag HV.o.symm,kx⟩
   by_cases PR:ak=2
   · subst PR;have OW:(an.toList==bn.toList)=false:=by
      rcases Tj with h|h
      · exact absurd h (by decide)
      · exact h.2
     have HV:Zs (M.may p k ⟨2,an⟩ ⟨2,bn⟩=(decide ((M.find p k an).2=1)&&decide ((M.find p k bn).2=1)&&M.under p (M.find p k an).1 (M.find p k bn).1)):=Ys (by rw[HU.o];rfl);clear Tj Vj;obtain⟨w0,bD⟩:∃w0,w0=(w.alloc (.cells #[.int .i64 2,.string an] 66)).alloc (.cells #[.int .i64 2,.string bn] 66):=⟨_,rfl⟩;have aU:Ext w w0:=by rw[bD];exact kx
     have b7:aC w0 (w.heap.size+1) 66 #[.int .i64 2,.string bn]:=by rw[bD];exact aC.newAt _ _ (by simp)
     have dQ:=Ys bD;have bJ:=Ys aU;clear bD aU;go_enter Tryz.func193,Tryz.ntmps193;go_wp2_with fail;rw[←dQ.o];refine(jM _ _ _ (H.o.ext bJ.o) k an).mono ?_;rintro e w1 ⟨rfl,bA⟩;have q0:=(b7.ext bA).c 0 (.int .i64 2) rfl;have q1:=(b7.ext bA).c 1 (.string bn) rfl;have qz:=(b7.ext bA).lt;have fe:=Ys (bJ.o.trans bA);clear bA b7;generalize M.find p k an=F1 at*;obtain⟨⟨xk,xn⟩,c1⟩:=F1;simp only at*;obtain⟨w2,iV,bP,b9⟩:=nu w1 #[.int .i64 xk,.string xn] 40;have sV:=Ys iV;have fD:=Ys (fe.o.trans bP);have q0':=bP.aA q0;have q1':=bP.aA q1;clear iV bP;go_wp2_with fail;rw[←sV.o];clear q0 q1 qz;refine(jM _ _ _ (H.o.ext fD.o) k bn).mono ?_;rintro e w3 ⟨rfl,dm⟩;have b93:=b9.ext dm;have s0:=b93.c 0 (.int .i64 xk) rfl;have s1:=b93.c 1 (.string xn) rfl;have sz:=b93.lt;have iH:=Ys (fD.o.trans dm);clear dm b9 b93 q0' q1';generalize M.find p k bn=F2 at*;obtain⟨⟨yk,yn⟩,c2⟩:=F2;simp only at*;by_cases lJ:c1=1
     · by_cases Gl:c2=1
       · subst lJ Gl;have Gg:Zs (M.may p k ⟨2,an⟩ ⟨2,bn⟩=M.under p ⟨xk,xn⟩ ⟨yk,yn⟩):=Ys (by rw[HV.o];rfl);go_wp2_with fail;refine(q8 _ _ _ (H.o.ext (iH.o.trans kx)) ⟨xk,xn⟩ ⟨yk,yn⟩).mono ?_;rintro e w4 ⟨rfl,dA⟩;have gZ:Zs (Ext w w4):=Ys ((iH.o.alloc _).trans dA);clear dA;go_wp2_with fail;go_ret;exact⟨ag Gg.o.symm,gZ.o⟩
       · have afE:(c2==1)=false:=beq_eq_false_iff_ne.2 Gl;subst lJ;have Gg:Zs (M.may p k ⟨2,an⟩ ⟨2,bn⟩=false):=Ys (by rw[HV.o];simp[Gl]);clear Gl;go_wp2_with fail;go_ret;exact⟨ag Gg.o.symm,iH.o.alloc _⟩
     · have abZ:(c1==1)=false:=beq_eq_false_iff_ne.2 lJ;have Gg:Zs (M.may p k ⟨2,an⟩ ⟨2,bn⟩=false):=Ys (by rw[HV.o];simp[lJ]);clear lJ;go_wp2_with fail;go_ret;exact⟨ag Gg.o.symm,iH.o.alloc _⟩
   · have afh:(ak==2)=false:=beq_eq_false_iff_ne.2 PR;have afv:(ak !=2)=true:=bne_iff_ne.2 PR;have afw:(ak==3)=false:=beq_eq_false_iff_ne.2 Vj;have HV:Zs (M.may p k ⟨ak,an⟩ ⟨2,bn⟩=false):=Ys (by rw[HU.o];simp[PR,Vj]);clear Tj PR Vj;go_enter Tryz.func193,Tryz.ntmps193;go_wp2;go_ret;exact⟨ag HV.o.symm,kx⟩
 · have afy:(bk !=2)=true:=bne_iff_ne.2 iU;have HV:Zs (M.may p k ⟨ak,an⟩ ⟨bk,bn⟩=false):=Ys (by rw[HU.o,if_pos iU]);clear iU;rcases Tj with h1|⟨rfl,h1⟩
   all_goals
    go_enter Tryz.func193,Tryz.ntmps193;go_wp2;go_ret;exact⟨ag HV.o.symm,kx⟩
end Go.Proofs.YtcepdbbapgfcdaaGreat
namespace Go.Proofs.YtcepdbbapgfcdaaGreat
open Go Go.RowKit
theorem bX.le{n n':Nat}{a b c d:Value}(h:bX n' a b c d)(hn:n≤n'):bX n a b c d:=fun g hg=>by
 rcases h g hg with h1|h1|h1
 · exact .inl h1
 · exact .inr (.inl h1)
 · exact .inr (.inr (by omega))
theorem Ht{α:Type}{enc:α→List Value}{k:Nat}(GR:∀x,(enc x).length=k)(st:List α)(x:α)(j:Nat):((st++[x]).flatMap enc)[st.length*k+j]?=(enc x)[j]?:=by
 rw[List.flatMap_append,List.getElem?_append_right (by rw[je GR];omega),je GR,Nat.add_sub_cancel_left];simp
section
variable {w w':World} {l:aI} {p:M.au} {B kb:Nat} {k:Int} {m:M.Method} {t:oV} {at_:Int} {s:M.jv} {vl vs:Value}
theorem aR.kp'{D:Nat→Prop}(h:aR w l p B kb k m t at_ s vl vs)(hk:Kp D w w')(hL:aF w' l p)(h1:¬D kb)(h2:∀g,vl.ownBlock=some g→¬D g)(h3:∀g,vs.ownBlock=some g→¬D g)(hO:∀b,b<l.O→¬D b):aR w' l p B kb k m t at_ s vl vs:=
 ⟨hL,h.hB,h.hk,bQ.kp aH.stays hk (fun b hb=>hO b hb) h.ml,h.mi,h.blk.kp hk h1,aD h.loc hk (fun g hg _=>h2 g hg),aD h.dG hk (fun g hg _=>h3 g hg),h.ne,h.tX,h.YH,h.Uq⟩
end
theorem uu(w:World)(l:aI)(p:M.au)(B kb:Nat)(k:Int)(m:M.Method)(t:oV)(at_:Int)(s:M.jv)(vl vs:Value)(h:aR w l p B kb k m t at_ s vl vs)(hs:s.stack=[]):
    Calls Tryz.prog 183 #[.pointer (some ⟨kb,0,none⟩)] w fun e w'=>e=.panicked (zi (at_+1))∧Ext w w':=by
 obtain⟨a,c,rfl⟩:=bV h.dG;have hl:s.stack.length=0:=by rw[hs];rfl
 have c12:=h.blk.c 12 (.slice a 0 c) (by rw[←hl];rfl);have c10:=h.blk.c 10 (.int .i64 at_) rfl;have hz:=h.blk.lt;clear hl;have tX:=h.tX;clear h hs;go_enter Tryz.func183,Tryz.ntmps183;go_wp2_with fail;refine(gG _ kb at_ (Kp.aA ((Kp.refl _ _).alloc _:Ext w _) c10) tX.1 (by omega)).mono ?_;rintro e w1 ⟨rfl,rfl⟩;exact⟨rfl,rfl,kx⟩
theorem xE(w:World)(l:aI)(p:M.au)(B kb:Nat)(k:Int)(m:M.Method)(t:oV)(at_:Int)(s:M.jv)(vl vs:Value)(h:aR w l p B kb k m t at_ s vl vs)(st:List M.Tag)(x:M.Tag)(hs:s.stack=st++[x]):
    Calls Tryz.prog 183 #[.pointer (some ⟨kb,0,none⟩)] w fun e w'=>e=.returned (.agg #[.int .i64 x.kind,.string x.name])∧(∃vs',aR w' l p B kb k m t at_ ⟨s.locals,st⟩ vl vs'∧bX w.heap.size vl vs vl vs')∧Kp (iW l kb vl vs) w w':=by
 have hlen:s.stack.length=st.length+1:=by rw[hs];simp
 have dX:=h.dG;rw[hlen]at dX;obtain⟨g,cp,rfl,hg,hgl,hcp⟩:=cO dX (by omega);have hcells:=dX.cells (g:=g) rfl;have x0:w.cell? ⟨g,st.length*2,none⟩=some (.int .i64 x.kind):=by
  have:=hcells (st.length*2) (.int .i64 x.kind) (by rw[hs];have:=Ht (enc:=ik) (k:=2) (fun _=>rfl) st x 0;rw[Nat.add_zero]at this;rw[this];rfl);simpa [Addr.add_lit]using this
 have x1:w.cell? ⟨g,st.length*2+1,none⟩=some (.string x.name):=by
  have:=hcells (st.length*2+1) (.string x.name) (by rw[hs,Ht (enc:=ik) (k:=2) (fun _=>rfl) st x 1];rfl);simpa [Addr.add_lit]using this
 have Yy:=h.YH;have hm5:=h.mi.stack;obtain⟨w0,bD,aU,b2⟩:=nu w #[.int .i64 0,.string ⟨#[]⟩] 66;have hA:=h.ext aU;obtain⟨T,f,dB,HT⟩:=iq.ex (fun W'=>Ext w0 W') _ (Kp.refl _ _);have Rw:=fun s=>(hA.blk.ext (HT.aJ s)).c 12 (.slice (some ⟨g,0,none⟩) (st.length+1) cp) (by rw[←hlen];rfl);have r0:=fun s=>(aU.trans (HT.aJ s)).aA x0;have r1:=fun s=>(aU.trans (HT.aJ s)).aA x1;have hw:IntKind.i64.wrap ((st.length:Int)+1 - 1)=(st.length:Int):=by rw[IntWalk.i64_in _ (by omega)];omega
 have aj:=Ys HT;have dQ:=Ys bD;have HA:=Ys hA;have H:=Ys h;have bJ:=Ys aU;have lD:=Ys b2;have AX:=Ys hlen;have HS:=Ys hs;have XC:=Ys hcp;have hl5:(st.length:Int)≤5:=by omega
 have c12:=h.blk.c 12 (.slice (some ⟨g,0,none⟩) (st.length+1) cp) (by rw[←hlen];rfl);have hz:=h.blk.lt;clear bD hA h aU b2 hlen hs hcells x0 x1 dX HT Yy hm5;go_enter Tryz.func183,Tryz.ntmps183;go_wp2_with fail;rw[←dQ.o];(refine dZ aj 13 [([0,1,2,3,4,5,6,7,8,9,10,11],12)] [] ?_ ?_)
 · exact(Kp.refl _ _).drew
 (refine di [_,_,_,_,_,_,_,_,_,_,_,_] rfl rfl fun K hK=>?_);(repeat (go_big_quiet_step (fail)));(refine qn hK fun K2 af=>?_);clear hK K;go_wp2_with fail;(refine kk aj af kx ?_);clear af K2;(refine dW ?_);go_wp2_with fail;obtain⟨w3,jw⟩:∃w3,w3=(w0.alloc (.cells #[.int .i64 x.kind,.string x.name] 66)).drew:=⟨_,rfl⟩;have dm:Ext w0 w3:=by rw[jw];exact kx
 have b3:aC w3 w0.heap.size 66 #[.int .i64 x.kind,.string x.name]:=by rw[jw];exact(aC.new _ _ _).ext (Kp.refl _ _).drew
 have Rh:=HA.o.ext dm;have K7:w3.heap.size=w0.heap.size+1:=by rw[jw];simp
 have uR:w0.heap.size=w.heap.size+1:=by rw[dQ.o];simp
 have HZ:=Ys (And.intro K7 uR);rw[←jw];clear jw aj Rw r0 r1;obtain⟨T,f,dB,HT⟩:=iq.ex (fun W'=>Ext w3 W') _ (Kp.refl _ _);have Rw:=fun s=>(Rh.blk.ext (HT.aJ s)).c 12 (.slice (some ⟨g,0,none⟩) (st.length+1) cp) (by rw[←AX.o];rfl);have aj:=Ys HT;have afK:(st.length:Int)≤cp:=by have:=XC.o;omega
 (refine dZ aj 12 [] [0,1,2,3,4,5,6,7,8,9,10,11] ?_ ?_)
 · exact(Kp.refl _ _).drew
 (refine uY [_,_,_,_,_,_,_,_,_,_,_,_] rfl fun K hK=>?_);(repeat (go_big_quiet_step (fail)));(refine qn hK ?_);clear hK K;have d12:=Rh.blk.c 12 (.slice (some ⟨g,0,none⟩) (st.length+1) cp) (by rw[←AX.o];rfl);have e12:=Rh.blk.frozen 12;have z3:=Rh.blk.lt;have u0:=b3.c 0 (.int .i64 x.kind) rfl;have u1:=b3.c 1 (.string x.name) rfl;have ZH:=lD.o.ext dm;have v0:=ZH.c 0 (.int .i64 0) rfl;have v1:=ZH.c 1 (.string ⟨#[]⟩) rfl;have i0:=ZH.frozen 0;have i1:=ZH.frozen 1;have i2:=ZH.lt;have YR:=Ys Rh;have iH:=Ys dm;have fM:=Ys ZH;have n1:¬w0.heap.size=kb:=by omega
 have n2:¬w.heap.size=kb:=by omega
 have n3:¬kb=w0.heap.size:=by omega
 have n4:¬kb=w.heap.size:=by omega
 clear Rh dm b3 ZH HT Rw c12 uR K7;go_wp2_with fail;have lK:Kp (fun b=>b=kb∨(Value.slice (some ⟨g,0,none⟩) (st.length+1) cp).ownBlock=some b) w3 (w3.setCell ⟨kb,12,none⟩ (.slice (some ⟨g,0,none⟩) st.length cp)):=(Kp.refl _ w3).setCell (p:=⟨kb,12,none⟩) (fun _=>.inl rfl) _;have K3:=YR.o.dG;rw[AX.o,HS.o]at K3;have Vo:=BJ K3 (j:=st.length) (by omega);rw[Bg (enc:=ik) (k:=2) (fun _=>rfl)]at Vo;have aec:=YR.o.blk.bI 12 (.slice (some ⟨g,0,none⟩) st.length cp);have oC:=YR.o.YE;have ad7:=YR.o;obtain⟨hS,X6,hOS⟩:=ad7.setStack (st:=st) (vs':=.slice (some ⟨g,0,none⟩) st.length cp) lK aec (aD (D:=(·=kb)) Vo ((Kp.refl (·=kb) w3).setCell (p:=⟨kb,12,none⟩) (fun _=>rfl) _) (fun q hq _ e=>by cases hq;subst e;exact oC.2 rfl)) (fun q hq=>.inl hq) (by have:=YR.o.YH;rw[AX.o]at this;omega);generalize w3.setCell ⟨kb,12,none⟩ (.slice (some ⟨g,0,none⟩) st.length cp)=w4 at*;have mf:∀D:Nat→Prop,D w.heap.size→Kp D w4 ((w4.setCell ⟨w.heap.size,0,none⟩ (.int .i64 x.kind)).setCell ⟨w.heap.size,1,none⟩ (.string x.name)).drew:=fun D hD=>
  (((Kp.refl D w4).setCell (p:=⟨w.heap.size,0,none⟩) (fun _=>hD) _).setCell (p:=⟨w.heap.size,1,none⟩) (fun _=>hD) _).drew
 have iU:aC w4 w.heap.size 66 #[.int .i64 0,.string ⟨#[]⟩]:=fM.o.kp lK (fun e=>by
  rcases e with e|e
  · omega
  · have e':g=w.heap.size:=by simpa [Value.ownBlock]using e
    omega)
 have Gl:=ae.gX ((iU.bI 0 (.int .i64 x.kind)).bI 1 (.string x.name));refine bodyPost_ret (aT nV rfl _ _ w.heap.size rfl (ik x) (Gl.ext (Kp.refl _ _).drew) rfl) rfl ?_;have hBk:=H.o.hk;have hBB:=H.o.hB;have hOO:=H.o.dP.ord;have bZ:=H.o.blk.lt;refine⟨rfl,⟨_,hS.kp' (mf (·=w.heap.size) rfl) (hS.dP.kp (mf (·=w.heap.size) rfl) (fun b hb e=>by omega)) (by omega) (fun q hq e=>by have:=(H.o.loc.lt q hq).2;omega) (fun q hq e=>by
  have e':g=q:=by simpa [Value.ownBlock]using hq
  omega) (fun b hb e=>by omega),hOS.le (by omega)⟩,?_⟩
 exact(((bJ.o.trans iH.o).any).trans X6).own (mf (·=w.heap.size) rfl) (fun q hq=>by omega)
end Go.Proofs.YtcepdbbapgfcdaaGreat
namespace Go.Proofs.YtcepdbbapgfcdaaGreat
open Go Go.RowKit
theorem Ll(w:World)(l:aI)(p:M.au)(B kb:Nat)(k:Int)(m:M.Method)(t:oV)(at_:Int)(s:M.jv)(vl vs:Value)(h:aR w l p B kb k m t at_ s vl vs)(x:M.Tag)(hs:m.stack≤s.stack.length):
    Calls Tryz.prog 181 #[.pointer (some ⟨kb,0,none⟩),.agg #[.int .i64 x.kind,.string x.name]] w fun e w'=>e=.panicked (zi (at_+1))∧Ext w w':=by
 obtain⟨a,c,rfl⟩:=bV h.dG;obtain⟨w0,bD⟩:∃w0,w0=w.alloc (.cells #[.int .i64 x.kind,.string x.name] 66):=⟨_,rfl⟩;have aU:Ext w w0:=by rw[bD];exact kx
 have hA:=h.ext aU;obtain⟨T,f,dB,HT⟩:=iq.ex (fun W'=>Ext w0 W') _ (Kp.refl _ _);have Rw:=fun s'=>(hA.blk.ext (HT.aJ s')).c 12 (.slice a s.stack.length c) rfl;have r7:=fun s'=>(hA.blk.ext (HT.aJ s')).c 7 (.int .i64 m.stack) rfl;have r10:=fun s'=>(hA.blk.ext (HT.aJ s')).c 10 (.int .i64 at_) rfl;have aj:=Ys HT;have dQ:=Ys bD;have bJ:=Ys aU;have tX:=h.tX;have hd:decide (m.stack≤(s.stack.length:Int))=true:=decide_eq_true hs;clear h hs HT bD aU hA;go_enter Tryz.func181,Tryz.ntmps181;go_wp2_with fail;rw[←dQ.o];(refine Gv aj ?_ ?_);rotate_left;(repeat (go_big_quiet_step ((fail))));(refine wpQuiet_nil ?_);(rintro _ ⟨sW,rfl⟩);rotate_left
 · exact(Kp.refl _ _).drew
 go_wp2_with fail;refine(gG _ kb at_ (r10 sW) tX.1 (by omega)).mono ?_;rintro e w1 ⟨rfl,rfl⟩;exact⟨rfl,rfl,bJ.o.trans (aj.o.aJ sW)⟩
theorem Ul(w:World)(l:aI)(p:M.au)(B kb:Nat)(k:Int)(m:M.Method)(t:oV)(at_:Int)(s:M.jv)(vl vs:Value)(h:aR w l p B kb k m t at_ s vl vs)(x:M.Tag)(hs:(s.stack.length:Int)<m.stack):
    Calls Tryz.prog 181 #[.pointer (some ⟨kb,0,none⟩),.agg #[.int .i64 x.kind,.string x.name]] w fun e w'=>e=.returned (.tuple #[])∧(∃vs',aR w' l p B kb k m t at_ ⟨s.locals,s.stack++[x]⟩ vl vs'∧bX w.heap.size vl vs vl vs')∧Kp (iW l kb vl vs) w w':=by
 obtain⟨a,c,rfl⟩:=bV h.dG;obtain⟨w0,bD,aU,b3⟩:=nu w #[.int .i64 x.kind,.string x.name] 66;have hA:=h.ext aU;obtain⟨T,f,dB,HT⟩:=iq.ex (fun W'=>Ext w0 W') _ (Kp.refl _ _);have Rw:=fun s'=>(hA.blk.ext (HT.aJ s')).c 12 (.slice a s.stack.length c) rfl;have r7:=fun s'=>(hA.blk.ext (HT.aJ s')).c 7 (.int .i64 m.stack) rfl;have aj:=Ys HT;have dQ:=Ys bD;have bJ:=Ys aU;have HA:=Ys hA;have fM:=Ys b3;have H:=Ys h;have hd:decide (m.stack≤(s.stack.length:Int))=false:=decide_eq_false (by omega);clear h HT bD aU hA b3;go_enter Tryz.func181,Tryz.ntmps181;go_wp2_with fail;rw[←dQ.o];(refine Gv aj ?_ ?_);rotate_left;(repeat (go_big_quiet_step ((fail))));(refine wpQuiet_nil ?_);(rintro _ ⟨sW,rfl⟩);rotate_left
 · exact(Kp.refl _ _).drew
 go_wp2_with fail;have bA:=aj.o.aJ sW;generalize f sW=w1 at*;clear aj Rw r7;have rP:=HA.o.ext bA;have IM:=fM.o.ext bA;have ae0:=bA.size;have hzw:w.heap.size<w0.heap.size:=by rw[dQ.o];simp
 obtain⟨T,f,dB,HT⟩:=iq.ex (fun W'=>Kp (fun b=>(Value.slice a s.stack.length c).ownBlock=some b) w1 W') _ (Kp.refl _ _);have WI:¬(Value.slice a s.stack.length c).ownBlock=some w.heap.size:=fun e=>by have:=(H.o.dG.lt _ e).2;omega
 have Rw:=fun s'=>(rP.blk.kp (HT.aJ s') rP.YE.2).c 12 (.slice a s.stack.length c) rfl;have r0:=fun s'=>(IM.kp (HT.aJ s') WI).c 0 (.int .i64 x.kind) rfl;have r1:=fun s'=>(IM.kp (HT.aJ s') WI).c 1 (.string x.name) rfl;have aj:=Ys HT;have kG:=Ys rP;have fe:=Ys bA;have hm5:s.stack.length+1≤4294967296:=by have:=rP.mi.stack;omega
 have hBw:B≤w1.heap.size:=by have:=rP.blk.lt;have:=rP.hk;omega
 clear HT rP IM bA WI;(refine dZ aj 8 [([0,1,2,3,4,5],6),([],7)] [] ?_ ?_)
 · exact(Kp.refl _ _).drew
 (refine di [_,_,_,_,_,_] rfl rfl fun K hK=>?_);(repeat (go_big_quiet_step (fail)));(refine qn hK fun K2 af=>?_);clear hK K;go_wp2_with fail;(refine kk aj af kx ?_);clear af K2;(refine ic rfl fun K2 af=>?_);refine aB r9 rfl (.tmp 21) (.tmp 23) rfl B (.slice a s.stack.length c) s.stack.length _ rfl (aD (D:=fun _=>False) kG.o.dG kx fun _ _ _ x=>x) w1.heap.size 1 (ik x) rfl rfl (ae.Qy _ _ rfl) (uw _) hm5 (by simp;omega) ?_;intro g2 c2 w2 Td hKp PX;change K2 _ _;have Df:Kp (fun b=>(Value.slice a s.stack.length c).ownBlock=some b) w1 w2:=(kx:Ext w1 _).any.trans hKp;(refine kk aj af Df ?_);clear af K2;have hB2:=kG.o.blk.kp Df kG.o.YE.2;have d0:=hB2.c 12 (.slice a s.stack.length c) rfl;have e0:=hB2.frozen 12;have z1:=hB2.lt;have lD:=Ys hB2;have yG:=Ys Td;have XG:=Ys Df;have HG2:=Ys PX;clear Td hKp Df hB2 PX Rw r0 r1;(refine dW ?_);go_wp2_with fail;((try simp only[Exit.inBlock,Exit.then]);(first|refine bodyPost_ret (results_none rfl _ _ _) rfl ?_|refine bodyPost_end (results_none rfl _ _ _) rfl ?_));have bH:∀D:Nat→Prop,D kb→∀v,Kp D w2 (w2.setCell ⟨kb,12,none⟩ v):=fun D hD v=>(Kp.refl D w2).setCell (p:=⟨kb,12,none⟩) (fun _=>hD) v;have hlen:(s.stack++[x]).length=s.stack.length+1:=by simp
 have hgk:g2≠kb:=fun e=>by
  subst e;rcases HG2.o with h|h
  · exact kG.o.YE.2 h
  · have:=kG.o.blk.lt;simp at h;omega
 obtain⟨hS,X6,hOS⟩:=kG.o.setStack (st:=s.stack++[x]) (vs':=.slice (some ⟨g2,0,none⟩) (s.stack.length+1) c2) ((XG.o.weak fun b _ h=>.inr h).trans (bH _ (.inl rfl) (.slice (some ⟨g2,0,none⟩) (s.stack.length+1) c2))) (lD.o.bI 12 _) (by
  have h2:=aD yG.o (bH (·=kb) rfl (.slice (some ⟨g2,0,none⟩) (s.stack.length+1) c2)) (fun q hq _ e=>by cases hq;exact hgk e);rw[hlen];simpa using h2) (fun q hq=>by
   have hgq:g2=q:=by simpa [Value.ownBlock]using hq
   subst hgq;rcases HG2.o with h|h
   · exact .inl h
   · right;simp at h;omega) (by rw[hlen];omega)
 exact⟨rfl,⟨_,hS,hOS.le (by omega)⟩,((bJ.o.trans fe.o).any).trans X6⟩
theorem lX(w:World)(l:aI)(p:M.au)(B kb:Nat)(k:Int)(m:M.Method)(t:oV)(at_:Int)(s:M.jv)(vl vs:Value)(h:aR w l p B kb k m t at_ s vl vs)(x:M.Tag):
    Calls Tryz.prog 181 #[.pointer (some ⟨kb,0,none⟩),.agg #[.int .i64 x.kind,.string x.name]] w (bu w l p B kb k m t at_ vl vs (M.iY m x s)):=by
 by_cases hs:m.stack≤s.stack.length
 · refine(Ll w l p B kb k m t at_ s vl vs h x hs).mono ?_;rintro e w' ⟨rfl,hE⟩;exact⟨hE.any,h.dP.ext hE,.inl ⟨by unfold M.iY;rw[if_pos hs],rfl⟩⟩
 · refine(Ul w l p B kb k m t at_ s vl vs h x (by omega)).mono ?_;rintro e w' ⟨rfl,⟨vs',hS,hO⟩,hK⟩;exact⟨hK,hS.dP,.inr ⟨_,by unfold M.iY;rw[if_neg hs],rfl,_,_,hS,hO⟩⟩
theorem iJ(w:World)(l:aI)(p:M.au)(B kb:Nat)(k:Int)(m:M.Method)(t:oV)(at_:Int)(s:M.jv)(vl vs:Value)(h:aR w l p B kb k m t at_ s vl vs)(x:M.Tag):
    Calls Tryz.prog 184 #[.pointer (some ⟨kb,0,none⟩),.agg #[.int .i64 x.kind,.string x.name]] w (bu w l p B kb k m t at_ vl vs (M.jF p k x s)):=by
 obtain⟨w0,bD,aU,b3⟩:=nu w #[.int .i64 x.kind,.string x.name] 66;have hA:=h.ext aU;have hOw:=h.dP.ord;have Cu:=h.dP.lt;have Br:=h.blk.lt;have tX:=h.tX;obtain⟨T,f,dB,HT⟩:=iq.ex (fun W'=>aC W' w.heap.size 66 #[.int .i64 x.kind,.string x.name]∧∃s' sS vs',aR W' l p B kb k m t at_ s' sS vs') w0 ⟨b3,_,_,_,hA⟩;have r0:∀q,(f q).cell? ⟨kb,0,none⟩=some (.pointer (some ⟨l.L,0,none⟩)):=fun q=>by
  obtain⟨_,s',sS,vs',hq⟩:=HT.aJ q;exact hq.blk.c 0 _ rfl
 have r1:∀q,(f q).cell? ⟨kb,1,none⟩=some (.int .i64 k):=fun q=>by
  obtain⟨_,s',sS,vs',hq⟩:=HT.aJ q;exact hq.blk.c 1 _ rfl
 have r3:=fun q=>(HT.aJ q).1.c 0 (.int .i64 x.kind) rfl;have r4:=fun q=>(HT.aJ q).1.c 1 (.string x.name) rfl;have aj:=Ys HT;have dQ:=Ys bD;have bJ:=Ys aU;have HA:=Ys hA;have fM:=Ys b3;have H:=Ys h;clear h HT bD aU hA b3;rcases List.eq_nil_or_concat s.stack with hs|⟨st,y,hs⟩
 · have HO:Zs (M.jF p k x s=none):=Ys (by unfold M.jF M.rG;rw[hs];rfl);have HS:=Ys hs;clear hs;go_enter Tryz.func184,Tryz.ntmps184;go_wp2_with fail;rw[←dQ.o];(refine dZ aj 13 [([0,1,2,3,4,5,6,7,8,10],9),([],11)] [12] ?_ ?_)
   · exact⟨fM.o.ext (Kp.refl _ _).drew,_,_,_,HA.o.ext (Kp.refl _ _).drew⟩
   (refine di [_,_,_,_,_,_,_,_,_,_] rfl rfl fun K hK=>?_);(repeat (go_big_quiet_step (fail)));(refine qn hK fun K2 af=>?_);clear hK K;go_wp2_with fail;refine(uu _ _ _ _ _ _ _ _ _ _ _ _ (HA.o.ext (Kp.refl _ _).drew) HS.o).mono ?_;rintro e w1 ⟨rfl,bA⟩;have hE:Ext w w1:=(bJ.o.trans (Kp.refl _ _).drew).trans bA;exact⟨rfl,hE.any,H.o.dP.ext hE,.inl ⟨HO.o,rfl⟩⟩
 · rw[List.concat_eq_append]at hs;have HO:Zs (M.jF p k x s=if M.may p k y x then some ⟨s.locals,st⟩else none):=Ys (by unfold M.jF M.rG;rw[hs];simp);have HS:=Ys hs;clear hs;go_enter Tryz.func184,Tryz.ntmps184;go_wp2_with fail;rw[←dQ.o];(refine dZ aj 13 [([0,1,2,3,4,5,6,7,8,10],9),([],11)] [12] ?_ ?_)
   · exact⟨fM.o.ext (Kp.refl _ _).drew,_,_,_,HA.o.ext (Kp.refl _ _).drew⟩
   (refine di [_,_,_,_,_,_,_,_,_,_] rfl rfl fun K hK=>?_);(repeat (go_big_quiet_step (fail)));(refine qn hK fun K2 af=>?_);clear hK K;go_wp2_with fail;refine(xE _ _ _ _ _ _ _ _ _ _ _ _ (HA.o.ext (Kp.refl _ _).drew) st y HS.o).mono ?_;rintro e w1 ⟨rfl,⟨vs1,rP,Mj⟩,lU⟩;have zV:Kp (iW l kb vl vs) w w1:=((bJ.o.trans (Kp.refl _ _).drew).any).trans lU;have uN:aC w1 w.heap.size 66 #[.int .i64 x.kind,.string x.name]:=(fM.o.ext (Kp.refl _ _).drew).kp lU (fun e=>by
    rcases e with e|e|e|e
    · omega
    · omega
    · have:=(H.o.loc.lt _ e).2;omega
    · have:=(H.o.dG.lt _ e).2;omega)
   have kG:=Ys rP;have vJ:=Ys uN;have HKw:=Ys zV;have U6:Zs (bX w.heap.size vl vs vl vs1):=Ys (Mj.le (by have:=bJ.o.size;exact this));clear rP Mj lU zV uN;go_wp2_with fail;(refine kk aj af ⟨vJ.o,_,_,_,kG.o⟩ ?_);clear af K2;(refine ic rfl fun K2 af=>?_);go_wp2_with fail;refine(BC _ _ _ kG.o.dP k y x).mono ?_;rintro e w2 ⟨rfl,bP⟩;have AP:=Ys (kG.o.ext bP);have abd:Zs (Kp (iW l kb vl vs) w w2):=Ys (HKw.o.trans bP.any);have lD:=Ys (vJ.o.ext bP);clear bP;cases Ab:M.may p k y x
   · have yG:Zs (M.jF p k x s=none):=Ys (by rw[HO.o,Ab];rfl);clear Ab;go_wp2_with fail;(refine kk aj af ⟨lD.o,_,_,_,AP.o⟩ ?_);clear af K2;(refine dI [_] rfl rfl fun K hK=>?_);(repeat (go_big_quiet_step (fail)));(refine qn hK ?_);clear hK K;go_wp2_with fail;refine(gG _ kb at_ (AP.o.blk.c 10 _ rfl) tX.1 (by omega)).mono ?_;rintro e w3 ⟨rfl,rfl⟩;exact⟨rfl,abd.o,AP.o.dP,.inl ⟨yG.o,rfl⟩⟩
   · have yG:Zs (M.jF p k x s=some ⟨s.locals,st⟩):=Ys (by rw[HO.o,Ab];rfl);clear Ab;go_wp2_with fail;(refine kk aj af ⟨lD.o,_,_,_,AP.o⟩ ?_);clear af K2;(refine dI [_] rfl rfl fun K hK=>?_);(repeat (go_big_quiet_step (fail)));(refine qn hK ?_);clear hK K;go_wp2_with fail;((try simp only[Exit.inBlock,Exit.then]);(first|refine bodyPost_ret (results_none rfl _ _ _) rfl ?_|refine bodyPost_end (results_none rfl _ _ _) rfl ?_));exact⟨abd.o,AP.o.dP,.inr ⟨_,yG.o,rfl,_,_,AP.o,U6.o⟩⟩
theorem uW(w:World)(l:aI)(p:M.au)(B kb:Nat)(k:Int)(m:M.Method)(t:oV)(at_:Int)(s:M.jv)(vl vs:Value)(h:aR w l p B kb k m t at_ s vl vs):
    Calls Tryz.prog 188 #[.pointer (some ⟨kb,0,none⟩)] w (bu w l p B kb k m t at_ vl vs (M.wJ s)):=by
 have tX:=h.tX;have H:=Ys h;clear h;rcases List.eq_nil_or_concat s.stack with hs|⟨st,y,hs⟩
 · have HO:Zs (M.wJ s=none):=Ys (by unfold M.wJ M.rG;rw[hs];rfl);have HS:=Ys hs;clear hs;go_enter Tryz.func188,Tryz.ntmps188;go_wp2_with fail;refine(uu _ _ _ _ _ _ _ _ _ _ _ _ H.o HS.o).mono ?_;rintro e w1 ⟨rfl,bA⟩;exact⟨rfl,bA.any,H.o.dP.ext bA,.inl ⟨HO.o,rfl⟩⟩
 · rw [List.concat_eq_append] at hs; have HO : Zs (M.wJ s = if y.kind = 2 ∨ y.kind = 3 then some ⟨s.locals, st⟩ else none) := Ys (by unfold M.wJ M.rG; rw [hs]; simp); have HS := Ys hs; clear hs; obtain ⟨yk, yn⟩ := y; have Hz : (yk = 2 ∨ (yk = 3 ∧ (yk != 2) = true)) ∧ M.wJ s = some ⟨s.locals, st⟩ ∨ ((yk != 2) = true ∧ (yk != 3) = true) ∧ M.wJ s = none := by
    by_cases h2:yk=2
    · exact .inl ⟨.inl h2,by rw[HO.o,if_pos (.inl h2)]⟩
    · by_cases h3:yk=3
      · exact .inl ⟨.inr ⟨h3,bne_iff_ne.2 h2⟩,by rw[HO.o,if_pos (.inr h3)]⟩
      · exact .inr ⟨⟨bne_iff_ne.2 h2,bne_iff_ne.2 h3⟩,by rw[HO.o,if_neg (by simp[h2,h3])]⟩
   rcases Hz with⟨h1,h2⟩|⟨⟨h1,h3⟩,h2⟩
   · have yG:=Ys h2;clear h2;rcases h1 with rfl|⟨rfl,h1⟩
     all_goals
      go_enter Tryz.func188,Tryz.ntmps188;go_wp2_with fail;refine(xE _ _ _ _ _ _ _ _ _ _ _ _ H.o st _ HS.o).mono ?_;rintro e w1 ⟨rfl,⟨vs1,rP,Mj⟩,lU⟩;have kG:=Ys rP;have U6:=Ys Mj;have Ce:=Ys lU;clear rP Mj lU;go_wp2_with fail;((try simp only[Exit.inBlock,Exit.then]);(first|refine bodyPost_ret (results_none rfl _ _ _) rfl ?_|refine bodyPost_end (results_none rfl _ _ _) rfl ?_));exact⟨Ce.o.alloc _,kG.o.dP.ext kx,.inr ⟨_,yG.o,rfl,_,_,kG.o.ext kx,U6.o⟩⟩
   · have yG:=Ys h2;clear h2;go_enter Tryz.func188,Tryz.ntmps188;go_wp2_with fail;refine(xE _ _ _ _ _ _ _ _ _ _ _ _ H.o st _ HS.o).mono ?_;rintro e w1 ⟨rfl,⟨vs1,rP,Mj⟩,lU⟩;have kG:=Ys rP;have Ce:=Ys lU;clear rP Mj lU;go_wp2_with fail;refine(gG _ kb at_ ((kG.o.ext kx).blk.c 10 _ rfl) tX.1 (by omega)).mono ?_;rintro e w3 ⟨rfl,rfl⟩;exact⟨rfl,Ce.o.alloc _,kG.o.dP.ext kx,.inl ⟨yG.o,rfl⟩⟩
theorem Kw:CX 227 3:=⟨_,Tryz.underlying227,by kernel_rfl⟩
theorem Fj(w:World)(l:aI)(p:M.au)(B kb:Nat)(k:Int)(m:M.Method)(t:oV)(at_:Int)(s:M.jv)(vl vs:Value)(h:aR w l p B kb k m t at_ s vl vs)(a:Int):
    Calls Tryz.prog 189 #[.pointer (some ⟨kb,0,none⟩),.int .i64 a] w fun e w'=>
     ((M.CK m a=none∧e=.returned (.tuple #[.agg #[.int .i64 0,.slice none 0 0,.slice none 0 0],.bool false]))∨
      ∃f cs,M.CK m a=some f∧f∈m.maps∧gM w' (· <l.O) f cs∧e=.returned (.tuple #[.agg cs.toArray,.bool true]))∧Ext w w':=by
 obtain⟨w0,bD,aU,b4⟩:=nu w #[.int .i64 0,.slice none 0 0,.slice none 0 0] 227;have hOl:l.O<w.heap.size:=by have:=h.dP.ord;have:=h.dP.lt;omega
 have c9:=h.blk.c 9 (.slice t.a3 m.maps.length t.c3) rfl;have hz:=h.blk.lt;obtain⟨_,_,vm,lu,_,_,Rp⟩:=h.ml;simp only[ig,List.cons.injEq,and_true,true_and]at lu;obtain⟨-, -,rfl⟩:=lu;have HMS:=Ys Rp;have iB:=Ys b4;have bJ:=Ys aU;have dQ:=Ys bD;have hm5:=h.mi.maps;obtain⟨ta1,tc1,ta2,tc2,ta,tc⟩:=t;simp only at*;clear Rp b4 aU bD h;go_enter Tryz.func189,Tryz.ntmps189;go_wp2_with fail;rw[←dQ.o];go_loopw [14] (fun i wr=>∃q:Nat,q≤m.maps.length∧i=.int .i64 q∧Ext w0 wr∧Zs (M.CK m a=(m.maps.drop q).find? fun f=>f.at_=a)) (fun i _=>m.maps.length - (intOf i).toNat)
 case atStart=>exact⟨0,Nat.zero_le _,rfl,Kp.refl _ _,Ys rfl⟩
 case round =>
  obtain⟨q,hq,rfl,hE,HA⟩:=hrel;have vM:=iB.o.ext hE;have y0:=vM.c 0 (.int .i64 0) rfl;have y1:=vM.c 1 (.slice none 0 0) rfl;have y2:=vM.c 2 (.slice none 0 0) rfl;have f0:=vM.frozen 0;have f1:=vM.frozen 1;have f2:=vM.frozen 2;have yz:=vM.lt;have Kc:=Ys vM;have AV:=Ys (bJ.o.trans hE);clear vM;by_cases bZ:q<m.maps.length
  · obtain⟨x,hx⟩:=jo m.maps q bZ;obtain⟨b,off,cs,rfl,J6,NA, -,jh⟩:=HMS.o.get hx;have HXL:=Ys NA;obtain⟨xa1,xc1,xa2,xc2,rfl⟩:=NA.form;obtain⟨g0,g1,g2⟩:=(jh.ext (bJ.o.trans hE)).three;have gz:=aG g0;have HX:=Ys hx;clear NA jh hx;by_cases O4:x.at_=a
    · have HR:Zs (M.CK m a=some x):=Ys (by rw[HA.o,jS HX.o,List.find?_cons_of_pos (by simpa using O4)]);have aeZ:(x.at_==a)=true:=by simpa using O4
      clear O4;go_wp2_with fail;have hs:=Kp.qO (D:=(·=w.heap.size)) (w:=wr) rfl (.int .i64 x.at_) (.slice xa1 x.locals.length xc1) (.slice xa2 x.stack.length xc2);have hb:=Kc.o.qO (.int .i64 x.at_) (.slice xa1 x.locals.length xc1) (.slice xa2 x.stack.length xc2);refine bodyPost_ret (ai Kw rfl _ _ w.heap.size rfl [.int .i64 x.at_,.slice xa1 x.locals.length xc1,.slice xa2 x.stack.length xc2] ((ae.gX hb).ext ((Kp.refl _ _).alloc _)) rfl) rfl ?_;exact⟨.inr ⟨x,_,HR.o,List.mem_of_getElem? HX.o,bQ.ext gM.stays ((Kp.refl _ _).alloc _) (bQ.kp gM.stays hs (fun b hb e=>by omega) (bQ.ext gM.stays AV.o HXL.o)),rfl⟩,(AV.o.own hs (fun k hk=>by omega)).alloc _⟩
    · have HR:Zs (M.CK m a=(m.maps.drop (q+1)).find? fun f=>f.at_=a):=Ys (by rw[HA.o,jS HX.o,List.find?_cons_of_neg (by simpa using O4)]);have aeZ:(x.at_==a)=false:=beq_eq_false_iff_ne.2 O4;clear O4;go_wp2_with fail;go_roundw
      case rel=>exact⟨q+1,by omega,by go_num,kx,HR⟩
      case measure=>simp[intOf];omega
  · have HR:Zs (M.CK m a=none):=Ys (by rw[HA.o,List.drop_eq_nil_of_le (by omega)];rfl);go_wp2_with fail;have hs:=Kp.qO (D:=(·=w.heap.size)) (w:=wr) rfl (.int .i64 0) (.slice none 0 0) (.slice none 0 0);have hb:=Kc.o.qO (.int .i64 0) (.slice none 0 0) (.slice none 0 0);refine bodyPost_ret (ai Kw rfl _ _ w.heap.size rfl [.int .i64 0,.slice none 0 0,.slice none 0 0] (ae.gX hb) rfl) rfl ?_;exact⟨.inl ⟨HR.o,rfl⟩,AV.o.own hs (fun k hk=>by omega)⟩
theorem CO{p:M.au}{k:Int}{a b:List M.Tag}{q:Nat}{x y:M.Tag}(hx:a[q]?=some x)(hy:b[q]?=some y):M.jl p k (a.drop q) (b.drop q)=(M.may p k x y&&M.jl p k (a.drop (q+1)) (b.drop (q+1))):=by
 rw[jS hx,jS hy];rfl
theorem Fw{p:M.au}{k:Int}{a b:List M.Tag}{q:Nat}(h:b.length≤q):M.jl p k (a.drop q) (b.drop q)=true:=by
 have e:b.drop q=[]:=List.drop_eq_nil_of_le h;rw[e];cases a.drop q<;>rfl
theorem yA(w:World)(l:aI)(p:M.au)(B kb:Nat)(k:Int)(m:M.Method)(t:oV)(at_:Int)(s:M.jv)(vl vs:Value)(h:aR w l p B kb k m t at_ s vl vs)(fm:M.SMap)(cs:List Value)(hf:gM w (· <l.O) fm cs)(ym:fm.locals.length=s.locals.length):
    Calls Tryz.prog 190 #[.pointer (some ⟨kb,0,none⟩),.agg cs.toArray] w fun e w'=>e=.returned (.bool (M.gL p k s fm))∧Ext w w':=by
 have tF:=Ys hf;obtain⟨fa1,Sy,fa2,M7,rfl⟩:=hf.form;obtain⟨_,_,he,uQ,Yy⟩:=hf;simp only[List.cons.injEq,and_true,true_and]at he;obtain⟨rfl,rfl⟩:=he;obtain⟨w0,bD,aU,b3⟩:=nu w #[.int .i64 fm.at_,.slice fa1 fm.locals.length Sy,.slice fa2 fm.stack.length M7] 227;have hA:=h.ext aU;obtain⟨sa,sc,rfl⟩:=bV h.dG;obtain⟨la,lc,rfl⟩:=bV h.loc;obtain⟨T,f,dB,HT⟩:=iq.ex (fun W'=>Ext w0 W') _ (Kp.refl _ _);have Rw:=fun q=>(hA.blk.ext (HT.aJ q)).c 12 (.slice sa s.stack.length sc) rfl;have r2:=fun q=>(b3.ext (HT.aJ q)).c 2 (.slice fa2 fm.stack.length M7) rfl;have aj:=Ys HT;have dQ:=Ys bD;have bJ:=Ys aU;have HA:=Ys hA;have fM:=Ys b3;have zC:=Ys (And.intro uQ Yy);have hll:fm.locals.length≤6:=by have:=h.Uq;have:=h.mi.locals;omega
 have af1:s.stack.length≤5:=by have:=h.YH;have:=h.mi.stack;omega
 have HLL:=Ys ym;clear h HT bD aU hA b3 uQ Yy ym;by_cases bH:fm.stack.length=s.stack.length
 · have HU:Zs (M.gL p k s fm=(M.jl p k s.locals fm.locals&&M.jl p k s.stack fm.stack)):=Ys (by unfold M.gL;rw[decide_eq_true bH];rfl);have WQ:((fm.stack.length:Int) !=(s.stack.length:Int))=false:=by simp[bH]
   have qM:=Ys bH;clear bH;go_enter Tryz.func190,Tryz.ntmps190;go_wp2_with fail;rw[←dQ.o];(refine Gv aj ?_ ?_);rotate_left;(repeat (go_big_quiet_step ((fail))));(refine wpQuiet_nil ?_);(rintro _ ⟨sW,rfl⟩);rotate_left
   · exact(Kp.refl _ _).drew
   have bA:=aj.o.aJ sW;generalize f sW=w1 at*;clear aj Rw r2 WQ;have rP:=HA.o.ext bA;have hB1:=fM.o.ext bA;have p1:=hB1.c 1 (.slice fa1 fm.locals.length Sy) rfl;have p2:=hB1.c 2 (.slice fa2 fm.stack.length M7) rfl;have kG:=Ys rP;have vJ:=Ys hB1;have fe:Zs (Ext w w1):=Ys (bJ.o.trans bA);clear rP hB1 bA;go_wp2_with fail;go_loopw [21] (fun i wr=>∃q:Nat,q≤fm.locals.length∧i=.int .i64 q∧Ext w1 wr∧Zs (M.jl p k s.locals fm.locals=M.jl p k (s.locals.drop q) (fm.locals.drop q))) (fun i _=>fm.locals.length - (intOf i).toNat)
   case atStart=>exact⟨0,Nat.zero_le _,rfl,Kp.refl _ _,Ys rfl⟩
   case round=>
    obtain⟨q,hq,rfl,hE,RN⟩:=hrel;have I6:=kG.o.ext hE;have Z9:=vJ.o.ext hE;have p2r:=Z9.c 2 (.slice fa2 fm.stack.length M7) rfl;have tC:=Ys Z9;have Q3:=Ys I6;have AV:=Ys hE;by_cases bZ:q<fm.locals.length
    · obtain⟨y,hy⟩:=jo fm.locals q bZ;obtain⟨x,hx⟩:=jo s.locals q (by rw[←HLL.o];exact bZ);obtain⟨b,off,cs,rfl,J6,rfl, -,jh⟩:=zC.o.1.get hy;obtain⟨g0,g1⟩:=(jh.ext (fe.o.trans hE)).two;have gz:=aG g0;have qB:=I6.loc;obtain⟨lg,Ru,hlv,Rn,PX,hg3⟩:=cO qB (by rw[←HLL.o];omega);cases hlv;obtain⟨x0,x1⟩:=(eZ (enc:=ik) (k:=2) (fun _=>rfl) qB hx).two;have HM:Zs (M.jl p k s.locals fm.locals=(M.may p k x y&&M.jl p k (s.locals.drop (q+1)) (fm.locals.drop (q+1)))):=Ys (by rw[RN.o,CO hx hy]);obtain⟨W4,KR,dA,b6⟩:=nu wr #[.int .i64 y.kind,.string y.name] 66;obtain⟨T,f,dB,HT⟩:=iq.ex (fun W'=>Ext W4 W') _ (Kp.refl _ _);have e0:=fun z=>(I6.blk.ext (dA.trans (HT.aJ z))).c 0 (.pointer (some ⟨l.L,0,none⟩)) rfl;have e1:=fun z=>(I6.blk.ext (dA.trans (HT.aJ z))).c 1 (.int .i64 k) rfl;have e11:=fun z=>(I6.blk.ext (dA.trans (HT.aJ z))).c 11 (.slice (some ⟨lg,0,none⟩) s.locals.length lc) rfl;have e2:=fun z=>(dA.trans (HT.aJ z)).aA x0;have e3:=fun z=>(dA.trans (HT.aJ z)).aA x1;have e6:=fun z=>(b6.ext (HT.aJ z)).c 0 (.int .i64 y.kind) rfl;have e7:=fun z=>(b6.ext (HT.aJ z)).c 1 (.string y.name) rfl;have aj:=Ys HT;have zD:=Ys KR;have Zg:=Ys (I6.dP.ext dA);have gZ:=Ys dA;have hqs:(q:Int)<s.locals.length:=by have:=HLL.o;omega
      clear jh hy hx qB x0 x1 KR dA b6 HT I6 Z9;go_wp2_with fail;rw[←zD.o];(refine dZ aj 18 [([0,1,2,3,4,5,6,7,8,9,10,11,12,13,14,15],16)] [17] ?_ ?_)
      · exact(Kp.refl _ _).drew
      (refine di [_,_,_,_,_,_,_,_,_,_,_,_,_,_,_,_] rfl rfl fun K hK=>?_);(repeat (go_big_quiet_step (fail)));(refine qn hK fun K2 af=>?_);clear hK K;go_wp2_with fail;refine(BC _ _ _ (Zg.o.ext (Kp.refl _ _).drew) k x y).mono ?_;rintro e w5 ⟨rfl,dC⟩;have rD:Ext W4 w5:=((Kp.refl _ _).drew:Ext W4 _).trans dC;have gm:Zs (Ext wr w5):=Ys (gZ.o.trans rD);cases Ab:M.may p k x y
      · have HR:Zs (M.gL p k s fm=false):=Ys (by rw[HU.o,HM.o,Ab];rfl);clear Ab dC;go_wp2_with fail;(refine kk aj af rD ?_);clear af K2;(refine dI [_] rfl rfl fun K hK=>?_);(repeat (go_big_quiet_step (fail)));(refine qn hK ?_);clear hK K;go_wp2_with fail;go_ret;exact⟨ag HR.o.symm,fe.o.trans (AV.o.trans gm.o)⟩
      · have HR:Zs (M.jl p k s.locals fm.locals=M.jl p k (s.locals.drop (q+1)) (fm.locals.drop (q+1))):=Ys (by rw[HM.o,Ab];rfl);clear Ab dC;go_wp2_with fail;(refine kk aj af rD ?_);clear af K2;(refine dI [_] rfl rfl fun K hK=>?_);(repeat (go_big_quiet_step (fail)));(refine qn hK ?_);clear hK K;go_wp2_with fail;refine⟨⟨q+1,by omega,by go_num,AV.o.trans gm.o,HR⟩,by simp[intOf];omega⟩
    · have HU2:Zs (M.gL p k s fm=M.jl p k s.stack fm.stack):=Ys (by rw[HU.o,RN.o,Fw (by omega)];rfl);obtain⟨wo,rfl⟩:∃wo:World,wo=wr:=⟨_,rfl⟩;have HAo:=Q3;have HBo:=tC;have HEo:Zs (Ext w wo):=Ys (fe.o.trans hE);have af2:fm.stack.length≤5:=by have:=qM.o;omega
      clear Q3 tC AV I6 Z9 hE RN p1 p2;go_wp2_with fail;go_loopw [48] (fun i wr=>∃q:Nat,q≤fm.stack.length∧i=.int .i64 q∧Ext wo wr∧Zs (M.jl p k s.stack fm.stack=M.jl p k (s.stack.drop q) (fm.stack.drop q))) (fun i _=>fm.stack.length - (intOf i).toNat)
      case atStart=>exact⟨0,Nat.zero_le _,rfl,Kp.refl _ _,Ys rfl⟩
      case round=>
       obtain⟨q,hq,rfl,hE,RN⟩:=hrel;have I6:=HAo.o.ext hE;have Z9:=HBo.o.ext hE;have tC:=Ys Z9;have Q3:=Ys I6;have AV:=Ys hE;by_cases bZ:q<fm.stack.length
       · obtain⟨y,hy⟩:=jo fm.stack q bZ;obtain⟨x,hx⟩:=jo s.stack q (by rw[←qM.o];exact bZ);obtain⟨b,off,cs,rfl,J6,rfl, -,jh⟩:=zC.o.2.get hy;obtain⟨g0,g1⟩:=(jh.ext (HEo.o.trans hE)).two;have gz:=aG g0;have qB:=I6.dG;obtain⟨lg,Ru,hlv,Rn,PX,hg3⟩:=cO qB (by rw[←qM.o];omega);cases hlv;obtain⟨x0,x1⟩:=(eZ (enc:=ik) (k:=2) (fun _=>rfl) qB hx).two;have HM:Zs (M.jl p k s.stack fm.stack=(M.may p k x y&&M.jl p k (s.stack.drop (q+1)) (fm.stack.drop (q+1)))):=Ys (by rw[RN.o,CO hx hy]);obtain⟨W4,KR,dA,b6⟩:=nu wr #[.int .i64 y.kind,.string y.name] 66;obtain⟨T,f,dB,HT⟩:=iq.ex (fun W'=>Ext W4 W') _ (Kp.refl _ _);have e0:=fun z=>(I6.blk.ext (dA.trans (HT.aJ z))).c 0 (.pointer (some ⟨l.L,0,none⟩)) rfl;have e1:=fun z=>(I6.blk.ext (dA.trans (HT.aJ z))).c 1 (.int .i64 k) rfl;have e11:=fun z=>(I6.blk.ext (dA.trans (HT.aJ z))).c 12 (.slice (some ⟨lg,0,none⟩) s.stack.length sc) rfl;have e2:=fun z=>(dA.trans (HT.aJ z)).aA x0;have e3:=fun z=>(dA.trans (HT.aJ z)).aA x1;have e6:=fun z=>(b6.ext (HT.aJ z)).c 0 (.int .i64 y.kind) rfl;have e7:=fun z=>(b6.ext (HT.aJ z)).c 1 (.string y.name) rfl;have aj:=Ys HT;have zD:=Ys KR;have Zg:=Ys (I6.dP.ext dA);have gZ:=Ys dA;have hqs:(q:Int)<s.stack.length:=by have:=qM.o;omega
         clear jh hy hx qB x0 x1 KR dA b6 HT I6 Z9;go_wp2_with fail;rw[←zD.o];(refine dZ aj 18 [([0,1,2,3,4,5,6,7,8,9,10,11,12,13,14,15],16)] [17] ?_ ?_)
         · exact(Kp.refl _ _).drew
         (refine di [_,_,_,_,_,_,_,_,_,_,_,_,_,_,_,_] rfl rfl fun K hK=>?_);(repeat (go_big_quiet_step (fail)));(refine qn hK fun K2 af=>?_);clear hK K;go_wp2_with fail;refine(BC _ _ _ (Zg.o.ext (Kp.refl _ _).drew) k x y).mono ?_;rintro e w5 ⟨rfl,dC⟩;have rD:Ext W4 w5:=((Kp.refl _ _).drew:Ext W4 _).trans dC;have gm:Zs (Ext wr w5):=Ys (gZ.o.trans rD);cases Ab:M.may p k x y
         · have HR:Zs (M.gL p k s fm=false):=Ys (by rw[HU2.o,HM.o,Ab];rfl);clear Ab dC;go_wp2_with fail;(refine kk aj af rD ?_);clear af K2;(refine dI [_] rfl rfl fun K hK=>?_);(repeat (go_big_quiet_step (fail)));(refine qn hK ?_);clear hK K;go_wp2_with fail;go_ret;exact⟨ag HR.o.symm,HEo.o.trans (AV.o.trans gm.o)⟩
         · have HR:Zs (M.jl p k s.stack fm.stack=M.jl p k (s.stack.drop (q+1)) (fm.stack.drop (q+1))):=Ys (by rw[HM.o,Ab];rfl);clear Ab dC;go_wp2_with fail;(refine kk aj af rD ?_);clear af K2;(refine dI [_] rfl rfl fun K hK=>?_);(repeat (go_big_quiet_step (fail)));(refine qn hK ?_);clear hK K;go_wp2_with fail;refine⟨⟨q+1,by omega,by go_num,AV.o.trans gm.o,HR⟩,by simp[intOf];omega⟩
       · have HR:Zs (M.gL p k s fm=true):=Ys (by rw[HU2.o,RN.o,Fw (by omega)]);go_wp2_with fail;go_ret;exact⟨ag HR.o.symm,HEo.o.trans hE⟩
 · have HU:Zs (M.gL p k s fm=false):=Ys (by unfold M.gL;rw[decide_eq_false bH];rfl);have WQ:((fm.stack.length:Int) !=(s.stack.length:Int))=true:=bne_iff_ne.2 (by omega);clear bH;go_enter Tryz.func190,Tryz.ntmps190;go_wp2_with fail;rw[←dQ.o];(refine Gv aj ?_ ?_);rotate_left;(repeat (go_big_quiet_step ((fail))));(refine wpQuiet_nil ?_);(rintro _ ⟨sW,rfl⟩);rotate_left
   · exact(Kp.refl _ _).drew
   go_wp2_with fail;go_ret;exact⟨ag HU.o.symm,bJ.o.trans (aj.o.aJ sW)⟩
theorem BF{m:M.Method}{f:M.SMap}(h:M.uX m f=true):(f.locals.length:Int)=m.locals∧(f.stack.length:Int)≤m.stack:=by
 unfold M.uX at h;simp only[Bool.and_eq_true,decide_eq_true_eq]at h;exact⟨h.1.1.1.2,h.1.1.2⟩
theorem wN(w:World)(l:aI)(p:M.au)(B kb:Nat)(k:Int)(m:M.Method)(t:oV)(at_:Int)(s:M.jv)(vl vs:Value)(h:aR w l p B kb k m t at_ s vl vs)(a:Int):
    Calls Tryz.prog 187 #[.pointer (some ⟨kb,0,none⟩),.int .i64 a] w (bu w l p B kb k m t at_ vl vs (M.iN p k m a s)):=by
 have tX:=h.tX;have aeC:=h.Uq;have H:=Ys h;clear h;go_enter Tryz.func187,Tryz.ntmps187;go_wp2_with fail;refine(Fj _ _ _ _ _ _ _ _ _ _ _ _ H.o a).mono ?_;rintro e w1 ⟨(⟨sZ,rfl⟩|⟨fm,cs,G7,GX,hf,rfl⟩),bA⟩
 · have HO:Zs (M.iN p k m a s=none):=Ys (by unfold M.iN;rw[sZ];rfl);have kG:=Ys (H.o.ext bA);have fe:=Ys bA;clear sZ bA;go_wp2_with fail;refine(gG _ kb at_ ((kG.o.ext kx).blk.c 10 _ rfl) tX.1 (by omega)).mono ?_;rintro e w3 ⟨rfl,rfl⟩;exact⟨rfl,(fe.o.alloc _).any,kG.o.dP.ext kx,.inl ⟨HO.o,rfl⟩⟩
 · have HO:Zs (M.iN p k m a s=if M.gL p k s fm then some s else none):=Ys (by unfold M.iN;rw[G7];rfl);have hlen:=BF (H.o.mi.uX fm GX);have HF:=Ys hf;obtain⟨fa1,Sy,fa2,M7,rfl⟩:=hf.form;have kG:=Ys (H.o.ext bA);have fe:=Ys bA;clear G7 bA hf GX;go_wp2_with fail;refine(yA _ _ _ _ _ _ _ _ _ _ _ _ (kG.o.ext kx) fm _ (bQ.ext gM.stays kx HF.o) (by omega)).mono ?_;rintro e w2 ⟨rfl,bP⟩;have fD:Zs (Ext w w2):=Ys ((fe.o.alloc _).trans bP);clear bP;cases Jm:M.gL p k s fm
   · have yG:Zs (M.iN p k m a s=none):=Ys (by rw[HO.o,Jm];rfl);clear Jm;go_wp2_with fail;refine(gG _ kb at_ ((H.o.ext fD.o).blk.c 10 _ rfl) tX.1 (by omega)).mono ?_;rintro e w3 ⟨rfl,rfl⟩;exact⟨rfl,fD.o.any,H.o.dP.ext fD.o,.inl ⟨yG.o,rfl⟩⟩
   · have yG:Zs (M.iN p k m a s=some s):=Ys (by rw[HO.o,Jm];rfl);clear Jm;go_wp2_with fail;((try simp only[Exit.inBlock,Exit.then]);(first|refine bodyPost_ret (results_none rfl _ _ _) rfl ?_|refine bodyPost_end (results_none rfl _ _ _) rfl ?_));exact⟨fD.o.any,H.o.dP.ext fD.o,.inr ⟨_,yG.o,rfl,_,_,H.o.ext fD.o,bX.refl _ _ _⟩⟩
theorem Qq(w:World)(l:aI)(p:M.au)(B kb:Nat)(k:Int)(m:M.Method)(t:oV)(at_:Int)(s:M.jv)(vl vs:Value)(h:aR w l p B kb k m t at_ s vl vs)(goes:Bool):
    Calls Tryz.prog 173 #[.pointer (some ⟨kb,0,none⟩),.bool goes] w (bu w l p B kb k m t at_ vl vs (M.nL p k m goes at_ s)):=by
 have tX:=h.tX;have aeC:=h.Uq;have c10:=h.blk.c 10 (.int .i64 at_) rfl;have Bv:=h.dP.ord;have hBB:=h.hB;have hBk:=h.hk;have H:=Ys h;clear h;cases goes
 all_goals
  go_enter Tryz.func173,Tryz.ntmps173;go_wp2_with fail;refine(Fj _ _ _ _ _ _ _ _ _ _ _ _ H.o at_).mono ?_;rintro e w1 ⟨(⟨sZ,rfl⟩|⟨fm,cs,G7,GX,hf,rfl⟩),bA⟩
 · have HO:Zs (M.nL p k m false at_ s=none):=Ys (by unfold M.nL;rw[sZ];rfl);have kG:=Ys (H.o.ext bA);have fe:=Ys bA;clear sZ bA;go_wp2_with fail;refine(gG _ kb at_ ((kG.o.ext kx).blk.c 10 _ rfl) tX.1 (by omega)).mono ?_;rintro e w3 ⟨rfl,rfl⟩;exact⟨rfl,(fe.o.alloc _).any,kG.o.dP.ext kx,.inl ⟨HO.o,rfl⟩⟩
 · have HO:Zs (M.nL p k m false at_ s=some ⟨fm.locals,fm.stack⟩):=Ys (by unfold M.nL;rw[G7];rfl);have hlen:=BF (H.o.mi.uX fm GX);have aet:=Nat.lt_of_lt_of_le H.o.blk.lt bA.size;have lu:=H.o.mi.locals;have Rp:=H.o.mi.stack;have HF:=Ys hf;obtain⟨fa1,Sy,fa2,M7,rfl⟩:=hf.form;obtain⟨wz,EW,hEz,b4⟩:=nu w1 #[.int .i64 fm.at_,.slice fa1 fm.locals.length Sy,.slice fa2 fm.stack.length M7] 227;have U1:Zs (Ext w wz):=Ys (bA.trans hEz);have HFz:=Ys (bQ.ext gM.stays hEz HF.o);have y1:=b4.c 1 (.slice fa1 fm.locals.length Sy) rfl;have iB:=Ys b4;have hzz:=b4.lt;have HWZ:=Ys EW;clear G7 bA hf GX c10 hEz b4 EW;go_wp2_with fail;rw[←HWZ.o];have zC:Zs (SliceOf 2 eB wz (· <l.O) (.slice fa1 fm.locals.length Sy) fm.locals∧SliceOf 2 eB wz (· <l.O) (.slice fa2 fm.stack.length M7) fm.stack):=Ys (by
    obtain⟨_,_,he,uQ,Yy⟩:=HFz.o;simp only[List.cons.injEq,and_true,true_and]at he;obtain⟨rfl,rfl⟩:=he;exact⟨uQ,Yy⟩)
   refine(pR _ _ _ _ (SliceOf.toFlat (R:=eB) (fun _ _ _ _ e=>e) (fun _=>rfl) uw zC.o.1) (by omega)).mono ?_;rintro e w3 ⟨⟨v1,rfl,jG⟩,dm⟩;obtain⟨g1,k1,rfl⟩:=bV jG;have EI:=(H.o.ext (U1.o.trans dm)).blk;have d11:=EI.c 11 vl rfl;have e11:=EI.frozen 11;have z11:=EI.lt;have Ni:=iB.o.ext dm;have y2:=Ni.c 2 (.slice fa2 fm.stack.length M7) rfl;have n1:¬w1.heap.size=kb:=by omega
   have n2:¬kb=w1.heap.size:=by omega
   have lN:=Ys EI;have YX:=Ys Ni;have iH:=Ys dm;have Zm:=Ys jG;clear EI Ni dm jG;go_wp2_with fail;obtain⟨w4,o6⟩:∃w4,w4=w3.setCell ⟨kb,11,none⟩ (.slice g1 fm.locals.length k1):=⟨_,rfl⟩;have mZ:Kp (·=kb) w3 w4:=by rw[o6];exact(Kp.refl (·=kb) w3).setCell (p:=⟨kb,11,none⟩) (fun _=>rfl) _
   have vM:aC w4 kb 238 (ND l.L k m t at_ (.slice g1 fm.locals.length k1) vs):=by rw[o6];exact lN.o.bI 11 _
   rw[←o6];have aea:w3.heap.size≤w4.heap.size:=mZ.size;have KZ:SliceOf 2 eB w4 (· <l.O) (.slice fa2 fm.stack.length M7) fm.stack:=(zC.o.2.ext eB.stays iH.o).keep eB.stays (Kp.same mZ (fun b hb e=>by omega)) (fun _ h=>h);refine(pR _ _ _ _ (SliceOf.toFlat (R:=eB) (fun _ _ _ _ e=>e) (fun _=>rfl) uw KZ) (by omega)).mono ?_;rintro e w5 ⟨⟨v2,rfl,su⟩,dC⟩;obtain⟨g2,k2,rfl⟩:=bV su;have lI:=vM.ext dC;have d12:=lI.c 12 vs rfl;have e12:=lI.frozen 12;have z12:=lI.lt;have jG:=Zm.o;have Bj:Kp (·=kb) w5 (w5.setCell ⟨kb,12,none⟩ (.slice g2 fm.stack.length k2)):=(Kp.refl (·=kb) w5).setCell (p:=⟨kb,12,none⟩) (fun _=>rfl) _;have uR:=U1.o.size;have K7:=iH.o.size;have hF:=H.o.fresh (s':=⟨fm.locals,fm.stack⟩) (lI.bI 12 _) (((((U1.o.trans iH.o).any (D:=(·=kb))).trans mZ).trans dC.any).trans Bj)
    (fF (aD (aD (aD jG mZ (fun g hg hb e=>by omega)) dC (fun _ _ _ e=>e)) Bj (fun g hg hb e=>by omega)) uR)
    (fF (aD su Bj (fun g hg hb e=>by omega)) (by omega))
    (fun g h1 h2=>by have:=(jG.lt g h1).2;have:=(su.lt g h2).1;omega) hlen.1 hlen.2
   have RZ:=Ys hF;clear hF Bj jG su lI dC KZ vM mZ o6;go_wp2_with fail;((try simp only[Exit.inBlock,Exit.then]);(first|refine bodyPost_ret (results_none rfl _ _ _) rfl ?_|refine bodyPost_end (results_none rfl _ _ _) rfl ?_));exact⟨RZ.o.1,RZ.o.2.1,.inr ⟨_,HO.o,rfl,RZ.o.2.2⟩⟩
 · have HO:Zs (M.nL p k m true at_ s=some s):=Ys (by unfold M.nL;rw[sZ];rfl);have kG:=Ys (H.o.ext bA);have fe:=Ys bA;clear sZ bA;go_wp2_with fail;((try simp only[Exit.inBlock,Exit.then]);(first|refine bodyPost_ret (results_none rfl _ _ _) rfl ?_|refine bodyPost_end (results_none rfl _ _ _) rfl ?_));exact⟨(fe.o.alloc _).any,kG.o.dP.ext kx,.inr ⟨_,HO.o,rfl,_,_,kG.o.ext kx,bX.refl _ _ _⟩⟩
 · have HO:Zs (M.nL p k m true at_ s=if !M.gL p k s fm then none else some ⟨fm.locals,fm.stack⟩):=Ys (by unfold M.nL;rw[G7];simp);have hlen:=BF (H.o.mi.uX fm GX);have aet:=Nat.lt_of_lt_of_le H.o.blk.lt bA.size;have lu:=H.o.mi.locals;have Rp:=H.o.mi.stack;have HF:=Ys hf;obtain⟨fa1,Sy,fa2,M7,rfl⟩:=hf.form;obtain⟨wq,YB,hEq,b4⟩:=nu w1 #[.int .i64 fm.at_,.slice fa1 fm.locals.length Sy,.slice fa2 fm.stack.length M7] 227;have bJ:Zs (Ext w wq):=Ys (bA.trans hEq);have HF0:=Ys (bQ.ext gM.stays hEq HF.o);have HB0:=Ys b4;have VL:=Ys YB;clear G7 bA hf GX c10 hEq b4 YB;go_wp2_with fail;rw[←VL.o];refine(yA _ _ _ _ _ _ _ _ _ _ _ _ (H.o.ext bJ.o) fm _ HF0.o (by omega)).mono ?_;rintro e wz ⟨rfl,hEy⟩;have vM:=HB0.o.ext hEy;have y1:=vM.c 1 (.slice fa1 fm.locals.length Sy) rfl;have iB:=Ys vM;have hzz:=vM.lt;have U1:Zs (Ext w wz):=Ys (bJ.o.trans hEy);have HFz:=Ys (bQ.ext gM.stays hEy HF0.o);clear hEy vM VL bJ;cases Jm:M.gL p k s fm
   · have yG:Zs (M.nL p k m true at_ s=none):=Ys (by rw[HO.o,Jm];rfl);clear Jm;go_wp2_with fail;refine(gG _ kb at_ ((H.o.ext U1.o).blk.c 10 _ rfl) tX.1 (by omega)).mono ?_;rintro e w3 ⟨rfl,rfl⟩;exact⟨rfl,U1.o.any,H.o.dP.ext U1.o,.inl ⟨yG.o,rfl⟩⟩
   replace HO:Zs (M.nL p k m true at_ s=some ⟨fm.locals,fm.stack⟩):=Ys (by rw[HO.o,Jm];rfl);clear Jm;go_wp2_with fail;have zC:Zs (SliceOf 2 eB wz (· <l.O) (.slice fa1 fm.locals.length Sy) fm.locals∧SliceOf 2 eB wz (· <l.O) (.slice fa2 fm.stack.length M7) fm.stack):=Ys (by
    obtain⟨_,_,he,uQ,Yy⟩:=HFz.o;simp only[List.cons.injEq,and_true,true_and]at he;obtain⟨rfl,rfl⟩:=he;exact⟨uQ,Yy⟩)
   refine(pR _ _ _ _ (SliceOf.toFlat (R:=eB) (fun _ _ _ _ e=>e) (fun _=>rfl) uw zC.o.1) (by omega)).mono ?_;rintro e w3 ⟨⟨v1,rfl,jG⟩,dm⟩;obtain⟨g1,k1,rfl⟩:=bV jG;have EI:=(H.o.ext (U1.o.trans dm)).blk;have d11:=EI.c 11 vl rfl;have e11:=EI.frozen 11;have z11:=EI.lt;have Ni:=iB.o.ext dm;have y2:=Ni.c 2 (.slice fa2 fm.stack.length M7) rfl;have n1:¬w1.heap.size=kb:=by omega
   have n2:¬kb=w1.heap.size:=by omega
   have lN:=Ys EI;have YX:=Ys Ni;have iH:=Ys dm;have Zm:=Ys jG;clear EI Ni dm jG;go_wp2_with fail;obtain⟨w4,o6⟩:∃w4,w4=w3.setCell ⟨kb,11,none⟩ (.slice g1 fm.locals.length k1):=⟨_,rfl⟩;have mZ:Kp (·=kb) w3 w4:=by rw[o6];exact(Kp.refl (·=kb) w3).setCell (p:=⟨kb,11,none⟩) (fun _=>rfl) _
   have vM:aC w4 kb 238 (ND l.L k m t at_ (.slice g1 fm.locals.length k1) vs):=by rw[o6];exact lN.o.bI 11 _
   rw[←o6];have aea:w3.heap.size≤w4.heap.size:=mZ.size;have KZ:SliceOf 2 eB w4 (· <l.O) (.slice fa2 fm.stack.length M7) fm.stack:=(zC.o.2.ext eB.stays iH.o).keep eB.stays (Kp.same mZ (fun b hb e=>by omega)) (fun _ h=>h);refine(pR _ _ _ _ (SliceOf.toFlat (R:=eB) (fun _ _ _ _ e=>e) (fun _=>rfl) uw KZ) (by omega)).mono ?_;rintro e w5 ⟨⟨v2,rfl,su⟩,dC⟩;obtain⟨g2,k2,rfl⟩:=bV su;have lI:=vM.ext dC;have d12:=lI.c 12 vs rfl;have e12:=lI.frozen 12;have z12:=lI.lt;have jG:=Zm.o;have Bj:Kp (·=kb) w5 (w5.setCell ⟨kb,12,none⟩ (.slice g2 fm.stack.length k2)):=(Kp.refl (·=kb) w5).setCell (p:=⟨kb,12,none⟩) (fun _=>rfl) _;have uR:=U1.o.size;have K7:=iH.o.size;have hF:=H.o.fresh (s':=⟨fm.locals,fm.stack⟩) (lI.bI 12 _) (((((U1.o.trans iH.o).any (D:=(·=kb))).trans mZ).trans dC.any).trans Bj)
    (fF (aD (aD (aD jG mZ (fun g hg hb e=>by omega)) dC (fun _ _ _ e=>e)) Bj (fun g hg hb e=>by omega)) uR)
    (fF (aD su Bj (fun g hg hb e=>by omega)) (by omega))
    (fun g h1 h2=>by have:=(jG.lt g h1).2;have:=(su.lt g h2).1;omega) hlen.1 hlen.2
   have RZ:=Ys hF;clear hF Bj jG su lI dC KZ vM mZ o6;go_wp2_with fail;((try simp only[Exit.inBlock,Exit.then]);(first|refine bodyPost_ret (results_none rfl _ _ _) rfl ?_|refine bodyPost_end (results_none rfl _ _ _) rfl ?_));exact⟨RZ.o.1,RZ.o.2.1,.inr ⟨_,HO.o,rfl,RZ.o.2.2⟩⟩
end Go.Proofs.YtcepdbbapgfcdaaGreat
