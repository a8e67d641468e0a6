/- Walks. -/
import Derived.Test.YtohpiobncgafeaaGreatDoorLnkf
set_option maxRecDepth 100000
set_option maxHeartbeats 4000000
set_option linter.unusedSimpArgs false
set_option linter.unusedVariables false
namespace Go.Proofs.YtohpiobncgafeaaGreatDoor
open Go Go.RowKit
attribute [local go_sem] Oper.semAt_some
theorem og{p:M.ai}(kX:M.dM p=true){r:M.Ref}{c:M.Class}(h:M.cls? p r=some c):c.fields.length≤3:=by
 have:=M.Cc kX h;unfold M.jU at this;simp only[Bool.and_eq_true,decide_eq_true_eq]at this;exact this.1.1.1.2
theorem jH{p:M.ai}(kX:M.dM p=true)(L:List M.Ref):(M.dh p L []).length≤L.length*3:=by
 rw[M.tZ];induction L with
 |nil=>simp
 | cons c r ih =>
  have:(M.cls p c).fields.length≤3:=by
   unfold M.cls;cases h:M.cls? p c with
   |none=>simp[M.aaL]
   |some d=>exact og kX h
  simp only[List.map_cons,List.sum_cons,List.length_cons,List.length_nil]at ih ⊢;omega
theorem AP(p:M.ai)(L:List M.Ref)(c:M.Ref):M.dh p (L++[c]) []=M.bZ c (M.cls p c).fields (M.dh p L []):=by
 rw[M.pE];rfl
theorem wJ{w:World}{I:Nat→Prop}{v:Value}{xs:List M.Ref}(h:SliceOf 2 uL w I v xs):SliceOf 2 uL w (fun b=>I b∧b<w.heap.size) v xs:=by
 obtain⟨a,cap,e,h1,h2,h3⟩:=h;refine⟨a,cap,e,h1,h2,fun i x hx=>?_⟩;obtain⟨b,off,cs,ea,hI,rfl,hl,hc⟩:=h3 i x hx;exact⟨b,off,_,ea,⟨hI,aS hc.two.1⟩,rfl,hl,hc⟩
def XO(p:M.ai)(w2:World)(bb S:Nat)(pre:List (Int×M.Ref))(W:World):Prop:=
 ∃v',az W bb 227 #[v']∧W.ownsRow S 187 5 v' (M.dh p (pre.map Prod.snd) []).length ((M.dh p (pre.map Prod.snd) []).flatMap fZ)∧Kp (·=bb) w2 W
theorem oK(w:World)(l:au)(p:M.ai)(h:aj w l p)(r:M.Ref):
    Calls Tryz.prog 98 #[.pointer (some ⟨l.L,0,none⟩),.agg #[.int .i64 r.keeper,.string r.name]] w fun e w'=>
     (∃v,e=.returned v∧SliceOf 5 Le w' (fun b=>w.heap.size≤b) v (M.layout p r))∧aj w' l p∧Kp (·=l.D) w w':=by
 have Fz:=h.Cg;have vW:=h.lt;have hO:=h.ord;have aM:Ext w ((w.alloc (.cells #[.pointer (some ⟨l.L,0,none⟩)] 73)).alloc (.cells #[.int .i64 r.keeper,.string r.name] 51)):=kx;have H:=Ys (h.ext aM);have b2:=(az.new w 73 #[.pointer (some ⟨l.L,0,none⟩)]).ext ((Kp.refl _ _).alloc (.cells #[.int .i64 r.keeper,.string r.name] 51));have b3:=az.new (w.alloc (.cells #[.pointer (some ⟨l.L,0,none⟩)] 73)) 51 #[.int .i64 r.keeper,.string r.name];simp only[World.size_alloc]at b3;have bW:=Ys aM;clear h aM;refine(callsIn_wide (n:=10)).1 ?_;refine callsIn_of_wp_marks Tryz.func98 rfl trivial ?_ rfl;simp only[Tryz.ntmps98,List.size_toArray,List.length_cons,List.length_nil,Nat.reduceAdd,Nat.reduceSub,Array.replicate_succ,Array.replicate_zero,List.push_toArray,List.append_toArray,List.nil_append,List.cons_append];have q2:=b2.c 0 (.pointer (some ⟨l.L,0,none⟩)) rfl;have q3:=b3.c 0 (.int .i64 r.keeper) rfl;have q4:=b3.c 1 (.string r.name) rfl;cases lF:M.bI p r
 all_goals
  have HC:=Ys lF;clear lF;gi_wp2_with fail;refine⟨trivial,?_⟩;refine(callsIn_wide.2 (eX _ _ _ H.o r)).mono ?_;rintro e w1 ⟨rfl,vV,j3⟩;rw[HC.o];have AL:w.heap.size+1<w1.heap.size:=by have:=j3.size;simp at this;omega
  have G5:w.heap.size<w1.heap.size:=by omega
  have b21:=b2.kp j3 (by omega);have Jj:=b3.kp j3 (by omega);have BP:Zs (Kp (·=l.D) w w1):=Ys (bW.o.any.trans j3);have FW:=Ys vV;have p2:=b21.c 0 (.pointer (some ⟨l.L,0,none⟩)) rfl;have p3:=Jj.c 0 (.int .i64 r.keeper) rfl;have p4:=Jj.c 1 (.string r.name) rfl;clear q2 q3 q4 j3 vV
 · have HV:Zs (M.layout p r=[]):=Ys (by unfold M.layout;rw[HC.o];rfl);gi_wp2_with fail;refine⟨.slice none 0 0,by simp[results,Tryz.f98,go_sem],⟨_,rfl,by rw[HV.o];exact SliceOf.nil _ _ _ _⟩,FW.o,BP.o⟩
 · have HV:Zs (M.layout p r=M.dh p (M.chain p r).reverse []):=Ys (by unfold M.layout;rw[HC.o];rfl);have b5:=az.new w1 227 #[.slice none 0 0];gi_wp2_with fail;refine⟨trivial,?_⟩;refine(callsIn_wide.2 (kS _ _ _ (FW.o.ext kx) r)).mono ?_;rintro e w2 ⟨⟨v,rfl,hs⟩,bY⟩;obtain⟨a,cap,rfl,hn,dx⟩:=hs.form;gi_wp2_with fail;refine⟨trivial,?_⟩;refine(callsIn_wide.2 (sP _ _ _ _)).mono ?_;rintro e w3 ⟨rfl,rfl⟩;gi_wp2_with fail;have EA:=bY.size;simp only[World.size_alloc]at EA;have bb2:=b5.ext bY;have zT:Zs (aj w2 l p):=Ys ((FW.o.ext kx).ext bY);have Ah:Zs (Kp (·=l.D) w w2):=Ys (BP.o.trans ((kx:Ext w1 _).any.trans bY.any));have B2:=Ys (And.intro ((b21.ext kx).ext bY) ((Jj.ext kx).ext bY));have RJ:w1.heap.size<w2.heap.size:=by omega
   clear b2 b3 b21 Jj b5 p2 p3 p4 bY;generalize acg:w1.heap.size=bb at*;have HS:=Ys hs;have uK:Zs ((M.chain p r).length≤6):=Ys (M.nA p r);have Lt:Zs (∀x∈M.chain p r,∃c,M.cls? p x=some c):=Ys fun x hx=>M.fJ hx;clear hs;generalize M.chain p r=xs at*;refine zo (gf:=145) (lb:=#[.pointer (some ⟨w2.heap.size,0,none⟩)]) (α:=Int×M.Ref) rfl (enters_of Tryz.func145 (by kernel_rfl) rfl) (encs:=Bc) (fun x=>rfl)
    (Bb:=fun k=>k=bb∨w2.heap.size+3≤k)
    (rF xs w2.heap.size (.slice a xs.length cap) (fun b=>bb+1≤b∧b<w2.heap.size) _ ?hBd) ?hIt ?hD1 ?hD2 ?hB1 ?hB2
    (XO p w2 bb (w2.heap.size+3)) (fun _ _ _=>False) ?hI ?hIx ?h0 ?hIB
    (fun pre x W a₁ W₁=>XO p w2 bb (w2.heap.size+3) pre W∧(∃rest,backTo xs xs.length=pre++x::rest)∧
     w2.heap.size+2<W.heap.size∧W₁=W.alloc (.cells #[.int .i64 x.2.keeper,.string x.2.name] 51)∧
     a₁={tmps:=#[.pointer (some ⟨l.L,0,none⟩),.agg #[.int .i64 r.keeper,.string r.name],.pointer (some ⟨w.heap.size,0,none⟩),.pointer (some ⟨w.heap.size+1,0,none⟩),.slice none 0 0,.pointer (some ⟨bb,0,none⟩),undef,.pointer (some ⟨W.heap.size,0,none⟩),
      .pointer (some ⟨l.L,0,none⟩),.agg #[.int .i64 r.keeper,.string r.name],.bool true,.bool false,.pointer (some ⟨l.L,0,none⟩),.agg #[.int .i64 r.keeper,.string r.name],.slice a xs.length cap,.func (.func 145) #[] #[.pointer (some ⟨w2.heap.size,0,none⟩)],
      .int .i64 x.1,.agg #[.int .i64 x.2.keeper,.string x.2.name],undef,undef,undef,undef,undef,undef,undef,undef],defers:=[]}) ?hassign ?hAx ?hbody ?hdone ?hstop
   case hBd=>
    intro k hk;have Cz:(k=bb∨w2.heap.size+3≤k)∨k=(w2.alloc (.cells #[.slice a xs.length cap] 147)).heap.size+1:=hk;simp only[World.size_alloc]at Cz;omega
   case hIt=>
    intro W hW;refine⟨(az.new _ _ _).ext hW,?_⟩;refine(wJ HS.o).keep uL.stays (Ext.same (((Kp.refl _ w2).alloc _:Ext w2 _).trans hW)) (fun b hb=>?_);have:=hb.1;simp only[World.size_alloc]at this;exact⟨by omega,hb.2⟩
   case hD1=>exact fun h=>h
   case hD2=>exact fun h=>h
   case hB1=>simp only[World.size_alloc];omega
   case hB2=>simp only[World.size_alloc];omega
   case hI=>
    rintro s A B ⟨v',e1,e2,e3⟩ hk;simp only[World.size_alloc]at hk;exact⟨v',e1.kp hk (by simp;omega),aA e2 hk (fun g _ hg h=>by simp at h;omega),e3.own hk (fun k hk=>by simp at hk;omega)⟩
   case hIx=>exact fun _ _ _ _ h=>h.elim
   case h0=>exact⟨.slice none 0 0,bb2.ext kx,World.ownsRow_nil _ _ _ _,(kx:Ext w2 _).any⟩
   case hIB=>exact fun _ _ _=>trivial
   case hassign=>
    intro pre x W K OU hi cK hK;simp only[Bc];simp only[World.size_alloc]at cK;gi_wp2
   case hAx=>
    rintro pre x W a₁ W₁ ⟨_,_,_,rfl,_⟩;exact((Kp.refl _ W).alloc _)
   case hbody=>
    rintro pre x W a₁ W₁ W₂ ⟨⟨v',e1,e2,e3⟩,OU,cK,rfl,rfl⟩ jf oF;simp only[World.size_alloc]at jf oF;obtain⟨rest,yL⟩:=OU;have hxm:x.2∈xs:=by
     have:=congrArg (List.map Prod.snd) yL;rw[iC _ _ (Nat.le_refl _),List.take_length]at this;have h2:x.2∈xs.reverse:=by rw[this];simp
     simpa using h2
    have ZH:(pre.map Prod.snd).length≤6:=by
     have:=congrArg List.length yL;have h2:=congrArg List.length (iC xs xs.length (Nat.le_refl _));simp at this h2;have:=uK.o;simp;omega
    obtain⟨c,ek⟩:=Lt.o _ hxm;have xe:Kp (·=bb) w2 W₂:=(e3.alloc _).own jf (fun k hk=>by omega);have OJ:aj W₂ l p:=zT.o.kp xe (fun k hk e=>by omega);obtain⟨cs,bE,jW⟩:=mr _ l p OJ x.2.keeper x.2.name c ek;obtain⟨a1,c1,a2,c2,rfl⟩:=bE.form;obtain⟨vf',vm',RN,sf, -⟩:=bE;simp only[List.cons.injEq,and_true,true_and]at RN;obtain⟨rfl,rfl⟩:=RN;have FD:∀W,(Instr.field 38 (.agg #[.string c.name,.string c.aW,.slice a1 c.fields.length c1,.slice a2 c.methods.length c2]) 2).run Tryz.prog W=.ok (.slice a1 c.fields.length c1) W:=(fun W=>by kernel_rfl);have cb:=(az.new W 51 #[.int .i64 x.2.keeper,.string x.2.name]).kp jf (by omega);have u0:=cb.c 0 (.int .i64 x.2.keeper) rfl;have u1:=cb.c 1 (.string x.2.name) rfl;have uz:=cb.lt;have t2:=(B2.o.1.kp xe (by omega)).c 0 (.pointer (some ⟨l.L,0,none⟩)) rfl;have tz:=aS t2;have g1:=(e1.ext ((Kp.refl _ W).alloc _)).kp jf (by omega);have g2:=aA (aA (D:=fun _=>False) e2 ((Kp.refl _ W).alloc (.cells #[.int .i64 x.2.keeper,.string x.2.name] 51)) (fun _ _ _ h=>h)) jf (fun g _ hg=>by omega);have HG:=Ys (And.intro g1 (And.intro g2 xe));have Lu:=Ys sf;have KH:=Ys jW;have HLW:=Ys OJ;have HF3:=Ys (og OJ.ok ek);have zR:=Ys ek;have hzz:w2.heap.size+3≤W₂.heap.size:=by omega
    have QC:¬v'.ownBlock=some W.heap.size:=fun e=>by have:=(e2.lt _ e).2;omega
    have hvB:∀q,v'.ownBlock=some q→w2.heap.size+3≤q:=fun q hq=>(e2.lt _ hq).1;obtain⟨T,f,dm,HT⟩:=gy.ex (fun W'=>Kp (fun k=>k=bb∨v'.ownBlock=some k) W₂ W') _ (Kp.refl _ _);have r2:=fun s=>((B2.o.1.kp xe (by omega)).kp (HT.aK s) (by intro h;rcases h with h|h;(· omega);(· have:=hvB _ h;omega))).c 0 (.pointer (some ⟨l.L,0,none⟩)) rfl;have r7:=fun s=>(cb.kp (HT.aK s) (by intro h;rcases h with h|h;(· omega);(· exact QC h))).c 0 (.int .i64 x.2.keeper) rfl;have r8:=fun s=>(cb.kp (HT.aK s) (by intro h;rcases h with h|h;(· omega);(· exact QC h))).c 1 (.string x.2.name) rfl;have ax:=Ys HT;have HVB:=Ys hvB;clear e1 e2 e3 cb g1 g2 xe sf jW OJ ek jf oF bb2 t2 u0 u1 HT hvB QC;gi_wp2_with fail;(refine N8 ax 6 [([0,1,2],3),([4],5)] [] ?_ (fun _=>trivial) ?_)
    · exact(Kp.refl _ _).drew
    (refine Nh [_,_,_] rfl rfl fun K hK=>?_);(repeat (go_big_quiet_step (fail)));(refine qn hK fun K2 ag=>?_);clear hK K;gi_wp2_with fail;refine⟨trivial,?_⟩;refine(CallsIn.inRound _ (callsIn_wide.2 (KH.o _ ((Kp.refl _ _).drew)))).mono ?_;rintro e w4 ⟨rfl,dN⟩;have ni:∀D:Nat→Prop,Kp D W₂ w4:=fun D=>(((Kp.refl _ W₂).drew:Ext W₂ _).trans dN).any;gi_wp2_with fail;(refine kk ax ag (ni _) ?_);clear ag K2;(refine Nh [_] rfl rfl fun K hK=>?_);(repeat (go_big_quiet_step (fail)));(refine qn hK fun K2 ag=>?_);clear hK K;gi_wp2_with fail;refine⟨trivial,?_⟩;have Qp:Ext W₂ w4:=ni _;refine(CallsIn.inRound _ (callsIn_wide.2 (D5 w4 bb (w2.heap.size+3) v' _ x.2 (· <l.O) _ c.fields (HG.o.1.ext Qp) (aA (D:=fun _=>False) HG.o.2.1 Qp fun _ _ _ x=>x) (SliceOf.ext Lu.o lN.stays Qp) (fun b hb=>by omega) (by have:=Qp.size;omega) ?hl (fun e=>by have:=HVB.o _ e;omega)))).mono ?_
    case hl=>
     have h1:=HF3.o;have h2:=jH HLW.o.ok (pre.map Prod.snd);omega
    rintro e w5 ⟨rfl,v5,yC,Mx,hn5,ql⟩;have HR5:=Ys (And.intro yC (And.intro Mx (And.intro hn5 ql)));have UH:Kp (fun k=>k=bb∨v'.ownBlock=some k) W₂ w5:=(ni _).trans ql;clear yC Mx hn5 ql dN ni;gi_wp2_with fail;(refine kk ax ag UH ?_);clear ag K2;(refine Ni ?_);gi_wp2_with fail;have zW:M.cls p x.2=c:=by unfold M.cls;rw[zR.o];rfl
    refine⟨UH.weak ?_,v5,HR5.o.1,?_,(HG.o.2.2.mix UH ?_)⟩
    · intro k hk h;rcases h with h|h
      · exact .inl h
      · exact .inr (HVB.o _ h)
    · rw[List.map_append,List.map_cons,List.map_nil,AP,zW,M.kG];exact HR5.o.2.1
    · intro k hk h;rcases h with h|h
      · exact h
      · have:=HVB.o _ h;omega
   case hdone=>
    rintro ys W rfl ⟨v',e1,e2,e3⟩ hK;obtain⟨va,vc,rfl⟩:=bJ e2;have k0:=e1.c 0 _ rfl;have HE:=Ys (And.intro e1 (And.intro e2 e3));clear e1 e2 e3 bb2;simp only[Exit.inBlock,Exit.then];gi_wp2;obtain⟨e1,e2,e3⟩:=HE.o;refine⟨by simp,.inl ⟨_,_,rfl,run_takeDeferred hK,?_⟩⟩;have xE:=Kp.putObj W (w2.alloc (.cells #[.slice a xs.length cap] 147)).heap.size (.deferred none);have oF:(w2.alloc (.cells #[.slice a xs.length cap] 147)).heap.size=w2.heap.size+1:=by simp
    refine⟨.slice va (M.dh p ((backTo xs xs.length).map Prod.snd) []).length vc,by simp[results,Tryz.f98,go_sem],⟨_,rfl,?_⟩,?_,?_⟩
    · have xg:(backTo xs xs.length).map Prod.snd=xs.reverse:=by rw[iC _ _ (Nat.le_refl _),List.take_length]
      rw[HV.o,←xg];have h1:=jH zT.o.ok ((backTo xs xs.length).map Prod.snd);have h2:((backTo xs xs.length).map Prod.snd).length=xs.length:=by rw[xg,List.length_reverse]
      have h3:=uK.o;exact SliceOf.gT (base:=w2.heap.size+3) fZ (aA e2 xE (fun g _ hg=>by omega)) rfl rfl (fun _ _=>rfl) (fun _ _=>rfl) (fun b h h'=>by show w.heap.size≤b;omega) (by omega)
    · exact(zT.o.kp e3 (fun k hk e=>by omega)).kp xE (fun k hk e=>by omega)
    · exact((Ah.o.own e3 (fun k hk=>by omega))).own xE (fun k hk=>by omega)
   case hstop=>exact fun _ _ _ _ h=>h.elim
end Go.Proofs.YtohpiobncgafeaaGreatDoor
namespace Go.Proofs.YtohpiobncgafeaaGreatDoor
open Go Go.RowKit
attribute [local go_sem] Oper.semAt_some
def WU(p:M.ai)(of:M.Ref)(xs:List M.Ref)(w2:World)(fb:Nat)(pre:List (Int×M.Ref))(W:World):Prop:=
 ∃n:Nat,n≤pre.length*3∧az W fb 3 #[.int .i64 n]∧Kp (·=fb) w2 W∧∀rest,xs.reverse=pre.map Prod.snd++rest→M.gL p of xs.reverse 0=M.gL p of rest n
def aaO(p:M.ai)(of:M.Ref)(xs:List M.Ref)(w2:World)(fb:Nat)(c:Code)(_:List (Int×M.Ref))(W:World):Prop:=
 c=.exit 0∧∃n:Nat,az W fb 3 #[.int .i64 n]∧Kp (·=fb) w2 W∧M.gL p of xs.reverse 0=n
theorem ve(w:World)(l:au)(p:M.ai)(h:aj w l p)(of low:M.Ref):
    Calls Tryz.prog 136 #[.pointer (some ⟨l.L,0,none⟩),.agg #[.int .i64 of.keeper,.string of.name],.agg #[.int .i64 low.keeper,.string low.name]] w fun e w'=>
     e=.returned (.int .i64 (M.fQ p of low))∧Ext w w':=by
 have Fz:=h.Cg;have vW:=h.lt;have hO:=h.ord;obtain⟨w1,jl⟩:∃w1,w1=(((w.alloc (.cells #[.pointer (some ⟨l.L,0,none⟩)] 73)).alloc (.cells #[.int .i64 of.keeper,.string of.name] 51)).alloc (.cells #[.int .i64 low.keeper,.string low.name] 51)).alloc (.cells #[.int .i64 0] 3):=⟨_,rfl⟩;have aM:Ext w w1:=by rw[jl];exact kx
 have H:=Ys (h.ext aM);have b2:az w1 w.heap.size 73 #[.pointer (some ⟨l.L,0,none⟩)]:=by rw[jl];exact(az.new w _ _).ext kx
 have b3:az w1 (w.heap.size+1) 51 #[.int .i64 of.keeper,.string of.name]:=by
  rw[jl];have:=(az.new (w.alloc (.cells #[.pointer (some ⟨l.L,0,none⟩)] 73)) 51 #[.int .i64 of.keeper,.string of.name]);simp only[World.size_alloc]at this;exact this.ext kx
 have b4:az w1 (w.heap.size+1+1) 51 #[.int .i64 low.keeper,.string low.name]:=by
  rw[jl];have:=(az.new ((w.alloc (.cells #[.pointer (some ⟨l.L,0,none⟩)] 73)).alloc (.cells #[.int .i64 of.keeper,.string of.name] 51)) 51 #[.int .i64 low.keeper,.string low.name]);simp only[World.size_alloc]at this;exact this.ext kx
 have b5:az w1 (w.heap.size+1+1+1) 3 #[.int .i64 0]:=by
  rw[jl];have:=(az.new (((w.alloc (.cells #[.pointer (some ⟨l.L,0,none⟩)] 73)).alloc (.cells #[.int .i64 of.keeper,.string of.name] 51)).alloc (.cells #[.int .i64 low.keeper,.string low.name] 51)) 3 #[.int .i64 0]);simpa only[World.size_alloc]using this
 have AL:w1.heap.size=w.heap.size+4:=by rw[jl];simp
 have bW:=Ys aM;have xW:=Ys jl;clear h aM;refine(callsIn_wide (n:=10)).1 ?_;refine callsIn_of_wp_marks Tryz.func136 rfl trivial ?_ rfl;simp only[Tryz.ntmps136,List.size_toArray,List.length_cons,List.length_nil,Nat.reduceAdd,Nat.reduceSub,Array.replicate_succ,Array.replicate_zero,List.push_toArray,List.append_toArray,List.nil_append,List.cons_append];clear jl;gi_wp2_with fail;rw[←xW.o];refine⟨trivial,?_⟩;refine(callsIn_wide.2 (kS _ _ _ H.o low)).mono ?_;rintro e w2 ⟨⟨v,rfl,hs⟩,bY⟩;obtain⟨a,cap,rfl,hn,dx⟩:=hs.form;gi_wp2_with fail;refine⟨trivial,?_⟩;refine(callsIn_wide.2 (sP _ _ _ _)).mono ?_;rintro e w3 ⟨rfl,rfl⟩;gi_wp2_with fail;have EA:=bY.size;have bb2:=b5.ext bY;have zT:Zs (aj w2 l p):=Ys (H.o.ext bY);have jC:Zs (Ext w w2):=Ys (bW.o.trans bY);have B2:=Ys (And.intro (b2.ext bY) (b3.ext bY));clear b2 b3 b4 b5 bY;generalize acg:w.heap.size+1+1+1=fb at*;have RJ:fb<w2.heap.size:=by omega
 have HS:=Ys hs;have uK:Zs ((M.chain p low).length≤6):=Ys (M.nA p low);have Lt:Zs (∀x∈M.chain p low,∃c,M.cls? p x=some c):=Ys fun x hx=>M.fJ hx;have HV:Zs (M.fQ p of low=M.gL p of (M.chain p low).reverse 0):=Ys rfl;clear hs;generalize M.chain p low=xs at*;refine zo (gf:=145) (lb:=#[.pointer (some ⟨w2.heap.size,0,none⟩)]) (α:=Int×M.Ref) rfl (enters_of Tryz.func145 (by kernel_rfl) rfl) (encs:=Bc) (fun x=>rfl)
  (Bb:=fun k=>k=fb)
  (rF xs w2.heap.size (.slice a xs.length cap) (fun b=>fb+1≤b∧b<w2.heap.size) _ ?hBd) ?hIt ?hD1 ?hD2 ?hB1 ?hB2
  (WU p of xs w2 fb) (aaO p of xs w2 fb) ?hI ?hIx ?h0 ?hIB
  (fun pre x W a₁ W₁=>WU p of xs w2 fb pre W∧(∃rest,backTo xs xs.length=pre++x::rest)∧
   w2.heap.size+2<W.heap.size∧W₁=W.alloc (.cells #[.int .i64 x.2.keeper,.string x.2.name] 51)∧
   a₁={tmps:=#[.pointer (some ⟨l.L,0,none⟩),.agg #[.int .i64 of.keeper,.string of.name],.agg #[.int .i64 low.keeper,.string low.name],.pointer (some ⟨w.heap.size,0,none⟩),.pointer (some ⟨w.heap.size+1,0,none⟩),.pointer (some ⟨w.heap.size+1+1,0,none⟩),.int .i64 0,.pointer (some ⟨fb,0,none⟩),undef,.pointer (some ⟨W.heap.size,0,none⟩),
    .pointer (some ⟨l.L,0,none⟩),.agg #[.int .i64 low.keeper,.string low.name],.slice a xs.length cap,.func (.func 145) #[] #[.pointer (some ⟨w2.heap.size,0,none⟩)],
    .int .i64 x.1,.agg #[.int .i64 x.2.keeper,.string x.2.name],undef,undef,undef,undef,undef,undef,undef,undef,undef,undef,undef],defers:=[]}) ?hassign ?hAx ?hbody ?hdone ?hstop
 case hBd=>
  intro k hk;have Cz:(k=fb)∨k=(w2.alloc (.cells #[.slice a xs.length cap] 147)).heap.size+1:=hk;simp only[World.size_alloc]at Cz;omega
 case hIt=>
  intro W hW;refine⟨(az.new _ _ _).ext hW,?_⟩;refine(wJ HS.o).keep uL.stays (Ext.same (((Kp.refl _ w2).alloc _:Ext w2 _).trans hW)) (fun b hb=>?_);have:=hb.1;exact⟨by omega,hb.2⟩
 case hD1=>exact fun h=>h
 case hD2=>exact fun h=>h
 case hB1=>simp only[World.size_alloc];omega
 case hB2=>simp only[World.size_alloc];omega
 case hI=>
  rintro s A B ⟨n,e0,e1,e2,e3⟩ hk;simp only[World.size_alloc]at hk;exact⟨n,e0,e1.kp hk (by simp;omega),e2.own hk (fun k hk=>by simp at hk;omega),e3⟩
 case hIx=>
  rintro c s A B ⟨e0,n,e1,e2,e3⟩ hk;simp only[World.size_alloc]at hk;exact⟨e0,n,e1.kp hk (by simp;omega),e2.own hk (fun k hk=>by simp at hk;omega),e3⟩
 case h0=>exact⟨0,by simp,bb2.ext kx,(kx:Ext w2 _).any,fun rest h=>by simp at h;rw[h]⟩
 case hIB=>exact fun _ _ _=>trivial
 case hassign=>
  intro pre x W K OU hi cK hK;simp only[Bc];simp only[World.size_alloc]at cK;gi_wp2
 case hAx=>
  rintro pre x W a₁ W₁ ⟨_,_,_,rfl,_⟩;exact((Kp.refl _ W).alloc _)
 case hbody=>
  rintro pre x W a₁ W₁ W₂ ⟨⟨n,e0,e1,e2,e3⟩,OU,cK,rfl,rfl⟩ jf oF;simp only[World.size_alloc]at jf oF;obtain⟨rest,yL⟩:=OU;have xg:xs.reverse=pre.map Prod.snd++x.2::rest.map Prod.snd:=by
   have:=congrArg (List.map Prod.snd) yL;rw[iC _ _ (Nat.le_refl _),List.take_length]at this;simpa using this
  have hxm:x.2∈xs:=by
   have h2:x.2∈xs.reverse:=by rw[xg];simp
   simpa using h2
  have ZH:n≤18:=by
   have h1:=congrArg List.length xg;simp at h1;have:=uK.o;omega
  have hfg:=e3 _ xg;obtain⟨c,ek⟩:=Lt.o _ hxm;have xe:Kp (·=fb) w2 W₂:=(e2.alloc _).own jf (fun k hk=>by omega);have OJ:aj W₂ l p:=zT.o.kp xe (fun k hk e=>by omega);obtain⟨cs,bE,jW⟩:=mr _ l p OJ x.2.keeper x.2.name c ek;obtain⟨a1,c1,a2,c2,rfl⟩:=bE.form;have FD:∀W,(Instr.field 38 (.agg #[.string c.name,.string c.aW,.slice a1 c.fields.length c1,.slice a2 c.methods.length c2]) 2).run Tryz.prog W=.ok (.slice a1 c.fields.length c1) W:=(fun W=>by kernel_rfl);have cb:=(az.new W 51 #[.int .i64 x.2.keeper,.string x.2.name]).kp jf (by omega);have u0:=cb.c 0 (.int .i64 x.2.keeper) rfl;have u1:=cb.c 1 (.string x.2.name) rfl;have t2:=(B2.o.2.kp xe (by omega)).c 0 (.int .i64 of.keeper) rfl;have t3:=(B2.o.2.kp xe (by omega)).c 1 (.string of.name) rfl;have g1:=(e1.ext ((Kp.refl _ W).alloc _)).kp jf (by omega);have HG:=Ys (And.intro g1 xe);have KH:=Ys jW;have HF3:=Ys (og OJ.ok ek);have zW:M.cls p x.2=c:=by unfold M.cls;rw[ek];rfl
  have Tp:=Ys zW;have HFG:=Ys hfg;have iL:=Ys e3;have aba:=Ys e0;obtain⟨T,f,dm,HT⟩:=gy.ex (fun W'=>Ext W₂ W') _ (Kp.refl _ _);have r2:=fun s=>((B2.o.1.kp xe (by omega)).ext (HT.aK s)).c 0 (.pointer (some ⟨l.L,0,none⟩)) rfl;have r5:=fun s=>(g1.ext (HT.aK s)).c 0 (.int .i64 n) rfl;have r7:=fun s=>(cb.ext (HT.aK s)).c 0 (.int .i64 x.2.keeper) rfl;have r8:=fun s=>(cb.ext (HT.aK s)).c 1 (.string x.2.name) rfl;have ax:=Ys HT;clear e0 e1 e2 e3 cb g1 xe jW OJ ek jf oF bb2 HT zW hfg xg yL bE;have DC:((of.keeper=x.2.keeper∧of.name=x.2.name)∧x.2=of)∨(((of.keeper=x.2.keeper∧(x.2.name.toList==of.name.toList)=false)∨(x.2.keeper==of.keeper)=false)∧¬x.2=of):=by
   rcases q9 x.2.keeper of.keeper x.2.name of.name with⟨h1,h2⟩|⟨h1,h2,h3⟩|⟨h1,h2⟩
   · exact .inl ⟨⟨h1.symm,h2.symm⟩,M.Ref.fK.2 ⟨h1,h2⟩⟩
   · exact .inr ⟨.inl ⟨h1.symm,h2⟩,fun e=>h3 (by rw[e])⟩
   · exact .inr ⟨.inr h1,fun e=>h2 (by rw[e])⟩
  rcases DC with⟨⟨h1,h2⟩,h3⟩|⟨h1,h3⟩
  · have H3:=Ys h3;clear h3;gi_wp2_with fail;refine⟨Kp.refl _ _,rfl,n,HG.o.1,HG.o.2,?_⟩;rw[HFG.o];unfold M.gL;rw[if_pos H3.o]
  · have H3:=Ys h3;clear h3;have MU:(n:Int)≤18:=by omega
    have hff:(c.fields.length:Int)≤3:=by have:=HF3.o;omega
    rcases h1 with⟨h1,h2⟩|h1
    all_goals
     gi_wp2_with fail;(refine N8 ax 7 [([0,1,2],3)] [4,5,6] ?_ (fun _=>trivial) ?_)
     · exact(Kp.refl _ _).drew
     (refine Nh [_,_,_] rfl rfl fun K hK=>?_);(repeat (go_big_quiet_step (fail)));(refine qn hK fun K2 ag=>?_);clear hK K;gi_wp2_with fail;refine⟨trivial,?_⟩;refine(CallsIn.inRound _ (callsIn_wide.2 (KH.o _ ((Kp.refl _ _).drew)))).mono ?_;rintro e w4 ⟨rfl,dN⟩;have ni:Ext W₂ w4:=((Kp.refl _ W₂).drew:Ext W₂ _).trans dN;have XU:=HG.o.1.ext ni;have d0:=XU.c 0 (.int .i64 n) rfl;have f0:=XU.frozen 0;have z0:=XU.lt;have nQ:=Ys XU;have KJ:=Ys ni;clear XU dN;gi_wp2_with fail;(refine kk ax ag ni ?_);clear ag K2;clear ni;(refine Sy [_,_,_] rfl fun K hK=>?_);(repeat (go_big_quiet_step (fail)));(refine qn hK ?_);clear hK K;gi_wp2_with fail;have bU:∀D:Nat→Prop,D fb→∀v,Kp D w4 (w4.setCell ⟨fb,0,none⟩ v):=fun D hD v=>(Kp.refl D w4).setCell (p:=⟨fb,0,none⟩) (fun _=>hD) v;have adK:=HF3.o;refine⟨KJ.o.any.trans (bU (·=fb) rfl _),n+c.fields.length,by have:=aba.o;simp;omega,?_,(HG.o.2.trans KJ.o.any).trans (bU (·=fb) rfl _),fun rest' hr=>?_⟩
     · have:=nQ.o.bA 0 (.int .i64 ((n:Int)+c.fields.length));simpa using this
     · rw[iL.o (x.2::rest') (by rw[hr];simp)];rw[show M.gL p of (x.2::rest') n=if x.2=of then n else M.gL p of rest' (n+(M.cls p x.2).fields.length)from rfl,if_neg H3.o,Tp.o]
 case hdone=>
  rintro ys W rfl ⟨n,e0,e1,e2,e3⟩ hK;have k0:=e1.c 0 _ rfl;have HE:=Ys (And.intro e1 (And.intro e2 e3));clear e1 e2 e3 bb2;simp only[Exit.inBlock,Exit.then];gi_wp2;obtain⟨e1,e2,e3⟩:=HE.o;refine⟨by simp,.inl ⟨_,_,rfl,run_takeDeferred hK,?_⟩⟩;have xE:=Kp.putObj W (w2.alloc (.cells #[.slice a xs.length cap] 147)).heap.size (.deferred none);have oF:(w2.alloc (.cells #[.slice a xs.length cap] 147)).heap.size=w2.heap.size+1:=by simp
  refine⟨.int .i64 n,by simp[results,Tryz.f136,go_sem],?_,?_⟩
  · have xg:(backTo xs xs.length).map Prod.snd=xs.reverse:=by rw[iC _ _ (Nat.le_refl _),List.take_length]
    rw[HV.o,e3 [] (by rw[xg];simp)];rfl
  · exact((jC.o.own e2 (fun k hk=>by omega))).own xE (fun k hk=>by omega)
 case hstop=>
  rintro c pre W hS ⟨rfl,n,e1,e2,e3⟩ hK;have k0:=e1.c 0 _ rfl;have HE:=Ys (And.intro e1 (And.intro e2 e3));clear e1 e2 e3 bb2;gi_wp2;obtain⟨e1,e2,e3⟩:=HE.o;refine⟨by simp,.inl ⟨_,_,rfl,run_takeDeferred hK,?_⟩⟩;have xE:=Kp.putObj W (w2.alloc (.cells #[.slice a xs.length cap] 147)).heap.size (.deferred none);have oF:(w2.alloc (.cells #[.slice a xs.length cap] 147)).heap.size=w2.heap.size+1:=by simp
  refine⟨.int .i64 n,by simp[results,Tryz.f136,go_sem],?_,?_⟩
  · rw[HV.o,e3]
  · exact((jC.o.own e2 (fun k hk=>by omega))).own xE (fun k hk=>by omega)
end Go.Proofs.YtohpiobncgafeaaGreatDoor
namespace Go.Proofs.YtohpiobncgafeaaGreatDoor
open Go Go.RowKit
theorem gH{α:Type}(l:List α)(k:Nat)(h:k<l.length):∃x,l[k]?=some x:=⟨l[k],List.getElem?_eq_getElem h⟩
def Hy:Array Value:=#[.int .i64 0,.string ⟨#[]⟩,.int .i64 0,.int .i64 0,.string ⟨#[]⟩]
theorem uJ.kp{D:Nat→Prop}{w w':World}{ev:Value}{c:Int}(h:uJ w ev c)(hk:Kp D w w')(hD:∀b,ev=.iface 99 (.pointer (some ⟨b,0,none⟩))→¬D b):uJ w' ev c:=by
 rcases h with h|⟨h1,b,h2,h3⟩
 · exact .inl h
 · exact .inr ⟨h1,b,h2,h3.kp hk (hD b h2)⟩
theorem az.inj{w:World}{g:Nat}{t t':TypeId}{cs cs':Array Value}(h:az w g t cs)(h':az w g t' cs'):t=t':=by
 unfold az at h h';rw[h]at h';cases h';rfl
theorem Kp.mq{D:Nat→Prop}{w:World}{b:Nat}(hD:D b)(v0 v1 v2 v3 v4:Value):Kp D w (((((w.setCell ⟨b,0,none⟩ v0).setCell ⟨b,1,none⟩ v1).setCell ⟨b,2,none⟩ v2).setCell ⟨b,3,none⟩ v3).setCell ⟨b,4,none⟩ v4):=
 (((((Kp.refl D w).setCell (p:=⟨b,0,none⟩) (fun _=>hD) v0).setCell (p:=⟨b,1,none⟩) (fun _=>hD) v1).setCell (p:=⟨b,2,none⟩) (fun _=>hD) v2).setCell (p:=⟨b,3,none⟩) (fun _=>hD) v3).setCell (p:=⟨b,4,none⟩) (fun _=>hD) v4
theorem az.mq{w:World}{b:Nat}{t:TypeId}{u0 u1 u2 u3 u4:Value}(h:az w b t #[u0,u1,u2,u3,u4])(v0 v1 v2 v3 v4:Value):az (((((w.setCell ⟨b,0,none⟩ v0).setCell ⟨b,1,none⟩ v1).setCell ⟨b,2,none⟩ v2).setCell ⟨b,3,none⟩ v3).setCell ⟨b,4,none⟩ v4) b t #[v0,v1,v2,v3,v4]:=
 ((((h.bA 0 v0).bA 1 v1).bA 2 v2).bA 3 v3).bA 4 v4
theorem qW (w : World) (l : au) (p : M.ai) (h : aj w l p) (k : Int) (n m : ByteArray) :
    Calls Tryz.prog 105 #[.pointer (some ⟨l.L,0,none⟩),.int .i64 k,.string n,.string m] w fun e w'=>
     (∃ev,e=.returned (.tuple #[.agg (fZ (M.get p k n m).1).toArray,ev])∧uJ w' ev (M.get p k n m).2)∧aj w' l p∧Kp (·=l.D) w w':=by
 have Fz:=h.Cg;have vW:=h.lt;have hO:=h.ord;obtain⟨w1,jl⟩:∃w1,w1=w.alloc (.cells Hy 187):=⟨_,rfl⟩;have aM:Ext w w1:=by rw[jl];exact kx
 have H:=Ys (h.ext aM);have b8:az w1 w.heap.size 187 Hy:=by rw[jl];exact az.new w _ _
 have AL:w1.heap.size=w.heap.size+1:=by rw[jl];simp
 have bW:=Ys aM;have xW:=Ys jl;have HK:Zs (M.get p k n m=if(M.aT p k n m).2=1 then M.mF p k m (M.aT p k n m).1 (M.layout p (M.aT p k n m).1)else(M.pQ,(M.aT p k n m).2)):=Ys rfl;clear h aM jl;go_enter Tryz.func105,Tryz.ntmps105;go_wp2_with fail;have Vo:=xW.o;unfold Hy at Vo;rw[←Vo];clear Vo;refine(pI _ _ _ H.o _ _ _).mono ?_;rintro e w2 ⟨⟨ev,rfl,ji⟩,UJ,ag⟩;generalize M.aT p k n m=F at*;obtain⟨⟨rk,rn⟩,code⟩:=F;simp only at*;have sO:=b8.kp ag (by omega);have EA:=ag.size;have y0:=sO.c 0 (.int .i64 0) rfl;have y1:=sO.c 1 (.string ⟨#[]⟩) rfl;have y2:=sO.c 2 (.int .i64 0) rfl;have y3:=sO.c 3 (.int .i64 0) rfl;have y4:=sO.c 4 (.string ⟨#[]⟩) rfl;have f0:=sO.frozen 0;have f1:=sO.frozen 1;have f2:=sO.frozen 2;have f3:=sO.frozen 3;have f4:=sO.frozen 4;have yz:=sO.lt;have zT:=Ys UJ;have Ah:Zs (Kp (·=l.D) w w2):=Ys (bW.o.any.trans ag);have zQ:=Ys sO;clear UJ ag b8 sO;rcases ji with⟨rfl,rfl⟩|⟨hc,eb,rfl,Zm⟩
 · have HN : Zs (M.get p k n m = M.mF p k m ⟨rk, rn⟩ (M.layout p ⟨rk, rn⟩)) := Ys (by rw [HK.o, if_pos rfl]); have bY : Ext w2 (w2.alloc (.cells #[.int .i64 rk, .string rn] 51)) := kx; have b10 := az.new w2 51 #[.int .i64 rk, .string rn]; go_wp2_with fail; refine (oK _ _ _ (zT.o.ext bY) ⟨rk, rn⟩).mono ?_; rintro e w3 ⟨⟨v, rfl, hs⟩, zV, mg⟩; obtain ⟨a, cap, rfl, hn, dx⟩ := hs.form; have AO := mg.size; simp only [World.size_alloc] at AO; have O8 := Ys ((zQ.o.ext bY).kp mg (by omega)); have BM := Ys (b10.kp mg (by omega)); have KL := Ys zV; have jT : Zs (Kp (· = l.D) w w3) := Ys ((Ah.o.trans bY.any).trans mg); have HS := Ys hs; have abC : Zs (∀ (i : Nat) (x : M.jw), (M.layout p ⟨rk, rn⟩)[i]? = some x → _) := Ys (fun i x => M.uY (p := p) (r := ⟨rk, rn⟩) (i := i) (f := x)); clear hs zV mg bY b10 y0 y1 y2 y3 y4 f0 f1 f2 f3 f4 yz; generalize M.layout p ⟨rk, rn⟩ = fs at *; go_wp2_with fail; go_loopw [31] (fun i wr => ∃ q : Nat, q ≤ fs.length ∧ i = .int .i64 q ∧ Ext w3 wr ∧ Zs (M.mF p k m ⟨rk, rn⟩ fs = M.mF p k m ⟨rk, rn⟩ (fs.drop q))) (fun i _ => fs.length - (intOf i).toNat)
   case atStart=>exact⟨0,Nat.zero_le _,rfl,Kp.refl _ _,Ys rfl⟩
   case round =>
    obtain⟨q,hq,rfl,hE,HA⟩:=hrel;have tJ:=O8.o.ext hE;have y0:=tJ.c 0 (.int .i64 0) rfl;have y1:=tJ.c 1 (.string ⟨#[]⟩) rfl;have y2:=tJ.c 2 (.int .i64 0) rfl;have y3:=tJ.c 3 (.int .i64 0) rfl;have y4:=tJ.c 4 (.string ⟨#[]⟩) rfl;have f0:=tJ.frozen 0;have f1:=tJ.frozen 1;have f2:=tJ.frozen 2;have f3:=tJ.frozen 3;have f4:=tJ.frozen 4;have yz:=tJ.lt;have Xi:=Ys tJ;have Bj:=BM.o.ext hE;have ac7:=Ys Bj;have VX:=Ys (KL.o.ext hE);have TE:Zs (Kp (·=l.D) w wr):=Ys (jT.o.trans hE.any);have KI:=Ys hE;by_cases cK:q<fs.length
    · obtain⟨x,hx⟩:=gH fs q cK;obtain⟨_,hxc,Na,j,fd,hj,WC,hxk⟩:=abC.o q x hx;obtain⟨c,ek⟩:=M.fJ hxc;have zW:M.cls p x.of=c:=by unfold M.cls;rw[ek];rfl
      rw[zW]at hj;have hjl:j<c.fields.length:=(List.getElem?_eq_some_iff.1 hj).1;have DC:c.fields.length≤3:=og VX.o.ok ek;have HFN:Zs (M.fieldName p ⟨rk,rn⟩ x=fd.name):=Ys (M.Ck (by rw[zW];exact hj) (by rw[Na,WC]));have HGI:Zs (M.mF p k m ⟨rk,rn⟩ fs=if M.fieldName p ⟨rk,rn⟩ x=m then(if M.agree p k x.of.keeper x.kind then(x,1)else(M.pQ,4))else M.mF p k m ⟨rk,rn⟩ (fs.drop (q+1))):=Ys (by rw[HA.o,gX hx];rfl);obtain⟨b,off,cs,rfl,Dz,rfl, -,gI⟩:=HS.o.get hx;have uR:=gI.ext hE;have g0:=uR 0 (.int .i64 x.of.keeper) rfl;have g1:=uR 1 (.string x.of.name) rfl;have g2:=uR 2 (.int .i64 q) (by simp[fZ,Na]);have g3:=uR 3 (.int .i64 x.kind.kind) rfl;have g4:=uR 4 (.string x.kind.name) rfl;rw[Nat.add_zero]at g0;have gz:=aS g0;have e0:=Bj.c 0 (.int .i64 rk) rfl;have e1:=Bj.c 1 (.string rn) rfl;have ez:=Bj.lt;obtain⟨W4,Ep,dN,b13⟩:=nu wr #[.int .i64 x.of.keeper,.string x.of.name,.int .i64 q,.int .i64 x.kind.kind,.string x.kind.name] 187;have BX:=Ys Ep;have HX:=Ys (And.intro Na hxk);have zR:=Ys ek;have HJ:=Ys hj;have HQJ:=Ys WC;clear Na hxk ek hj gI uR hx hxc zW WC y0 y1 y2 y3 y4 f0 f1 f2 f3 f4 Ep tJ Bj;go_wp2_with fail;rw[←BX.o];refine(ve _ _ _ (VX.o.ext dN) ⟨x.of.keeper,x.of.name⟩ ⟨rk,rn⟩).mono ?_;rintro e w5 ⟨rfl,ed⟩;have WC:q=M.fQ p ⟨x.of.keeper,x.of.name⟩ ⟨rk,rn⟩+j:=HQJ.o;generalize M.fQ p ⟨x.of.keeper,x.of.name⟩ ⟨rk,rn⟩=ff at*;obtain⟨cs,bE,jW⟩:=mr _ l p VX.o x.of.keeper x.of.name c zR.o;obtain⟨a1,c1,a2,c2,rfl⟩:=bE.form;obtain⟨vf',vm',RN,sf, -⟩:=bE;simp only[List.cons.injEq,and_true,true_and]at RN;obtain⟨rfl,rfl⟩:=RN;have FD:∀W,(Instr.field 38 (.agg #[.string c.name,.string c.aW,.slice a1 c.fields.length c1,.slice a2 c.methods.length c2]) 2).run Tryz.prog W=.ok (.slice a1 c.fields.length c1) W:=(fun W=>by kernel_rfl);obtain⟨bf,of,csf,rfl,hIf,rfl, -,Zg⟩:=sf.get HJ.o;have UA:Ext wr w5:=dN.trans ed;obtain⟨T,f,dm,HT⟩:=gy.ex (fun W'=>Ext w5 W') _ (Kp.refl _ _);have r0:=fun s=>(b13.ext (ed.trans (HT.aK s))).c 0 (.int .i64 x.of.keeper) rfl;have r1:=fun s=>(b13.ext (ed.trans (HT.aK s))).c 1 (.string x.of.name) rfl;have r2:=fun s=>(b13.ext (ed.trans (HT.aK s))).c 2 (.int .i64 q) rfl;have r3:=fun s=>(b13.ext (ed.trans (HT.aK s))).c 3 (.int .i64 x.kind.kind) rfl;have r4:=fun s=>(b13.ext (ed.trans (HT.aK s))).c 4 (.string x.kind.name) rfl
      have rf:=fun s=>(Zg.ext (UA.trans (HT.aK s))) 0 (.string fd.name) rfl;simp only[Nat.add_zero]at rf;have hw:IntKind.i64.wrap ((q:Int) - (ff:Int))=(j:Int):=by rw[IntWalk.i64_in _ (by omega)];omega
      have jS:(q:Int) - (ff:Int)=(j:Int):=by omega
      have RU:(0:Int)≤(j:Int):=by omega
      have OQ:(j:Int)<c.fields.length:=by omega
      have ax:=Ys HT;have KH:=Ys jW;have Pd:=Ys UA;have Jd:=Ys (b13.ext ed);have HQ:=Ys WC;clear HT jW UA b13 ed dN Zg sf g0 g1 g2 g3 g4 e0 e1 WC;by_cases CE:fd.name=m
      · have acI:(fd.name.toList==m.toList)=true:=by rw[CE];simp
        have Pf:Zs (M.get p k n m=if M.agree p k x.of.keeper x.kind then(x,1)else(M.pQ,4)):=Ys (by rw[HN.o,HGI.o,if_pos (by rw[HFN.o];exact CE)]);clear CE;go_wp2_with fail;(refine O0 ax ?_ ?_);rotate_left;(repeat (go_big_quiet_step ((go_at_call 35;refine(KH.o _ (Pd.o.trans (ax.o.aK _)).any).mono ?_;rintro e w6 ⟨rfl,iZ⟩;exact⟨rfl,ax.o.o w6 ((ax.o.aK _).trans iZ)⟩))));(refine wpQuiet_nil ?_);(rintro _ ⟨sW,rfl⟩);rotate_left
        · exact(Kp.refl _ _).drew
        go_wp2_with fail;have QE:Ext wr (f sW):=Pd.o.trans (ax.o.aK sW);have Mh:=Jd.o.ext (ax.o.aK sW);generalize f sW=w6 at*;clear ax r0 r1 r2 r3 r4 rf;refine(qB _ _ _ (VX.o.ext QE) k x.of.keeper x.kind).mono ?_;rintro e w7 ⟨rfl,Av⟩;have M9:Ext wr w7:=QE.trans Av;have yA:=Mh.ext Av;have tH:=Xi.o.ext M9;have y0:=tH.c 0 (.int .i64 0) rfl;have y1:=tH.c 1 (.string ⟨#[]⟩) rfl;have y2:=tH.c 2 (.int .i64 0) rfl;have y3:=tH.c 3 (.int .i64 0) rfl;have y4:=tH.c 4 (.string ⟨#[]⟩) rfl;have f0:=tH.frozen 0;have f1:=tH.frozen 1;have f2:=tH.frozen 2;have f3:=tH.frozen 3;have f4:=tH.frozen 4;have yz:=tH.lt;have Xg:=Ys tH;have DN:=Ys (VX.o.ext M9);have lI:Zs (Kp (·=l.D) w w7):=Ys (TE.o.trans M9.any);cases yF:M.agree p k x.of.keeper x.kind
        · have Pk:Zs (M.get p k n m=(M.pQ,4)):=Ys (by rw[Pf.o,yF];rfl);clear yA Mh tH M9 QE Av yF;go_wp2_with fail;have hs:=Kp.mq (D:=(·=w.heap.size)) (w:=w7) rfl (.int .i64 0) (.string ⟨#[]⟩) (.int .i64 0) (.int .i64 0) (.string ⟨#[]⟩);have hb:=Xg.o.mq (.int .i64 0) (.string ⟨#[]⟩) (.int .i64 0) (.int .i64 0) (.string ⟨#[]⟩);refine bodyPost_ret (bP nz rfl _ _ w.heap.size rfl (fZ M.pQ) ((af.iV hb).ext ((Kp.refl _ _).alloc _)) rfl) rfl ?_;rw[Pk.o];refine⟨⟨_,rfl,.inr ⟨by simp,w7.heap.size,rfl,?_⟩⟩,(DN.o.kp hs (fun k hk e=>by omega)).ext ((Kp.refl _ _).alloc _),(lI.o.own hs (fun k hk=>by omega)).alloc _⟩;have:=az.new (((((w7.setCell ⟨w.heap.size,0,none⟩ (.int .i64 0)).setCell ⟨w.heap.size,1,none⟩ (.string ⟨#[]⟩)).setCell ⟨w.heap.size,2,none⟩ (.int .i64 0)).setCell ⟨w.heap.size,3,none⟩ (.int .i64 0)).setCell ⟨w.heap.size,4,none⟩ (.string ⟨#[]⟩)) 101 #[.int .i64 4];simpa using this
        · have Pk:Zs (M.get p k n m=(x,1)):=Ys (by rw[Pf.o,yF];rfl);have e0:=yA.c 0 (.int .i64 x.of.keeper) rfl;have e1:=yA.c 1 (.string x.of.name) rfl;have e2:=yA.c 2 (.int .i64 q) rfl;have e3:=yA.c 3 (.int .i64 x.kind.kind) rfl;have e4:=yA.c 4 (.string x.kind.name) rfl;clear yA Mh tH M9 QE Av yF;go_wp2_with fail;have hs:=Kp.mq (D:=(·=w.heap.size)) (w:=w7) rfl (.int .i64 x.of.keeper) (.string x.of.name) (.int .i64 q) (.int .i64 x.kind.kind) (.string x.kind.name);have hb:=Xg.o.mq (.int .i64 x.of.keeper) (.string x.of.name) (.int .i64 q) (.int .i64 x.kind.kind) (.string x.kind.name);have hxq:fZ x=[.int .i64 x.of.keeper,.string x.of.name,.int .i64 q,.int .i64 x.kind.kind,.string x.kind.name]:=by unfold fZ;rw[HX.o.1]
          rw[Pk.o];refine bodyPost_ret (bP nz rfl _ _ w.heap.size rfl (fZ x) (by rw[hxq];exact af.iV hb) rfl) rfl ?_;exact⟨⟨_,rfl,.inl ⟨rfl,rfl⟩⟩,DN.o.kp hs (fun k hk e=>by omega),lI.o.own hs (fun k hk=>by omega)⟩
      · have acI:(fd.name.toList==m.toList)=false:=by rw[iI];exact decide_eq_false CE
        have Pf:Zs (M.mF p k m ⟨rk,rn⟩ fs=M.mF p k m ⟨rk,rn⟩ (fs.drop (q+1))):=Ys (by rw[HGI.o,if_neg (by rw[HFN.o];exact CE)]);clear CE;go_wp2_with fail;(refine O0 ax ?_ ?_);rotate_left;(repeat (go_big_quiet_step ((go_at_call 35;refine(KH.o _ (Pd.o.trans (ax.o.aK _)).any).mono ?_;rintro e w6 ⟨rfl,iZ⟩;exact⟨rfl,ax.o.o w6 ((ax.o.aK _).trans iZ)⟩))));(refine wpQuiet_nil ?_);(rintro _ ⟨sW,rfl⟩);rotate_left
        · exact(Kp.refl _ _).drew
        go_wp2_with fail;have WH:=KI.o.trans (Pd.o.trans (ax.o.aK sW));refine⟨⟨q+1,by omega,by go_num,WH,Pf⟩,by simp[intOf];omega⟩
    · have Pk:Zs (M.get p k n m=(M.pQ,3)):=Ys (by rw[HN.o,HA.o,List.drop_eq_nil_of_le (by omega)];rfl);clear tJ Bj;go_wp2_with fail;have hs:=Kp.mq (D:=(·=w.heap.size)) (w:=wr) rfl (.int .i64 0) (.string ⟨#[]⟩) (.int .i64 0) (.int .i64 0) (.string ⟨#[]⟩);have hb:=Xi.o.mq (.int .i64 0) (.string ⟨#[]⟩) (.int .i64 0) (.int .i64 0) (.string ⟨#[]⟩);refine bodyPost_ret (bP nz rfl _ _ w.heap.size rfl (fZ M.pQ) ((af.iV hb).ext ((Kp.refl _ _).alloc _)) rfl) rfl ?_;rw[Pk.o];refine⟨⟨_,rfl,.inr ⟨by simp,wr.heap.size,rfl,?_⟩⟩,(VX.o.kp hs (fun k hk e=>by omega)).ext ((Kp.refl _ _).alloc _),(TE.o.own hs (fun k hk=>by omega)).alloc _⟩;have:=az.new (((((wr.setCell ⟨w.heap.size,0,none⟩ (.int .i64 0)).setCell ⟨w.heap.size,1,none⟩ (.string ⟨#[]⟩)).setCell ⟨w.heap.size,2,none⟩ (.int .i64 0)).setCell ⟨w.heap.size,3,none⟩ (.int .i64 0)).setCell ⟨w.heap.size,4,none⟩ (.string ⟨#[]⟩)) 101 #[.int .i64 3];simpa using this
 · have Ox:=Ys Zm;have HC:=Ys hc;clear Zm hc;have HN:Zs (M.get p k n m=(M.pQ,code)):=Ys (by rw[HK.o,if_neg HC.o]);have UZ:¬eb=w.heap.size:=fun e=>by subst e;exact absurd (az.inj Ox.o zQ.o) (by decide)
   go_wp2_with fail;have hs:=Kp.mq (D:=(·=w.heap.size)) (w:=w2) rfl (.int .i64 0) (.string ⟨#[]⟩) (.int .i64 0) (.int .i64 0) (.string ⟨#[]⟩);have hb:=zQ.o.mq (.int .i64 0) (.string ⟨#[]⟩) (.int .i64 0) (.int .i64 0) (.string ⟨#[]⟩);refine bodyPost_ret (bP nz rfl _ _ w.heap.size rfl (fZ M.pQ) ((af.iV hb).ext ((Kp.refl _ _).alloc _)) rfl) rfl ?_;rw[HN.o];exact⟨⟨_,rfl,.inr ⟨HC.o,eb,rfl,(Ox.o.kp hs UZ).ext ((Kp.refl _ _).alloc _)⟩⟩,(zT.o.kp hs (fun k hk e=>by omega)).ext ((Kp.refl _ _).alloc _),(Ah.o.own hs (fun k hk=>by omega)).alloc _⟩
theorem dK(w:World)(l:au)(p:M.ai)(h:aj w l p)(x:M.jR)(hx:M.bM p x=true):
    Calls Tryz.prog 32 #[.pointer (some ⟨l.L,0,none⟩),.agg #[.int .i64 x.of.keeper,.string x.of.name,.int .i64 x.at_]] w fun e w'=>
     (∃cs,aC w' (· <l.O) (M.method p x) cs∧e=.returned (.agg cs.toArray))∧Ext w w':=by
 obtain⟨_,i,c,m,h1,h2,h3,h4⟩:=M.o9 hx;have e:M.method p x=m:=by unfold M.method;rw[h4];rfl
 rw[e,h1];exact CW w l p h x.of.keeper x.of.name i c m h2 h3
theorem az.newAt{W:World}{g:Nat}(t:TypeId)(cs:Array Value)(h:W.heap.size=g):az (W.alloc (.cells cs t)) g t cs:=by
 subst h;exact az.new W t cs
def mX(x:M.jR):List Value:=[.int .i64 x.of.keeper,.string x.of.name,.int .i64 x.at_]
theorem Kp.lq{D:Nat→Prop}{w:World}{b:Nat}(hD:D b)(v0 v1 v2:Value):Kp D w (((w.setCell ⟨b,0,none⟩ v0).setCell ⟨b,1,none⟩ v1).setCell ⟨b,2,none⟩ v2):=
 (((Kp.refl D w).setCell (p:=⟨b,0,none⟩) (fun _=>hD) v0).setCell (p:=⟨b,1,none⟩) (fun _=>hD) v1).setCell (p:=⟨b,2,none⟩) (fun _=>hD) v2
theorem az.lq{w:World}{b:Nat}{t:TypeId}{u0 u1 u2:Value}(h:az w b t #[u0,u1,u2])(v0 v1 v2:Value):az (((w.setCell ⟨b,0,none⟩ v0).setCell ⟨b,1,none⟩ v1).setCell ⟨b,2,none⟩ v2) b t #[v0,v1,v2]:=
 ((h.bA 0 v0).bA 1 v1).bA 2 v2
theorem lZ(w:World)(l:au)(p:M.ai)(h:aj w l p)(k:Int)(n m:ByteArray):
    Calls Tryz.prog 16 #[.pointer (some ⟨l.L,0,none⟩),.int .i64 k,.string n,.string m] w fun e w'=>
     (∃ev,e=.returned (.tuple #[.agg (mX (M.call p k n m).1).toArray,ev])∧uJ w' ev (M.call p k n m).2)∧aj w' l p∧Kp (·=l.D) w w':=by
 have Fz:=h.Cg;have vW:=h.lt;have hO:=h.ord;obtain⟨w1,jl⟩:∃w1,w1=w.alloc (.cells #[.int .i64 0,.string ⟨#[]⟩,.int .i64 0] 53):=⟨_,rfl⟩;have aM:Ext w w1:=by rw[jl];exact kx
 have H:=Ys (h.ext aM);have b8:az w1 w.heap.size 53 #[.int .i64 0,.string ⟨#[]⟩,.int .i64 0]:=by rw[jl];exact az.new w _ _
 have AL:w1.heap.size=w.heap.size+1:=by rw[jl];simp
 have bW:=Ys aM;have xW:=Ys jl;have HK:Zs (M.call p k n m=if(M.aT p k n m).2=1 then
  (match M.pick p (M.aT p k n m).1 m with
  |none=>(M.iw,3)
  |some x=>if M.df p k x.of.keeper (M.method p x)then(x,1)else(M.iw,4))
 else(M.iw,(M.aT p k n m).2)):=Ys rfl
 clear h aM jl;go_enter Tryz.func16,Tryz.ntmps16;go_wp2_with fail;rw[←xW.o];refine(pI _ _ _ H.o _ _ _).mono ?_;rintro e w2 ⟨⟨ev,rfl,ji⟩,UJ,ag⟩;generalize M.aT p k n m=F at*;obtain⟨⟨rk,rn⟩,code⟩:=F;simp only at*;have sO:=b8.kp ag (by omega);have EA:=ag.size;have y0:=sO.c 0 (.int .i64 0) rfl;have y1:=sO.c 1 (.string ⟨#[]⟩) rfl;have y2:=sO.c 2 (.int .i64 0) rfl;have f0:=sO.frozen 0;have f1:=sO.frozen 1;have f2:=sO.frozen 2;have yz:=sO.lt;have zT:=Ys UJ;have Ah:Zs (Kp (·=l.D) w w2):=Ys (bW.o.any.trans ag);have zQ:=Ys sO;clear UJ ag b8 sO;rcases ji with⟨rfl,rfl⟩|⟨hc,eb,rfl,Zm⟩
 · have HN:Zs (M.call p k n m=match M.pick p ⟨rk,rn⟩ m with
    |none=>(M.iw,3)
    |some x=>if M.df p k x.of.keeper (M.method p x)then(x,1)else(M.iw,4)):=Ys (by rw[HK.o,if_pos rfl])
   have bY:Ext w2 (w2.alloc (.cells #[.int .i64 rk,.string rn] 51)):=kx;clear y0 y1 y2 f0 f1 f2 yz;go_wp2_with fail;refine(yY _ _ _ (zT.o.ext bY) ⟨rk,rn⟩ m).mono ?_;rintro e w3 ⟨rfl,zV,mg⟩;have AO:=mg.size;simp only[World.size_alloc]at AO;have Cq:=(zQ.o.ext bY).kp mg (by omega);have y0:=Cq.c 0 (.int .i64 0) rfl;have y1:=Cq.c 1 (.string ⟨#[]⟩) rfl;have y2:=Cq.c 2 (.int .i64 0) rfl;have f0:=Cq.frozen 0;have f1:=Cq.frozen 1;have f2:=Cq.frozen 2;have yz:=Cq.lt;have O8:=Ys Cq;have KL:=Ys zV;have jT:Zs (Kp (·=l.D) w w3):=Ys ((Ah.o.trans bY.any).trans mg);clear zV mg bY Cq;cases hp:M.pick p ⟨rk,rn⟩ m with
   |none=>
    have HR:Zs (M.call p k n m=(M.iw,3)):=Ys (by rw[HN.o,hp]);clear hp;simp only[Option.getD_none,Option.isSome_none,iw];go_wp2_with fail;have hs:=Kp.lq (D:=(·=w.heap.size)) (w:=w3) rfl (.int .i64 0) (.string ⟨#[]⟩) (.int .i64 0);have hb:=O8.o.lq (.int .i64 0) (.string ⟨#[]⟩) (.int .i64 0);refine bodyPost_ret (bP qg rfl _ _ w.heap.size rfl (mX M.iw) (((af.iV hb).ext ((Kp.refl _ _).alloc _)).ext ((Kp.refl _ _).alloc _)) rfl) rfl ?_;rw[HR.o];exact⟨⟨_,rfl,.inr ⟨by simp,w3.heap.size+1,rfl,az.newAt _ _ (by simp)⟩⟩,((KL.o.kp hs (fun k hk e=>by omega)).ext ((Kp.refl _ _).alloc _)).ext ((Kp.refl _ _).alloc _),((jT.o.own hs (fun k hk=>by omega)).alloc _).alloc _⟩
   |some x=>
    have HX:=Ys (M.jN hp);have HR:Zs (M.call p k n m=if M.df p k x.of.keeper (M.method p x)then(x,1)else(M.iw,4)):=Ys (by rw[HN.o,hp]);clear hp;simp only[Option.getD_some,Option.isSome_some];obtain⟨W4,Ep,dN,b12⟩:=nu w3 #[.int .i64 x.of.keeper,.string x.of.name,.int .i64 x.at_] 53;obtain⟨T,f,dm,HT⟩:=gy.ex (fun W'=>Ext W4 W') _ (Kp.refl _ _);have r0:=fun s=>(b12.ext (HT.aK s)).c 0 (.int .i64 x.of.keeper) rfl;have r1:=fun s=>(b12.ext (HT.aK s)).c 1 (.string x.of.name) rfl;have r2:=fun s=>(b12.ext (HT.aK s)).c 2 (.int .i64 x.at_) rfl;have ax:=Ys HT;have BX:=Ys Ep;have iM:=Ys dN;have Tc:=Ys b12;have Ph:=Ys (KL.o.ext dN);have Tk:=Ys (O8.o.ext dN);have KJ:Zs (Kp (·=l.D) w W4):=Ys (jT.o.trans dN.any);clear y0 y1 y2 f0 f1 f2 yz HT Ep dN b12;go_wp2_with fail;rw[←BX.o];(refine dQ ax 10 [([0,1,2,3,4,5,6],7),([],8)] [9] ?_ ?_)
    · exact(Kp.refl _ _).drew
    (refine dn [_,_,_,_,_,_,_] rfl rfl fun K hK=>?_);(repeat (go_big_quiet_step (fail)));(refine qn hK fun K2 ag=>?_);clear hK K;go_wp2_with fail;refine(dK _ _ _ (Ph.o.ext (Kp.refl _ _).drew) x HX.o).mono ?_;rintro e w5 ⟨⟨cs,jk,rfl⟩,ed⟩;have wW:Ext W4 w5:=((Kp.refl _ _).drew:Ext W4 _).trans ed;have zU:=Ys jk;obtain⟨a1,c1,a2,c2,a3,c3,rfl⟩:=jk.form;clear jk ed;go_wp2_with fail;(refine kk ax ag wW ?_);clear ag K2;(refine fG rfl fun K2 ag=>?_);go_wp2_with fail;refine(mJ _ _ _ (Ph.o.ext wW) k x.of.keeper _ _ _ zU.o).mono ?_;rintro e w6 ⟨rfl,iZ⟩;have JA:=wW.trans iZ;have Cr:=Tk.o.ext JA;have y0:=Cr.c 0 (.int .i64 0) rfl;have y1:=Cr.c 1 (.string ⟨#[]⟩) rfl;have y2:=Cr.c 2 (.int .i64 0) rfl;have f0:=Cr.frozen 0;have f1:=Cr.frozen 1;have f2:=Cr.frozen 2;have yz:=Cr.lt;have Ik:=Tc.o.ext JA;have z0:=Ik.c 0 (.int .i64 x.of.keeper) rfl;have z1:=Ik.c 1 (.string x.of.name) rfl;have z2:=Ik.c 2 (.int .i64 x.at_) rfl;have Xf:=Ys Cr;have VW:=Ys (Ph.o.ext JA);have Oz:Zs (Kp (·=l.D) w w6):=Ys (KJ.o.trans JA.any);have abj:=Ys JA;clear iZ wW Cr Ik r0 r1 r2 JA;go_wp2_with fail;(refine kk ax ag abj.o ?_);clear ag K2;cases yF:M.df p k x.of.keeper (M.method p x)
    · have OD:Zs (M.call p k n m=(M.iw,4)):=Ys (by rw[HR.o,yF];rfl);clear yF;(refine fq [_] rfl rfl fun K hK=>?_);(repeat (go_big_quiet_step (fail)));(refine qn hK ?_);clear hK K;go_wp2_with fail;have hs:=Kp.lq (D:=(·=w.heap.size)) (w:=w6) rfl (.int .i64 0) (.string ⟨#[]⟩) (.int .i64 0);have hb:=Xf.o.lq (.int .i64 0) (.string ⟨#[]⟩) (.int .i64 0);refine bodyPost_ret (bP qg rfl _ _ w.heap.size rfl (mX M.iw) ((af.iV hb).ext ((Kp.refl _ _).alloc _)) rfl) rfl ?_;rw[OD.o];exact⟨⟨_,rfl,.inr ⟨by simp,w6.heap.size,rfl,az.newAt _ _ (by simp)⟩⟩,(VW.o.kp hs (fun k hk e=>by omega)).ext ((Kp.refl _ _).alloc _),(Oz.o.own hs (fun k hk=>by omega)).alloc _⟩
    · have OD:Zs (M.call p k n m=(x,1)):=Ys (by rw[HR.o,yF];rfl);clear yF;(refine fq [_] rfl rfl fun K hK=>?_);(repeat (go_big_quiet_step (fail)));(refine qn hK ?_);clear hK K;go_wp2_with fail;have hs:=Kp.lq (D:=(·=w.heap.size)) (w:=w6) rfl (.int .i64 x.of.keeper) (.string x.of.name) (.int .i64 x.at_);have hb:=Xf.o.lq (.int .i64 x.of.keeper) (.string x.of.name) (.int .i64 x.at_);refine bodyPost_ret (bP qg rfl _ _ w.heap.size rfl (mX x) (af.iV hb) rfl) rfl ?_;rw[OD.o];exact⟨⟨_,rfl,.inl ⟨rfl,rfl⟩⟩,VW.o.kp hs (fun k hk e=>by omega),Oz.o.own hs (fun k hk=>by omega)⟩
 · have Ox:=Ys Zm;have HC:=Ys hc;clear Zm hc;have HN:Zs (M.call p k n m=(M.iw,code)):=Ys (by rw[HK.o,if_neg HC.o]);have UZ:¬eb=w.heap.size:=fun e=>by subst e;exact absurd (az.inj Ox.o zQ.o) (by decide)
   go_wp2_with fail;have hs:=Kp.lq (D:=(·=w.heap.size)) (w:=w2) rfl (.int .i64 0) (.string ⟨#[]⟩) (.int .i64 0);have hb:=zQ.o.lq (.int .i64 0) (.string ⟨#[]⟩) (.int .i64 0);refine bodyPost_ret (bP qg rfl _ _ w.heap.size rfl (mX M.iw) ((af.iV hb).ext ((Kp.refl _ _).alloc _)) rfl) rfl ?_;rw[HN.o];exact⟨⟨_,rfl,.inr ⟨HC.o,eb,rfl,(Ox.o.kp hs UZ).ext ((Kp.refl _ _).alloc _)⟩⟩,(zT.o.kp hs (fun k hk e=>by omega)).ext ((Kp.refl _ _).alloc _),(Ah.o.own hs (fun k hk=>by omega)).alloc _⟩
def sG(n:Int):List PanicEntry:=[{v:=.iface 116 (.agg #[.int .i64 n]),recovered:=false}]
theorem dW(w:World)(kb:Nat)(n:Int)(hc:w.cell? ⟨kb,10,none⟩=some (.int .i64 n))(h0:0≤n)(h1:n≤1000):
    Calls Tryz.prog 96 #[.pointer (some ⟨kb,0,none⟩)] w fun e w'=>e=.panicked (sG (n+1))∧w=w':=by
 go_enter Tryz.func96,Tryz.ntmps96;go_wp2;exact⟨rfl,rfl,rfl⟩
theorem vg(w:World)(l:au)(p:M.ai)(h:aj w l p)(k:Int)(a b:M.Tag):
    Calls Tryz.prog 143 #[.pointer (some ⟨l.L,0,none⟩),.int .i64 k,.agg #[.int .i64 a.kind,.string a.name],.agg #[.int .i64 b.kind,.string b.name]] w fun e w'=>
     e=.returned (.bool (M.may p k a b))∧Ext w w':=by
 obtain⟨ak,an⟩:=a;obtain⟨bk,bn⟩:=b;have H:=Ys h;clear h;by_cases h0:bk=0
 · subst h0;have HV:Zs (M.may p k ⟨ak,an⟩ ⟨0,bn⟩=true):=Ys (by unfold M.may;rw[if_pos (.inl rfl)]);go_enter Tryz.func143,Tryz.ntmps143;go_wp2;go_ret;exact⟨ae HV.o.symm,kx⟩
 by_cases he:ak=bk∧an=bn
 · obtain⟨rfl,rfl⟩:=he;have HV:Zs (M.may p k ⟨ak,an⟩ ⟨ak,an⟩=true):=Ys (by unfold M.may;rw[if_pos (.inr rfl)]);have Yk:(ak==0)=false:=beq_eq_false_iff_ne.2 h0;clear h0;go_enter Tryz.func143,Tryz.ntmps143;go_wp2;go_ret;exact⟨ae HV.o.symm,kx⟩
 have HU:Zs (M.may p k ⟨ak,an⟩ ⟨bk,bn⟩=if bk≠2 then false else if ak=3 then true else if ak≠2 then false
  else decide ((M.find p k an).2=1)&&decide ((M.find p k bn).2=1)&&M.under p (M.find p k an).1 (M.find p k bn).1):=Ys (by
  unfold M.may;rw[if_neg (by
   rintro(h|h)
   · exact h0 h
   · rw[M.Tag.fK]at h;exact he h)])
 have Yk:(bk==0)=false:=beq_eq_false_iff_ne.2 h0;have MG:(ak==bk)=false∨(ak=bk∧(an.toList==bn.toList)=false):=by
  rcases q9 ak bk an bn with⟨h1,h2⟩|⟨h1,h2,_⟩|⟨h1,_⟩
  · exact absurd ⟨h1,h2⟩ he
  · exact .inr ⟨h1,h2⟩
  · exact .inl h1
 clear h0 he;by_cases iA:bk=2
 · subst iA;by_cases OO:ak=3
   · subst OO;have HV:Zs (M.may p k ⟨3,an⟩ ⟨2,bn⟩=true):=Ys (by rw[HU.o];rfl);clear MG;go_enter Tryz.func143,Tryz.ntmps143;go_wp2;go_ret;exact⟨ae HV.o.symm,kx⟩
   by_cases ME:ak=2
   · subst ME;have MU:(an.toList==bn.toList)=false:=by
      rcases MG with h|h
      · exact absurd h (by decide)
      · exact h.2
     have HV:Zs (M.may p k ⟨2,an⟩ ⟨2,bn⟩=(decide ((M.find p k an).2=1)&&decide ((M.find p k bn).2=1)&&M.under p (M.find p k an).1 (M.find p k bn).1)):=Ys (by rw[HU.o];rfl);clear MG OO;obtain⟨w0,bN⟩:∃w0,w0=(w.alloc (.cells #[.int .i64 2,.string an] 112)).alloc (.cells #[.int .i64 2,.string bn] 112):=⟨_,rfl⟩;have aM:Ext w w0:=by rw[bN];exact kx
     have b7:az w0 (w.heap.size+1) 112 #[.int .i64 2,.string bn]:=by rw[bN];exact az.newAt _ _ (by simp)
     have dS:=Ys bN;have bW:=Ys aM;clear bN aM;go_enter Tryz.func143,Tryz.ntmps143;go_wp2_with fail;rw[←dS.o];refine(gN _ _ _ (H.o.ext bW.o) k an).mono ?_;rintro e w1 ⟨rfl,aZ⟩;have q0:=(b7.ext aZ).c 0 (.int .i64 2) rfl;have q1:=(b7.ext aZ).c 1 (.string bn) rfl;have qz:=(b7.ext aZ).lt;have eP:=Ys (bW.o.trans aZ);clear aZ b7;generalize M.find p k an=F1 at*;obtain⟨⟨xk,xn⟩,c1⟩:=F1;simp only at*;obtain⟨w2,jS,bY,b9⟩:=nu w1 #[.int .i64 xk,.string xn] 51;have xX:=Ys jS;have jC:=Ys (eP.o.trans bY);have q0':=bY.aJ q0;have q1':=bY.aJ q1;clear jS bY;go_wp2_with fail;rw[←xX.o];clear q0 q1 qz;refine(gN _ _ _ (H.o.ext jC.o) k bn).mono ?_;rintro e w3 ⟨rfl,dA⟩;have b93:=b9.ext dA;have s0:=b93.c 0 (.int .i64 xk) rfl;have s1:=b93.c 1 (.string xn) rfl;have sz:=b93.lt;have iL:=Ys (jC.o.trans dA);clear dA b9 b93 q0' q1';generalize M.find p k bn=F2 at*;obtain⟨⟨yk,yn⟩,c2⟩:=F2;simp only at*;by_cases l8:c1=1
     · by_cases Qi:c2=1
       · subst l8 Qi;have Fw:Zs (M.may p k ⟨2,an⟩ ⟨2,bn⟩=M.under p ⟨xk,xn⟩ ⟨yk,yn⟩):=Ys (by rw[HV.o];rfl);go_wp2_with fail;refine(mM _ _ _ (H.o.ext (iL.o.trans kx)) ⟨xk,xn⟩ ⟨yk,yn⟩).mono ?_;rintro e w4 ⟨rfl,dN⟩;have iM:Zs (Ext w w4):=Ys ((iL.o.alloc _).trans dN);clear dN;go_wp2_with fail;go_ret;exact⟨ae Fw.o.symm,iM.o⟩
       · have adG:(c2==1)=false:=beq_eq_false_iff_ne.2 Qi;subst l8;have Fw:Zs (M.may p k ⟨2,an⟩ ⟨2,bn⟩=false):=Ys (by rw[HV.o];simp[Qi]);clear Qi;go_wp2_with fail;go_ret;exact⟨ae Fw.o.symm,iL.o.alloc _⟩
     · have Zd:(c1==1)=false:=beq_eq_false_iff_ne.2 l8;have Fw:Zs (M.may p k ⟨2,an⟩ ⟨2,bn⟩=false):=Ys (by rw[HV.o];simp[l8]);clear l8;go_wp2_with fail;go_ret;exact⟨ae Fw.o.symm,iL.o.alloc _⟩
   · have adg:(ak==2)=false:=beq_eq_false_iff_ne.2 ME;have adx:(ak !=2)=true:=bne_iff_ne.2 ME;have ady:(ak==3)=false:=beq_eq_false_iff_ne.2 OO;have HV:Zs (M.may p k ⟨ak,an⟩ ⟨2,bn⟩=false):=Ys (by rw[HU.o];simp[ME,OO]);clear MG ME OO;go_enter Tryz.func143,Tryz.ntmps143;go_wp2;go_ret;exact⟨ae HV.o.symm,kx⟩
 · have adA:(bk !=2)=true:=bne_iff_ne.2 iA;have HV:Zs (M.may p k ⟨ak,an⟩ ⟨bk,bn⟩=false):=Ys (by rw[HU.o,if_pos iA]);clear iA;rcases MG with h1|⟨rfl,h1⟩
   all_goals
    go_enter Tryz.func143,Tryz.ntmps143;go_wp2;go_ret;exact⟨ae HV.o.symm,kx⟩
end Go.Proofs.YtohpiobncgafeaaGreatDoor
namespace Go.Proofs.YtohpiobncgafeaaGreatDoor
open Go Go.RowKit
structure lJ where
 a1:Option Addr
 c1:Nat
 a2:Option Addr
 c2:Nat
 a3:Option Addr
 c3:Nat
def eG(m:M.Method)(t:lJ):List Value:=[.string m.name,.slice t.a1 m.args.length t.c1,.int .i64 m.ret.kind,.string m.ret.name,.int .i64 m.locals,.int .i64 m.stack,.slice t.a2 m.code.length t.c2,.slice t.a3 m.maps.length t.c3]
def Hb(L:Nat)(k:Int)(m:M.Method)(t:lJ)(at_:Int)(vl vs:Value):Array Value:=
 #[.pointer (some ⟨L,0,none⟩),.int .i64 k,.string m.name,.slice t.a1 m.args.length t.c1,.int .i64 m.ret.kind,.string m.ret.name,.int .i64 m.locals,.int .i64 m.stack,.slice t.a2 m.code.length t.c2,.slice t.a3 m.maps.length t.c3,.int .i64 at_,vl,vs]
structure aD(w:World)(l:au)(p:M.ai)(B kb:Nat)(k:Int)(m:M.Method)(t:lJ)(at_:Int)(s:M.gB)(vl vs:Value):Prop where
 cu:aj w l p
 hB:l.L<B
 hk:B≤kb
 ml:aC w (· <l.O) m (eG m t)
 mi:M.xY m
 blk:az w kb 111 (Hb l.L k m t at_ vl vs)
 loc:w.ownsRow B 112 2 vl s.locals.length (s.locals.flatMap gZ)
 bQ:w.ownsRow B 112 2 vs s.stack.length (s.stack.flatMap gZ)
 ne:∀g,vl.ownBlock=some g→vs.ownBlock≠some g
 ou:0≤at_∧at_≤100
 SN:(s.stack.length:Int)≤m.stack
 NI:(s.locals.length:Int)=m.locals
def fE(l:au)(kb:Nat)(vl vs:Value)(b:Nat):Prop:=b=l.D∨b=kb∨vl.ownBlock=some b∨vs.ownBlock=some b
def bu(n:Nat)(vl vs nO vs':Value):Prop:=∀g,(nO.ownBlock=some g∨vs'.ownBlock=some g)→vl.ownBlock=some g∨vs.ownBlock=some g∨n≤g
theorem bu.refl(n:Nat)(vl vs:Value):bu n vl vs vl vs:=fun _ h=>h.elim .inl fun h=>.inr (.inl h)
theorem bu.trans{n n':Nat}{a b c d e f:Value}(h:bu n a b c d)(h':bu n' c d e f)(hn:n≤n'):bu n a b e f:=fun g hg=>by
 rcases h' g hg with h1|h1|h1
 · exact h g (.inl h1)
 · exact h g (.inr h1)
 · exact .inr (.inr (by omega))
theorem bu.le{n n':Nat}{a b c d:Value}(h:bu n' a b c d)(hn:n≤n'):bu n a b c d:=fun g hg=>by
 rcases h g hg with h1|h1|h1
 · exact .inl h1
 · exact .inr (.inl h1)
 · exact .inr (.inr (by omega))
theorem Kp.look{l:au}{kb:Nat}{vl vs nO vs':Value}{w a b:World}(h:Kp (fE l kb vl vs) w a)(hk:Kp (fE l kb nO vs') a b)(hO:bu w.heap.size vl vs nO vs'):Kp (fE l kb vl vs) w b:=
 ⟨hk.os.trans h.os,hk.tape.trans h.tape,hk.output.trans h.output,Nat.le_trans h.size hk.size,
  fun k uU hd=>(hk.block k (Nat.lt_of_lt_of_le uU h.size) (fun x=>hd (by
   rcases x with x|x|x|x
   · exact .inl x
   · exact .inr (.inl x)
   · rcases hO k (.inl x)with y|y|y
     · exact .inr (.inr (.inl y))
     · exact .inr (.inr (.inr y))
     · exact absurd uU (Nat.not_lt.2 y)
   · rcases hO k (.inr x)with y|y|y
     · exact .inr (.inr (.inl y))
     · exact .inr (.inr (.inr y))
     · exact absurd uU (Nat.not_lt.2 y)))).trans (h.block k uU hd)⟩
theorem vD{w:World}{base e k n c g:Nat}{xs:List Value}(h:w.ownsRow base e k (.slice (some ⟨g,0,none⟩) n c) n xs){j:Nat}(hj:j≤n):w.ownsRow base e k (.slice (some ⟨g,0,none⟩) j c) j (xs.take (j*k)):=by
 have Qn:j*k≤n*k:=Nat.mul_le_mul_right _ hj;refine⟨by rw[List.length_take,h.1];omega,?_⟩;rcases h.2 with⟨h1,_⟩|⟨g',cap,cur,h1,hg,hb,hle,hm,qx,OW⟩
 · cases h1
 · cases h1;refine .inr ⟨g,c,cur,rfl,hg,hb,by omega,hm,qx,?_⟩;rw[←OW,List.take_take,Nat.min_eq_left Qn]
theorem Bf{α:Type}{enc:α→List Value}{k:Nat}(Aw:∀x,(enc x).length=k)(st:List α)(x:α)(j:Nat):((st++[x]).flatMap enc)[st.length*k+j]?=(enc x)[j]?:=by
 rw[List.flatMap_append,List.getElem?_append_right (by rw[lU Aw];omega),lU Aw,Nat.add_sub_cancel_left];simp
theorem uQ{α:Type}{enc:α→List Value}{k:Nat}(Aw:∀x,(enc x).length=k)(st r:List α):((st++r).flatMap enc).take (st.length*k)=st.flatMap enc:=by
 rw[List.flatMap_append,←lU Aw st,List.take_left]
section
variable {w w':World} {l:au} {p:M.ai} {B kb:Nat} {k:Int} {m:M.Method} {t:lJ} {at_:Int} {s:M.gB} {vl vs:Value}
theorem aD.SG(h:aD w l p B kb k m t at_ s vl vs):vl.ownBlock≠some kb∧vs.ownBlock≠some kb:=by
 constructor
 · intro e;rcases h.loc.2 with⟨h1,_⟩|⟨g,cap,cur,h1,hg,hb,_⟩
   · rw[h1]at e;cases e
   · rw[h1]at e;cases e;exact absurd (az.inj (show az w g 112 cur from hb) h.blk) (by decide)
 · intro e;rcases h.bQ.2 with⟨h1,_⟩|⟨g,cap,cur,h1,hg,hb,_⟩
   · rw[h1]at e;cases e
   · rw[h1]at e;cases e;exact absurd (az.inj (show az w g 112 cur from hb) h.blk) (by decide)
theorem aD.kp{D:Nat→Prop}(h:aD w l p B kb k m t at_ s vl vs)(hk:Kp D w w')(hL:aj w' l p)(hD:∀b,B≤b→b<w.heap.size→¬D b)(hO:∀b,b<l.O→¬D b):aD w' l p B kb k m t at_ s vl vs:=
 ⟨hL,h.hB,h.hk,bD.kp aC.stays hk (fun b hb=>hO b hb) h.ml,h.mi,h.blk.kp hk (hD _ h.hk h.blk.lt),aA h.loc hk (fun g hg hb=>hD g hb (h.loc.lt g hg).2),aA h.bQ hk (fun g hg hb=>hD g hb (h.bQ.lt g hg).2),h.ne,h.ou,h.SN,h.NI⟩
theorem aD.ext(h:aD w l p B kb k m t at_ s vl vs)(hE:Ext w w'):aD w' l p B kb k m t at_ s vl vs:=
 h.kp hE (h.cu.ext hE) (fun _ _ _ x=>x) (fun _ _ x=>x)
theorem aD.kp'{D:Nat→Prop}(h:aD w l p B kb k m t at_ s vl vs)(hk:Kp D w w')(hL:aj w' l p)(h1:¬D kb)(h2:∀g,vl.ownBlock=some g→¬D g)(h3:∀g,vs.ownBlock=some g→¬D g)(hO:∀b,b<l.O→¬D b):aD w' l p B kb k m t at_ s vl vs:=
 ⟨hL,h.hB,h.hk,bD.kp aC.stays hk (fun b hb=>hO b hb) h.ml,h.mi,h.blk.kp hk h1,aA h.loc hk (fun g hg _=>h2 g hg),aA h.bQ hk (fun g hg _=>h3 g hg),h.ne,h.ou,h.SN,h.NI⟩
theorem aD.il(h:aD w l p B kb k m t at_ s vl vs)(hk:Kp (·=l.D) w w')(hL:aj w' l p):aD w' l p B kb k m t at_ s vl vs:=
 h.kp hk hL (fun b hb _ e=>by have:=h.hB;have:=hL.ord;omega) (fun b hb e=>by have:=hL.ord;omega)
theorem aD.setStack(h:aD w l p B kb k m t at_ s vl vs){st:List M.Tag}{vs':Value}(hk:Kp (fun b=>b=kb∨vs.ownBlock=some b) w w')
    (hb:az w' kb 111 (Hb l.L k m t at_ vl vs')) (ho:w'.ownsRow B 112 2 vs' st.length (st.flatMap gZ)) (hn:∀g,vs'.ownBlock=some g→vs.ownBlock=some g∨w.heap.size≤g) (qx:(st.length:Int)≤m.stack):
    aD w' l p B kb k m t at_ ⟨s.locals,st⟩ vl vs'∧Kp (fE l kb vl vs) w w'∧bu w.heap.size vl vs vl vs':=by
 have hBk:=h.hk;have hB:=h.hB;have hO:=h.cu.ord;have rW:∀b,b≤l.L→¬(b=kb∨vs.ownBlock=some b):=fun b Wn e=>by
  rcases e with e|e
  · omega
  · have:=(h.bQ.lt b e).1;omega
 refine⟨⟨h.cu.kp hk rW,h.hB,h.hk,bD.kp aC.stays hk (fun b hb=>rW b (by omega)) h.ml,h.mi,hb,?_,ho,?_,h.ou,qx,h.NI⟩,hk.weak fun b _ e=>?_,fun g hg=>?_⟩
 · refine aA h.loc hk fun g hg _ e=>?_;rcases e with e|e
   · subst e;exact h.SG.1 hg
   · exact h.ne g hg e
 · intro g hg e;rcases hn g e with e|e
   · exact h.ne g hg e
   · have:=(h.loc.lt g hg).2;omega
 · rcases e with e|e
   · exact .inr (.inl e)
   · exact .inr (.inr (.inr e))
 · rcases hg with e|e
   · exact .inl e
   · rcases hn g e with e|e
     · exact .inr (.inl e)
     · exact .inr (.inr e)
end
theorem sK:FN 112 2:=⟨_,Tryz.underlying112,by kernel_rfl⟩
theorem oL(w:World)(l:au)(p:M.ai)(B kb:Nat)(k:Int)(m:M.Method)(t:lJ)(at_:Int)(s:M.gB)(vl vs:Value)(h:aD w l p B kb k m t at_ s vl vs)(hs:s.stack=[]):
    Calls Tryz.prog 125 #[.pointer (some ⟨kb,0,none⟩)] w fun e w'=>e=.panicked (sG (at_+1))∧Ext w w':=by
 obtain⟨a,c,rfl⟩:=bJ h.bQ;have hl:s.stack.length=0:=by rw[hs];rfl
 have c12:=h.blk.c 12 (.slice a 0 c) (by rw[←hl];rfl);have c10:=h.blk.c 10 (.int .i64 at_) rfl;have hz:=h.blk.lt;clear hl;have ou:=h.ou;clear h hs;go_enter Tryz.func125,Tryz.ntmps125;go_wp2_with fail;refine(dW _ kb at_ (Kp.aJ ((Kp.refl _ _).alloc _:Ext w _) c10) ou.1 (by omega)).mono ?_;rintro e w1 ⟨rfl,rfl⟩;exact⟨rfl,rfl,kx⟩
theorem qX(w:World)(l:au)(p:M.ai)(B kb:Nat)(k:Int)(m:M.Method)(t:lJ)(at_:Int)(s:M.gB)(vl vs:Value)(h:aD w l p B kb k m t at_ s vl vs)(st:List M.Tag)(x:M.Tag)(hs:s.stack=st++[x]):
    Calls Tryz.prog 125 #[.pointer (some ⟨kb,0,none⟩)] w fun e w'=>e=.returned (.agg #[.int .i64 x.kind,.string x.name])∧(∃vs',aD w' l p B kb k m t at_ ⟨s.locals,st⟩ vl vs'∧bu w.heap.size vl vs vl vs')∧Kp (fE l kb vl vs) w w':=by
 have hlen:s.stack.length=st.length+1:=by rw[hs];simp
 have dI:=h.bQ;rw[hlen]at dI;obtain⟨g,cp,rfl,hg,Qm,Zi⟩:=aX dI (by omega);have hcells:=dI.cells (g:=g) rfl;have x0:w.cell? ⟨g,st.length*2,none⟩=some (.int .i64 x.kind):=by
  have:=hcells (st.length*2) (.int .i64 x.kind) (by rw[hs];have:=Bf (enc:=gZ) (k:=2) (fun _=>rfl) st x 0;rw[Nat.add_zero]at this;rw[this];rfl);simpa [Addr.add_lit]using this
 have x1:w.cell? ⟨g,st.length*2+1,none⟩=some (.string x.name):=by
  have:=hcells (st.length*2+1) (.string x.name) (by rw[hs,Bf (enc:=gZ) (k:=2) (fun _=>rfl) st x 1];rfl);simpa [Addr.add_lit]using this
 have Sg:=h.SN;have hm5:=h.mi.stack;obtain⟨w0,bN,aM,b2⟩:=nu w #[.int .i64 0,.string ⟨#[]⟩] 112;have hA:=h.ext aM;obtain⟨T,f,dm,HT⟩:=gy.ex (fun W'=>Ext w0 W') _ (Kp.refl _ _);have K8:=fun s=>(hA.blk.ext (HT.aK s)).c 12 (.slice (some ⟨g,0,none⟩) (st.length+1) cp) (by rw[←hlen];rfl);have r0:=fun s=>(aM.trans (HT.aK s)).aJ x0;have r1:=fun s=>(aM.trans (HT.aK s)).aJ x1;have hw:IntKind.i64.wrap ((st.length:Int)+1 - 1)=(st.length:Int):=by rw[IntWalk.i64_in _ (by omega)];omega
 have ax:=Ys HT;have dS:=Ys bN;have HA:=Ys hA;have H:=Ys h;have bW:=Ys aM;have uF:=Ys b2;have uK:=Ys hlen;have HS:=Ys hs;have Ow:=Ys Zi;have hl5:(st.length:Int)≤5:=by omega
 have c12:=h.blk.c 12 (.slice (some ⟨g,0,none⟩) (st.length+1) cp) (by rw[←hlen];rfl);have hz:=h.blk.lt;clear bN hA h aM b2 hlen hs hcells x0 x1 dI HT Sg hm5;go_enter Tryz.func125,Tryz.ntmps125;go_wp2_with fail;rw[←dS.o];(refine dQ ax 13 [([0,1,2,3,4,5,6,7,8,9,10,11],12)] [] ?_ ?_)
 · exact(Kp.refl _ _).drew
 (refine dn [_,_,_,_,_,_,_,_,_,_,_,_] rfl rfl fun K hK=>?_);(repeat (go_big_quiet_step (fail)));(refine qn hK fun K2 ag=>?_);clear hK K;go_wp2_with fail;(refine kk ax ag kx ?_);clear ag K2;(refine dD ?_);go_wp2_with fail;obtain⟨w3,hZ⟩:∃w3,w3=(w0.alloc (.cells #[.int .i64 x.kind,.string x.name] 112)).drew:=⟨_,rfl⟩;have dA:Ext w0 w3:=by rw[hZ];exact kx
 have b3:az w3 w0.heap.size 112 #[.int .i64 x.kind,.string x.name]:=by rw[hZ];exact(az.new _ _ _).ext (Kp.refl _ _).drew
 have KQ:=HA.o.ext dA;have AO:w3.heap.size=w0.heap.size+1:=by rw[hZ];simp
 have G5:w0.heap.size=w.heap.size+1:=by rw[dS.o];simp
 have HZ:=Ys (And.intro AO G5);rw[←hZ];clear hZ ax K8 r0 r1;obtain⟨T,f,dm,HT⟩:=gy.ex (fun W'=>Ext w3 W') _ (Kp.refl _ _);have K8:=fun s=>(KQ.blk.ext (HT.aK s)).c 12 (.slice (some ⟨g,0,none⟩) (st.length+1) cp) (by rw[←uK.o];rfl);have ax:=Ys HT;have adJ:(st.length:Int)≤cp:=by have:=Ow.o;omega
 (refine dQ ax 12 [] [0,1,2,3,4,5,6,7,8,9,10,11] ?_ ?_)
 · exact(Kp.refl _ _).drew
 (refine qJ [_,_,_,_,_,_,_,_,_,_,_,_] rfl fun K hK=>?_);(repeat (go_big_quiet_step (fail)));(refine qn hK ?_);clear hK K;have d12:=KQ.blk.c 12 (.slice (some ⟨g,0,none⟩) (st.length+1) cp) (by rw[←uK.o];rfl);have e12:=KQ.blk.frozen 12;have z3:=KQ.blk.lt;have u0:=b3.c 0 (.int .i64 x.kind) rfl;have u1:=b3.c 1 (.string x.name) rfl;have TT:=uF.o.ext dA;have v0:=TT.c 0 (.int .i64 0) rfl;have v1:=TT.c 1 (.string ⟨#[]⟩) rfl;have i0:=TT.frozen 0;have i1:=TT.frozen 1;have i2:=TT.lt;have Ta:=Ys KQ;have iL:=Ys dA;have gW:=Ys TT;have n1:¬w0.heap.size=kb:=by omega
 have n2:¬w.heap.size=kb:=by omega
 have n3:¬kb=w0.heap.size:=by omega
 have n4:¬kb=w.heap.size:=by omega
 clear KQ dA b3 TT HT K8 c12 G5 AO;go_wp2_with fail;have jf:Kp (fun b=>b=kb∨(Value.slice (some ⟨g,0,none⟩) (st.length+1) cp).ownBlock=some b) w3 (w3.setCell ⟨kb,12,none⟩ (.slice (some ⟨g,0,none⟩) st.length cp)):=(Kp.refl _ w3).setCell (p:=⟨kb,12,none⟩) (fun _=>.inl rfl) _;have Ex:=Ta.o.bQ;rw[uK.o,HS.o]at Ex;have OW:=vD Ex (j:=st.length) (by omega);rw[uQ (enc:=gZ) (k:=2) (fun _=>rfl)]at OW;have ace:=Ta.o.blk.bA 12 (.slice (some ⟨g,0,none⟩) st.length cp);have jy:=Ta.o.SG;have ab8:=Ta.o;obtain⟨hS,IC,hOS⟩:=ab8.setStack (st:=st) (vs':=.slice (some ⟨g,0,none⟩) st.length cp) jf ace (aA (D:=(·=kb)) OW ((Kp.refl (·=kb) w3).setCell (p:=⟨kb,12,none⟩) (fun _=>rfl) _) (fun q hq _ e=>by cases hq;subst e;exact jy.2 rfl)) (fun q hq=>.inl hq) (by have:=Ta.o.SN;rw[uK.o]at this;omega);generalize w3.setCell ⟨kb,12,none⟩ (.slice (some ⟨g,0,none⟩) st.length cp)=w4 at*;have jA:∀D:Nat→Prop,D w.heap.size→Kp D w4 ((w4.setCell ⟨w.heap.size,0,none⟩ (.int .i64 x.kind)).setCell ⟨w.heap.size,1,none⟩ (.string x.name)).drew:=fun D hD=>
  (((Kp.refl D w4).setCell (p:=⟨w.heap.size,0,none⟩) (fun _=>hD) _).setCell (p:=⟨w.heap.size,1,none⟩) (fun _=>hD) _).drew
 have iA:az w4 w.heap.size 112 #[.int .i64 0,.string ⟨#[]⟩]:=gW.o.kp jf (fun e=>by
  rcases e with e|e
  · omega
  · have e':g=w.heap.size:=by simpa [Value.ownBlock]using e
    omega)
 have Qi:=af.iV ((iA.bA 0 (.int .i64 x.kind)).bA 1 (.string x.name));refine bodyPost_ret (aP sK rfl _ _ w.heap.size rfl (gZ x) (Qi.ext (Kp.refl _ _).drew) rfl) rfl ?_;have hBk:=H.o.hk;have hBB:=H.o.hB;have hOO:=H.o.cu.ord;have cK:=H.o.blk.lt;refine⟨rfl,⟨_,hS.kp' (jA (·=w.heap.size) rfl) (hS.cu.kp (jA (·=w.heap.size) rfl) (fun b hb e=>by omega)) (by omega) (fun q hq e=>by have:=(H.o.loc.lt q hq).2;omega) (fun q hq e=>by
  have e':g=q:=by simpa [Value.ownBlock]using hq
  omega) (fun b hb e=>by omega),hOS.le (by omega)⟩,?_⟩
 exact(((bW.o.trans iL.o).any).trans IC).own (jA (·=w.heap.size) rfl) (fun q hq=>by omega)
end Go.Proofs.YtohpiobncgafeaaGreatDoor
namespace Go.Proofs.YtohpiobncgafeaaGreatDoor
open Go Go.RowKit
theorem EN(w:World)(l:au)(p:M.ai)(B kb:Nat)(k:Int)(m:M.Method)(t:lJ)(at_:Int)(s:M.gB)(vl vs:Value)(h:aD w l p B kb k m t at_ s vl vs)(x:M.Tag)(hs:m.stack≤s.stack.length):
    Calls Tryz.prog 123 #[.pointer (some ⟨kb,0,none⟩),.agg #[.int .i64 x.kind,.string x.name]] w fun e w'=>e=.panicked (sG (at_+1))∧Ext w w':=by
 obtain⟨a,c,rfl⟩:=bJ h.bQ;obtain⟨w0,bN⟩:∃w0,w0=w.alloc (.cells #[.int .i64 x.kind,.string x.name] 112):=⟨_,rfl⟩;have aM:Ext w w0:=by rw[bN];exact kx
 have hA:=h.ext aM;obtain⟨T,f,dm,HT⟩:=gy.ex (fun W'=>Ext w0 W') _ (Kp.refl _ _);have K8:=fun s'=>(hA.blk.ext (HT.aK s')).c 12 (.slice a s.stack.length c) rfl;have r7:=fun s'=>(hA.blk.ext (HT.aK s')).c 7 (.int .i64 m.stack) rfl;have r10:=fun s'=>(hA.blk.ext (HT.aK s')).c 10 (.int .i64 at_) rfl;have ax:=Ys HT;have dS:=Ys bN;have bW:=Ys aM;have ou:=h.ou;have hd:decide (m.stack≤(s.stack.length:Int))=true:=decide_eq_true hs;clear h hs HT bN aM hA;go_enter Tryz.func123,Tryz.ntmps123;go_wp2_with fail;rw[←dS.o];(refine O0 ax ?_ ?_);rotate_left;(repeat (go_big_quiet_step ((fail))));(refine wpQuiet_nil ?_);(rintro _ ⟨sW,rfl⟩);rotate_left
 · exact(Kp.refl _ _).drew
 go_wp2_with fail;refine(dW _ kb at_ (r10 sW) ou.1 (by omega)).mono ?_;rintro e w1 ⟨rfl,rfl⟩;exact⟨rfl,rfl,bW.o.trans (ax.o.aK sW)⟩
theorem ND(w:World)(l:au)(p:M.ai)(B kb:Nat)(k:Int)(m:M.Method)(t:lJ)(at_:Int)(s:M.gB)(vl vs:Value)(h:aD w l p B kb k m t at_ s vl vs)(x:M.Tag)(hs:(s.stack.length:Int)<m.stack):
    Calls Tryz.prog 123 #[.pointer (some ⟨kb,0,none⟩),.agg #[.int .i64 x.kind,.string x.name]] w fun e w'=>e=.returned (.tuple #[])∧(∃vs',aD w' l p B kb k m t at_ ⟨s.locals,s.stack++[x]⟩ vl vs'∧bu w.heap.size vl vs vl vs')∧Kp (fE l kb vl vs) w w':=by
 obtain⟨a,c,rfl⟩:=bJ h.bQ;obtain⟨w0,bN,aM,b3⟩:=nu w #[.int .i64 x.kind,.string x.name] 112;have hA:=h.ext aM;obtain⟨T,f,dm,HT⟩:=gy.ex (fun W'=>Ext w0 W') _ (Kp.refl _ _);have K8:=fun s'=>(hA.blk.ext (HT.aK s')).c 12 (.slice a s.stack.length c) rfl;have r7:=fun s'=>(hA.blk.ext (HT.aK s')).c 7 (.int .i64 m.stack) rfl;have ax:=Ys HT;have dS:=Ys bN;have bW:=Ys aM;have HA:=Ys hA;have gW:=Ys b3;have H:=Ys h;have hd:decide (m.stack≤(s.stack.length:Int))=false:=decide_eq_false (by omega);clear h HT bN aM hA b3;go_enter Tryz.func123,Tryz.ntmps123;go_wp2_with fail;rw[←dS.o];(refine O0 ax ?_ ?_);rotate_left;(repeat (go_big_quiet_step ((fail))));(refine wpQuiet_nil ?_);(rintro _ ⟨sW,rfl⟩);rotate_left
 · exact(Kp.refl _ _).drew
 go_wp2_with fail;have aZ:=ax.o.aK sW;generalize f sW=w1 at*;clear ax K8 r7;have ng:=HA.o.ext aZ;have Jj:=gW.o.ext aZ;have acQ:=aZ.size;have hzw:w.heap.size<w0.heap.size:=by rw[dS.o];simp
 obtain⟨T,f,dm,HT⟩:=gy.ex (fun W'=>Kp (fun b=>(Value.slice a s.stack.length c).ownBlock=some b) w1 W') _ (Kp.refl _ _);have Qv:¬(Value.slice a s.stack.length c).ownBlock=some w.heap.size:=fun e=>by have:=(H.o.bQ.lt _ e).2;omega
 have K8:=fun s'=>(ng.blk.kp (HT.aK s') ng.SG.2).c 12 (.slice a s.stack.length c) rfl;have r0:=fun s'=>(Jj.kp (HT.aK s') Qv).c 0 (.int .i64 x.kind) rfl;have r1:=fun s'=>(Jj.kp (HT.aK s') Qv).c 1 (.string x.name) rfl;have ax:=Ys HT;have iF:=Ys ng;have eP:=Ys aZ;have hm5:s.stack.length+1≤4294967296:=by have:=ng.mi.stack;omega
 have hBw:B≤w1.heap.size:=by have:=ng.blk.lt;have:=ng.hk;omega
 clear HT ng Jj aZ Qv;(refine dQ ax 8 [([0,1,2,3,4,5],6),([],7)] [] ?_ ?_)
 · exact(Kp.refl _ _).drew
 (refine dn [_,_,_,_,_,_] rfl rfl fun K hK=>?_);(repeat (go_big_quiet_step (fail)));(refine qn hK fun K2 ag=>?_);clear hK K;go_wp2_with fail;(refine kk ax ag kx ?_);clear ag K2;(refine fG rfl fun K2 ag=>?_);refine aV ym rfl (.tmp 21) (.tmp 23) rfl B (.slice a s.stack.length c) s.stack.length _ rfl (aA (D:=fun _=>False) iF.o.bQ kx fun _ _ _ x=>x) w1.heap.size 1 (gZ x) rfl rfl (af.EU _ _ rfl) (oM _) hm5 (by simp;omega) ?_;intro g2 c2 w2 FC hKp JH;change K2 _ _;have xe:Kp (fun b=>(Value.slice a s.stack.length c).ownBlock=some b) w1 w2:=(kx:Ext w1 _).any.trans hKp;(refine kk ax ag xe ?_);clear ag K2;have hB2:=iF.o.blk.kp xe iF.o.SG.2;have d0:=hB2.c 12 (.slice a s.stack.length c) rfl;have e0:=hB2.frozen 12;have z1:=hB2.lt;have uF:=Ys hB2;have xU:=Ys FC;have Ri:=Ys xe;have Rf:=Ys JH;clear FC hKp xe hB2 JH K8 r0 r1;(refine dD ?_);go_wp2_with fail;((try simp only[Exit.inBlock,Exit.then]);(first|refine bodyPost_ret (results_none rfl _ _ _) rfl ?_|refine bodyPost_end (results_none rfl _ _ _) rfl ?_));have bU:∀D:Nat→Prop,D kb→∀v,Kp D w2 (w2.setCell ⟨kb,12,none⟩ v):=fun D hD v=>(Kp.refl D w2).setCell (p:=⟨kb,12,none⟩) (fun _=>hD) v;have hlen:(s.stack++[x]).length=s.stack.length+1:=by simp
 have hgk:g2≠kb:=fun e=>by
  subst e;rcases Rf.o with h|h
  · exact iF.o.SG.2 h
  · have:=iF.o.blk.lt;simp at h;omega
 obtain⟨hS,IC,hOS⟩:=iF.o.setStack (st:=s.stack++[x]) (vs':=.slice (some ⟨g2,0,none⟩) (s.stack.length+1) c2) ((Ri.o.weak fun b _ h=>.inr h).trans (bU _ (.inl rfl) (.slice (some ⟨g2,0,none⟩) (s.stack.length+1) c2))) (uF.o.bA 12 _) (by
  have h2:=aA xU.o (bU (·=kb) rfl (.slice (some ⟨g2,0,none⟩) (s.stack.length+1) c2)) (fun q hq _ e=>by cases hq;exact hgk e);rw[hlen];simpa using h2) (fun q hq=>by
   have hgq:g2=q:=by simpa [Value.ownBlock]using hq
   subst hgq;rcases Rf.o with h|h
   · exact .inl h
   · right;simp at h;omega) (by rw[hlen];omega)
 exact⟨rfl,⟨_,hS,hOS.le (by omega)⟩,((bW.o.trans eP.o).any).trans IC⟩
def aO(w:World)(l:au)(p:M.ai)(B kb:Nat)(k:Int)(m:M.Method)(t:lJ)(at_:Int)(vl vs:Value)(o:Option M.gB)(e:Ending)(w':World):Prop:=
 Kp (fE l kb vl vs) w w'∧aj w' l p∧
 ((o=none∧e=.panicked (sG (at_+1)))∨∃s',o=some s'∧e=.returned (.tuple #[])∧∃nO vs',aD w' l p B kb k m t at_ s' nO vs'∧bu w.heap.size vl vs nO vs')
theorem jq(w:World)(l:au)(p:M.ai)(B kb:Nat)(k:Int)(m:M.Method)(t:lJ)(at_:Int)(s:M.gB)(vl vs:Value)(h:aD w l p B kb k m t at_ s vl vs)(x:M.Tag):
    Calls Tryz.prog 123 #[.pointer (some ⟨kb,0,none⟩),.agg #[.int .i64 x.kind,.string x.name]] w (aO w l p B kb k m t at_ vl vs (M.fF m x s)):=by
 by_cases hs:m.stack≤s.stack.length
 · refine(EN w l p B kb k m t at_ s vl vs h x hs).mono ?_;rintro e w' ⟨rfl,hE⟩;exact⟨hE.any,h.cu.ext hE,.inl ⟨by unfold M.fF;rw[if_pos hs],rfl⟩⟩
 · refine(ND w l p B kb k m t at_ s vl vs h x (by omega)).mono ?_;rintro e w' ⟨rfl,⟨vs',hS,hO⟩,hK⟩;exact⟨hK,hS.cu,.inr ⟨_,by unfold M.fF;rw[if_neg hs],rfl,_,_,hS,hO⟩⟩
theorem fo(w:World)(l:au)(p:M.ai)(B kb:Nat)(k:Int)(m:M.Method)(t:lJ)(at_:Int)(s:M.gB)(vl vs:Value)(h:aD w l p B kb k m t at_ s vl vs)(x:M.Tag):
    Calls Tryz.prog 126 #[.pointer (some ⟨kb,0,none⟩),.agg #[.int .i64 x.kind,.string x.name]] w (aO w l p B kb k m t at_ vl vs (M.gG p k x s)):=by
 obtain⟨w0,bN,aM,b3⟩:=nu w #[.int .i64 x.kind,.string x.name] 112;have hA:=h.ext aM;have hOw:=h.cu.ord;have vW:=h.cu.lt;have uU:=h.blk.lt;have ou:=h.ou;obtain⟨T,f,dm,HT⟩:=gy.ex (fun W'=>az W' w.heap.size 112 #[.int .i64 x.kind,.string x.name]∧∃s' nO vs',aD W' l p B kb k m t at_ s' nO vs') w0 ⟨b3,_,_,_,hA⟩;have r0:∀q,(f q).cell? ⟨kb,0,none⟩=some (.pointer (some ⟨l.L,0,none⟩)):=fun q=>by
  obtain⟨_,s',nO,vs',hq⟩:=HT.aK q;exact hq.blk.c 0 _ rfl
 have r1:∀q,(f q).cell? ⟨kb,1,none⟩=some (.int .i64 k):=fun q=>by
  obtain⟨_,s',nO,vs',hq⟩:=HT.aK q;exact hq.blk.c 1 _ rfl
 have r3:=fun q=>(HT.aK q).1.c 0 (.int .i64 x.kind) rfl;have r4:=fun q=>(HT.aK q).1.c 1 (.string x.name) rfl;have ax:=Ys HT;have dS:=Ys bN;have bW:=Ys aM;have HA:=Ys hA;have gW:=Ys b3;have H:=Ys h;clear h HT bN aM hA b3;rcases List.eq_nil_or_concat s.stack with hs|⟨st,y,hs⟩
 · have HO:Zs (M.gG p k x s=none):=Ys (by unfold M.gG M.mV;rw[hs];rfl);have HS:=Ys hs;clear hs;go_enter Tryz.func126,Tryz.ntmps126;go_wp2_with fail;rw[←dS.o];(refine dQ ax 13 [([0,1,2,3,4,5,6,7,8,10],9),([],11)] [12] ?_ ?_)
   · exact⟨gW.o.ext (Kp.refl _ _).drew,_,_,_,HA.o.ext (Kp.refl _ _).drew⟩
   (refine dn [_,_,_,_,_,_,_,_,_,_] rfl rfl fun K hK=>?_);(repeat (go_big_quiet_step (fail)));(refine qn hK fun K2 ag=>?_);clear hK K;go_wp2_with fail;refine(oL _ _ _ _ _ _ _ _ _ _ _ _ (HA.o.ext (Kp.refl _ _).drew) HS.o).mono ?_;rintro e w1 ⟨rfl,aZ⟩;have hE:Ext w w1:=(bW.o.trans (Kp.refl _ _).drew).trans aZ;exact⟨rfl,hE.any,H.o.cu.ext hE,.inl ⟨HO.o,rfl⟩⟩
 · rw[List.concat_eq_append]at hs;have HO:Zs (M.gG p k x s=if M.may p k y x then some ⟨s.locals,st⟩else none):=Ys (by unfold M.gG M.mV;rw[hs];simp);have HS:=Ys hs;clear hs;go_enter Tryz.func126,Tryz.ntmps126;go_wp2_with fail;rw[←dS.o];(refine dQ ax 13 [([0,1,2,3,4,5,6,7,8,10],9),([],11)] [12] ?_ ?_)
   · exact⟨gW.o.ext (Kp.refl _ _).drew,_,_,_,HA.o.ext (Kp.refl _ _).drew⟩
   (refine dn [_,_,_,_,_,_,_,_,_,_] rfl rfl fun K hK=>?_);(repeat (go_big_quiet_step (fail)));(refine qn hK fun K2 ag=>?_);clear hK K;go_wp2_with fail;refine(qX _ _ _ _ _ _ _ _ _ _ _ _ (HA.o.ext (Kp.refl _ _).drew) st y HS.o).mono ?_;rintro e w1 ⟨rfl,⟨vs1,ng,FB⟩,j3⟩;have Eo:Kp (fE l kb vl vs) w w1:=((bW.o.trans (Kp.refl _ _).drew).any).trans j3;have p8:az w1 w.heap.size 112 #[.int .i64 x.kind,.string x.name]:=(gW.o.ext (Kp.refl _ _).drew).kp j3 (fun e=>by
    rcases e with e|e|e|e
    · omega
    · omega
    · have:=(H.o.loc.lt _ e).2;omega
    · have:=(H.o.bQ.lt _ e).2;omega)
   have iF:=Ys ng;have BJ:=Ys p8;have HKw:=Ys Eo;have OC:Zs (bu w.heap.size vl vs vl vs1):=Ys (FB.le (by have:=bW.o.size;exact this));clear ng FB j3 Eo p8;go_wp2_with fail;(refine kk ax ag ⟨BJ.o,_,_,_,iF.o⟩ ?_);clear ag K2;(refine fG rfl fun K2 ag=>?_);go_wp2_with fail;refine(vg _ _ _ iF.o.cu k y x).mono ?_;rintro e w2 ⟨rfl,bY⟩;have xC:=Ys (iF.o.ext bY);have XB:Zs (Kp (fE l kb vl vs) w w2):=Ys (HKw.o.trans bY.any);have uF:=Ys (BJ.o.ext bY);clear bY;cases tT:M.may p k y x
   · have xU:Zs (M.gG p k x s=none):=Ys (by rw[HO.o,tT];rfl);clear tT;go_wp2_with fail;(refine kk ax ag ⟨uF.o,_,_,_,xC.o⟩ ?_);clear ag K2;(refine fq [_] rfl rfl fun K hK=>?_);(repeat (go_big_quiet_step (fail)));(refine qn hK ?_);clear hK K;go_wp2_with fail;refine(dW _ kb at_ (xC.o.blk.c 10 _ rfl) ou.1 (by omega)).mono ?_;rintro e w3 ⟨rfl,rfl⟩;exact⟨rfl,XB.o,xC.o.cu,.inl ⟨xU.o,rfl⟩⟩
   · have xU:Zs (M.gG p k x s=some ⟨s.locals,st⟩):=Ys (by rw[HO.o,tT];rfl);clear tT;go_wp2_with fail;(refine kk ax ag ⟨uF.o,_,_,_,xC.o⟩ ?_);clear ag K2;(refine fq [_] rfl rfl fun K hK=>?_);(repeat (go_big_quiet_step (fail)));(refine qn hK ?_);clear hK K;go_wp2_with fail;((try simp only[Exit.inBlock,Exit.then]);(first|refine bodyPost_ret (results_none rfl _ _ _) rfl ?_|refine bodyPost_end (results_none rfl _ _ _) rfl ?_));exact⟨XB.o,xC.o.cu,.inr ⟨_,xU.o,rfl,_,_,xC.o,OC.o⟩⟩
end Go.Proofs.YtohpiobncgafeaaGreatDoor
