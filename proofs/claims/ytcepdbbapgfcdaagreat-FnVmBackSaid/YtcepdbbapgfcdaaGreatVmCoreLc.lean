/- Walks. -/
import Derived.Test.YtcepdbbapgfcdaaGreatVmCoreLb
import Derived.Test.YtcepdbbapgfcdaaGreatVmCoreq
set_option maxRecDepth 100000
set_option maxHeartbeats 4000000
set_option linter.unusedSimpArgs false
set_option linter.unusedVariables false
namespace Go.Proofs.YtcepdbbapgfcdaaGreat
open Go Go.RowKit
attribute [local go_sem] Oper.semAt_some
theorem aR.old{w:World}{l:aI}{p:M.au}{B kb:Nat}{k:Int}{m:M.Method}{t:oV}{at_:Int}{s:M.jv}{vl vs:Value}(h:aR w l p B kb k m t at_ s vl vs){q:Nat}(hq:iW l kb vl vs q):q<w.heap.size:=by
 have h1:=h.blk.lt;have h2:=h.dP.IW;rcases hq with e|e|e|e
 · omega
 · omega
 · exact(h.loc.lt q e).2
 · exact(h.dG.lt q e).2
theorem Jw{p:M.au}{k:Int}{x:M.Kind}:∀(L:List M.Kind) (s:M.jv),M.jL p k (L++[x]) s=(M.jL p k L s).bind (M.jF p k (M.fU x)):=by
 intro L;induction L with
 |nil=>intro s;simp[M.jL]
 |cons y r ih=>
  intro s;simp only[List.cons_append,M.jL];cases M.jF p k (M.fU y) s with
  |none=>rfl
  |some s1=>exact ih s1
theorem Jv{p:M.au}{k:Int}{r:List M.Kind}:∀{L:List M.Kind} {s:M.jv},M.jL p k L s=none→M.jL p k (L++r) s=none:=by
 intro L;induction L with
 |nil=>intro s h;simp[M.jL]at h
 |cons y t ih=>
  intro s h;simp only[List.cons_append,M.jL]at h ⊢;cases hy:M.jF p k (M.fU y) s with
  |none=>rfl
  |some s1=>rw[hy]at h;exact ih h
def RG(l:aI)(p:M.au)(B kb:Nat)(k:Int)(m:M.Method)(t:oV)(at_:Int)(s:M.jv)(vl vs:Value)(w8:World)(pre:List (Int×M.Kind))(W:World):Prop:=
 ∃s' sS vs',M.jL p k (pre.map Prod.snd) s=some s'∧aR W l p B kb k m t at_ s' sS vs'∧bX (w8.heap.size+3) vl vs sS vs'∧Kp (iW l kb vl vs) w8 W
def aaN(l:aI)(p:M.au)(kb:Nat)(k:Int)(at_:Int)(s:M.jv)(vl vs:Value)(w8:World)(ch:List PanicEntry)(pre:List (Int×M.Kind))(W:World):Prop:=
 ch=zi (at_+1)∧M.jL p k (pre.map Prod.snd) s=none∧aF W l p∧Kp (iW l kb vl vs) w8 W
theorem Qn(w:World)(l:aI)(p:M.au)(B kb:Nat)(k:Int)(m:M.Method)(t:oV)(at_:Int)(s:M.jv)(vl vs:Value)(h:aR w l p B kb k m t at_ s vl vs)(i:M.Ins)(fC:i.op=9):
    Calls Tryz.prog 166 #[.pointer (some ⟨kb,0,none⟩),.agg #[.int .i64 i.op,.int .i64 i.a,.string i.name,.string i.member]] w (bu w l p B kb k m t at_ vl vs (M.bM p k m i s)):=by
 obtain⟨G,hG⟩:∃G,M.call p k i.name i.member=G:=⟨_,rfl⟩;have HO:Zs (M.bM p k m i s=if G.2=1 then(M.jL p k (M.method p G.1).args.reverse s).bind fun s1=>(M.jF p k (M.eX i.name) s1).bind (M.iY m (M.fU (M.method p G.1).ret))else none):=Ys (by unfold M.bM;rw[fC,hG];rfl);obtain⟨w0,bD⟩:∃w0,w0=(w.alloc (.cells #[.pointer (some ⟨kb,0,none⟩)] 236)).alloc (.cells #[.int .i64 i.op,.int .i64 i.a,.string i.name,.string i.member] 47):=⟨_,rfl⟩;have aU:Ext w w0:=by rw[bD];exact kx
 have b2:aC w0 w.heap.size 236 #[.pointer (some ⟨kb,0,none⟩)]:=by rw[bD];exact(aC.new _ _ _).ext kx
 have b3:aC w0 (w.heap.size+1) 47 #[.int .i64 i.op,.int .i64 i.a,.string i.name,.string i.member]:=by rw[bD];exact aC.newAt _ _ (by simp)
 have hA:=h.ext aU;have hD:=h.dP.IW;have Bv:=h.dP.ord;have hB:=h.hB;have hk:=h.hk;have hz:=h.blk.lt;have tX:=h.tX;have Vm:¬kb=l.D:=by omega
 have Rq:¬w.heap.size=l.D:=by omega
 have mG:¬w.heap.size+1=l.D:=by omega
 obtain⟨T,f,dB,HT⟩:=iq.ex (fun W'=>Kp (·=l.D) w0 W') _ (Kp.refl _ _);have r0:=fun z=>(hA.blk.kp (HT.aJ z) Vm).c 0 (.pointer (some ⟨l.L,0,none⟩)) rfl;have r1:=fun z=>(hA.blk.kp (HT.aJ z) Vm).c 1 (.int .i64 k) rfl;have r2:=fun z=>(b3.kp (HT.aJ z) mG).c 2 (.string i.name) rfl;have r3:=fun z=>(b3.kp (HT.aJ z) mG).c 3 (.string i.member) rfl;have r4:=fun z=>(b2.kp (HT.aJ z) Rq).c 0 (.pointer (some ⟨kb,0,none⟩)) rfl;have aj:=Ys HT;have dQ:=Ys bD;have bJ:=Ys aU;have HA:=Ys hA;have lD:=Ys b2;have fM:=Ys b3;have HG:=Ys hG;have hv:(yX G.1).toArray=#[.int .i64 G.1.of.keeper,.string G.1.of.name,.int .i64 G.1.at_]:=rfl;have HV:=Ys hv;have Du:=Ys h;have Zk:=Ys h.jO;clear h fC bD aU b2 b3 hA HT hG hv;refine(callsIn_wide (n:=10)).1 ?_;refine vF Tryz.func166 rfl ?_;simp only[Tryz.ntmps166,List.size_toArray,List.length_cons,List.length_nil,Nat.reduceAdd,Nat.reduceSub,Array.replicate_succ,Array.replicate_zero,List.push_toArray,List.append_toArray,List.nil_append,List.cons_append];refine uI fun K hK=>?_;go_wp2_with fail;rw[←dQ.o];refine uI fun K hK=>?_
 have tail : ∀ (b7 : Nat) (w7 : World) (ev : Value), Kp (· = l.D) w0 w7 → aF w7 l p → aC w7 b7 42 #[.int .i64 G.1.of.keeper, .string G.1.of.name, .int .i64 G.1.at_] → w0.heap.size ≤ b7 → BZ ev G.2 →
     K {tmps:=#[.pointer (some ⟨kb,0,none⟩),.agg #[.int .i64 i.op,.int .i64 i.a,.string i.name,.string i.member],.pointer (some ⟨w.heap.size,0,none⟩),.pointer (some ⟨w.heap.size+1,0,none⟩),
      .pointer (some ⟨b7,0,none⟩),ev,undef,undef,undef,.tuple #[.agg #[.int .i64 G.1.of.keeper,.string G.1.of.name,.int .i64 G.1.at_],ev],.pointer (some ⟨kb,0,none⟩),.pointer (some ⟨kb,0,none⟩),.pointer (some ⟨kb,0,none⟩),.pointer (some ⟨l.L,0,none⟩),
      .pointer (some ⟨kb,0,none⟩),.pointer (some ⟨kb,0,none⟩),.pointer (some ⟨kb,1,none⟩),.int .i64 k,.pointer (some ⟨w.heap.size+1,2,none⟩),.string i.name,.pointer (some ⟨w.heap.size+1,3,none⟩),.string i.member,
      .tuple #[.agg #[.int .i64 G.1.of.keeper,.string G.1.of.name,.int .i64 G.1.at_],ev],.agg #[.int .i64 G.1.of.keeper,.string G.1.of.name,.int .i64 G.1.at_],ev,undef,undef,undef,undef,undef,undef,undef,undef,undef,undef,undef,undef,undef,undef,undef,undef,undef,undef,undef,undef,undef,undef,undef,undef,undef,undef,undef,undef,undef],defers:=[]} w7:=by
  clear aj r0 r1 r2 r3 r4;intro b7 w7 ev si Wm Ri J7 mV;have lQ:=Ys si;have Kh:=Ys Wm;have mQ:=Ys Ri;have s2:=(lD.o.kp si Rq).c 0 (.pointer (some ⟨kb,0,none⟩)) rfl;clear si Wm Ri;refine hK _ _ ?_;clear hK K;refine uI fun K hK=>?_;rcases mV with⟨hc,rfl⟩|⟨hc,b,rfl⟩;rotate_left
  · replace HO:Zs (M.bM p k m i s=none):=Ys (by rw[HO.o,if_neg hc]);go_wp2_with fail;refine(gG _ kb at_ ((HA.o.blk.kp lQ.o Vm).c 10 _ rfl) tX.1 (by omega)).mono ?_;rintro e w9 ⟨rfl,rfl⟩;exact⟨rfl,bu.behind bJ.o ⟨lQ.o.weak (fun b _ e=>.inl e),Kh.o,.inl ⟨HO.o,rfl⟩⟩⟩
  replace HO:Zs (M.bM p k m i s=(M.jL p k (M.method p G.1).args.reverse s).bind fun s1=>(M.jF p k (M.eX i.name) s1).bind (M.iY m (M.fU (M.method p G.1).ret))):=Ys (by rw[HO.o,if_pos hc]);have Bq:Zs (M.cK p G.1=true):=Ys (by
   have:=HG.o;rw[←this]at hc ⊢;obtain⟨r,hr⟩:=M.jI hc;exact M.jW hr)
  go_wp2_with fail;clear s2;obtain⟨T,f,dB,HT⟩:=iq.ex (fun W'=>Ext w7 W') _ (Kp.refl _ _);have abX:=HA.o.blk.kp lQ.o Vm;have abT:=lD.o.kp lQ.o Rq;have r0:=fun z=>(abX.ext (HT.aJ z)).c 0 (.pointer (some ⟨l.L,0,none⟩)) rfl;have r4:=fun z=>(abT.ext (HT.aJ z)).c 0 (.pointer (some ⟨kb,0,none⟩)) rfl;have r5:=fun z=>(mQ.o.ext (HT.aJ z)).c 0 (.int .i64 G.1.of.keeper) rfl;have r6:=fun z=>(mQ.o.ext (HT.aJ z)).c 1 (.string G.1.of.name) rfl;have r7:=fun z=>(mQ.o.ext (HT.aJ z)).c 2 (.int .i64 G.1.at_) rfl;have aj:=Ys HT;clear HT abX abT;refine uI fun K hK=>?_;have LY:∀(b8:Nat) (w8:World) (t2:oV),Ext w7 w8→aC w8 b8 54 (ig (M.method p G.1) t2).toArray→w7.heap.size≤b8→aH w8 (· <l.O) (M.method p G.1) (ig (M.method p G.1) t2)→
   K {tmps:=#[.pointer (some ⟨kb,0,none⟩),.agg #[.int .i64 i.op,.int .i64 i.a,.string i.name,.string i.member],.pointer (some ⟨w.heap.size,0,none⟩),.pointer (some ⟨w.heap.size+1,0,none⟩),
    .pointer (some ⟨b7,0,none⟩),.nilIface,.pointer (some ⟨b8,0,none⟩),undef,undef,.tuple #[.agg #[.int .i64 G.1.of.keeper,.string G.1.of.name,.int .i64 G.1.at_],.nilIface],.pointer (some ⟨kb,0,none⟩),.pointer (some ⟨kb,0,none⟩),.pointer (some ⟨kb,0,none⟩),.pointer (some ⟨l.L,0,none⟩),
    .pointer (some ⟨kb,0,none⟩),.pointer (some ⟨kb,0,none⟩),.pointer (some ⟨kb,1,none⟩),.int .i64 k,.pointer (some ⟨w.heap.size+1,2,none⟩),.string i.name,.pointer (some ⟨w.heap.size+1,3,none⟩),.string i.member,
    .tuple #[.agg #[.int .i64 G.1.of.keeper,.string G.1.of.name,.int .i64 G.1.at_],.nilIface],.agg #[.int .i64 G.1.of.keeper,.string G.1.of.name,.int .i64 G.1.at_],.nilIface,.nilIface,.bool false,undef,undef,.pointer (some ⟨kb,0,none⟩),.pointer (some ⟨kb,0,none⟩),.pointer (some ⟨kb,0,none⟩),.pointer (some ⟨l.L,0,none⟩),.agg #[.int .i64 G.1.of.keeper,.string G.1.of.name,.int .i64 G.1.at_],.agg (ig (M.method p G.1) t2).toArray,undef,undef,undef,undef,undef,undef,undef,undef,undef,undef,undef,undef,undef,undef,undef,undef,undef,undef,undef],defers:=[]} w8:=by
   clear aj r0 r4 r5 r6 r7;intro b8 w8 t2 mY Z8 hb8 lu;have mW:=Ys mY;have vB:=Ys Z8;have Gf:=Ys lu;clear mY Z8 lu;refine hK _ _ ?_;clear hK K;have afB:=vB.o.c 1 (.slice t2.a1 (M.method p G.1).args.length t2.c1) rfl;refine L9 ?_;refine Hk (n:=10) fun K hK=>wpIn_wide.2 ?_;go_wp2_with fail;refine(IP _ _ _ _).mono ?_;rintro e w9 ⟨rfl,rfl⟩;go_wp2_with fail;refine Od ?_;have afR:kb<w8.heap.size:=(HA.o.blk.kp lQ.o Vm |>.ext mW.o).lt;have hA8:aR w8 l p B kb k m t at_ s vl vs:=(HA.o.kg lQ.o Kh.o).ext mW.o;have Me:=Ys hA8;have uQ:SliceOf 2 jm w8 (· <l.O) (.slice t2.a1 (M.method p G.1).args.length t2.c1) (M.method p G.1).args:=aH.args Gf.o;have zC:=Ys uQ;clear hA8 uQ;have HN:Zs (¬iW l kb vl vs w.heap.size):=Ys Zk.o;refine QG (gf:=194) (lb:=#[.pointer (some ⟨w8.heap.size,0,none⟩)]) (α:=Int×M.Kind) rfl (enters_of Tryz.func194 (by kernel_rfl) rfl) (encs:=OC) (fun x=>rfl)
    (Bb:=fun k=>iW l kb vl vs k∨w8.heap.size+3≤k)
    (El (M.method p G.1).args w8.heap.size (.slice t2.a1 (M.method p G.1).args.length t2.c1) (· <l.O) _ ?hBd) ?hIt ?hD1 ?hD2 ?hB1 ?hB2
    (RG l p B kb k m t at_ s vl vs w8) (fun _ _ _=>False) (aaN l p kb k at_ s vl vs w8) ⟨_,Tryz.func166⟩ ?hIp ?hI ?hIx ?h0 ?hIB
    (fun pre x W a₁ W₁=>RG l p B kb k m t at_ s vl vs w8 pre W∧w8.heap.size+2<W.heap.size∧W₁=W.alloc (.cells #[.int .i64 x.2.kind,.string x.2.name] 50)∧
     a₁={tmps:=#[.pointer (some ⟨kb,0,none⟩),.agg #[.int .i64 i.op,.int .i64 i.a,.string i.name,.string i.member],.pointer (some ⟨w.heap.size,0,none⟩),.pointer (some ⟨w.heap.size+1,0,none⟩),
    .pointer (some ⟨b7,0,none⟩),.nilIface,.pointer (some ⟨b8,0,none⟩),undef,.pointer (some ⟨W.heap.size,0,none⟩),.tuple #[.agg #[.int .i64 G.1.of.keeper,.string G.1.of.name,.int .i64 G.1.at_],.nilIface],.pointer (some ⟨kb,0,none⟩),.pointer (some ⟨kb,0,none⟩),.pointer (some ⟨kb,0,none⟩),.pointer (some ⟨l.L,0,none⟩),
    .pointer (some ⟨kb,0,none⟩),.pointer (some ⟨kb,0,none⟩),.pointer (some ⟨kb,1,none⟩),.int .i64 k,.pointer (some ⟨w.heap.size+1,2,none⟩),.string i.name,.pointer (some ⟨w.heap.size+1,3,none⟩),.string i.member,
    .tuple #[.agg #[.int .i64 G.1.of.keeper,.string G.1.of.name,.int .i64 G.1.at_],.nilIface],.agg #[.int .i64 G.1.of.keeper,.string G.1.of.name,.int .i64 G.1.at_],.nilIface,.nilIface,.bool false,undef,undef,.pointer (some ⟨kb,0,none⟩),.pointer (some ⟨kb,0,none⟩),.pointer (some ⟨kb,0,none⟩),.pointer (some ⟨l.L,0,none⟩),.agg #[.int .i64 G.1.of.keeper,.string G.1.of.name,.int .i64 G.1.at_],.agg (ig (M.method p G.1) t2).toArray,
    .pointer (some ⟨b8,1,none⟩),.slice t2.a1 (M.method p G.1).args.length t2.c1,.func (.func 194) #[] #[.pointer (some ⟨w8.heap.size,0,none⟩)],.int .i64 x.1,.agg #[.int .i64 x.2.kind,.string x.2.name],undef,undef,undef,undef,undef,undef,undef,undef,undef,undef,undef,undef,undef,undef],defers:=[]}) ?hassign ?hAx ?hbody ?hdone ?hstop ?hpanic
   case hBd=>
    intro q hq;have hq':(iW l kb vl vs q∨w8.heap.size+3≤q)∨q=(w8.alloc (.cells #[.slice t2.a1 (M.method p G.1).args.length t2.c1] 48)).heap.size+1:=hq;simp only[World.size_alloc]at hq';have h1:=Me.o.jO;rcases hq' with(h|h)|h
    · exact⟨fun e=>h1 (e▸h),fun e=>aR.low Me.o e h⟩
    · omega
    · omega
   case hIt=>
    intro W hW;exact⟨(aC.new _ _ _).ext hW,(zC.o.ext jm.stays ((Kp.refl _ w8).alloc _)).ext jm.stays hW⟩
   case hD1=>exact fun h=>h
   case hD2=>exact fun h=>h
   case hB1=>
    simp only[World.size_alloc];rintro(h|h)
    · have:=aR.old Me.o h;omega
    · omega
   case hB2=>
    simp only[World.size_alloc];rintro(h|h)
    · have:=aR.old Me.o h;omega
    · omega
   case hIp=>
    rintro c s1 A B' ⟨h1,h2,h3,h4⟩ hk;simp only[World.size_alloc]at hk;have abA:=Me.o.dP.lt;exact⟨h1,h2,h3.kp hk (fun b hb e=>by rcases e with e|e;exact e;omega),h4.own hk (fun b e=>by rcases e with e|e;exact e.elim;omega)⟩
   case hI=>
    rintro s1 A B' ⟨s',sS,vs',h1,h2,h3,h4⟩ hk;simp only[World.size_alloc]at hk;have abA:=Me.o.dP.lt;have ad8:=Me.o.dP.ord;have no:∀g,(sS.ownBlock=some g∨vs'.ownBlock=some g)→¬(False∨g=w8.heap.size+1+1):=fun g hg e=>by
     rcases e with e|e
     · exact e
     · rcases h3 g hg with h|h|h
       · have:=(Me.o.loc.lt g h).2;omega
       · have:=(Me.o.dG.lt g h).2;omega
       · omega
    exact⟨s',sS,vs',h1,h2.kp' hk (h2.dP.kp hk (fun b hb e=>by rcases e with e|e;exact e;omega)) (fun e=>by rcases e with e|e;exact e;omega) (fun g hg=>no g (.inl hg)) (fun g hg=>no g (.inr hg)) (fun b hb e=>by rcases e with e|e;exact e;omega),h3,h4.own hk (fun b e=>by rcases e with e|e;exact e.elim;omega)⟩
   case hIx=>exact fun _ _ _ _ h=>h.elim
   case h0=>exact⟨s,vl,vs,rfl,Me.o.ext kx,bX.refl _ _ _,(kx:Ext w8 _).any⟩
   case hIB=>exact fun _ _ _=>trivial
   case hassign=>
    intro pre x W K OX hi bZ hK;simp only[OC];simp only[World.size_alloc]at bZ;gi_wp2_with fail
   case hAx=>
    rintro pre x W a₁ W₁ ⟨_,_,rfl,_⟩;exact((Kp.refl _ W).alloc _)
   case hbody=>
    rintro pre x W a₁ W₁ W₂ ⟨⟨s',sS,vs',h1,h2,h3,h4⟩,bZ,rfl,rfl⟩ lK uh;simp only[World.size_alloc]at lK uh;have abA:=Me.o.dP.lt;have ad8:=Me.o.dP.ord;have TM:w.heap.size+1<w8.heap.size:=by
     have:=fM.o.lt;have:=lQ.o.size;have:=mW.o.size;omega
    have no:∀g,(sS.ownBlock=some g∨vs'.ownBlock=some g)→g≠w8.heap.size+1+1∧(g<w.heap.size∨w8.heap.size+3≤g)∧(iW l kb vl vs g∨w8.heap.size+3≤g):=fun g hg=>by
     rcases h3 g hg with h|h|h
     · have:=(Du.o.loc.lt g h).2;exact⟨by omega,.inl this,.inl (.inr (.inr (.inl h)))⟩
     · have:=(Du.o.dG.lt g h).2;exact⟨by omega,.inl this,.inl (.inr (.inr (.inr h)))⟩
     · exact⟨by omega,.inr h,.inr h⟩
    have bA:Ext W (W.alloc (.cells #[.int .i64 x.2.kind,.string x.2.name] 50)):=kx;have rP:=h2.ext bA;have hA2:aR W₂ l p B kb k m t at_ s' sS vs':=rP.kp' lK (rP.dP.kp lK (fun b hb e=>by omega)) (by omega) (fun g hg=>(no g (.inl hg)).1) (fun g hg=>(no g (.inr hg)).1) (fun b hb e=>by omega);have cb:=(aC.new W 50 #[.int .i64 x.2.kind,.string x.2.name]).kp lK (by omega);have hnW:¬iW l kb sS vs' W.heap.size:=h2.jO;have WI:¬iW l kb sS vs' w.heap.size:=by
     rintro(e|e|e|e)
     · omega
     · omega
     · have:=(no _ (.inl e)).2.1;omega
     · have:=(no _ (.inr e)).2.1;omega
    have iU:=((((lD.o.kp lQ.o Rq).ext mW.o).kp h4 HN.o).ext bA).kp lK (by omega);have Df:Kp (iW l kb vl vs) w8 W₂:=(h4.trans bA.any).own lK (fun k e=>by omega);obtain⟨T,f,dB,HT⟩:=iq.ex (fun W'=>Kp (iW l kb sS vs') W₂ W') _ (Kp.refl _ _);have r2:=fun z=>(iU.kp (HT.aJ z) WI).c 0 (.pointer (some ⟨kb,0,none⟩)) rfl;have r7:=fun z=>(cb.kp (HT.aJ z) hnW).c 0 (.int .i64 x.2.kind) rfl;have r8:=fun z=>(cb.kp (HT.aJ z) hnW).c 1 (.string x.2.name) rfl;have aj:=Ys HT;have AP:=Ys hA2;have XG:=Ys Df;have Cf:=Ys no;have H3:=Ys h3;have HS:Zs (M.jL p k ((pre++[x]).map Prod.snd) s=M.jF p k (M.fU x.2) s'):=Ys (by rw[List.map_append,List.map_cons,List.map_nil,Jw,h1];rfl);have ae2:w8.heap.size+3≤W₂.heap.size:=by omega
    clear h1 h2 h3 h4 lK uh rP hA2 cb iU Df HT bA no hnW WI;gi_wp2_with fail;(refine UF aj 4 [([0,1],2),([],3)] [] ?_ (fun _=>trivial) ?_)
    · exact(Kp.refl _ _).drew
    (refine TU [_,_] rfl rfl fun K hK=>?_);(repeat (go_big_quiet_step (fail)));(refine qn hK fun K2 af=>?_);clear hK K;gi_wp2_with fail;refine⟨trivial,?_⟩;refine(CallsIn.inRound _ (callsIn_wide.2 (BS W₂.drew x.2))).mono ?_;rintro e w4 ⟨rfl,dA⟩;have gZ:Zs (Ext W₂ w4):=Ys (((Kp.refl _ W₂).drew).trans dA);clear dA;gi_wp2_with fail;(refine kk aj af gZ.o.any ?_);clear af K2;(refine acI rfl fun K2 af=>?_);gi_wp2_with fail;refine⟨trivial,?_⟩;refine(CallsIn.inRound _ (callsIn_wide.2 (iJ w4 _ _ _ _ _ _ _ _ _ _ _ (AP.o.ext gZ.o) (M.fU x.2)))).mono ?_;rintro e w5 aV;have dC:=bu.behind gZ.o aV;have hBb:Kp (fun k=>iW l kb vl vs k∨w8.heap.size+3≤k) W₂ w5:=dC.1.weak (fun b _ e=>by
     rcases e with e|e|e|e
     · exact .inl (.inl e)
     · exact .inl (.inr (.inl e))
     · exact(Cf.o b (.inl e)).2.2
     · exact(Cf.o b (.inr e)).2.2)
    have aae:Kp (iW l kb vl vs) w8 w5:=XG.o.mix hBb (fun k hk e=>by rcases e with e|e;exact e;omega);rcases dC with⟨gD,Ve,⟨ho,rfl⟩|⟨s2,ho,rfl,Pf,vs2,Mh,Te⟩⟩
    · exact⟨rfl,hBb,rfl,by rw[HS.o,ho],Ve,aae⟩
    · have HF:Zs (Kp (fun k=>iW l kb vl vs k∨w8.heap.size+3≤k) W₂ w5∧RG l p B kb k m t at_ s vl vs w8 (pre++[x]) w5):=Ys ⟨hBb,s2,Pf,vs2,by rw[HS.o,ho],Mh,H3.o.trans Te ae2,aae⟩;have oJ:=Ys gD;clear hBb aae gD Ve Mh Te ho aV;gi_wp2_with fail;(refine kk aj af oJ.o ?_);clear af K2;(refine TV ?_);gi_wp2_with fail;exact HF.o
   case hdone =>
    rintro xs W rfl ⟨s',sS,vs',h1,h2,h3,h4⟩ hK;have Dh:(backTo (M.method p G.1).args (M.method p G.1).args.length).map Prod.snd=(M.method p G.1).args.reverse:=by rw[kC _ _ (Nat.le_refl _),List.take_length]
    rw[Dh]at h1;have acy:=Me.o.dP.ord;have aeD:=Me.o.dP.lt;have TM:w.heap.size+1<w8.heap.size:=by
     have:=fM.o.lt;have:=lQ.o.size;have:=mW.o.size;omega
    have uh:(w8.alloc (.cells #[.slice t2.a1 (M.method p G.1).args.length t2.c1] 48)).heap.size=w8.heap.size+1:=by simp
    rw[uh]at hK ⊢;replace HO:Zs (M.bM p k m i s=(M.jF p k (M.eX i.name) s').bind (M.iY m (M.fU (M.method p G.1).ret))):=Ys (by rw[HO.o,h1];rfl);have XH:Zs (Kp (iW l kb vl vs) w W):=Ys (bJ.o.any.trans (((lQ.o.weak (fun b _ e=>.inl e)).trans mW.o.any).trans h4));refine⟨by simp,by simp,?_⟩;show Code.xh _ _ _ _ _ _
    refine UU (ds:=[{target:=.collected (w8.heap.size+1),args:=#[]}]) (R:=fun e W'=>W'.heap[w8.heap.size+1]?=some (.deferred (some []))∧bu w l p B kb k m t at_ vl vs (M.bM p k m i s) e (W'.putObj (w8.heap.size+1) (.deferred none))) ?_ ?_ ?_;rotate_left
    · rintro a W' hd ⟨hk,hR⟩;show LeavesInM _ _ _ _ _ _ a.defers _ _
      rw[hd];refine⟨by simp,.inl ⟨_,_,rfl,run_takeDeferred hk,?_⟩⟩;exact⟨.tuple #[],by simp[results,Tryz.f166,go_sem],hR⟩
    · rintro c a W' hd ⟨hk,hR⟩;show LeavesInM _ _ _ _ _ _ a.defers _ _
      rw[hd];exact⟨by simp,.inl ⟨_,_,rfl,run_takeDeferred hk,hR⟩⟩
    have hWz:w8.heap.size+2≤W.heap.size:=by have:=(Array.getElem?_eq_some_iff.1 hK).1;omega
    have QB:∀(v1 v2:Value),bX (w8.heap.size+2) vl vs v1 v2→∀q,w.heap.size≤q→q<w8.heap.size+2→¬iW l kb v1 v2 q:=fun v1 v2 ho q Nu Jj=>by
     rintro(e|e|e|e)
     · omega
     · omega
     · rcases ho q (.inl e)with h|h|h
       · have:=(Du.o.loc.lt q h).2;omega
       · have:=(Du.o.dG.lt q h).2;omega
       · omega
     · rcases ho q (.inr e)with h|h|h
       · have:=(Du.o.loc.lt q h).2;omega
       · have:=(Du.o.dG.lt q h).2;omega
       · omega
    have fin:∀(v1 v2:Value) (o:Option M.jv) (e:Ending) (W' W'':World),bX (w8.heap.size+2) vl vs v1 v2→Kp (iW l kb vl vs) w W'→W'.heap[w8.heap.size+1]?=some (.deferred (some []))→bu W' l p B kb k m t at_ v1 v2 o e W''→w8.heap.size+2≤W'.heap.size→
        W''.heap[w8.heap.size+1]?=some (.deferred (some []))∧bu w l p B kb k m t at_ vl vs o e (W''.putObj (w8.heap.size+1) (.deferred none)):=fun v1 v2 o e W' W'' ho Br hd hE j6=>by
     have tZ:=Kp.putObj W'' (w8.heap.size+1) (.deferred none);have aeu:Kp (iW l kb vl vs) w W'':=Br.look hE.1 (ho.le (by omega));refine⟨(hE.1.block _ (by omega) (QB v1 v2 ho _ (by omega) (by omega))).trans hd,aeu.own tZ (fun k e=>by omega),hE.2.1.kp tZ (fun b hb e=>by omega),?_⟩;rcases hE.2.2 with⟨h1,h2⟩|⟨s2,h1,h2,a,b,h5,h6⟩
     · exact .inl ⟨h1,h2⟩
     · have Yp:bX (w8.heap.size+2) vl vs a b:=ho.trans h6 (by omega);have sZ:∀g,(a.ownBlock=some g∨b.ownBlock=some g)→¬g=w8.heap.size+1:=fun g hg e=>QB a b Yp g (by omega) (by omega) (by
        rcases hg with h|h
        · exact .inr (.inr (.inl h))
        · exact .inr (.inr (.inr h)))
       exact .inr ⟨s2,h1,h2,a,b,h5.kp' tZ (h5.dP.kp tZ (fun b hb e=>by omega)) (by omega) (fun g hg=>sZ g (.inl hg)) (fun g hg=>sZ g (.inr hg)) (fun b hb e=>by omega),Yp.le (by omega)⟩
    have Rf:bX (w8.heap.size+2) vl vs sS vs':=h3.le (by omega);have afC:w.heap.size≤b8∧b8<w8.heap.size:=by
     have:=vB.o.lt;have:=lQ.o.size;have:=bJ.o.size;omega
    have n0:∀q,w.heap.size≤q→¬iW l kb vl vs q:=fun q hq h=>by have:=aR.old Du.o h;omega
    have B2:=Ys (((lD.o.kp lQ.o Rq).ext mW.o).kp h4 (n0 _ (by omega)));have B3:=Ys (((fM.o.kp lQ.o mG).ext mW.o).kp h4 (n0 _ (by omega)));have B8:=Ys (vB.o.kp h4 (n0 _ (by omega)));obtain⟨T,f,dB,HT⟩:=iq.ex (fun W'=>Kp (iW l kb sS vs') W W') _ (Kp.refl _ _);have r2:=fun z=>(B2.o.kp (HT.aJ z) (QB _ _ Rf _ (by omega) (by omega))).c 0 (.pointer (some ⟨kb,0,none⟩)) rfl;have r3:=fun z=>(B3.o.kp (HT.aJ z) (QB _ _ Rf _ (by omega) (by omega))).c 2 (.string i.name) rfl;have aj:=Ys HT;have jE:=Ys fin;have Ki:=Ys QB;have HAW:=Ys h2;have vK:=Ys Rf;have HKD:=Ys hK;clear h1 h2 h3 h4 hK fin QB Rf n0 HT Dh;go_wp2_with fail;(refine dZ aj 5 [([0,1,2],3),([],4)] [] ?_ ?_)
    · exact(Kp.refl _ _).drew
    (refine di [_,_,_] rfl rfl fun K hK=>?_);(repeat (go_big_quiet_step (fail)));(refine qn hK fun K2 af=>?_);clear hK K;go_wp2_with fail;refine(xx W.drew i.name).mono ?_;rintro e w4 ⟨rfl,dA⟩;have gZ:Zs (Ext W w4):=Ys (((Kp.refl _ W).drew).trans dA);clear dA;go_wp2_with fail;(refine kk aj af gZ.o.any ?_);clear af K2;(refine ic rfl fun K2 af=>?_);go_wp2_with fail;refine(iJ w4 _ _ _ _ _ _ _ _ _ _ _ (HAW.o.ext gZ.o) (M.eX i.name)).mono ?_;rintro e w5 aV;have dC:=bu.behind gZ.o aV;have zZ:=jE.o sS vs' _ e W w5 vK.o XH.o HKD.o dC hWz;rcases dC with⟨gD,Ve,⟨ho,rfl⟩|⟨s2,ho,rfl,Pf,vs2,Mh,Te⟩⟩
    · rw[ho]at zZ;exact⟨rfl,zZ.1,by rw[HO.o,ho];exact zZ.2⟩
    replace HO:Zs (M.bM p k m i s=M.iY m (M.fU (M.method p G.1).ret) s2):=Ys (by rw[HO.o,ho];rfl);have adF:=Ys zZ.1;have VF:Zs (bX (w8.heap.size+2) vl vs Pf vs2):=Ys (vK.o.trans Te hWz);have oJ:=Ys gD;have Gy:=Ys Mh;have Zf:Zs (Kp (iW l kb vl vs) w w5):=Ys (XH.o.look gD (vK.o.le (by omega)));have hW5:w8.heap.size+2≤w5.heap.size:=by have:=gD.size;omega
    have B25:=Ys (B2.o.kp gD (Ki.o _ _ vK.o _ (by omega) (by omega)));have B85:=Ys (B8.o.kp gD (Ki.o _ _ vK.o _ (by omega) (by omega)));clear aV zZ gD Ve ho Mh Te r3;go_wp2_with fail;(refine kk aj af oJ.o ?_);clear af K2;clear r2;(refine JD rfl ?_);clear aj;obtain⟨T,f,dB,HT⟩:=iq.ex (fun W'=>Kp (iW l kb Pf vs2) w5 W') _ (Kp.refl _ _);have r2:=fun z=>(B25.o.kp (HT.aJ z) (Ki.o _ _ VF.o _ (by omega) (by omega))).c 0 (.pointer (some ⟨kb,0,none⟩)) rfl;have r4:=fun z=>(B85.o.kp (HT.aJ z) (Ki.o _ _ VF.o _ (by omega) (by omega))).c 2 (.int .i64 (M.method p G.1).ret.kind) rfl;have r5:=fun z=>(B85.o.kp (HT.aJ z) (Ki.o _ _ VF.o _ (by omega) (by omega))).c 3 (.string (M.method p G.1).ret.name) rfl;have aj:=Ys HT;clear HT;go_wp2_with fail;(refine dZ aj 5 [([0,1,2],3),([],4)] [] ?_ ?_)
    · exact(Kp.refl _ _).drew
    (refine di [_,_,_] rfl rfl fun K hK=>?_);(repeat (go_big_quiet_step (fail)));(refine qn hK fun K2 af=>?_);clear hK K;go_wp2_with fail;refine(BS w5.drew (M.method p G.1).ret).mono ?_;rintro e w6 ⟨rfl,dK⟩;have jX:Zs (Ext w5 w6):=Ys (((Kp.refl _ w5).drew).trans dK);clear dK;go_wp2_with fail;(refine kk aj af jX.o.any ?_);clear af K2;(refine ic rfl fun K2 af=>?_);go_wp2_with fail;refine(lX w6 _ _ _ _ _ _ _ _ _ _ _ (Gy.o.ext jX.o) (M.fU (M.method p G.1).ret)).mono ?_;rintro e w9 aV;have oZ:=bu.behind jX.o aV;have fE:=oZ.1;have zZ:=jE.o Pf vs2 _ e w5 w9 VF.o Zf.o adF.o oZ hW5;rw[←HO.o]at zZ;have HFF:=Ys zZ;have vD:=Ys fE;have ab7:=oZ.2.2;clear zZ oZ fE aV;rcases ab7 with⟨-,rfl⟩|⟨s9, -,rfl, -⟩
    · exact⟨rfl,HFF.o⟩
    go_wp2_with fail;(refine kk aj af vD.o ?_);clear af K2;clear r2 r4 r5;(refine JD rfl ?_);go_wp2_with fail;exact⟨rfl,HFF.o⟩
   case hstop=>exact fun _ _ _ _ h=>h.elim
   case hpanic=>
    rintro c pre W ⟨rest,yt⟩ ⟨rfl,h2,h3,h4⟩ hK;refine⟨by simp,by simp,?_⟩;have acy:=Me.o.dP.ord;have aeD:=Me.o.dP.lt;have tZ:=Kp.putObj W (w8.alloc (.cells #[.slice t2.a1 (M.method p G.1).args.length t2.c1] 48)).heap.size (.deferred none);have uh:(w8.alloc (.cells #[.slice t2.a1 (M.method p G.1).args.length t2.c1] 48)).heap.size=w8.heap.size+1:=by simp
    have sj:M.bM p k m i s=none:=by
     rw[HO.o];have e1:(M.method p G.1).args.reverse=pre.map Prod.snd++rest.map Prod.snd:=by
      have:=congrArg (List.map Prod.snd) yt;rw[kC _ _ (Nat.le_refl _),List.take_length,List.map_append]at this;exact this
     rw[e1,Jv h2];rfl
    have abI:Kp (iW l kb vl vs) w0 W:=((lQ.o.weak (fun b _ e=>.inl e)).trans mW.o.any).trans h4;refine⟨by simp,.inl ⟨_,_,rfl,run_takeDeferred hK,?_⟩⟩;exact bu.behind bJ.o ⟨abI.own tZ (fun k e=>by have:=lQ.o.size;have:=mW.o.size;omega),h3.kp tZ (fun k hk e=>by omega),.inl ⟨sj,rfl⟩⟩
  (refine l5 aj 7 (.two [0,1,2,3,4] 5 6 (.one [] 6 (.fin [])) (.one [] 5 (.fin []))) ?_ ?_)
  · exact(Kp.refl _ _).drew
  clear hK;have Kv:=Ys LY;clear LY;(refine two [_,_,_,_,_] rfl rfl rfl fun K hK=>?_);(repeat (go_big_quiet_step (fail)));((refine Gu hK (fun K2 af=>?_) fun K2 af=>?_)<;>clear hK K)
  · go_wp2_with fail;refine(fJ w7.drew l p (Kh.o.ext (Kp.refl _ _).drew) G.1 Bq.o).mono ?_;rintro e w8 ⟨⟨cs,lu,rfl⟩,mY⟩;obtain⟨t2,rfl⟩:=jN lu;have mW:Zs (Ext w7 w8):=Ys (((Kp.refl _ _).drew).trans mY);have Gf:=Ys lu;clear lu mY;simp only[ig];go_wp2_with fail;(refine kk aj af mW.o ?_);clear af K2;(refine aZ rfl fun K2 af=>?_);go_wp2_with fail;(refine kk aj af (mW.o.alloc _) ?_);clear af K2;(refine bY ?_);go_wp2_with fail;exact Kv.o _ _ t2 (mW.o.alloc _) (aC.new _ _ _) mW.o.size (bQ.ext aH.stays (kx:Ext w8 _) Gf.o)
  · go_wp2_with fail;(refine kk aj af (((Kp.refl _ _).drew).alloc _) ?_);clear af K2;(refine aZ rfl fun K2 af=>?_);go_wp2_with fail;have b5:aC (w7.alloc (.cells #[.string ⟨#[]⟩,.slice none 0 0,.int .i64 0,.string ⟨#[]⟩,.int .i64 0,.int .i64 0,.slice none 0 0,.slice none 0 0] 54)).drew w7.heap.size 54 #[.string ⟨#[]⟩,.slice none 0 0,.int .i64 0,.string ⟨#[]⟩,.int .i64 0,.int .i64 0,.slice none 0 0,.slice none 0 0]:=(aC.new _ _ _).ext (Kp.refl _ _).drew;refine(fJ ((w7.alloc (.cells #[.string ⟨#[]⟩,.slice none 0 0,.int .i64 0,.string ⟨#[]⟩,.int .i64 0,.int .i64 0,.slice none 0 0,.slice none 0 0] 54)).drew) l p (Kh.o.ext ((Kp.refl _ _).alloc _).drew) G.1 Bq.o).mono ?_;rintro e w8 ⟨⟨cs,lu,rfl⟩,mY⟩;obtain⟨t2,rfl⟩:=jN lu;have mW:Zs (Ext w7 w8):=Ys ((((Kp.refl _ w7).alloc _).drew).trans mY);have kR:=b5.ext mY;have y0:=kR.c 0 (.string ⟨#[]⟩) rfl;have y1:=kR.c 1 (.slice none 0 0) rfl;have y2:=kR.c 2 (.int .i64 0) rfl;have y3:=kR.c 3 (.string ⟨#[]⟩) rfl;have y4:=kR.c 4 (.int .i64 0) rfl;have y5:=kR.c 5 (.int .i64 0) rfl;have y6:=kR.c 6 (.slice none 0 0) rfl;have y7:=kR.c 7 (.slice none 0 0) rfl;have g0:=kR.frozen 0;have g1:=kR.frozen 1;have g2:=kR.frozen 2;have g3:=kR.frozen 3;have g4:=kR.frozen 4;have g5:=kR.frozen 5;have g6:=kR.frozen 6;have g7:=kR.frozen 7;have z5:=kR.lt;have Tv:=lu;obtain⟨w9,fu⟩:∃w9,w9=((((((((w8.setCell ⟨w7.heap.size,0,none⟩ (.string (M.method p G.1).name)).setCell ⟨w7.heap.size,1,none⟩ (.slice t2.a1 (M.method p G.1).args.length t2.c1)).setCell ⟨w7.heap.size,2,none⟩ (.int .i64 (M.method p G.1).ret.kind)).setCell ⟨w7.heap.size,3,none⟩ (.string (M.method p G.1).ret.name)).setCell ⟨w7.heap.size,4,none⟩ (.int .i64 (M.method p G.1).locals)).setCell ⟨w7.heap.size,5,none⟩ (.int .i64 (M.method p G.1).stack)).setCell ⟨w7.heap.size,6,none⟩ (.slice t2.a2 (M.method p G.1).code.length t2.c2)).setCell ⟨w7.heap.size,7,none⟩ (.slice t2.a3 (M.method p G.1).maps.length t2.c3)):=⟨_,rfl⟩;have fE:Kp (·=w7.heap.size) w8 w9:=by rw[fu];exact Kp.JM (D:=(·=w7.heap.size)) rfl _ _ _ _ _ _ _ _
    have b9:aC w9 w7.heap.size 54 (ig (M.method p G.1) t2).toArray:=by rw[fu];exact kR.JM _ _ _ _ _ _ _ _
    have hz7:=Kh.o.lt;have acx:=Kh.o.ord;have uK:Zs (Ext w7 w9):=Ys (mW.o.own fE (fun k e=>by omega));have Gf:=Ys (bQ.kp aH.stays fE (fun b hb e=>by omega) lu);have p9:=Ys b9;have Ef:=Ys fu;clear b5 kR lu Tv mY fu fE b9;simp only[ig];go_wp2_with fail;(refine kk aj af mW.o ?_);clear af K2;clear aj r0 r4 r5 r6 r7;(refine bY ?_);go_wp2_with fail;rw[←Ef.o];exact Kv.o _ _ t2 uK.o p9.o (Nat.le_refl _) Gf.o
 (refine l5 aj 18 (.two [0,1,2,3,4,5,6,7,8,9,10,11] 12 16 (.one [13,14,15] 16 (.one [] 17 (.fin []))) (.one [] 12 (.one [13,14,15] 17 (.fin [])))) ?_ ?_)
 · exact(Kp.refl _ _).drew
 clear hK;have TAIL:=Ys tail;clear tail;(refine two [_,_,_,_,_,_,_,_,_,_,_,_] rfl rfl rfl fun K hK=>?_);(repeat (go_big_quiet_step (fail)));((refine Gu hK (fun K2 af=>?_) fun K2 af=>?_)<;>clear hK K)
 · go_wp2_with fail;have zY:=uo _ _ _ (HA.o.dP.ext (Kp.refl _ _).drew) k i.name i.member;rw[HG.o]at zY;refine zY.mono ?_;rintro e w3 ⟨⟨ev,he,mV⟩,Hy,nX⟩;rw[HV.o]at he;subst he;have lN:Zs (Kp (·=l.D) w0 w3):=Ys (((Kp.refl _ _).drew).trans nX);have U3:=Ys Hy;have GD:=Ys (DX.weak mV);clear Hy nX zY mV;go_wp2_with fail;(refine kk aj af lN.o ?_);clear af K2;(refine pJ [_,_,_] rfl rfl fun K hK=>?_);(repeat (go_big_quiet_step (fail)));(refine qn hK fun K2 af=>?_);clear hK K;go_wp2_with fail;(refine kk aj af (lN.o.alloc _) ?_);clear af K2;(refine aZ rfl fun K2 af=>?_);go_wp2_with fail;(refine kk aj af (lN.o.alloc _) ?_);clear af K2;(refine bY ?_);go_wp2_with fail;exact TAIL.o _ _ _ (lN.o.alloc _) (U3.o.ext kx) (aC.new _ _ _) lN.o.size GD.o
 · go_wp2_with fail;(refine kk aj af (((Kp.refl _ _).drew).alloc _) ?_);clear af K2;(refine aZ rfl fun K2 af=>?_);go_wp2_with fail;have b5:aC (w0.alloc (.cells #[.int .i64 0,.string ⟨#[]⟩,.int .i64 0] 42)).drew w0.heap.size 42 #[.int .i64 0,.string ⟨#[]⟩,.int .i64 0]:=(aC.new _ _ _).ext (Kp.refl _ _).drew;have hD0:=HA.o.dP.IW;have hzD:¬w0.heap.size=l.D:=by omega
   have hzw:=bJ.o.size;have zY:=uo ((w0.alloc (.cells #[.int .i64 0,.string ⟨#[]⟩,.int .i64 0] 42)).drew) _ _ (HA.o.dP.ext ((Kp.refl _ _).alloc _).drew) k i.name i.member;rw[HG.o]at zY;refine zY.mono ?_;rintro e w3 ⟨⟨ev,he,mV⟩,Hy,nX⟩;rw[HV.o]at he;subst he;have lN:Zs (Kp (·=l.D) w0 w3):=Ys ((((Kp.refl _ w0).alloc _).drew).trans nX);have kR:=b5.kp nX hzD;have y0:=kR.c 0 (.int .i64 0) rfl;have y1:=kR.c 1 (.string ⟨#[]⟩) rfl;have y2:=kR.c 2 (.int .i64 0) rfl;have g0:=kR.frozen 0;have g1:=kR.frozen 1;have g2:=kR.frozen 2;have z5:=kR.lt;obtain⟨w7,Cz⟩:∃w7,w7=((w3.setCell ⟨w0.heap.size,0,none⟩ (.int .i64 G.1.of.keeper)).setCell ⟨w0.heap.size,1,none⟩ (.string G.1.of.name)).setCell ⟨w0.heap.size,2,none⟩ (.int .i64 G.1.at_):=⟨_,rfl⟩;have si:Kp (·=w0.heap.size) w3 w7:=by rw[Cz];exact Kp.qO (D:=(·=w0.heap.size)) rfl _ _ _
   have KC:aC w7 w0.heap.size 42 #[.int .i64 G.1.of.keeper,.string G.1.of.name,.int .i64 G.1.at_]:=by rw[Cz];exact kR.qO _ _ _
   have lQ:Zs (Kp (·=l.D) w0 w7):=Ys (lN.o.own si (fun k e=>by omega));have Kh:Zs (aF w7 l p):=Ys (Hy.kp si (fun b hb e=>by omega));have iL:=Ys KC;have Rc:=Ys Cz;have GD:=Ys (DX.weak mV);clear b5 kR Hy nX si KC Cz zY mV;go_wp2_with fail;(refine kk aj af lN.o ?_);clear af K2;(refine pJ [_,_,_] rfl rfl fun K hK=>?_);(repeat (go_big_quiet_step (fail)));(refine qn hK fun K2 af=>?_);clear hK K;go_wp2_with fail;rw[←Rc.o];(refine kk aj af lQ.o ?_);clear af K2;clear aj r0 r1 r2 r3 r4 y0 y1 y2 g0 g1 g2;(refine bY ?_);go_wp2_with fail;exact TAIL.o _ _ _ lQ.o Kh.o iL.o (Nat.le_refl _) GD.o
end Go.Proofs.YtcepdbbapgfcdaaGreat
namespace Go.Proofs.YtcepdbbapgfcdaaGreat
open Go Go.RowKit
theorem Sr:Elem 212 259 2:=iF (z:=.agg #[.slice none 0 0,.slice none 0 0]) (bytes:=48) Tryz.underlying212 (by kernel_rfl) rfl (by decide) (by decide)
def W9(n:Nat):Nat:=
 if n=1 then 158 else if n=2 then 159 else if n=3 then 160 else if n=4 then 161 else if n=5 then 162 else if n=6 then 163 else
 if n=7 then 164 else if n=8 then 165 else if n=9 then 166 else if n=10 then 167 else if n=11 then 168 else if n=12 then 169 else
 if n=13 then 170 else if n=14 then 171 else 172
def Fb:Array Value:=#[.nilFunc,.func (.func 158) #[] #[],.func (.func 159) #[] #[],.func (.func 160) #[] #[],.func (.func 161) #[] #[],.func (.func 162) #[] #[],.func (.func 163) #[] #[],
 .func (.func 164) #[] #[],.func (.func 165) #[] #[],.func (.func 166) #[] #[],.func (.func 167) #[] #[],.func (.func 168) #[] #[],.func (.func 169) #[] #[],.func (.func 170) #[] #[],
 .func (.func 171) #[] #[],.func (.func 172) #[] #[]]
theorem Qm{n:Nat}(h1:1≤n)(h2:n≤15):Fb[n]?=some (.func (.func (W9 n)) #[] #[]):=by
 have:n=1∨n=2∨n=3∨n=4∨n=5∨n=6∨n=7∨n=8∨n=9∨n=10∨n=11∨n=12∨n=13∨n=14∨n=15:=by omega
 rcases this with rfl|rfl|rfl|rfl|rfl|rfl|rfl|rfl|rfl|rfl|rfl|rfl|rfl|rfl|rfl<;>rfl
theorem Ud{n:Nat}(h1:1≤n)(h2:n≤15)(args:Array Value)(w:World):(callFunc (W9 n) args).run Tryz.prog w=.ok (.enter (W9 n) args) w:=by
 have:n=1∨n=2∨n=3∨n=4∨n=5∨n=6∨n=7∨n=8∨n=9∨n=10∨n=11∨n=12∨n=13∨n=14∨n=15:=by omega
 rcases this with rfl|rfl|rfl|rfl|rfl|rfl|rfl|rfl|rfl|rfl|rfl|rfl|rfl|rfl|rfl
 · exact aS Tryz.func158 rfl (by kernel_rfl) args w
 · exact aS Tryz.func159 rfl (by kernel_rfl) args w
 · exact aS Tryz.func160 rfl (by kernel_rfl) args w
 · exact aS Tryz.func161 rfl (by kernel_rfl) args w
 · exact aS Tryz.func162 rfl (by kernel_rfl) args w
 · exact aS Tryz.func163 rfl (by kernel_rfl) args w
 · exact aS Tryz.func164 rfl (by kernel_rfl) args w
 · exact aS Tryz.func165 rfl (by kernel_rfl) args w
 · exact aS Tryz.func166 rfl (by kernel_rfl) args w
 · exact aS Tryz.func167 rfl (by kernel_rfl) args w
 · exact aS Tryz.func168 rfl (by kernel_rfl) args w
 · exact aS Tryz.func169 rfl (by kernel_rfl) args w
 · exact aS Tryz.func170 rfl (by kernel_rfl) args w
 · exact aS Tryz.func171 rfl (by kernel_rfl) args w
 · exact aS Tryz.func172 rfl (by kernel_rfl) args w
theorem Uh(w:World)(l:aI)(p:M.au)(B kb:Nat)(k:Int)(m:M.Method)(t:oV)(at_:Int)(s:M.jv)(vl vs:Value)(h:aR w l p B kb k m t at_ s vl vs)(i:M.Ins)(n:Nat)(hn:i.op=n)(hi:M.jC m i=true):
    Calls Tryz.prog (W9 n) #[.pointer (some ⟨kb,0,none⟩),.agg #[.int .i64 i.op,.int .i64 i.a,.string i.name,.string i.member]] w (bu w l p B kb k m t at_ vl vs (M.bM p k m i s)):=by
 obtain⟨_,h2,_,_,h5,_⟩:=M.ku hi;have:n=1∨n=2∨n=3∨n=4∨n=5∨n=6∨n=7∨n=8∨n=9∨n=10∨n=11∨n=12∨n=13∨n=14∨n=15:=by omega
 rcases this with rfl|rfl|rfl|rfl|rfl|rfl|rfl|rfl|rfl|rfl|rfl|rfl|rfl|rfl|rfl
 · exact Uj _ _ _ _ _ _ _ _ _ _ _ _ h i hn
 · exact Uo _ _ _ _ _ _ _ _ _ _ _ _ h i hn (h2 (.inl hn))
 · exact Xd _ _ _ _ _ _ _ _ _ _ _ _ h i hn (h2 (.inr hn))
 · exact Uf _ _ _ _ _ _ _ _ _ _ _ _ h i hn
 · exact Qr _ _ _ _ _ _ _ _ _ _ _ _ h i hn
 · exact Ui _ _ _ _ _ _ _ _ _ _ _ _ h i hn
 · exact Ug _ _ _ _ _ _ _ _ _ _ _ _ h i hn
 · exact Un _ _ _ _ _ _ _ _ _ _ _ _ h i hn
 · exact Qn _ _ _ _ _ _ _ _ _ _ _ _ h i hn
 · exact Um _ _ _ _ _ _ _ _ _ _ _ _ h i hn
 · exact Qs _ _ _ _ _ _ _ _ _ _ _ _ h i hn
 · exact NI _ _ _ _ _ _ _ _ _ _ _ _ h i hn
 · exact Xc _ _ _ _ _ _ _ _ _ _ _ _ h i hn
 · exact Uk _ _ _ _ _ _ _ _ _ _ _ _ h i hn
 · exact Qo _ _ _ _ _ _ _ _ _ _ _ _ h i hn
theorem aR.setAt{w:World}{l:aI}{p:M.au}{B kb:Nat}{k:Int}{m:M.Method}{t:oV}{at_:Int}{s:M.jv}{vl vs:Value}(h:aR w l p B kb k m t at_ s vl vs)(n:Int)(hn:0≤n∧n≤100):
    aR (w.setCell ⟨kb,10,none⟩ (.int .i64 n)) l p B kb k m t n s vl vs∧Kp (iW l kb vl vs) w (w.setCell ⟨kb,10,none⟩ (.int .i64 n)):=by
 have hK:Kp (·=kb) w (w.setCell ⟨kb,10,none⟩ (.int .i64 n)):=(Kp.refl (·=kb) w).setCell (p:=⟨kb,10,none⟩) (fun _=>rfl) _;have h1:=h.hB;have h2:=h.hk;have h3:=h.dP.ord;exact⟨⟨h.dP.kp hK (fun b hb e=>by omega),h.hB,h.hk,bQ.kp aH.stays hK (fun b hb e=>by omega) h.ml,h.mi,h.blk.bI 10 _,
  aD h.loc hK (fun g hg _ e=>by subst e;exact h.YE.1 hg),aD h.dG hK (fun g hg _ e=>by subst e;exact h.YE.2 hg),h.ne,hn,h.YH,h.Uq⟩,hK.weak fun b _ e=>.inr (.inl e)⟩
def aaO(w:World)(l:aI)(p:M.au)(kb:Nat)(vl vs:Value)(o:Sum Int (List M.jv))(e:Ending)(w':World):Prop:=
 Kp (iW l kb vl vs) w w'∧aF w' l p∧((∃n,o=.inl n∧e=.panicked (zi n))∨∃fs v sS vs',o=.inr fs∧e=.returned v∧Kn w' w.heap.size v sS vs' fs)
theorem Lj (w : World) (l : aI) (p : M.au) (B kb : Nat) (k : Int) (m : M.Method) (t : oV) (at_ : Int) (s : M.jv) (vl vs : Value) (h : aR w l p B kb k m t at_ s vl vs) :
    Calls Tryz.prog 147 #[.pointer (some ⟨kb,0,none⟩)] w (aaO w l p kb vl vs (M.iM p k m m.code 0 true s [])):=by
 obtain⟨a1,c1,a2,c2,a3,c3⟩:=t;have hkz:=h.blk.lt;have H:=Ys h;obtain⟨w0,bD⟩:∃w0,w0=w.alloc (.cells Fb 255):=⟨_,rfl⟩;have b3:aC w0 w.heap.size 255 Fb:=by rw[bD];exact aC.new _ _ _
 have aU:Ext w w0:=by rw[bD];exact kx
 have hA:=h.ext aU;have c8:=h.blk.c 8 (.slice a2 m.code.length c2) rfl;have hmc:=h.mi.code;have HA:=Ys hA;have bJ:=Ys aU;have fM:=Ys b3;have dQ:=Ys bD;unfold Fb at bD;have HX:=Ys bD;clear h hA aU b3 bD;go_enter Tryz.func147,Tryz.ntmps147;go_wp2_with fail;rw[←HX.o];clear c8;go_loopw [4,5,15] (fun v goes i wr=>∃(q:Nat) (gs:Bool) (s1:M.jv) (at1:Int) (J8 vs1:Value) (kn:List M.jv),q≤m.code.length∧goes=.bool gs∧i=.int .i64 q∧aR wr l p B kb k m ⟨a1,c1,a2,c2,a3,c3⟩ at1 s1 J8 vs1∧bX (w.heap.size+1) vl vs J8 vs1∧
     Kp (iW l kb vl vs) w wr∧Kn wr w.heap.size v J8 vs1 kn∧kn.length=q∧aC wr w.heap.size 255 Fb∧Zs (M.iM p k m m.code 0 true s []=M.iM p k m (m.code.drop q) q gs s1 kn)) (fun _ _ i _=>m.code.length - (intOf i).toNat)
 case atStart=>exact⟨0,true,s,at_,vl,vs,[],Nat.zero_le _,rfl,rfl,HA.o,bX.refl _ _ _,bJ.o.any,Kn.nil _ _ _ _,rfl,fM.o,Ys rfl⟩
 case round =>
  obtain⟨q,gs,s1,at1,J8,vs1,kn,hq,rfl,rfl,hA,hO,hK,hKn,Aa,hB,RN⟩:=hrel;have I6:=Ys hA;have HKL:=Ys Aa;clear Aa;have TQ:w.heap.size<wr.heap.size:=hB.lt;have hkr:=hA.blk.lt;have Tq:w.heap.size<w.heap.size+1:=Nat.lt_succ_self _;by_cases bZ:q<m.code.length
  · obtain⟨⟨op,ia,nm,mem⟩,hi⟩:=jo m.code q bZ;have Jg:=hA.mi.ins _ (List.mem_of_getElem? hi);obtain⟨n,rfl⟩:∃n:Nat,op=n:=⟨op.toNat,by have:=(M.ku Jg).2.2.2.2.1;simp only at this;omega⟩;have mG:1≤n∧n≤15:=by have:=(M.ku Jg).2.2.2.2.1;simp only at this;omega
    obtain⟨b,off,cs,ea,J6,rfl, -,jh⟩:=(aH.code hA.ml).get hi;cases ea;obtain⟨g0,g1,g2,g3⟩:=jh.four;have gz:=aG g0;have HS:Zs (M.iM p k m m.code 0 true s []=match M.nL p k m gs q s1 with
     |none=>.inl ((q:Int)+1)
     |some s2=>match M.bM p k m ⟨n,ia,nm,mem⟩ s2 with
      |none=>.inl ((q:Int)+1)
      |some s3=>M.iM p k m (m.code.drop (q+1)) (q+1) (decide ((n:Int)≠10)&&decide ((n:Int)≠13)) s3 (kn++[s2])):=Ys (by rw[RN.o,jS hi];rfl)
    have hq8:(q:Int)<m.code.length:=by omega
    obtain⟨hA4,mZ⟩:=hA.setAt q (by omega);have e10:=hA.blk.c 10 (.int .i64 at1) rfl;have f10:=hA.blk.frozen 10;have OW:¬wr.heap.size=kb:=by omega
    have afY:¬kb=wr.heap.size:=by omega
    obtain⟨w5,ji⟩:∃w5,w5=(wr.setCell ⟨kb,10,none⟩ (.int .i64 q)).alloc (.cells #[.int .i64 n,.int .i64 ia,.string nm,.string mem] 47):=⟨_,rfl⟩;have dC:Ext (wr.setCell ⟨kb,10,none⟩ (.int .i64 q)) w5:=by rw[ji];exact kx
    have b7:aC w5 wr.heap.size 47 #[.int .i64 n,.int .i64 ia,.string nm,.string mem]:=by rw[ji];exact aC.newAt _ _ (by simp)
    have hnk:¬iW l kb J8 vs1 wr.heap.size:=hA.jO;have WI:¬iW l kb vl vs w.heap.size:=H.o.jO;have HX5:=Ys ji;have B7:=Ys b7;have oJ:Zs (Kp (iW l kb J8 vs1) wr w5):=Ys (mZ.trans dC.any);have Gy:=Ys (hA4.ext dC);have Q5:=Ys hKn;have Zd:=Ys Jg;have HB:=Ys hB;have HK:=Ys hK;have HO:=Ys hO;have HNK:=Ys hnk;have Zk:=Ys WI;clear hA hi Jg jh ji dC b7 hA4 mZ hKn hB hK hO RN hnk WI;go_wp2_with fail;rw[←HX5.o];refine(Qq _ _ _ _ _ _ _ _ _ _ _ _ Gy.o gs).mono ?_;rintro e w6 ⟨Bj,hL6,⟨ho,rfl⟩|⟨s2,ho,rfl,Pf,vs2,Gi,X7⟩⟩
    · refine⟨rfl,(HK.o.look oJ.o (HO.o.le (Nat.le_succ _))).look Bj (HO.o.le (Nat.le_succ _)),hL6,.inl ⟨_,?_,rfl⟩⟩;rw[HS.o,ho]
    have adG:=(Kn.kp (Kn.kp Q5.o I6.o oJ.o (bX.refl _ _ _) hkz) Gy.o Bj X7 hkz);obtain⟨cs,hKC⟩:=adG;obtain⟨la,lc,rfl⟩:=bV Gi.loc;obtain⟨sa,sc,rfl⟩:=bV Gi.dG;obtain⟨va,vc,rfl⟩:=bV hKC.2.1;replace HS:Zs (M.iM p k m m.code 0 true s []=match M.bM p k m ⟨n,ia,nm,mem⟩ s2 with
        |none=>.inl ((q:Int)+1)
        |some s3=>M.iM p k m (m.code.drop (q+1)) (q+1) (decide ((n:Int)≠10)&&decide ((n:Int)≠13)) s3 (kn++[s2])):=Ys (by rw[HS.o,ho])
    have wF:¬(Value.slice va kn.length vc).ownBlock=some kb:=fun e=>by
     obtain⟨cur,hb⟩:=jf hKC.2.1 e;exact absurd (aC.inj hb Gi.blk) (by decide)
    have WS:¬(Value.slice va kn.length vc).ownBlock=some wr.heap.size:=fun e=>by
     obtain⟨cur,hb⟩:=jf hKC.2.1 e;exact absurd (aC.inj hb (B7.o.kp Bj HNK.o)) (by decide)
    have Ae:¬(Value.slice va kn.length vc).ownBlock=some w.heap.size:=fun e=>by
     obtain⟨cur,hb⟩:=jf hKC.2.1 e;exact absurd (aC.inj hb ((HB.o.kp oJ.o (iW.sub Zk.o HO.o Tq)).kp Bj (iW.sub Zk.o HO.o Tq))) (by decide)
    obtain⟨T,f,dB,HT⟩:=iq.ex (fun W'=>Kp (fun b=>(Value.slice va kn.length vc).ownBlock=some b) w6 W') _ (Kp.refl _ _);have r11:=fun z=>(Gi.blk.kp (HT.aJ z) wF).c 11 (.slice la s2.locals.length lc) rfl;have Rw:=fun z=>(Gi.blk.kp (HT.aJ z) wF).c 12 (.slice sa s2.stack.length sc) rfl;have afT:=Gi.blk.lt;have aj:=Ys HT;have Oj:=Ys Gi;have Ze:=Ys hKC;have Gc:=Ys Bj;have Oq:=Ys X7;have hl6:s2.locals.length≤6:=by have:=Gi.Uq;have:=Gi.mi.locals;omega
    have Gq:s2.stack.length≤5:=by have:=Gi.YH;have:=Gi.mi.stack;omega
    have hS6:w.heap.size+1≤w6.heap.size:=by have:=Bj.size;have:=oJ.o.size;omega
    clear Gi hKC Bj X7 HT ho;go_wp2_with fail;(refine dZ aj 14 [([0,1,2,3,4,6,7,8,9],5),([],10),([11],12),([],13)] [] ?_ ?_)
    · exact(Kp.refl _ _).drew
    (refine di [_,_,_,_,_,_,_,_,_] rfl rfl fun K hK=>?_);(repeat (go_big_quiet_step (fail)));(refine qn hK fun K2 af=>?_);clear hK K;go_wp2_with fail;refine(pR _ _ _ _ (nQ (Oj.o.ext (Kp.refl _ _).drew).loc (kD uw _)) (by omega)).mono ?_;rintro e w7 ⟨⟨c1,rfl,jG⟩,rE⟩;obtain⟨c1a,c1c,rfl⟩:=bV jG;have S9:Ext w6 w7:=((Kp.refl _ w6).drew:Ext w6 _).trans rE;have C8:=Ys S9;have U6:=Ys jG;clear jG rE S9;go_wp2_with fail;(refine kk aj af C8.o.any ?_);clear af K2;(refine ic rfl fun K2 af=>?_);go_wp2_with fail;refine(pR _ _ _ _ (nQ (Oj.o.ext C8.o).dG (kD uw _)) (by omega)).mono ?_;rintro e w8 ⟨⟨c2v,rfl,su⟩,mY⟩;obtain⟨c2a,c2c,rfl⟩:=bV su;have mW:Zs (Ext w6 w8):=Ys (C8.o.trans mY);have adt:=Ys mY;have yG:=Ys su;clear su mY;go_wp2_with fail;(refine kk aj af mW.o.any ?_);clear af K2;(refine di [_] rfl rfl fun K hK=>?_);(repeat (go_big_quiet_step (fail)));(refine qn hK fun K2 af=>?_);clear hK K;go_wp2_with fail;(refine kk aj af (mW.o.alloc _).any ?_);clear af K2;(refine ic rfl fun K2 af=>?_);refine aB Sr rfl (.tmp 27) (.tmp 39) rfl w.heap.size (.slice va kn.length vc) kn.length _ rfl (aD (D:=fun _=>False) Ze.o.2.1 (mW.o.alloc _) fun _ _ _ x=>x) w8.heap.size 1 [.slice c1a s2.locals.length c1c,.slice c2a s2.stack.length c2c] rfl rfl (ae.Qy _ _ rfl) (by simp[Value.oneCell']) (by have:=HKL.o;omega) (by simp;have:=mW.o.size;omega) ?_;intro g9 c9 w9 qW qw wE;change K2 _ _;have KQ:Kp (fun b=>(Value.slice va kn.length vc).ownBlock=some b) w6 w9:=(mW.o.alloc _).any.trans qw;(refine kk aj af KQ ?_);clear af K2;have hA9:aR w9 l p B kb k m ⟨a1,c1,some ⟨b,off,none⟩,c2,a3,c3⟩ q s2 (.slice la s2.locals.length lc) (.slice sa s2.stack.length sc):=by
     have Bv:=Oj.o.dP.ord;have hBB:=Oj.o.hB;have vH:∀x,(Value.slice va kn.length vc).ownBlock=some x→w.heap.size≤x:=fun x e=>(Ze.o.2.1.lt x e).1;have Cu:=H.o.dP.lt;refine Oj.o.kp' KQ (Oj.o.dP.kp KQ (fun x hx e=>by have:=vH x e;omega)) wF (fun x hx e=>?_) (fun x hx e=>?_) (fun x hx e=>by have:=vH x e;omega)
     · obtain⟨cur,h1⟩:=jf Ze.o.2.1 e;obtain⟨cur',h2⟩:=jf Oj.o.loc hx;exact absurd (aC.inj h1 h2) (by decide)
     · obtain⟨cur,h1⟩:=jf Ze.o.2.1 e;obtain⟨cur',h2⟩:=jf Oj.o.dG hx;exact absurd (aC.inj h1 h2) (by decide)
    have abG:=(B7.o.kp Gc.o HNK.o).kp KQ WS;have mU:=((HB.o.kp oJ.o (iW.sub Zk.o HO.o Tq)).kp Gc.o (iW.sub Zk.o HO.o Tq)).kp KQ Ae
    have aci : Kn w9 w.heap.size (.slice (some ⟨g9, 0, none⟩) (kn.length + 1) c9) (.slice la s2.locals.length lc) (.slice sa s2.stack.length sc) (kn ++ [s2]) := by
     have hI:∀x,w6.heap.size≤x→x<(w8.alloc (.cells #[.slice c1a s2.locals.length c1c,.slice c2a s2.stack.length c2c] 259)).heap.size→
         Mg (w8.alloc (.cells #[.slice c1a s2.locals.length c1c,.slice c2a s2.stack.length c2c] 259)) w.heap.size (.slice va kn.length vc) (.slice la s2.locals.length lc) (.slice sa s2.stack.length sc) x:=fun x h1 h2=>
      ⟨by omega,h2,fun e=>by have:=(Ze.o.2.1.lt x e).2;omega,fun e=>by have:=(Oj.o.loc.lt x e).2;omega,fun e=>by have:=(Oj.o.dG.lt x e).2;omega⟩
     have hz7:=C8.o.size;refine(Sb.ext Ze.o (mW.o.alloc _)).snoc ?_ ?_ qW qw (fun x e=>?_)
     · exact SliceOf.iy (R:=eB) ik (aD (D:=fun _=>False) U6.o (adt.o.alloc _) fun _ _ _ x=>x) rfl rfl (fun _ _=>rfl) (fun _ _=>rfl) (fun x h1 h2=>hI x (by simpa using h1) h2) (by omega)
     · exact SliceOf.iy (R:=eB) ik (aD (D:=fun _=>False) yG.o (kx:Ext w8 _) fun _ _ _ x=>x) rfl rfl (fun _ _=>rfl) (fun _ _=>rfl) (fun x h1 h2=>hI x (by omega) h2) (by omega)
     · have e':g9=x:=by simpa [Value.ownBlock]using e
       subst e';rcases wE with h|h
       · exact .inl h
       · right;omega
    have HA9:=Ys hA9;have Iz:=Ys abG;have p9:=Ys mU;have adH:=Ys aci;have vD:Zs (Kp (iW l kb vl vs) w w9):=Ys (by
     have h1:=(HK.o.look oJ.o (HO.o.le (Nat.le_succ _))).look Gc.o (HO.o.le (Nat.le_succ _));exact h1.own KQ (fun x e=>(Ze.o.2.1.lt x e).1))
    have VG:Zs (bX (w.heap.size+1) vl vs (.slice la s2.locals.length lc) (.slice sa s2.stack.length sc)):=Ys (HO.o.trans Oq.o (by have:=oJ.o.size;omega));have hz9:=KQ.size;have Tx:¬iW l kb (.slice la s2.locals.length lc) (.slice sa s2.stack.length sc) wr.heap.size:=iW.sub HNK.o Oq.o (by have:=B7.o.lt;exact this);have acu:¬iW l kb (.slice la s2.locals.length lc) (.slice sa s2.stack.length sc) w.heap.size:=iW.sub Zk.o VG.o Tq;clear hA9 abG mU aci qW qw wE KQ aj r11 Rw;(refine dW ?_);go_wp2_with fail;obtain⟨T,f,dB,HT⟩:=iq.ex (fun W'=>Kp (iW l kb (.slice la s2.locals.length lc) (.slice sa s2.stack.length sc)) w9 W') _ (Kp.refl _ _);have r0:=fun z=>(Iz.o.kp (HT.aJ z) Tx).c 0 (.int .i64 n) rfl;have r1:=fun z=>(Iz.o.kp (HT.aJ z) Tx).c 1 (.int .i64 ia) rfl;have r2:=fun z=>(Iz.o.kp (HT.aJ z) Tx).c 2 (.string nm) rfl;have r3:=fun z=>(Iz.o.kp (HT.aJ z) Tx).c 3 (.string mem) rfl;have rf:=fun z=>(p9.o.kp (HT.aJ z) acu).c n _ (Qm mG.1 mG.2);have aeH:(n:Int)<16:=by omega
    have H9:(0:Int)≤n:=by omega
    have aj:=Ys HT;have PV:=Ud mG.1 mG.2;clear HT;(refine dZ aj 7 [([0,1,2,3,4,5],6)] [] ?_ ?_)
    · exact(Kp.refl _ _).drew
    (refine di [_,_,_,_,_,_] rfl rfl fun K hK=>?_);(repeat (go_big_quiet_step (fail)));(refine qn hK fun K2 af=>?_);clear hK K;go_wp2_with fail;refine(Uh _ _ _ _ _ _ _ _ _ _ _ _ (HA9.o.ext (Kp.refl _ _).drew) ⟨n,ia,nm,mem⟩ n rfl Zd.o).mono ?_;rintro e gN aV;replace aV:=bu.behind ((Kp.refl _ w9).drew) aV;rcases aV with⟨kI,abK,⟨ho,rfl⟩|⟨s3,ho,rfl,vl3,vs3,abz,EG⟩⟩
    · refine⟨rfl,vD.o.look kI (VG.o.le (Nat.le_succ _)),abK,.inl ⟨_,?_,rfl⟩⟩;rw[HS.o,ho]
    have J7:=Iz.o.kp kI Tx;have y0:=J7.c 0 (.int .i64 n) rfl;have adw:Zs (aR gN l p B kb k m ⟨a1,c1,some ⟨b,off,none⟩,c2,a3,c3⟩ q s3 vl3 vs3∧bX (w.heap.size+1) vl vs vl3 vs3∧Kp (iW l kb vl vs) w gN∧
        Kn gN w.heap.size (.slice (some ⟨g9,0,none⟩) (kn.length+1) c9) vl3 vs3 (kn++[s2])∧aC gN w.heap.size 255 Fb∧
        M.iM p k m m.code 0 true s []=M.iM p k m (m.code.drop (q+1)) (q+1) (decide ((n:Int)≠10)&&decide ((n:Int)≠13)) s3 (kn++[s2])):=
     Ys ⟨abz,VG.o.trans EG (by omega),vD.o.look kI (VG.o.le (Nat.le_succ _)),Kn.kp adH.o HA9.o kI EG hkz,p9.o.kp kI acu,by rw[HS.o,ho]⟩
    have nC:=Ys kI;clear J7 kI abK abz EG ho r0 r1 r2 r3 rf PV;go_wp2_with fail;(refine kk aj af nC.o ?_);clear af K2;clear aj;(refine JD rfl ?_);have fin:∀gs':Bool,gs'=(decide ((n:Int)≠10)&&decide ((n:Int)≠13))→∃(q':Nat) (gs2:Bool) (s1:M.jv) (at1:Int) (J8 vs1:Value) (kn1:List M.jv),q'≤m.code.length∧Value.bool gs'=.bool gs2∧Value.int .i64 ((q:Int)+1)=.int .i64 q'∧
        aR gN l p B kb k m ⟨a1,c1,some ⟨b,off,none⟩,c2,a3,c3⟩ at1 s1 J8 vs1∧bX (w.heap.size+1) vl vs J8 vs1∧
        Kp (iW l kb vl vs) w gN∧Kn gN w.heap.size (.slice (some ⟨g9,0,none⟩) (kn.length+1) c9) J8 vs1 kn1∧kn1.length=q'∧aC gN w.heap.size 255 Fb∧Zs (M.iM p k m m.code 0 true s []=M.iM p k m (m.code.drop q') q' gs2 s1 kn1):=by
     rintro gs' rfl;obtain⟨h1,h2,h3,h4,h5,h6⟩:=adw.o;exact⟨q+1,_,s3,q,vl3,vs3,kn++[s2],by omega,rfl,by simp,h1,h2,h3,h4,by have:=HKL.o;simp[this],h5,Ys h6⟩
    have jE:=Ys fin;have YB:IntKind.i64.wrap ((q:Int)+1)=q+1:=IntWalk.i64_in _ (by omega);clear fin;by_cases n10:n=10
    · subst n10;go_wp2_with fail;exact⟨jE.o _ rfl,by simp[intOf];omega⟩
    · have KM:((n:Int) !=10)=true:=bne_iff_ne.2 (by omega);obtain⟨d13,h13⟩:∃d,((n:Int) !=13)=d:=⟨_,rfl⟩;have hd:Zs (d13=(decide ((n:Int)≠10)&&decide ((n:Int)≠13))):=Ys (by
       rw[←h13,decide_eq_true (by omega:(n:Int)≠10),Bool.true_and];by_cases h:(n:Int)=13
       · rw[h];rfl
       · rw[bne_iff_ne.2 h,decide_eq_true h])
      clear n10;go_wp2_with fail;exact⟨jE.o _ hd.o,by simp[intOf];omega⟩
  · have Jk:q=m.code.length:=by omega
    have HQ:Zs (M.iM p k m m.code 0 true s []=if gs then .inl ((m.code.length:Int)+1)else .inr kn):=Ys (by rw[RN.o,List.drop_eq_nil_of_le (by omega),Jk];rfl);have HKn:=Ys hKn;have Gd:Zs (Kp (iW l kb vl vs) w wr):=Ys hK;have e8:=hA.blk.c 8 (.slice a2 m.code.length c2) rfl;have e10:=hA.blk.c 10 (.int .i64 at1) rfl;have f10:=hA.blk.frozen 10;obtain⟨Mh,gD⟩:=hA.setAt m.code.length (by omega);have Gy:=Ys Mh;have oJ:=Ys gD;have vK:=Ys hO;clear hA hB hK hKn hO Mh gD RN;cases gs
    · go_wp2_with fail;refine bodyPost_ret (v:=u4) (by simp[results,Tryz.results147,go_sem]) rfl ?_;exact⟨Gd.o,I6.o.dP,.inr ⟨_,_,_,_,HQ.o,rfl,HKn.o⟩⟩
    · go_wp2_with fail;refine(gG _ kb m.code.length (Gy.o.blk.c 10 _ rfl) (by omega) (by omega)).mono ?_;rintro e w3 ⟨rfl,rfl⟩;exact⟨rfl,Gd.o.look oJ.o (vK.o.le (Nat.le_succ _)),Gy.o.dP,.inl ⟨_,HQ.o,rfl⟩⟩
theorem UO(x:Value)(w:World):(Instr.typeAssert (.iface 241 x) 20 241 true).run Tryz.prog w=.ok (.tuple #[x,.bool true]) w:=by kernel_rfl
theorem Li(w:World)(b4 b5:Nat)(v4 v5:Value)(h4:aC w b4 212 #[v4])(h5:aC w b5 3 #[v5])(n:Int)(older:List PanicEntry):
    CallsD Tryz.prog 146 #[.pointer (some ⟨b4,0,none⟩),.pointer (some ⟨b5,0,none⟩)] (.panicking ({v:=.iface 241 (.agg #[.int .i64 n]),recovered:=false}::older)) w fun e u' w'=>
     e=.returned (.tuple #[])∧u'=.panicking ({v:=.iface 241 (.agg #[.int .i64 n]),recovered:=true}::older)∧Kp (fun b=>b=b4∨b=b5) w w'∧aC w' b4 212 #[.slice none 0 0]∧aC w' b5 3 #[.int .i64 n]:=by
 have oC:b4≠b5:=fun e=>by subst e;exact absurd (aC.inj h4 h5) (by decide)
 have H4:=Ys h4;have H5:=Ys h5;refine callsD_of_wpS Tryz.func146 rfl fun c₀ cs hu=>?_;apply wpS_seq;apply wpS_region;simp[wpOpsS,go_sem,recoverD,hu,Tryz.ntmps146,Exit.thenS];refine wpS_of_wp ?_;simp only[Array.replicate_succ,Array.replicate_zero,List.push_toArray,List.append_toArray,List.nil_append,List.cons_append,List.setIfInBounds_toArray,List.set_cons_succ,List.set_cons_zero];have r4:=h4.c 0 v4 rfl;have r5:=h5.c 0 v5 rfl;have z4:=h4.lt;have z5:=h5.lt;have f4:=h4.frozen 0;have f5:=h5.frozen 0;have ta:=UO;clear h4 h5;go_wp2_with fail;go_region_with (fail)
 all_goals
  have k1:Kp (fun b=>b=b4∨b=b5) w (w.setCell ⟨b4,0,none⟩ (.slice none 0 0)):=(Kp.refl _ w).setCell (p:=⟨b4,0,none⟩) (fun _=>.inl rfl) _;have k2:Kp (·=b5) (w.setCell ⟨b4,0,none⟩ (.slice none 0 0)) ((w.setCell ⟨b4,0,none⟩ (.slice none 0 0)).setCell ⟨b5,0,none⟩ (.int .i64 n)):=(Kp.refl (·=b5) _).setCell (p:=⟨b5,0,none⟩) (fun _=>rfl) _;have k3:Ext ((w.setCell ⟨b4,0,none⟩ (.slice none 0 0)).setCell ⟨b5,0,none⟩ (.int .i64 n)) ((((w.setCell ⟨b4,0,none⟩ (.slice none 0 0)).setCell ⟨b5,0,none⟩ (.int .i64 n)).alloc (.cells #[.int .i64 n] 241)).drew):=((Kp.refl _ _).alloc _).drew;have a4:aC (w.setCell ⟨b4,0,none⟩ (.slice none 0 0)) b4 212 #[.slice none 0 0]:=H4.o.bI 0 _;have a5:aC ((w.setCell ⟨b4,0,none⟩ (.slice none 0 0)).setCell ⟨b5,0,none⟩ (.int .i64 n)) b5 3 #[.int .i64 n]:=
   (H5.o.kp ((Kp.refl (·=b4) w).setCell (p:=⟨b4,0,none⟩) (fun _=>rfl) (.slice none 0 0)) (Ne.symm oC)).bI 0 _
  exact⟨rfl,_,rfl,.tuple #[],by simp[results,Tryz.results146,go_sem],rfl,rfl,(k1.trans (k2.weak fun b _ e=>.inr e)).trans k3.any,(a4.kp k2 oC).ext k3,a5.ext k3⟩
theorem Qp(w:World)(b4 b5:Nat):
    CallsD Tryz.prog 146 #[.pointer (some ⟨b4,0,none⟩),.pointer (some ⟨b5,0,none⟩)] .returning w fun e u' w'=>e=.returned (.tuple #[])∧u'=.returning∧w'=w:=by
 refine callsD_of_wpS Tryz.func146 rfl fun c₀ cs hu=>?_;apply wpS_seq;apply wpS_region;simp[wpOpsS,go_sem,recoverD,hu,Tryz.ntmps146,Exit.thenS];refine wpS_of_wp ?_;simp only[Array.replicate_succ,Array.replicate_zero,List.push_toArray,List.append_toArray,List.nil_append,List.cons_append,List.setIfInBounds_toArray,List.set_cons_succ,List.set_cons_zero];go_wp2_with fail;exact⟨rfl,_,by cases c₀;simp_all,.tuple #[],by simp[results,Tryz.results146,go_sem],rfl,rfl,rfl⟩
def noP(Q:Exit→Act→World→Prop):Exit→Act→World→Prop
 | .panic _,_,_=>False
 |e,a,w=>Q e a w
theorem wV{P:Program}{id:Nat}{Q:Exit→Act→World→Prop}{a:Act}{w:World}{l:List Oper}{T:Type}(f:T→World)(n:Nat)(kY:List (List Nat×Nat))(q:List Nat)(h0:∃s,w.drew=f s)(hm:P.follows .mixedOrders=true)(hB:EA l.toArray n kY q=true)
    (h:oI P l (fun w'=>∃s,w'=f s) (noP Q) (fun a' w'=>wpList P l.toArray (noP Q) (l.drop n) a' w') kY q a w.drew):(Code.region id l.toArray true).wp P Q a w:=
 Code.wp_mono (Q:=noP Q) (fun e _ _ h=>by cases e<;>first|exact h|exact h.elim) (uB f n kY q h0 hm hB (fun _ _ _ _ _ h=>h) h)
theorem Qu{n:Nat}(h:n≤6):(madeCells (Value.agg #[.int .i64 0,.string ⟨#[]⟩]).cells (n*2)).toList=(List.replicate n M.Gb).flatMap ik:=by
 have:n=0∨n=1∨n=2∨n=3∨n=4∨n=5∨n=6:=by omega
 rcases this with rfl|rfl|rfl|rfl|rfl|rfl|rfl<;>(show _=_;kernel_rfl)
theorem Ma{t e k:Nat}(E:Elem t e k){z:Value}(uR:(Tryz.prog.info? e).map (·.zero)=some (some z))(w:World){ops:Array Oper}{rest:List Oper}{o:Oper}{a:Act}{Q:Exit→Act→World→Prop}(H8:o.guard=none)(x y:Operand)(ho:o.op=Op.makeSlice t x y)
    (base n:Nat) (hx:a.eval x=.int .i64 n) (hy:a.eval y=.int .i64 n) (hn:n≤1000) (ko:base≤w.heap.size)
    (h:∀w',w'.ownsRow base e k (.slice (some ⟨w.heap.size,0,none⟩) n n) n (madeCells z.cells (n*k)).toList→Ext w w'→w.heap.size<w'.heap.size→wpList Tryz.prog ops Q rest (a.put o.dst (.slice (some ⟨w.heap.size,0,none⟩) n n)) w'):wpList Tryz.prog ops Q (o::rest) a w:=by
 obtain⟨i,z',bytes,ht,hi,hz,j6,PT,Qb,hk,hb⟩:=E;rw[hi]at uR;simp only[Option.map_some,Option.some.injEq]at uR;rw[uR]at hz;cases hz;refine wpList_make_full w H8 x y t ho base e i z k ht hi uR j6 .i64 .i64 n n n hx hy rfl rfl ?_ (by unfold maxLen;omega) ko ?_
 · have:i.bytes*n≤4096*1000:=Nat.mul_le_mul (by omega) hn;omega
 · intro w' h2 h3;refine h w' h2 ⟨h3.os,h3.tape,h3.output,h3.size,fun k hk hd=>h3.block k hk (by simp)⟩ (h2.lt w.heap.size rfl).2
def mE(n:ByteArray)(m:M.Method)(q r:Nat):List M.Tag:=(M.eX n::(m.args.take q).map M.fU)++List.replicate r M.Gb
theorem MX{n:ByteArray}{m:M.Method}{q r:Nat}(h:q≤m.args.length):(mE n m q r).length=q+1+r:=by simp[mE];omega
theorem MZ{n:ByteArray}{m:M.Method}{q r:Nat}{k:M.Kind}(h:m.args[q]?=some k):(mE n m q (r+1)).set (q+1) (M.fU k)=mE n m (q+1) r:=by
 have hq:q<m.args.length:=(List.getElem?_eq_some_iff.1 h).1;have e1:(M.eX n::(m.args.take q).map M.fU).length=q+1:=by simp;omega
 have e2:m.args.take (q+1)=m.args.take q++[k]:=by rw[List.take_add_one,h];rfl
 unfold mE;rw[List.set_append_right _ _ (by omega),e1,Nat.sub_self,e2,List.replicate_succ];simp
theorem MW{n:ByteArray}{m:M.Method}{q r:Nat}(h:q≤m.args.length):(mE n m q (r+1))[q+1]?=some M.Gb:=by
 have e1:(M.eX n::(m.args.take q).map M.fU).length=q+1:=by simp;omega
 unfold mE;rw[List.getElem?_append_right (by omega),e1,Nat.sub_self];rfl
theorem NF(w:World)(l:aI)(p:M.au)(h:aF w l p)(x:M.kT)(hx:M.cK p x=true):
    Calls Tryz.prog 124 #[.pointer (some ⟨l.L,0,none⟩),.agg #[.int .i64 x.of.keeper,.string x.of.name,.int .i64 x.at_]] w fun e w'=>
     Kp (·=l.D) w w'∧aF w' l p∧∃v vl vs,e=.returned (.tuple #[v,.int .i64 (M.look p x).2])∧Kn w' w.heap.size v vl vs (M.look p x).1:=by
 obtain⟨⟨xk,xn⟩,xa⟩:=x;have yo:M.Eg (M.method p ⟨⟨xk,xn⟩,xa⟩):=M.lL (M.gI h.ok hx).1;obtain⟨m,hm⟩:∃m,M.method p ⟨⟨xk,xn⟩,xa⟩=m:=⟨_,rfl⟩;have hmf:∀(fn:Fn) (first cap:Array Value) (w:World),(Instr.makeFunc fn first cap).run Tryz.prog w=.ok (.func fn first cap) w:=fun _ _ _ _=>rfl;obtain⟨w0,bD⟩:∃w0,w0=((w.alloc (.cells #[.int .i64 xk,.string xn,.int .i64 xa] 42)).alloc (.cells #[.slice none 0 0] 212)).alloc (.cells #[.int .i64 0] 3):=⟨_,rfl⟩;have aU:Ext w w0:=by rw[bD];exact kx
 have b3:aC w0 w.heap.size 42 #[.int .i64 xk,.string xn,.int .i64 xa]:=by rw[bD];exact(aC.new _ _ _).ext kx
 have b4:aC w0 (w.heap.size+1) 212 #[.slice none 0 0]:=by rw[bD];exact(aC.newAt (W:=w.alloc (.cells #[.int .i64 xk,.string xn,.int .i64 xa] 42)) (g:=w.heap.size+1) _ _ (by simp)).ext kx
 have b5:aC w0 (w.heap.size+2) 3 #[.int .i64 0]:=by rw[bD];exact aC.newAt _ _ (by simp)
 have dQ:=Ys bD;have bJ:=Ys aU;have fM:=Ys b3;have iB:=Ys b4;have iL:=Ys b5;have H:=Ys h;have HX:=Ys hx;have HM:=Ys hm;have HMF:=Ys hmf;have Cu:=h.lt;clear bD aU b3 b4 b5 h hx hm hmf;go_enter_defers Tryz.func124,Tryz.ntmps124;go_wp2_with fail;rw[←dQ.o];refine(fJ _ _ _ (H.o.ext bJ.o) ⟨⟨xk,xn⟩,xa⟩ HX.o).mono ?_;rintro e w1 ⟨⟨cs,lu,rfl⟩,bA⟩;rw[HM.o]at lu yo;obtain⟨t,rfl⟩:=jN lu;obtain⟨a1,c1,a2,c2,a3,c3⟩:=t;obtain⟨n,hn⟩:∃n:Nat,m.locals=n:=⟨m.locals.toNat,by have:=yo.args;omega⟩;obtain⟨w2,iV⟩:∃w2,w2=w1.alloc (.cells (ig m ⟨a1,c1,a2,c2,a3,c3⟩).toArray 54):=⟨_,rfl⟩;have bP:Ext w1 w2:=by rw[iV];exact kx
 have b6:aC w2 w1.heap.size 54 (ig m ⟨a1,c1,a2,c2,a3,c3⟩).toArray:=by rw[iV];exact aC.new _ _ _
 have SS:=bA.trans bP;obtain⟨T,f,dB,HT⟩:=iq.ex (fun W'=>Ext w2 W') _ (Kp.refl _ _);have r30:=fun z=>((fM.o.ext SS).ext (HT.aJ z)).c 0 (.int .i64 xk) rfl;have Mv:=fun z=>(b6.ext (HT.aJ z)).c 0 (.string m.name) rfl;have O9:=fun z=>(b6.ext (HT.aJ z)).c 1 (.slice a1 m.args.length c1) rfl;have r62:=fun z=>(b6.ext (HT.aJ z)).c 2 (.int .i64 m.ret.kind) rfl;have r63:=fun z=>(b6.ext (HT.aJ z)).c 3 (.string m.ret.name) rfl;have r64:=fun z=>(b6.ext (HT.aJ z)).c 4 (.int .i64 n) (by rw[←hn];rfl);have r65:=fun z=>(b6.ext (HT.aJ z)).c 5 (.int .i64 m.stack) rfl;have r66:=fun z=>(b6.ext (HT.aJ z)).c 6 (.slice a2 m.code.length c2) rfl;have r67:=fun z=>(b6.ext (HT.aJ z)).c 7 (.slice a3 m.maps.length c3) rfl;have aj:=Ys HT;have sV:=Ys iV;have fD:Zs (Ext w w2):=Ys (bJ.o.trans SS);have Y7:=Ys SS;have Gf:Zs (aH w2 (· <l.O) m (ig m ⟨a1,c1,a2,c2,a3,c3⟩)):=Ys (bQ.ext aH.stays bP lu);have bg:=Ys b6;have Q6:=Ys yo;have HN:=Ys hn;have hn6:n≤6:=by have:=yo.locals;omega
 have af8:w.heap.size+3≤w2.heap.size:=by have:=SS.size;have:=iL.o.lt;omega
 clear bA bP b6 SS HT lu yo;simp only[ig,hn]at iV;have ad4:=Ys iV;clear iV hn;simp only[ig,HN.o];go_wp2_with fail;rw[←ad4.o];(refine wV f 10 [([0,1,2,3,4,5,6],7),([8],9)] [] (aj.o.o _ ?_) (by kernel_rfl) (by kernel_rfl) ?_)
 · exact(Kp.refl _ _).drew
 (refine di [_,_,_,_,_,_,_] rfl rfl fun K hK=>?_);(repeat (go_big_quiet_step (fail)));(refine qn hK fun K2 af=>?_);clear hK K;refine Ma r9 (z:=.agg #[.int .i64 0,.string ⟨#[]⟩]) (by kernel_rfl) _ rfl (.tmp 19) (.tmp 19) rfl w.heap.size n rfl rfl (by omega) (by simp;omega) ?_;intro w3 EO dm K7;change K2 _ _;simp only[Act.put,List.setIfInBounds_toArray,List.set_cons_succ,List.set_cons_zero];rw[Qu hn6]at EO;have Na:Ext w2 w3:=((Kp.refl _ w2).drew:Ext w2 _).trans dm;(refine kk aj af Na ?_);clear af K2;have iH:=Ys Na;have yI:=Ys EO;clear dm Na EO;(refine di [_] rfl rfl fun K hK=>?_);(repeat (go_big_quiet_step (fail)));(refine qn hK fun K2 af=>?_);clear hK K;go_wp2_with fail;obtain⟨w4,o6⟩:∃w4,w4=w3.alloc (.cells #[.pointer (some ⟨l.L,0,none⟩),.int .i64 xk,.string m.name,.slice a1 m.args.length c1,.int .i64 m.ret.kind,.string m.ret.name,.int .i64 n,.int .i64 m.stack,.slice a2 m.code.length c2,.slice a3 m.maps.length c3,.int .i64 0,.slice (some ⟨w2.heap.size,0,none⟩) n n,.slice none 0 0] 238):=⟨_,rfl⟩;have dA:Ext w3 w4:=by rw[o6];exact kx
 have hbk:aC w4 w3.heap.size 238 (ND l.L xk m ⟨a1,c1,a2,c2,a3,c3⟩ 0 (.slice (some ⟨w2.heap.size,0,none⟩) n n) (.slice none 0 0)):=by
  unfold ND;rw[o6,HN.o];exact aC.new _ _ _
 (refine kk aj af (iH.o.alloc _) ?_);clear af K2;rw[←o6];have Wi:Ext w2 w4:=iH.o.trans dA;have hA4:aR w4 l p w.heap.size w3.heap.size xk m ⟨a1,c1,a2,c2,a3,c3⟩ 0 ⟨List.replicate n M.Gb,[]⟩ (.slice (some ⟨w2.heap.size,0,none⟩) n n) (.slice none 0 0):=
  ⟨H.o.ext (fD.o.trans Wi),Cu,(by have:=iH.o.size;omega),bQ.ext aH.stays Wi Gf.o,Q6.o,hbk,
   (by rw[List.length_replicate];exact aD yI.o dA (fun _ _ _ x=>x)),World.ownsRow_nil _ _ _ _,(fun g _ e=>by cases e),(by omega),(by have:=Q6.o.UM;simp;omega),(by rw[List.length_replicate];exact HN.o.symm)⟩
 have HA4:=Ys hA4;have RY:=Ys Wi;have zD:=Ys o6;clear o6 dA hbk Wi hA4 aj r30 Mv O9 r62 r63 r64 r65 r66 r67;(refine dW ?_);go_wp2_with fail;simp only[noP];go_wp2_with fail;obtain⟨n1,rfl⟩:∃n1,n=n1+1:=⟨n - 1,by have:=Q6.o.args;have:=HN.o;omega⟩;obtain⟨T,f,dB,HT⟩:=iq.ex (fun W'=>Ext w4 W') _ (Kp.refl _ _);have r11:=fun z=>(HA4.o.ext (HT.aJ z)).blk.c 11 (.slice (some ⟨w2.heap.size,0,none⟩) (n1+1) (n1+1)) rfl;have YF:=fun z=>(((fM.o.ext Y7.o).ext RY.o).ext (HT.aJ z)).c 1 (.string xn) rfl;have aj:=Ys HT;clear HT;(refine wV f 8 [([0,1,2,3,4,5,6],7)] [] (aj.o.o _ ?_) (by kernel_rfl) (by kernel_rfl) ?_)
 · exact(Kp.refl _ _).drew
 (refine di [_,_,_,_,_,_,_] rfl rfl fun K hK=>?_);(repeat (go_big_quiet_step (fail)));(refine qn hK fun K2 af=>?_);clear hK K;go_wp2_with fail;refine(xx _ xn).mono ?_;rintro e w5 ⟨rfl,dC⟩;have gm:Zs (Ext w4 w5):=Ys (((Kp.refl _ w4).drew:Ext w4 _).trans dC);clear dC;go_wp2_with fail;(refine kk aj af gm.o ?_);clear af K2;have Mh:=HA4.o.ext gm.o;have qB:=Mh.loc;obtain⟨cur,qA⟩:=jf qB rfl;obtain⟨x0,x1⟩:=(eZ (enc:=ik) (k:=2) (fun _=>rfl) (l:=List.replicate (n1+1) M.Gb) (by simpa using qB) (i:=0) (x:=M.Gb) (by simp)).two;rw[Nat.zero_mul]at x0 x1;have f0:=qA.frozen 0;have f1:=qA.frozen 1;have TP:=qA.lt;have Gy:=Ys Mh;clear Mh qB qA aj r11 YF;(refine dW ?_);go_wp2_with fail;simp only[noP];have SL:aR w5 l p w.heap.size w3.heap.size xk m ⟨a1,c1,a2,c2,a3,c3⟩ 0 ⟨List.replicate (n1+1) M.Gb,[]⟩ (.slice (some ⟨w2.heap.size,0,none⟩) (List.replicate (n1+1) M.Gb).length (n1+1)) (.slice none 0 0):=by
  rw[List.length_replicate];exact Gy.o
 obtain⟨Gi, -⟩:=SL.wW 0 (M.eX xn);obtain⟨w6,nk⟩:∃w6,w6=(w5.setCell ⟨w2.heap.size,0,none⟩ (.int .i64 (M.eX xn).kind)).setCell ⟨w2.heap.size,1,none⟩ (.string (M.eX xn).name):=⟨_,rfl⟩;have Bj:Kp (·=w2.heap.size) w4 w6:=by
  rw[nk];exact(gm.o.any).trans (((Kp.refl (·=w2.heap.size) w5).setCell (p:=⟨w2.heap.size,0,none⟩) (fun _=>rfl) _).setCell (p:=⟨w2.heap.size,1,none⟩) (fun _=>rfl) _)
 rw[←nk];replace Gi:aR w6 l p w.heap.size w3.heap.size xk m ⟨a1,c1,a2,c2,a3,c3⟩ 0 ⟨mE xn m 0 n1,[]⟩ (.slice (some ⟨w2.heap.size,0,none⟩) (n1+1) (n1+1)) (.slice none 0 0):=by
  rw[List.length_replicate]at Gi;rw[nk];exact Gi
 have yh:m.args.length≤n1:=by have:=Q6.o.args;have:=HN.o;omega
 have Ng:=Q6.o.Ky;have y1:=((bg.o.ext RY.o).kp Bj (by have:=bg.o.lt;omega)).c 1 (.slice a1 m.args.length c1) rfl;have Oj:=Ys Gi;have Gc:=Ys Bj;clear SL Gi Bj nk x0 x1 f0 f1 TP;go_wp2_with fail;go_loopw [35] (fun i wr=>∃q:Nat,q≤m.args.length∧i=.int .i64 q∧aR wr l p w.heap.size w3.heap.size xk m ⟨a1,c1,a2,c2,a3,c3⟩ 0 ⟨mE xn m q (n1 - q),[]⟩ (.slice (some ⟨w2.heap.size,0,none⟩) (n1+1) (n1+1)) (.slice none 0 0)∧Kp (·=w2.heap.size) w4 wr) (fun i _=>m.args.length - (intOf i).toNat)
 case atStart=>exact⟨0,Nat.zero_le _,rfl,Oj.o,Gc.o⟩
 case round =>
  obtain⟨q,hq,rfl,hA,hK⟩:=hrel;by_cases bZ:q<m.args.length
  · obtain⟨⟨kq,kn⟩,hy⟩:=jo m.args q bZ;obtain⟨b,off,cs,rfl,J6,rfl, -,jh⟩:=(aH.args hA.ml).get hy;obtain⟨g0,g1⟩:=jh.two;have gz:=aG g0;obtain⟨r,hr⟩:∃r,n1 - q=r+1:=⟨n1 - q - 1,by omega⟩;rw[hr]at hA;have TC:n1 - (q+1)=r:=by omega
    obtain⟨W4,KR,dA,b9⟩:=nu wr #[.int .i64 kq,.string kn] 50;obtain⟨T,f,dB,HT⟩:=iq.ex (fun W'=>Ext W4 W') _ (Kp.refl _ _);have r11:=fun z=>((hA.ext dA).ext (HT.aJ z)).blk.c 11 (.slice (some ⟨w2.heap.size,0,none⟩) (n1+1) (n1+1)) rfl;have r90:=fun z=>(b9.ext (HT.aJ z)).c 0 (.int .i64 kq) rfl;have r91:=fun z=>(b9.ext (HT.aJ z)).c 1 (.string kn) rfl;have aj:=Ys HT;have Q3:=Ys hA;have Gd:=Ys hK;have gZ:=Ys dA;have HX4:=Ys KR;have hqq:(q:Int)<m.args.length:=by omega
    have YB:IntKind.i64.wrap ((q:Int)+1)=q+1:=IntWalk.i64_in _ (by omega);clear HT hA hK dA KR b9 jh;go_wp2_with fail;rw[←HX4.o];(refine wV f 8 [([0,1,2,3,4,5,6],7)] [] (aj.o.o _ ?_) (by kernel_rfl) (by kernel_rfl) ?_)
    · exact(Kp.refl _ _).drew
    (refine di [_,_,_,_,_,_,_] rfl rfl fun K hK=>?_);(repeat (go_big_quiet_step (fail)));(refine qn hK fun K2 af=>?_);clear hK K;go_wp2_with fail;refine(BS _ ⟨kq,kn⟩).mono ?_;rintro e w5 ⟨rfl,dC⟩;have gm:Zs (Ext W4 w5):=Ys (((Kp.refl _ W4).drew:Ext W4 _).trans dC);clear dC;go_wp2_with fail;(refine kk aj af gm.o ?_);clear af K2;have Mh:=Q3.o.ext (gZ.o.trans gm.o);have qB:=Mh.loc;have hlen:=MX (n:=xn) (r:=r+1) hq;have Bu:q+1+(r+1)=n1+1:=by omega
    obtain⟨cur,qA⟩:=jf qB rfl;obtain⟨x0,x1⟩:=(eZ (enc:=ik) (k:=2) (fun _=>rfl) (l:=mE xn m q (r+1)) (by simpa [hlen,Bu]using qB) (MW hq)).two;have f0:=qA.frozen ((q+1)*2);have f1:=qA.frozen ((q+1)*2+1);have TP:=qA.lt;have hb0:(q:Int)+1<n1+1:=by omega
    have SL:aR w5 l p w.heap.size w3.heap.size xk m ⟨some ⟨b,off,none⟩,c1,a2,c2,a3,c3⟩ 0 ⟨mE xn m q (r+1),[]⟩ (.slice (some ⟨w2.heap.size,0,none⟩) (mE xn m q (r+1)).length (n1+1)) (.slice none 0 0):=by
     rw[hlen,Bu];exact Mh
    have XP:=Ys (SL.wW (q+1) (M.fU ⟨kq,kn⟩)).1;have HL:=Ys (hlen.trans Bu);have HY:=Ys hy;clear Mh SL qB qA aj r11 r90 r91 hlen Bu hy;(refine dW ?_);go_wp2_with fail;simp only[noP];go_wp2_with fail;refine⟨⟨q+1,by omega,by simp,?_,?_⟩,by simp[intOf];omega⟩
    · rw[TC];have:=XP.o;rw[HL.o]at this;rw[←MZ HY.o];exact this
    · refine Gd.o.trans ((gZ.o.trans gm.o).any.trans ?_);exact((Kp.refl (·=w2.heap.size) w5).setCell (p:=⟨w2.heap.size,(q+1)*2,none⟩) (fun _=>rfl) _).setCell (p:=⟨w2.heap.size,(q+1)*2+1,none⟩) (fun _=>rfl) _
  · have Jk:q=m.args.length:=by omega
    have bH:(⟨mE xn m q (n1 - q),[]⟩:M.jv)=M.DK ⟨⟨xk,xn⟩,xa⟩ m:=by
     unfold mE M.DK;rw[Jk,List.take_length,HN.o];congr 3;simp
    rw[bH]at hA;have OV:Zs (M.look p ⟨⟨xk,xn⟩,xa⟩=match M.iM p xk m m.code 0 true (M.DK ⟨⟨xk,xn⟩,xa⟩ m) []with
     | .inl n=>([],n)
     | .inr l=>(l,0)):=Ys (by unfold M.look;rw[HM.o];rfl)
    have zV:Ext w wr:=(fD.o.trans RY.o).own hK (fun b e=>by omega);have abD:=((iB.o.ext Y7.o).ext RY.o).kp hK (by omega);have abF:=((iL.o.ext Y7.o).ext RY.o).kp hK (by omega);have Q3:=Ys hA;have HKw:=Ys zV;have Kc:=Ys abD;have YZ:=Ys abF;have hkB:=fM.o.lt;have af9:=iH.o.size;have Bv:=H.o.ord;have vH:∀b,w.heap.size≤b→b<w.heap.size+3→¬iW l w3.heap.size (.slice (some ⟨w2.heap.size,0,none⟩) (n1+1) (n1+1)) (.slice none 0 0) b:=fun b h1 h2=>by
     rintro(e|e|e|e)
     · omega
     · omega
     · have:w2.heap.size=b:=by simpa [Value.ownBlock]using e
       omega
     · cases e
    have eu:=Ys vH;have aco:∀W,Kp (iW l w3.heap.size (.slice (some ⟨w2.heap.size,0,none⟩) (n1+1) (n1+1)) (.slice none 0 0)) wr W→Kp (·=l.D) w W:=fun W hW=>zV.any.mix hW (fun k hk e=>by
     rcases e with e|e|e|e
     · exact e
     · omega
     · have:w2.heap.size=k:=by simpa [Value.ownBlock]using e
       omega
     · cases e)
    have abe:=Ys aco;clear aco;clear hA hK zV abD abF Jk bH vH;go_wp2_with fail;refine(Lj _ _ _ _ _ _ _ _ _ _ _ _ Q3.o).mono ?_;rintro e w7 ⟨si,Wm,⟨n',ho,rfl⟩|⟨fs,v,sS,vs',ho,rfl,Nn⟩⟩
    · have yg:=Kc.o.kp si (eu.o _ (by omega) (by omega));have ED:=YZ.o.kp si (eu.o _ (by omega) (by omega));have Ta:=abe.o _ si;refine leaves_cons (f:=146) (args:=#[.pointer (some ⟨w.heap.size+1,0,none⟩),.pointer (some ⟨w.heap.size+2,0,none⟩)]) (by simp) (by simp[go_sem]) ?_;refine(Li w7 _ _ _ _ yg ED n' []).mono ?_;rintro e u' w8 ⟨rfl,rfl,Bl,h4,h5⟩;have c4:=h4.c 0 (.slice none 0 0) rfl;have c5:=h5.c 0 (.int .i64 n') rfl;have hF:Kp (·=l.D) w w8∧aF w8 l p∧∃v vl vs,Ending.returned (.tuple #[.slice none 0 0,.int .i64 n'])=.returned (.tuple #[v,.int .i64 (M.look p ⟨⟨xk,xn⟩,xa⟩).2])∧Kn w8 w.heap.size v vl vs (M.look p ⟨⟨xk,xn⟩,xa⟩).1:=by
       refine⟨Ta.own Bl (fun k e=>by omega),Wm.kp Bl (fun b hb e=>by omega),.slice none 0 0,.slice none 0 0,.slice none 0 0,?_,?_⟩
       · rw[OV.o,ho]
       · rw[OV.o,ho];exact Kn.nil _ _ _ _
      have HF:=Ys hF;clear yg ED Ta Bl h4 h5 hF si Wm;have hF:=HF.o;simpa [Leaves,settle,results,Tryz.results124,go_sem,c4,c5]using hF
    · obtain⟨ks,Wx⟩:=Nn;obtain⟨va,vc,rfl⟩:=bV Wx.2.1;have yg:=Kc.o.kp si (eu.o _ (by omega) (by omega));have ED:=YZ.o.kp si (eu.o _ (by omega) (by omega));have Ta:=abe.o _ si;have c4:=yg.c 0 (.slice none 0 0) rfl;have c5:=ED.c 0 (.int .i64 0) rfl;have f4:=yg.frozen 0;have f5:=ED.frozen 0;have hz7:=ED.lt;have pg:=Ys yg;have ada:=Ys ED;have adC:=Ys Ta;have Q5:=Ys Wx;clear yg ED Ta Wx si;go_wp2_with fail;refine leaves_cons (f:=146) (args:=#[.pointer (some ⟨w.heap.size+1,0,none⟩),.pointer (some ⟨w.heap.size+2,0,none⟩)]) (by simp) (by simp[go_sem]) ?_;refine(Qp _ _ _).mono ?_;rintro e u' w8 ⟨rfl,rfl,rfl⟩;have k1:Kp (·=w.heap.size+1) w7 (w7.setCell ⟨w.heap.size+1,0,none⟩ (.slice va fs.length vc)):=(Kp.refl (·=w.heap.size+1) w7).setCell (p:=⟨w.heap.size+1,0,none⟩) (fun _=>rfl) _;have k2:Kp (·=w.heap.size+2) (w7.setCell ⟨w.heap.size+1,0,none⟩ (.slice va fs.length vc)) ((w7.setCell ⟨w.heap.size+1,0,none⟩ (.slice va fs.length vc)).setCell ⟨w.heap.size+2,0,none⟩ (.int .i64 0)):=(Kp.refl (·=w.heap.size+2) _).setCell (p:=⟨w.heap.size+2,0,none⟩) (fun _=>rfl) _;have k12:Kp (fun b=>b=w.heap.size+1∨b=w.heap.size+2) w7 ((w7.setCell ⟨w.heap.size+1,0,none⟩ (.slice va fs.length vc)).setCell ⟨w.heap.size+2,0,none⟩ (.int .i64 0)):=(k1.weak fun b _ e=>.inl e).trans (k2.weak fun b _ e=>.inr e);have h4:aC ((w7.setCell ⟨w.heap.size+1,0,none⟩ (.slice va fs.length vc)).setCell ⟨w.heap.size+2,0,none⟩ (.int .i64 0)) (w.heap.size+1) 212 #[.slice va fs.length vc]:=aC.kp (pg.o.bI 0 _) k2 (by omega);have h5:aC ((w7.setCell ⟨w.heap.size+1,0,none⟩ (.slice va fs.length vc)).setCell ⟨w.heap.size+2,0,none⟩ (.int .i64 0)) (w.heap.size+2) 3 #[.int .i64 0]:=(ada.o.kp k1 (by omega)).bI 0 _;have hwr:w.heap.size+3≤wr.heap.size:=by have:=YZ.o.lt;omega
      have hF:Kp (·=l.D) w ((w7.setCell ⟨w.heap.size+1,0,none⟩ (.slice va fs.length vc)).setCell ⟨w.heap.size+2,0,none⟩ (.int .i64 0))∧aF ((w7.setCell ⟨w.heap.size+1,0,none⟩ (.slice va fs.length vc)).setCell ⟨w.heap.size+2,0,none⟩ (.int .i64 0)) l p∧
          ∃v vl vs,Ending.returned (.tuple #[.slice va fs.length vc,.int .i64 0])=.returned (.tuple #[v,.int .i64 (M.look p ⟨⟨xk,xn⟩,xa⟩).2])∧Kn ((w7.setCell ⟨w.heap.size+1,0,none⟩ (.slice va fs.length vc)).setCell ⟨w.heap.size+2,0,none⟩ (.int .i64 0)) w.heap.size v vl vs (M.look p ⟨⟨xk,xn⟩,xa⟩).1:=by
       refine⟨adC.o.own k12 (fun k e=>by omega),Wm.kp k12 (fun b hb e=>by omega),.slice va fs.length vc,sS,vs',?_,ks,?_⟩
       · rw[OV.o,ho]
       · rw[OV.o,ho];exact Sb.low Q5.o k12 (fun b hb e=>by omega) (by omega)
      have d4:=h4.c 0 (.slice va fs.length vc) rfl;have d5:=h5.c 0 (.int .i64 0) rfl;obtain⟨w8,TM⟩:∃w8,w8=(w7.setCell ⟨w.heap.size+1,0,none⟩ (.slice va fs.length vc)).setCell ⟨w.heap.size+2,0,none⟩ (.int .i64 0):=⟨_,rfl⟩;rw[←TM]at hF d4 d5;have HF:=Ys hF;have HW8:=Ys TM;clear hF k1 k2 k12 h4 h5 c4 c5 f4 f5 TM;show Leaves _ _ _ _ _ _ _
      rw[show w.heap.size+1+1=w.heap.size+2 from rfl,←HW8.o];have hF:=HF.o;simpa [Leaves,settle,results,Tryz.results124,go_sem,d4,d5]using hF
theorem CF(w:World)(l:aI)(p:M.au)(h:aF w l p)(x:M.kT)(hx:M.cK p x=true):
    Calls Tryz.prog 93 #[.pointer (some ⟨l.L,0,none⟩),.agg #[.int .i64 x.of.keeper,.string x.of.name,.int .i64 x.at_]] w fun e w'=>
     e=.returned (.bool (M.right p x))∧Kp (·=l.D) w w'∧aF w' l p:=by
 have hE:Ext w (w.alloc (.cells #[.int .i64 x.of.keeper,.string x.of.name,.int .i64 x.at_] 42)):=kx;have HL:=Ys (h.ext hE);have HE:=Ys hE;clear h hE;go_enter Tryz.func93,Tryz.ntmps93;go_wp2_with fail;refine(NF _ _ _ HL.o x hx).mono ?_;rintro e w1 ⟨hK,hL,v,vl,vs,rfl,Nn⟩;obtain⟨ks,Wx⟩:=Nn;obtain⟨va,vc,rfl⟩:=bV Wx.2.1;have HF:=Ys (And.intro (HE.o.any.trans hK) hL);clear hK hL Wx;by_cases hr:(M.look p x).2=0
 · have HR:Zs (M.right p x=true):=Ys (by unfold M.right;rw[hr];rfl);rw[hr];clear hr;go_wp2_with fail;go_ret;exact⟨ag HR.o.symm,HF.o⟩
 · have HR:Zs (M.right p x=false):=Ys (by unfold M.right;exact decide_eq_false hr);have WN:((M.look p x).2==0)=false:=beq_eq_false_iff_ne.2 hr;clear hr;go_wp2_with fail;go_ret;exact⟨ag HR.o.symm,HF.o⟩
end Go.Proofs.YtcepdbbapgfcdaaGreat
