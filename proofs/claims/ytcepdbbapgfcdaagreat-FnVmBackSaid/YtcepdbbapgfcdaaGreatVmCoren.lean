/- Walks. -/
import Derived.Test.YtcepdbbapgfcdaaGreatVmCorem
set_option maxRecDepth 100000
set_option maxHeartbeats 4000000
set_option linter.unusedSimpArgs false
set_option linter.unusedVariables false
namespace Go.Proofs.YtcepdbbapgfcdaaGreat
open Go Go.RowKit
attribute [local go_sem] Oper.semAt_some
def aaP(p:M.au)(of:M.Ref)(xs:List M.Ref)(w2:World)(fb:Nat)(pre:List (Int×M.Ref))(W:World):Prop:=
 ∃n:Nat,n≤pre.length*3∧aC W fb 3 #[.int .i64 n]∧Kp (·=fb) w2 W∧∀rest,xs.reverse=pre.map Prod.snd++rest→M.jJ p of xs.reverse 0=M.jJ p of rest n
def ac0(p:M.au)(of:M.Ref)(xs:List M.Ref)(w2:World)(fb:Nat)(c:Code)(_:List (Int×M.Ref))(W:World):Prop:=
 c=.exit 0∧∃n:Nat,aC W fb 3 #[.int .i64 n]∧Kp (·=fb) w2 W∧M.jJ p of xs.reverse 0=n
theorem BB(w:World)(l:aI)(p:M.au)(h:aF w l p)(of low:M.Ref):
    Calls Tryz.prog 126 #[.pointer (some ⟨l.L,0,none⟩),.agg #[.int .i64 of.keeper,.string of.name],.agg #[.int .i64 low.keeper,.string low.name]] w fun e w'=>
     e=.returned (.int .i64 (M.jk p of low))∧Ext w w':=by
 have Mi:=h.IW;have Cu:=h.lt;have hO:=h.ord;obtain⟨w1,kS⟩:∃w1,w1=(((w.alloc (.cells #[.pointer (some ⟨l.L,0,none⟩)] 74)).alloc (.cells #[.int .i64 of.keeper,.string of.name] 40)).alloc (.cells #[.int .i64 low.keeper,.string low.name] 40)).alloc (.cells #[.int .i64 0] 3):=⟨_,rfl⟩;have aU:Ext w w1:=by rw[kS];exact kx
 have H:=Ys (h.ext aU);have b2:aC w1 w.heap.size 74 #[.pointer (some ⟨l.L,0,none⟩)]:=by rw[kS];exact(aC.new w _ _).ext kx
 have b3:aC w1 (w.heap.size+1) 40 #[.int .i64 of.keeper,.string of.name]:=by
  rw[kS];have:=(aC.new (w.alloc (.cells #[.pointer (some ⟨l.L,0,none⟩)] 74)) 40 #[.int .i64 of.keeper,.string of.name]);simp only[World.size_alloc]at this;exact this.ext kx
 have b4:aC w1 (w.heap.size+1+1) 40 #[.int .i64 low.keeper,.string low.name]:=by
  rw[kS];have:=(aC.new ((w.alloc (.cells #[.pointer (some ⟨l.L,0,none⟩)] 74)).alloc (.cells #[.int .i64 of.keeper,.string of.name] 40)) 40 #[.int .i64 low.keeper,.string low.name]);simp only[World.size_alloc]at this;exact this.ext kx
 have b5:aC w1 (w.heap.size+1+1+1) 3 #[.int .i64 0]:=by
  rw[kS];have:=(aC.new (((w.alloc (.cells #[.pointer (some ⟨l.L,0,none⟩)] 74)).alloc (.cells #[.int .i64 of.keeper,.string of.name] 40)).alloc (.cells #[.int .i64 low.keeper,.string low.name] 40)) 3 #[.int .i64 0]);simpa only[World.size_alloc]using this
 have Gt:w1.heap.size=w.heap.size+4:=by rw[kS];simp
 have bJ:=Ys aU;have Ee:=Ys kS;clear h aU;refine(callsIn_wide (n:=10)).1 ?_;refine callsIn_of_wp_marks Tryz.func126 rfl trivial ?_ rfl;simp only[Tryz.ntmps126,List.size_toArray,List.length_cons,List.length_nil,Nat.reduceAdd,Nat.reduceSub,Array.replicate_succ,Array.replicate_zero,List.push_toArray,List.append_toArray,List.nil_append,List.cons_append];clear kS;gi_wp2_with fail;rw[←Ee.o];refine⟨trivial,?_⟩;refine(callsIn_wide.2 (oF _ _ _ H.o low)).mono ?_;rintro e w2 ⟨⟨v,rfl,hs⟩,bP⟩;obtain⟨a,cap,rfl,hn,dn⟩:=hs.form;gi_wp2_with fail;refine⟨trivial,?_⟩;refine(callsIn_wide.2 (zK _ _ _ _)).mono ?_;rintro e w3 ⟨rfl,rfl⟩;gi_wp2_with fail;have EX:=bP.size;have bb2:=b5.ext bP;have zA:Zs (aF w2 l p):=Ys (H.o.ext bP);have fD:Zs (Ext w w2):=Ys (bJ.o.trans bP);have B2:=Ys (And.intro (b2.ext bP) (b3.ext bP));clear b2 b3 b4 b5 bP;generalize aee:w.heap.size+1+1+1=fb at*;have Yd:fb<w2.heap.size:=by omega
 have HS:=Ys hs;have AX:Zs ((M.chain p low).length≤6):=Ys (M.rW p low);have R4:Zs (∀x∈M.chain p low,∃c,M.cls? p x=some c):=Ys fun x hx=>M.jc hx;have HV:Zs (M.jk p of low=M.jJ p of (M.chain p low).reverse 0):=Ys rfl;clear hs;generalize M.chain p low=xs at*;refine FI (gf:=127) (lb:=#[.pointer (some ⟨w2.heap.size,0,none⟩)]) (α:=Int×M.Ref) rfl (enters_of Tryz.func127 (by kernel_rfl) rfl) (encs:=Hr) (fun x=>rfl)
  (Bb:=fun k=>k=fb)
  (x8 xs w2.heap.size (.slice a xs.length cap) (fun b=>fb+1≤b∧b<w2.heap.size) _ ?hBd) ?hIt ?hD1 ?hD2 ?hB1 ?hB2
  (aaP p of xs w2 fb) (ac0 p of xs w2 fb) ?hI ?hIx ?h0 ?hIB
  (fun pre x W a₁ W₁=>aaP p of xs w2 fb pre W∧(∃rest,backTo xs xs.length=pre++x::rest)∧
   w2.heap.size+2<W.heap.size∧W₁=W.alloc (.cells #[.int .i64 x.2.keeper,.string x.2.name] 40)∧
   a₁={tmps:=#[.pointer (some ⟨l.L,0,none⟩),.agg #[.int .i64 of.keeper,.string of.name],.agg #[.int .i64 low.keeper,.string low.name],.pointer (some ⟨w.heap.size,0,none⟩),.pointer (some ⟨w.heap.size+1,0,none⟩),.pointer (some ⟨w.heap.size+1+1,0,none⟩),.int .i64 0,.pointer (some ⟨fb,0,none⟩),undef,.pointer (some ⟨W.heap.size,0,none⟩),
    .pointer (some ⟨l.L,0,none⟩),.agg #[.int .i64 low.keeper,.string low.name],.slice a xs.length cap,.func (.func 127) #[] #[.pointer (some ⟨w2.heap.size,0,none⟩)],
    .int .i64 x.1,.agg #[.int .i64 x.2.keeper,.string x.2.name],undef,undef,undef,undef,undef,undef,undef,undef,undef,undef,undef],defers:=[]}) ?hassign ?hAx ?hbody ?hdone ?hstop
 case hBd=>
  intro k hk;have Jh:(k=fb)∨k=(w2.alloc (.cells #[.slice a xs.length cap] 151)).heap.size+1:=hk;simp only[World.size_alloc]at Jh;omega
 case hIt=>
  intro W hW;refine⟨(aC.new _ _ _).ext hW,?_⟩;refine(CR HS.o).keep A7.stays (Ext.same (((Kp.refl _ w2).alloc _:Ext w2 _).trans hW)) (fun b hb=>?_);have:=hb.1;exact⟨by omega,hb.2⟩
 case hD1=>exact fun h=>h
 case hD2=>exact fun h=>h
 case hB1=>simp only[World.size_alloc];omega
 case hB2=>simp only[World.size_alloc];omega
 case hI=>
  rintro s A B ⟨n,e0,e1,e2,e3⟩ hk;simp only[World.size_alloc]at hk;exact⟨n,e0,e1.kp hk (by simp;omega),e2.own hk (fun k hk=>by simp at hk;omega),e3⟩
 case hIx=>
  rintro c s A B ⟨e0,n,e1,e2,e3⟩ hk;simp only[World.size_alloc]at hk;exact⟨e0,n,e1.kp hk (by simp;omega),e2.own hk (fun k hk=>by simp at hk;omega),e3⟩
 case h0=>exact⟨0,by simp,bb2.ext kx,(kx:Ext w2 _).any,fun rest h=>by simp at h;rw[h]⟩
 case hIB=>exact fun _ _ _=>trivial
 case hassign=>
  intro pre x W K OX hi bZ hK;simp only[Hr];simp only[World.size_alloc]at bZ;gi_wp2
 case hAx=>
  rintro pre x W a₁ W₁ ⟨_,_,_,rfl,_⟩;exact((Kp.refl _ W).alloc _)
 case hbody=>
  rintro pre x W a₁ W₁ W₂ ⟨⟨n,e0,e1,e2,e3⟩,OX,bZ,rfl,rfl⟩ lK uh;simp only[World.size_alloc]at lK uh;obtain⟨rest,yt⟩:=OX;have Dh:xs.reverse=pre.map Prod.snd++x.2::rest.map Prod.snd:=by
   have:=congrArg (List.map Prod.snd) yt;rw[kC _ _ (Nat.le_refl _),List.take_length]at this;simpa using this
  have hxm:x.2∈xs:=by
   have h2:x.2∈xs.reverse:=by rw[Dh];simp
   simpa using h2
  have ack:n≤18:=by
   have h1:=congrArg List.length Dh;simp at h1;have:=AX.o;omega
  have hfg:=e3 _ Dh;obtain⟨c,fV⟩:=R4.o _ hxm;have Df:Kp (·=fb) w2 W₂:=(e2.alloc _).own lK (fun k hk=>by omega);have Vf:aF W₂ l p:=zA.o.kp Df (fun k hk e=>by omega);obtain⟨cs,bO,ng⟩:=qR _ l p Vf x.2.keeper x.2.name c fV;obtain⟨a1,c1,a2,c2,rfl⟩:=bO.form;have ym:∀W,(Instr.field 58 (.agg #[.string c.name,.string c.aQ,.slice a1 c.fields.length c1,.slice a2 c.methods.length c2]) 2).run Tryz.prog W=.ok (.slice a1 c.fields.length c1) W:=(fun W=>by kernel_rfl);have cb:=(aC.new W 40 #[.int .i64 x.2.keeper,.string x.2.name]).kp lK (by omega);have u0:=cb.c 0 (.int .i64 x.2.keeper) rfl;have u1:=cb.c 1 (.string x.2.name) rfl;have t2:=(B2.o.2.kp Df (by omega)).c 0 (.int .i64 of.keeper) rfl;have t3:=(B2.o.2.kp Df (by omega)).c 1 (.string of.name) rfl;have g1:=(e1.ext ((Kp.refl _ W).alloc _)).kp lK (by omega);have HG:=Ys (And.intro g1 Df);have Q4:=Ys ng;have HF3:=Ys (tO Vf.ok fV);have uO:M.cls p x.2=c:=by unfold M.cls;rw[fV];rfl
  have Vx:=Ys uO;have HFG:=Ys hfg;have iH:=Ys e3;have ado:=Ys e0;obtain⟨T,f,dB,HT⟩:=iq.ex (fun W'=>Ext W₂ W') _ (Kp.refl _ _);have r2:=fun s=>((B2.o.1.kp Df (by omega)).ext (HT.aJ s)).c 0 (.pointer (some ⟨l.L,0,none⟩)) rfl;have r5:=fun s=>(g1.ext (HT.aJ s)).c 0 (.int .i64 n) rfl;have r7:=fun s=>(cb.ext (HT.aJ s)).c 0 (.int .i64 x.2.keeper) rfl;have r8:=fun s=>(cb.ext (HT.aJ s)).c 1 (.string x.2.name) rfl;have aj:=Ys HT;clear e0 e1 e2 e3 cb g1 Df ng Vf fV lK uh bb2 HT uO hfg Dh yt bO;have Gm:((of.keeper=x.2.keeper∧of.name=x.2.name)∧x.2=of)∨(((of.keeper=x.2.keeper∧(x.2.name.toList==of.name.toList)=false)∨(x.2.keeper==of.keeper)=false)∧¬x.2=of):=by
   rcases xJ x.2.keeper of.keeper x.2.name of.name with⟨h1,h2⟩|⟨h1,h2,h3⟩|⟨h1,h2⟩
   · exact .inl ⟨⟨h1.symm,h2.symm⟩,M.Ref.jd.2 ⟨h1,h2⟩⟩
   · exact .inr ⟨.inl ⟨h1.symm,h2⟩,fun e=>h3 (by rw[e])⟩
   · exact .inr ⟨.inr h1,fun e=>h2 (by rw[e])⟩
  rcases Gm with⟨⟨h1,h2⟩,h3⟩|⟨h1,h3⟩
  · have H3:=Ys h3;clear h3;gi_wp2_with fail;refine⟨Kp.refl _ _,rfl,n,HG.o.1,HG.o.2,?_⟩;rw[HFG.o];unfold M.jJ;rw[if_pos H3.o]
  · have H3:=Ys h3;clear h3;have OW:(n:Int)≤18:=by omega
    have hff:(c.fields.length:Int)≤3:=by have:=HF3.o;omega
    rcases h1 with⟨h1,h2⟩|h1
    all_goals
     gi_wp2_with fail;(refine UF aj 7 [([0,1,2],3)] [4,5,6] ?_ (fun _=>trivial) ?_)
     · exact(Kp.refl _ _).drew
     (refine TU [_,_,_] rfl rfl fun K hK=>?_);(repeat (go_big_quiet_step (fail)));(refine qn hK fun K2 af=>?_);clear hK K;gi_wp2_with fail;refine⟨trivial,?_⟩;refine(CallsIn.inRound _ (callsIn_wide.2 (Q4.o _ ((Kp.refl _ _).drew)))).mono ?_;rintro e w4 ⟨rfl,dA⟩;have mZ:Ext W₂ w4:=((Kp.refl _ W₂).drew:Ext W₂ _).trans dA;have b4':=HG.o.1.ext mZ;have d0:=b4'.c 0 (.int .i64 n) rfl;have f0:=b4'.frozen 0;have z0:=b4'.lt;have iB:=Ys b4';have zk:=Ys mZ;clear b4' dA;gi_wp2_with fail;(refine kk aj af mZ ?_);clear af K2;clear mZ;(refine YD [_,_,_] rfl fun K hK=>?_);(repeat (go_big_quiet_step (fail)));(refine qn hK ?_);clear hK K;gi_wp2_with fail;have bH:∀D:Nat→Prop,D fb→∀v,Kp D w4 (w4.setCell ⟨fb,0,none⟩ v):=fun D hD v=>(Kp.refl D w4).setCell (p:=⟨fb,0,none⟩) (fun _=>hD) v;have afL:=HF3.o;refine⟨zk.o.any.trans (bH (·=fb) rfl _),n+c.fields.length,by have:=ado.o;simp;omega,?_,(HG.o.2.trans zk.o.any).trans (bH (·=fb) rfl _),fun rest' hr=>?_⟩
     · have:=iB.o.bI 0 (.int .i64 ((n:Int)+c.fields.length));simpa using this
     · rw[iH.o (x.2::rest') (by rw[hr];simp)];rw[show M.jJ p of (x.2::rest') n=if x.2=of then n else M.jJ p of rest' (n+(M.cls p x.2).fields.length)from rfl,if_neg H3.o,Vx.o]
 case hdone=>
  rintro ys W rfl ⟨n,e0,e1,e2,e3⟩ hK;have k0:=e1.c 0 _ rfl;have HE:=Ys (And.intro e1 (And.intro e2 e3));clear e1 e2 e3 bb2;simp only[Exit.inBlock,Exit.then];gi_wp2;obtain⟨e1,e2,e3⟩:=HE.o;refine⟨by simp,.inl ⟨_,_,rfl,run_takeDeferred hK,?_⟩⟩;have tZ:=Kp.putObj W (w2.alloc (.cells #[.slice a xs.length cap] 151)).heap.size (.deferred none);have uh:(w2.alloc (.cells #[.slice a xs.length cap] 151)).heap.size=w2.heap.size+1:=by simp
  refine⟨.int .i64 n,by simp[results,Tryz.f126,go_sem],?_,?_⟩
  · have Dh:(backTo xs xs.length).map Prod.snd=xs.reverse:=by rw[kC _ _ (Nat.le_refl _),List.take_length]
    rw[HV.o,e3 [] (by rw[Dh];simp)];rfl
  · exact((fD.o.own e2 (fun k hk=>by omega))).own tZ (fun k hk=>by omega)
 case hstop=>
  rintro c pre W hS ⟨rfl,n,e1,e2,e3⟩ hK;have k0:=e1.c 0 _ rfl;have HE:=Ys (And.intro e1 (And.intro e2 e3));clear e1 e2 e3 bb2;gi_wp2;obtain⟨e1,e2,e3⟩:=HE.o;refine⟨by simp,.inl ⟨_,_,rfl,run_takeDeferred hK,?_⟩⟩;have tZ:=Kp.putObj W (w2.alloc (.cells #[.slice a xs.length cap] 151)).heap.size (.deferred none);have uh:(w2.alloc (.cells #[.slice a xs.length cap] 151)).heap.size=w2.heap.size+1:=by simp
  refine⟨.int .i64 n,by simp[results,Tryz.f126,go_sem],?_,?_⟩
  · rw[HV.o,e3]
  · exact((fD.o.own e2 (fun k hk=>by omega))).own tZ (fun k hk=>by omega)
end Go.Proofs.YtcepdbbapgfcdaaGreat
namespace Go.Proofs.YtcepdbbapgfcdaaGreat
open Go Go.RowKit
theorem jo{α:Type}(l:List α)(k:Nat)(h:k<l.length):∃x,l[k]?=some x:=⟨l[k],List.getElem?_eq_getElem h⟩
def Oi:Array Value:=#[.int .i64 0,.string ⟨#[]⟩,.int .i64 0,.int .i64 0,.string ⟨#[]⟩]
theorem DX.kp{D:Nat→Prop}{w w':World}{ev:Value}{c:Int}(h:DX w ev c)(hk:Kp D w w')(hD:∀b,ev=.iface 160 (.pointer (some ⟨b,0,none⟩))→¬D b):DX w' ev c:=by
 rcases h with h|⟨h1,b,h2,h3⟩
 · exact .inl h
 · exact .inr ⟨h1,b,h2,h3.kp hk (hD b h2)⟩
theorem aC.inj{w:World}{g:Nat}{t t':TypeId}{cs cs':Array Value}(h:aC w g t cs)(h':aC w g t' cs'):t=t':=by
 unfold aC at h h';rw[h]at h';cases h';rfl
theorem Kp.qP{D:Nat→Prop}{w:World}{b:Nat}(hD:D b)(v0 v1 v2 v3 v4:Value):Kp D w (((((w.setCell ⟨b,0,none⟩ v0).setCell ⟨b,1,none⟩ v1).setCell ⟨b,2,none⟩ v2).setCell ⟨b,3,none⟩ v3).setCell ⟨b,4,none⟩ v4):=
 (((((Kp.refl D w).setCell (p:=⟨b,0,none⟩) (fun _=>hD) v0).setCell (p:=⟨b,1,none⟩) (fun _=>hD) v1).setCell (p:=⟨b,2,none⟩) (fun _=>hD) v2).setCell (p:=⟨b,3,none⟩) (fun _=>hD) v3).setCell (p:=⟨b,4,none⟩) (fun _=>hD) v4
theorem aC.qP{w:World}{b:Nat}{t:TypeId}{u0 u1 u2 u3 u4:Value}(h:aC w b t #[u0,u1,u2,u3,u4])(v0 v1 v2 v3 v4:Value):aC (((((w.setCell ⟨b,0,none⟩ v0).setCell ⟨b,1,none⟩ v1).setCell ⟨b,2,none⟩ v2).setCell ⟨b,3,none⟩ v3).setCell ⟨b,4,none⟩ v4) b t #[v0,v1,v2,v3,v4]:=
 ((((h.bI 0 v0).bI 1 v1).bI 2 v2).bI 3 v3).bI 4 v4
theorem xD (w : World) (l : aI) (p : M.au) (h : aF w l p) (k : Int) (n m : ByteArray) :
    Calls Tryz.prog 100 #[.pointer (some ⟨l.L,0,none⟩),.int .i64 k,.string n,.string m] w fun e w'=>
     (∃ev,e=.returned (.tuple #[.agg (jB (M.get p k n m).1).toArray,ev])∧DX w' ev (M.get p k n m).2)∧aF w' l p∧Kp (·=l.D) w w':=by
 have Mi:=h.IW;have Cu:=h.lt;have hO:=h.ord;obtain⟨w1,kS⟩:∃w1,w1=w.alloc (.cells Oi 166):=⟨_,rfl⟩;have aU:Ext w w1:=by rw[kS];exact kx
 have H:=Ys (h.ext aU);have b8:aC w1 w.heap.size 166 Oi:=by rw[kS];exact aC.new w _ _
 have Gt:w1.heap.size=w.heap.size+1:=by rw[kS];simp
 have bJ:=Ys aU;have Ee:=Ys kS;have HK:Zs (M.get p k n m=if(M.bN p k n m).2=1 then M.qV p k m (M.bN p k n m).1 (M.layout p (M.bN p k n m).1)else(M.ve,(M.bN p k n m).2)):=Ys rfl;clear h aU kS;go_enter Tryz.func100,Tryz.ntmps100;go_wp2_with fail;have aaw:=Ee.o;unfold Oi at aaw;rw[←aaw];clear aaw;refine(uU _ _ _ H.o _ _ _).mono ?_;rintro e w2 ⟨⟨ev,rfl,mV⟩,hL2,af⟩;generalize M.bN p k n m=F at*;obtain⟨⟨rk,rn⟩,code⟩:=F;simp only at*;have zJ:=b8.kp af (by omega);have EX:=af.size;have y0:=zJ.c 0 (.int .i64 0) rfl;have y1:=zJ.c 1 (.string ⟨#[]⟩) rfl;have y2:=zJ.c 2 (.int .i64 0) rfl;have y3:=zJ.c 3 (.int .i64 0) rfl;have y4:=zJ.c 4 (.string ⟨#[]⟩) rfl;have f0:=zJ.frozen 0;have f1:=zJ.frozen 1;have f2:=zJ.frozen 2;have f3:=zJ.frozen 3;have f4:=zJ.frozen 4;have yz:=zJ.lt;have zA:=Ys hL2;have zy:Zs (Kp (·=l.D) w w2):=Ys (bJ.o.any.trans af);have vB:=Ys zJ;clear hL2 af b8 zJ;rcases mV with⟨rfl,rfl⟩|⟨hc,eb,rfl,heb⟩
 · have HN : Zs (M.get p k n m = M.qV p k m ⟨rk, rn⟩ (M.layout p ⟨rk, rn⟩)) := Ys (by rw [HK.o, if_pos rfl]); have bP : Ext w2 (w2.alloc (.cells #[.int .i64 rk, .string rn] 40)) := kx; have b10 := aC.new w2 40 #[.int .i64 rk, .string rn]; go_wp2_with fail; refine (uq _ _ _ (zA.o.ext bP) ⟨rk, rn⟩).mono ?_; rintro e w3 ⟨⟨v, rfl, hs⟩, Hy, nX⟩; obtain ⟨a, cap, rfl, hn, dn⟩ := hs.form; have K7 := nX.size; simp only [World.size_alloc] at K7; have Vv := Ys ((vB.o.ext bP).kp nX (by omega)); have nA := Ys (b10.kp nX (by omega)); have U3 := Ys Hy; have lN : Zs (Kp (· = l.D) w w3) := Ys ((zy.o.trans bP.any).trans nX); have HS := Ys hs; have adI : Zs (∀ (i : Nat) (x : M.l8), (M.layout p ⟨rk, rn⟩)[i]? = some x → _) := Ys (fun i x => M.Bz (p := p) (r := ⟨rk, rn⟩) (i := i) (f := x)); clear hs Hy nX bP b10 y0 y1 y2 y3 y4 f0 f1 f2 f3 f4 yz; generalize M.layout p ⟨rk, rn⟩ = fs at *; go_wp2_with fail; go_loopw [31] (fun i wr => ∃ q : Nat, q ≤ fs.length ∧ i = .int .i64 q ∧ Ext w3 wr ∧ Zs (M.qV p k m ⟨rk, rn⟩ fs = M.qV p k m ⟨rk, rn⟩ (fs.drop q))) (fun i _ => fs.length - (intOf i).toNat)
   case atStart=>exact⟨0,Nat.zero_le _,rfl,Kp.refl _ _,Ys rfl⟩
   case round =>
    obtain⟨q,hq,rfl,hE,HA⟩:=hrel;have zU:=Vv.o.ext hE;have y0:=zU.c 0 (.int .i64 0) rfl;have y1:=zU.c 1 (.string ⟨#[]⟩) rfl;have y2:=zU.c 2 (.int .i64 0) rfl;have y3:=zU.c 3 (.int .i64 0) rfl;have y4:=zU.c 4 (.string ⟨#[]⟩) rfl;have f0:=zU.frozen 0;have f1:=zU.frozen 1;have f2:=zU.frozen 2;have f3:=zU.frozen 3;have f4:=zU.frozen 4;have yz:=zU.lt;have aa4:=Ys zU;have Hx:=nA.o.ext hE;have ae9:=Ys Hx;have HLr:=Ys (U3.o.ext hE);have Gd:Zs (Kp (·=l.D) w wr):=Ys (lN.o.trans hE.any);have AV:=Ys hE;by_cases bZ:q<fs.length
    · obtain⟨x,hx⟩:=jo fs q bZ;obtain⟨_,hxc,O4,j,fd,hj,hqj,hxk⟩:=adI.o q x hx;obtain⟨c,fV⟩:=M.jc hxc;have uO:M.cls p x.of=c:=by unfold M.cls;rw[fV];rfl
      rw[uO]at hj;have hjl:j<c.fields.length:=(List.getElem?_eq_some_iff.1 hj).1;have Gm:c.fields.length≤3:=tO HLr.o.ok fV;have U2:Zs (M.fieldName p ⟨rk,rn⟩ x=fd.name):=Ys (M.IZ (by rw[uO];exact hj) (by rw[O4,hqj]));have HGI:Zs (M.qV p k m ⟨rk,rn⟩ fs=if M.fieldName p ⟨rk,rn⟩ x=m then(if M.agree p k x.of.keeper x.kind then(x,1)else(M.ve,4))else M.qV p k m ⟨rk,rn⟩ (fs.drop (q+1))):=Ys (by rw[HA.o,jS hx];rfl);obtain⟨b,off,cs,rfl,J6,rfl, -,jh⟩:=HS.o.get hx;have Bo:=jh.ext hE;have g0:=Bo 0 (.int .i64 x.of.keeper) rfl;have g1:=Bo 1 (.string x.of.name) rfl;have g2:=Bo 2 (.int .i64 q) (by simp[jB,O4]);have g3:=Bo 3 (.int .i64 x.kind.kind) rfl;have g4:=Bo 4 (.string x.kind.name) rfl;rw[Nat.add_zero]at g0;have gz:=aG g0;have e0:=Hx.c 0 (.int .i64 rk) rfl;have e1:=Hx.c 1 (.string rn) rfl;have ez:=Hx.lt;obtain⟨W4,KR,dA,b13⟩:=nu wr #[.int .i64 x.of.keeper,.string x.of.name,.int .i64 q,.int .i64 x.kind.kind,.string x.kind.name] 166;have zD:=Ys KR;have HX:=Ys (And.intro O4 hxk);have pQ:=Ys fV;have HJ:=Ys hj;have HQJ:=Ys hqj;clear O4 hxk fV hj jh Bo hx hxc uO hqj y0 y1 y2 y3 y4 f0 f1 f2 f3 f4 KR zU Hx;go_wp2_with fail;rw[←zD.o];refine(BB _ _ _ (HLr.o.ext dA) ⟨x.of.keeper,x.of.name⟩ ⟨rk,rn⟩).mono ?_;rintro e w5 ⟨rfl,dC⟩;have hqj:q=M.jk p ⟨x.of.keeper,x.of.name⟩ ⟨rk,rn⟩+j:=HQJ.o;generalize M.jk p ⟨x.of.keeper,x.of.name⟩ ⟨rk,rn⟩=ff at*;obtain⟨cs,bO,ng⟩:=qR _ l p HLr.o x.of.keeper x.of.name c pQ.o;obtain⟨a1,c1,a2,c2,rfl⟩:=bO.form;obtain⟨vf',vm',Yg,sf, -⟩:=bO;simp only[List.cons.injEq,and_true,true_and]at Yg;obtain⟨rfl,rfl⟩:=Yg;have ym:∀W,(Instr.field 58 (.agg #[.string c.name,.string c.aQ,.slice a1 c.fields.length c1,.slice a2 c.methods.length c2]) 2).run Tryz.prog W=.ok (.slice a1 c.fields.length c1) W:=(fun W=>by kernel_rfl);obtain⟨bf,of,csf,rfl,hIf,rfl, -,PV⟩:=sf.get HJ.o;have aaa:Ext wr w5:=dA.trans dC;obtain⟨T,f,dB,HT⟩:=iq.ex (fun W'=>Ext w5 W') _ (Kp.refl _ _);have r0:=fun s=>(b13.ext (dC.trans (HT.aJ s))).c 0 (.int .i64 x.of.keeper) rfl;have r1:=fun s=>(b13.ext (dC.trans (HT.aJ s))).c 1 (.string x.of.name) rfl;have r2:=fun s=>(b13.ext (dC.trans (HT.aJ s))).c 2 (.int .i64 q) rfl;have r3:=fun s=>(b13.ext (dC.trans (HT.aJ s))).c 3 (.int .i64 x.kind.kind) rfl
      have r4:=fun s=>(b13.ext (dC.trans (HT.aJ s))).c 4 (.string x.kind.name) rfl;have rf:=fun s=>(PV.ext (aaa.trans (HT.aJ s))) 0 (.string fd.name) rfl;simp only[Nat.add_zero]at rf;have hw:IntKind.i64.wrap ((q:Int) - (ff:Int))=(j:Int):=by rw[IntWalk.i64_in _ (by omega)];omega
      have iV:(q:Int) - (ff:Int)=(j:Int):=by omega
      have Vl:(0:Int)≤(j:Int):=by omega
      have PY:(j:Int)<c.fields.length:=by omega
      have aj:=Ys HT;have Q4:=Ys ng;have Vy:=Ys aaa;have Vt:=Ys (b13.ext dC);have HQ:=Ys hqj;clear HT ng aaa b13 dC dA PV sf g0 g1 g2 g3 g4 e0 e1 hqj;by_cases yS:fd.name=m
      · have aeM:(fd.name.toList==m.toList)=true:=by rw[yS];simp
        have Vz:Zs (M.get p k n m=if M.agree p k x.of.keeper x.kind then(x,1)else(M.ve,4)):=Ys (by rw[HN.o,HGI.o,if_pos (by rw[U2.o];exact yS)]);clear yS;go_wp2_with fail;(refine Gv aj ?_ ?_);rotate_left;(repeat (go_big_quiet_step ((go_at_call 91;refine(Q4.o _ (Vy.o.trans (aj.o.aJ _)).any).mono ?_;rintro e w6 ⟨rfl,dK⟩;exact⟨rfl,aj.o.o w6 ((aj.o.aJ _).trans dK)⟩))));(refine wpQuiet_nil ?_);(rintro _ ⟨sW,rfl⟩);rotate_left
        · exact(Kp.refl _ _).drew
        go_wp2_with fail;have WT:Ext wr (f sW):=Vy.o.trans (aj.o.aJ sW);have SQ:=Vt.o.ext (aj.o.aJ sW);generalize f sW=w6 at*;clear aj r0 r1 r2 r3 r4 rf;refine(wL _ _ _ (HLr.o.ext WT) k x.of.keeper x.kind).mono ?_;rintro e w7 ⟨rfl,rE⟩;have TN:Ext wr w7:=WT.trans rE;have EC:=SQ.ext rE;have zT:=aa4.o.ext TN;have y0:=zT.c 0 (.int .i64 0) rfl;have y1:=zT.c 1 (.string ⟨#[]⟩) rfl;have y2:=zT.c 2 (.int .i64 0) rfl;have y3:=zT.c 3 (.int .i64 0) rfl;have y4:=zT.c 4 (.string ⟨#[]⟩) rfl;have f0:=zT.frozen 0;have f1:=zT.frozen 1;have f2:=zT.frozen 2;have f3:=zT.frozen 3;have f4:=zT.frozen 4;have yz:=zT.lt;have aa3:=Ys zT;have Kh:=Ys (HLr.o.ext TN);have lQ:Zs (Kp (·=l.D) w w7):=Ys (Gd.o.trans TN.any);cases EH:M.agree p k x.of.keeper x.kind
        · have Pm:Zs (M.get p k n m=(M.ve,4)):=Ys (by rw[Vz.o,EH];rfl);clear EC SQ zT TN WT rE EH;go_wp2_with fail;have hs:=Kp.qP (D:=(·=w.heap.size)) (w:=w7) rfl (.int .i64 0) (.string ⟨#[]⟩) (.int .i64 0) (.int .i64 0) (.string ⟨#[]⟩);have hb:=aa3.o.qP (.int .i64 0) (.string ⟨#[]⟩) (.int .i64 0) (.int .i64 0) (.string ⟨#[]⟩);refine bodyPost_ret (ai rV rfl _ _ w.heap.size rfl (jB M.ve) ((ae.gX hb).ext ((Kp.refl _ _).alloc _)) rfl) rfl ?_;rw[Pm.o];refine⟨⟨_,rfl,.inr ⟨by simp,w7.heap.size,rfl,?_⟩⟩,(Kh.o.kp hs (fun k hk e=>by omega)).ext ((Kp.refl _ _).alloc _),(lQ.o.own hs (fun k hk=>by omega)).alloc _⟩;have:=aC.new (((((w7.setCell ⟨w.heap.size,0,none⟩ (.int .i64 0)).setCell ⟨w.heap.size,1,none⟩ (.string ⟨#[]⟩)).setCell ⟨w.heap.size,2,none⟩ (.int .i64 0)).setCell ⟨w.heap.size,3,none⟩ (.int .i64 0)).setCell ⟨w.heap.size,4,none⟩ (.string ⟨#[]⟩)) 162 #[.int .i64 4];simpa using this
        · have Pm:Zs (M.get p k n m=(x,1)):=Ys (by rw[Vz.o,EH];rfl);have e0:=EC.c 0 (.int .i64 x.of.keeper) rfl;have e1:=EC.c 1 (.string x.of.name) rfl;have e2:=EC.c 2 (.int .i64 q) rfl;have e3:=EC.c 3 (.int .i64 x.kind.kind) rfl;have e4:=EC.c 4 (.string x.kind.name) rfl;clear EC SQ zT TN WT rE EH;go_wp2_with fail;have hs:=Kp.qP (D:=(·=w.heap.size)) (w:=w7) rfl (.int .i64 x.of.keeper) (.string x.of.name) (.int .i64 q) (.int .i64 x.kind.kind) (.string x.kind.name);have hb:=aa3.o.qP (.int .i64 x.of.keeper) (.string x.of.name) (.int .i64 q) (.int .i64 x.kind.kind) (.string x.kind.name);have hxq:jB x=[.int .i64 x.of.keeper,.string x.of.name,.int .i64 q,.int .i64 x.kind.kind,.string x.kind.name]:=by unfold jB;rw[HX.o.1]
          rw[Pm.o];refine bodyPost_ret (ai rV rfl _ _ w.heap.size rfl (jB x) (by rw[hxq];exact ae.gX hb) rfl) rfl ?_;exact⟨⟨_,rfl,.inl ⟨rfl,rfl⟩⟩,Kh.o.kp hs (fun k hk e=>by omega),lQ.o.own hs (fun k hk=>by omega)⟩
      · have aeM:(fd.name.toList==m.toList)=false:=by rw[jZ];exact decide_eq_false yS
        have Vz:Zs (M.qV p k m ⟨rk,rn⟩ fs=M.qV p k m ⟨rk,rn⟩ (fs.drop (q+1))):=Ys (by rw[HGI.o,if_neg (by rw[U2.o];exact yS)]);clear yS;go_wp2_with fail;(refine Gv aj ?_ ?_);rotate_left;(repeat (go_big_quiet_step ((go_at_call 91;refine(Q4.o _ (Vy.o.trans (aj.o.aJ _)).any).mono ?_;rintro e w6 ⟨rfl,dK⟩;exact⟨rfl,aj.o.o w6 ((aj.o.aJ _).trans dK)⟩))));(refine wpQuiet_nil ?_);(rintro _ ⟨sW,rfl⟩);rotate_left
        · exact(Kp.refl _ _).drew
        go_wp2_with fail;have hwr:=AV.o.trans (Vy.o.trans (aj.o.aJ sW));refine⟨⟨q+1,by omega,by go_num,hwr,Vz⟩,by simp[intOf];omega⟩
    · have Pm:Zs (M.get p k n m=(M.ve,3)):=Ys (by rw[HN.o,HA.o,List.drop_eq_nil_of_le (by omega)];rfl);clear zU Hx;go_wp2_with fail;have hs:=Kp.qP (D:=(·=w.heap.size)) (w:=wr) rfl (.int .i64 0) (.string ⟨#[]⟩) (.int .i64 0) (.int .i64 0) (.string ⟨#[]⟩);have hb:=aa4.o.qP (.int .i64 0) (.string ⟨#[]⟩) (.int .i64 0) (.int .i64 0) (.string ⟨#[]⟩);refine bodyPost_ret (ai rV rfl _ _ w.heap.size rfl (jB M.ve) ((ae.gX hb).ext ((Kp.refl _ _).alloc _)) rfl) rfl ?_;rw[Pm.o];refine⟨⟨_,rfl,.inr ⟨by simp,wr.heap.size,rfl,?_⟩⟩,(HLr.o.kp hs (fun k hk e=>by omega)).ext ((Kp.refl _ _).alloc _),(Gd.o.own hs (fun k hk=>by omega)).alloc _⟩;have:=aC.new (((((wr.setCell ⟨w.heap.size,0,none⟩ (.int .i64 0)).setCell ⟨w.heap.size,1,none⟩ (.string ⟨#[]⟩)).setCell ⟨w.heap.size,2,none⟩ (.int .i64 0)).setCell ⟨w.heap.size,3,none⟩ (.int .i64 0)).setCell ⟨w.heap.size,4,none⟩ (.string ⟨#[]⟩)) 162 #[.int .i64 3];simpa using this
 · have U0:=Ys heb;have HC:=Ys hc;clear heb hc;have HN:Zs (M.get p k n m=(M.ve,code)):=Ys (by rw[HK.o,if_neg HC.o]);have aak:¬eb=w.heap.size:=fun e=>by subst e;exact absurd (aC.inj U0.o vB.o) (by decide)
   go_wp2_with fail;have hs:=Kp.qP (D:=(·=w.heap.size)) (w:=w2) rfl (.int .i64 0) (.string ⟨#[]⟩) (.int .i64 0) (.int .i64 0) (.string ⟨#[]⟩);have hb:=vB.o.qP (.int .i64 0) (.string ⟨#[]⟩) (.int .i64 0) (.int .i64 0) (.string ⟨#[]⟩);refine bodyPost_ret (ai rV rfl _ _ w.heap.size rfl (jB M.ve) ((ae.gX hb).ext ((Kp.refl _ _).alloc _)) rfl) rfl ?_;rw[HN.o];exact⟨⟨_,rfl,.inr ⟨HC.o,eb,rfl,(U0.o.kp hs aak).ext ((Kp.refl _ _).alloc _)⟩⟩,(zA.o.kp hs (fun k hk e=>by omega)).ext ((Kp.refl _ _).alloc _),(zy.o.own hs (fun k hk=>by omega)).alloc _⟩
theorem fJ(w:World)(l:aI)(p:M.au)(h:aF w l p)(x:M.kT)(hx:M.cK p x=true):
    Calls Tryz.prog 48 #[.pointer (some ⟨l.L,0,none⟩),.agg #[.int .i64 x.of.keeper,.string x.of.name,.int .i64 x.at_]] w fun e w'=>
     (∃cs,aH w' (· <l.O) (M.method p x) cs∧e=.returned (.agg cs.toArray))∧Ext w w':=by
 obtain⟨_,i,c,m,h1,h2,h3,h4⟩:=M.oM hx;have e:M.method p x=m:=by unfold M.method;rw[h4];rfl
 rw[e,h1];exact Jz w l p h x.of.keeper x.of.name i c m h2 h3
theorem aC.newAt{W:World}{g:Nat}(t:TypeId)(cs:Array Value)(h:W.heap.size=g):aC (W.alloc (.cells cs t)) g t cs:=by
 subst h;exact aC.new W t cs
def yX(x:M.kT):List Value:=[.int .i64 x.of.keeper,.string x.of.name,.int .i64 x.at_]
theorem Kp.qO{D:Nat→Prop}{w:World}{b:Nat}(hD:D b)(v0 v1 v2:Value):Kp D w (((w.setCell ⟨b,0,none⟩ v0).setCell ⟨b,1,none⟩ v1).setCell ⟨b,2,none⟩ v2):=
 (((Kp.refl D w).setCell (p:=⟨b,0,none⟩) (fun _=>hD) v0).setCell (p:=⟨b,1,none⟩) (fun _=>hD) v1).setCell (p:=⟨b,2,none⟩) (fun _=>hD) v2
theorem aC.qO{w:World}{b:Nat}{t:TypeId}{u0 u1 u2:Value}(h:aC w b t #[u0,u1,u2])(v0 v1 v2:Value):aC (((w.setCell ⟨b,0,none⟩ v0).setCell ⟨b,1,none⟩ v1).setCell ⟨b,2,none⟩ v2) b t #[v0,v1,v2]:=
 ((h.bI 0 v0).bI 1 v1).bI 2 v2
theorem uo(w:World)(l:aI)(p:M.au)(h:aF w l p)(k:Int)(n m:ByteArray):
    Calls Tryz.prog 46 #[.pointer (some ⟨l.L,0,none⟩),.int .i64 k,.string n,.string m] w fun e w'=>
     (∃ev,e=.returned (.tuple #[.agg (yX (M.call p k n m).1).toArray,ev])∧DX w' ev (M.call p k n m).2)∧aF w' l p∧Kp (·=l.D) w w':=by
 have Mi:=h.IW;have Cu:=h.lt;have hO:=h.ord;obtain⟨w1,kS⟩:∃w1,w1=w.alloc (.cells #[.int .i64 0,.string ⟨#[]⟩,.int .i64 0] 42):=⟨_,rfl⟩;have aU:Ext w w1:=by rw[kS];exact kx
 have H:=Ys (h.ext aU);have b8:aC w1 w.heap.size 42 #[.int .i64 0,.string ⟨#[]⟩,.int .i64 0]:=by rw[kS];exact aC.new w _ _
 have Gt:w1.heap.size=w.heap.size+1:=by rw[kS];simp
 have bJ:=Ys aU;have Ee:=Ys kS;have HK:Zs (M.call p k n m=if(M.bN p k n m).2=1 then
  (match M.pick p (M.bN p k n m).1 m with
  |none=>(M.kL,3)
  |some x=>if M.eD p k x.of.keeper (M.method p x)then(x,1)else(M.kL,4))
 else(M.kL,(M.bN p k n m).2)):=Ys rfl
 clear h aU kS;go_enter Tryz.func46,Tryz.ntmps46;go_wp2_with fail;rw[←Ee.o];refine(uU _ _ _ H.o _ _ _).mono ?_;rintro e w2 ⟨⟨ev,rfl,mV⟩,hL2,af⟩;generalize M.bN p k n m=F at*;obtain⟨⟨rk,rn⟩,code⟩:=F;simp only at*;have zJ:=b8.kp af (by omega);have EX:=af.size;have y0:=zJ.c 0 (.int .i64 0) rfl;have y1:=zJ.c 1 (.string ⟨#[]⟩) rfl;have y2:=zJ.c 2 (.int .i64 0) rfl;have f0:=zJ.frozen 0;have f1:=zJ.frozen 1;have f2:=zJ.frozen 2;have yz:=zJ.lt;have zA:=Ys hL2;have zy:Zs (Kp (·=l.D) w w2):=Ys (bJ.o.any.trans af);have vB:=Ys zJ;clear hL2 af b8 zJ;rcases mV with⟨rfl,rfl⟩|⟨hc,eb,rfl,heb⟩
 · have HN:Zs (M.call p k n m=match M.pick p ⟨rk,rn⟩ m with
    |none=>(M.kL,3)
    |some x=>if M.eD p k x.of.keeper (M.method p x)then(x,1)else(M.kL,4)):=Ys (by rw[HK.o,if_pos rfl])
   have bP:Ext w2 (w2.alloc (.cells #[.int .i64 rk,.string rn] 40)):=kx;clear y0 y1 y2 f0 f1 f2 yz;go_wp2_with fail;refine(Fg _ _ _ (zA.o.ext bP) ⟨rk,rn⟩ m).mono ?_;rintro e w3 ⟨rfl,Hy,nX⟩;have K7:=nX.size;simp only[World.size_alloc]at K7;have I7:=(vB.o.ext bP).kp nX (by omega);have y0:=I7.c 0 (.int .i64 0) rfl;have y1:=I7.c 1 (.string ⟨#[]⟩) rfl;have y2:=I7.c 2 (.int .i64 0) rfl;have f0:=I7.frozen 0;have f1:=I7.frozen 1;have f2:=I7.frozen 2;have yz:=I7.lt;have Vv:=Ys I7;have U3:=Ys Hy;have lN:Zs (Kp (·=l.D) w w3):=Ys ((zy.o.trans bP.any).trans nX);clear Hy nX bP I7;cases hp:M.pick p ⟨rk,rn⟩ m with
   |none=>
    have HR:Zs (M.call p k n m=(M.kL,3)):=Ys (by rw[HN.o,hp]);clear hp;simp only[Option.getD_none,Option.isSome_none,kL];go_wp2_with fail;have hs:=Kp.qO (D:=(·=w.heap.size)) (w:=w3) rfl (.int .i64 0) (.string ⟨#[]⟩) (.int .i64 0);have hb:=Vv.o.qO (.int .i64 0) (.string ⟨#[]⟩) (.int .i64 0);refine bodyPost_ret (ai zG rfl _ _ w.heap.size rfl (yX M.kL) (((ae.gX hb).ext ((Kp.refl _ _).alloc _)).ext ((Kp.refl _ _).alloc _)) rfl) rfl ?_;rw[HR.o];exact⟨⟨_,rfl,.inr ⟨by simp,w3.heap.size+1,rfl,aC.newAt _ _ (by simp)⟩⟩,((U3.o.kp hs (fun k hk e=>by omega)).ext ((Kp.refl _ _).alloc _)).ext ((Kp.refl _ _).alloc _),((lN.o.own hs (fun k hk=>by omega)).alloc _).alloc _⟩
   |some x=>
    have HX:=Ys (M.jW hp);have HR:Zs (M.call p k n m=if M.eD p k x.of.keeper (M.method p x)then(x,1)else(M.kL,4)):=Ys (by rw[HN.o,hp]);clear hp;simp only[Option.getD_some,Option.isSome_some];obtain⟨W4,KR,dA,b12⟩:=nu w3 #[.int .i64 x.of.keeper,.string x.of.name,.int .i64 x.at_] 42;obtain⟨T,f,dB,HT⟩:=iq.ex (fun W'=>Ext W4 W') _ (Kp.refl _ _);have r0:=fun s=>(b12.ext (HT.aJ s)).c 0 (.int .i64 x.of.keeper) rfl;have r1:=fun s=>(b12.ext (HT.aJ s)).c 1 (.string x.of.name) rfl;have r2:=fun s=>(b12.ext (HT.aJ s)).c 2 (.int .i64 x.at_) rfl;have aj:=Ys HT;have zD:=Ys KR;have gZ:=Ys dA;have YS:=Ys b12;have Zg:=Ys (U3.o.ext dA);have adh:=Ys (Vv.o.ext dA);have zk:Zs (Kp (·=l.D) w W4):=Ys (lN.o.trans dA.any);clear y0 y1 y2 f0 f1 f2 yz HT KR dA b12;go_wp2_with fail;rw[←zD.o];(refine dZ aj 10 [([0,1,2,3,4,5,6],7),([],8)] [9] ?_ ?_)
    · exact(Kp.refl _ _).drew
    (refine di [_,_,_,_,_,_,_] rfl rfl fun K hK=>?_);(repeat (go_big_quiet_step (fail)));(refine qn hK fun K2 af=>?_);clear hK K;go_wp2_with fail;refine(fJ _ _ _ (Zg.o.ext (Kp.refl _ _).drew) x HX.o).mono ?_;rintro e w5 ⟨⟨cs,lu,rfl⟩,dC⟩;have rD:Ext W4 w5:=((Kp.refl _ _).drew:Ext W4 _).trans dC;have Gf:=Ys lu;obtain⟨a1,c1,a2,c2,a3,c3,rfl⟩:=lu.form;clear lu dC;go_wp2_with fail;(refine kk aj af rD ?_);clear af K2;(refine ic rfl fun K2 af=>?_);go_wp2_with fail;refine(qZ _ _ _ (Zg.o.ext rD) k x.of.keeper _ _ _ Gf.o).mono ?_;rintro e w6 ⟨rfl,dK⟩;have PL:=rD.trans dK;have I8:=adh.o.ext PL;have y0:=I8.c 0 (.int .i64 0) rfl;have y1:=I8.c 1 (.string ⟨#[]⟩) rfl;have y2:=I8.c 2 (.int .i64 0) rfl;have f0:=I8.frozen 0;have f1:=I8.frozen 1;have f2:=I8.frozen 2;have yz:=I8.lt;have OE:=YS.o.ext PL;have z0:=OE.c 0 (.int .i64 x.of.keeper) rfl;have z1:=OE.c 1 (.string x.of.name) rfl;have z2:=OE.c 2 (.int .i64 x.at_) rfl;have Vw:=Ys I8;have HL6:=Ys (Zg.o.ext PL);have Gc:Zs (Kp (·=l.D) w w6):=Ys (zk.o.trans PL.any);have adr:=Ys PL;clear dK rD I8 OE r0 r1 r2 PL;go_wp2_with fail;(refine kk aj af adr.o ?_);clear af K2;cases EH:M.eD p k x.of.keeper (M.method p x)
    · have GH:Zs (M.call p k n m=(M.kL,4)):=Ys (by rw[HR.o,EH];rfl);clear EH;(refine dI [_] rfl rfl fun K hK=>?_);(repeat (go_big_quiet_step (fail)));(refine qn hK ?_);clear hK K;go_wp2_with fail;have hs:=Kp.qO (D:=(·=w.heap.size)) (w:=w6) rfl (.int .i64 0) (.string ⟨#[]⟩) (.int .i64 0);have hb:=Vw.o.qO (.int .i64 0) (.string ⟨#[]⟩) (.int .i64 0);refine bodyPost_ret (ai zG rfl _ _ w.heap.size rfl (yX M.kL) ((ae.gX hb).ext ((Kp.refl _ _).alloc _)) rfl) rfl ?_;rw[GH.o];exact⟨⟨_,rfl,.inr ⟨by simp,w6.heap.size,rfl,aC.newAt _ _ (by simp)⟩⟩,(HL6.o.kp hs (fun k hk e=>by omega)).ext ((Kp.refl _ _).alloc _),(Gc.o.own hs (fun k hk=>by omega)).alloc _⟩
    · have GH:Zs (M.call p k n m=(x,1)):=Ys (by rw[HR.o,EH];rfl);clear EH;(refine dI [_] rfl rfl fun K hK=>?_);(repeat (go_big_quiet_step (fail)));(refine qn hK ?_);clear hK K;go_wp2_with fail;have hs:=Kp.qO (D:=(·=w.heap.size)) (w:=w6) rfl (.int .i64 x.of.keeper) (.string x.of.name) (.int .i64 x.at_);have hb:=Vw.o.qO (.int .i64 x.of.keeper) (.string x.of.name) (.int .i64 x.at_);refine bodyPost_ret (ai zG rfl _ _ w.heap.size rfl (yX x) (ae.gX hb) rfl) rfl ?_;rw[GH.o];exact⟨⟨_,rfl,.inl ⟨rfl,rfl⟩⟩,HL6.o.kp hs (fun k hk e=>by omega),Gc.o.own hs (fun k hk=>by omega)⟩
 · have U0:=Ys heb;have HC:=Ys hc;clear heb hc;have HN:Zs (M.call p k n m=(M.kL,code)):=Ys (by rw[HK.o,if_neg HC.o]);have aak:¬eb=w.heap.size:=fun e=>by subst e;exact absurd (aC.inj U0.o vB.o) (by decide)
   go_wp2_with fail;have hs:=Kp.qO (D:=(·=w.heap.size)) (w:=w2) rfl (.int .i64 0) (.string ⟨#[]⟩) (.int .i64 0);have hb:=vB.o.qO (.int .i64 0) (.string ⟨#[]⟩) (.int .i64 0);refine bodyPost_ret (ai zG rfl _ _ w.heap.size rfl (yX M.kL) ((ae.gX hb).ext ((Kp.refl _ _).alloc _)) rfl) rfl ?_;rw[HN.o];exact⟨⟨_,rfl,.inr ⟨HC.o,eb,rfl,(U0.o.kp hs aak).ext ((Kp.refl _ _).alloc _)⟩⟩,(zA.o.kp hs (fun k hk e=>by omega)).ext ((Kp.refl _ _).alloc _),(zy.o.own hs (fun k hk=>by omega)).alloc _⟩
def zi(n:Int):List PanicEntry:=[{v:=.iface 241 (.agg #[.int .i64 n]),recovered:=false}]
end Go.Proofs.YtcepdbbapgfcdaaGreat
namespace Go.Proofs.YtcepdbbapgfcdaaGreat
open Go Go.RowKit
structure oV where
 a1:Option Addr
 c1:Nat
 a2:Option Addr
 c2:Nat
 a3:Option Addr
 c3:Nat
def ig(m:M.Method)(t:oV):List Value:=[.string m.name,.slice t.a1 m.args.length t.c1,.int .i64 m.ret.kind,.string m.ret.name,.int .i64 m.locals,.int .i64 m.stack,.slice t.a2 m.code.length t.c2,.slice t.a3 m.maps.length t.c3]
def ND(L:Nat)(k:Int)(m:M.Method)(t:oV)(at_:Int)(vl vs:Value):Array Value:=
 #[.pointer (some ⟨L,0,none⟩),.int .i64 k,.string m.name,.slice t.a1 m.args.length t.c1,.int .i64 m.ret.kind,.string m.ret.name,.int .i64 m.locals,.int .i64 m.stack,.slice t.a2 m.code.length t.c2,.slice t.a3 m.maps.length t.c3,.int .i64 at_,vl,vs]
structure aR(w:World)(l:aI)(p:M.au)(B kb:Nat)(k:Int)(m:M.Method)(t:oV)(at_:Int)(s:M.jv)(vl vs:Value):Prop where
 dP:aF w l p
 hB:l.L<B
 hk:B≤kb
 ml:aH w (· <l.O) m (ig m t)
 mi:M.Eg m
 blk:aC w kb 238 (ND l.L k m t at_ vl vs)
 loc:w.ownsRow B 66 2 vl s.locals.length (s.locals.flatMap ik)
 dG:w.ownsRow B 66 2 vs s.stack.length (s.stack.flatMap ik)
 ne:∀g,vl.ownBlock=some g→vs.ownBlock≠some g
 tX:0≤at_∧at_≤100
 YH:(s.stack.length:Int)≤m.stack
 Uq:(s.locals.length:Int)=m.locals
def iW(l:aI)(kb:Nat)(vl vs:Value)(b:Nat):Prop:=b=l.D∨b=kb∨vl.ownBlock=some b∨vs.ownBlock=some b
def bX(n:Nat)(vl vs sS vs':Value):Prop:=∀g,(sS.ownBlock=some g∨vs'.ownBlock=some g)→vl.ownBlock=some g∨vs.ownBlock=some g∨n≤g
theorem bX.refl(n:Nat)(vl vs:Value):bX n vl vs vl vs:=fun _ h=>h.elim .inl fun h=>.inr (.inl h)
theorem bX.trans{n n':Nat}{a b c d e f:Value}(h:bX n a b c d)(h':bX n' c d e f)(hn:n≤n'):bX n a b e f:=fun g hg=>by
 rcases h' g hg with h1|h1|h1
 · exact h g (.inl h1)
 · exact h g (.inr h1)
 · exact .inr (.inr (by omega))
theorem Kp.look{l:aI}{kb:Nat}{vl vs sS vs':Value}{w a b:World}(h:Kp (iW l kb vl vs) w a)(hk:Kp (iW l kb sS vs') a b)(hO:bX w.heap.size vl vs sS vs'):Kp (iW l kb vl vs) w b:=
 ⟨hk.os.trans h.os,hk.tape.trans h.tape,hk.output.trans h.output,Nat.le_trans h.size hk.size,
  fun k Br hd=>(hk.block k (Nat.lt_of_lt_of_le Br h.size) (fun x=>hd (by
   rcases x with x|x|x|x
   · exact .inl x
   · exact .inr (.inl x)
   · rcases hO k (.inl x)with y|y|y
     · exact .inr (.inr (.inl y))
     · exact .inr (.inr (.inr y))
     · exact absurd Br (Nat.not_lt.2 y)
   · rcases hO k (.inr x)with y|y|y
     · exact .inr (.inr (.inl y))
     · exact .inr (.inr (.inr y))
     · exact absurd Br (Nat.not_lt.2 y)))).trans (h.block k Br hd)⟩
theorem BJ{w:World}{base e k n c g:Nat}{xs:List Value}(h:w.ownsRow base e k (.slice (some ⟨g,0,none⟩) n c) n xs){j:Nat}(hj:j≤n):w.ownsRow base e k (.slice (some ⟨g,0,none⟩) j c) j (xs.take (j*k)):=by
 have Wv:j*k≤n*k:=Nat.mul_le_mul_right _ hj;refine⟨by rw[List.length_take,h.1];omega,?_⟩;rcases h.2 with⟨h1,_⟩|⟨g',cap,cur,h1,hg,hb,hle,hm,j6,Vo⟩
 · cases h1
 · cases h1;refine .inr ⟨g,c,cur,rfl,hg,hb,by omega,hm,j6,?_⟩;rw[←Vo,List.take_take,Nat.min_eq_left Wv]
theorem Bg{α:Type}{enc:α→List Value}{k:Nat}(GR:∀x,(enc x).length=k)(st r:List α):((st++r).flatMap enc).take (st.length*k)=st.flatMap enc:=by
 rw[List.flatMap_append,←je GR st,List.take_left]
section
variable {w w':World} {l:aI} {p:M.au} {B kb:Nat} {k:Int} {m:M.Method} {t:oV} {at_:Int} {s:M.jv} {vl vs:Value}
theorem aR.YE(h:aR w l p B kb k m t at_ s vl vs):vl.ownBlock≠some kb∧vs.ownBlock≠some kb:=by
 constructor
 · intro e;rcases h.loc.2 with⟨h1,_⟩|⟨g,cap,cur,h1,hg,hb,_⟩
   · rw[h1]at e;cases e
   · rw[h1]at e;cases e;exact absurd (aC.inj (show aC w g 66 cur from hb) h.blk) (by decide)
 · intro e;rcases h.dG.2 with⟨h1,_⟩|⟨g,cap,cur,h1,hg,hb,_⟩
   · rw[h1]at e;cases e
   · rw[h1]at e;cases e;exact absurd (aC.inj (show aC w g 66 cur from hb) h.blk) (by decide)
theorem aR.kp{D:Nat→Prop}(h:aR w l p B kb k m t at_ s vl vs)(hk:Kp D w w')(hL:aF w' l p)(hD:∀b,B≤b→b<w.heap.size→¬D b)(hO:∀b,b<l.O→¬D b):aR w' l p B kb k m t at_ s vl vs:=
 ⟨hL,h.hB,h.hk,bQ.kp aH.stays hk (fun b hb=>hO b hb) h.ml,h.mi,h.blk.kp hk (hD _ h.hk h.blk.lt),aD h.loc hk (fun g hg hb=>hD g hb (h.loc.lt g hg).2),aD h.dG hk (fun g hg hb=>hD g hb (h.dG.lt g hg).2),h.ne,h.tX,h.YH,h.Uq⟩
theorem aR.ext(h:aR w l p B kb k m t at_ s vl vs)(hE:Ext w w'):aR w' l p B kb k m t at_ s vl vs:=
 h.kp hE (h.dP.ext hE) (fun _ _ _ x=>x) (fun _ _ x=>x)
theorem aR.kg(h:aR w l p B kb k m t at_ s vl vs)(hk:Kp (·=l.D) w w')(hL:aF w' l p):aR w' l p B kb k m t at_ s vl vs:=
 h.kp hk hL (fun b hb _ e=>by have:=h.hB;have:=hL.ord;omega) (fun b hb e=>by have:=hL.ord;omega)
theorem aR.setStack(h:aR w l p B kb k m t at_ s vl vs){st:List M.Tag}{vs':Value}(hk:Kp (fun b=>b=kb∨vs.ownBlock=some b) w w')
    (hb:aC w' kb 238 (ND l.L k m t at_ vl vs')) (ho:w'.ownsRow B 66 2 vs' st.length (st.flatMap ik)) (hn:∀g,vs'.ownBlock=some g→vs.ownBlock=some g∨w.heap.size≤g) (j6:(st.length:Int)≤m.stack):
    aR w' l p B kb k m t at_ ⟨s.locals,st⟩ vl vs'∧Kp (iW l kb vl vs) w w'∧bX w.heap.size vl vs vl vs':=by
 have hBk:=h.hk;have hB:=h.hB;have hO:=h.dP.ord;have vH:∀b,b≤l.L→¬(b=kb∨vs.ownBlock=some b):=fun b hbl e=>by
  rcases e with e|e
  · omega
  · have:=(h.dG.lt b e).1;omega
 refine⟨⟨h.dP.kp hk vH,h.hB,h.hk,bQ.kp aH.stays hk (fun b hb=>vH b (by omega)) h.ml,h.mi,hb,?_,ho,?_,h.tX,j6,h.Uq⟩,hk.weak fun b _ e=>?_,fun g hg=>?_⟩
 · refine aD h.loc hk fun g hg _ e=>?_;rcases e with e|e
   · subst e;exact h.YE.1 hg
   · exact h.ne g hg e
 · intro g hg e;rcases hn g e with e|e
   · exact h.ne g hg e
   · have:=(h.loc.lt g hg).2;omega
 · rcases e with e|e
   · exact .inr (.inl e)
   · exact .inr (.inr (.inr e))
 · rcases hg with e|e
   · exact .inl e
   · rcases hn g e with e|e
     · exact .inr (.inl e)
     · exact .inr (.inr e)
end
end Go.Proofs.YtcepdbbapgfcdaaGreat
namespace Go.Proofs.YtcepdbbapgfcdaaGreat
open Go Go.RowKit
def bu(w:World)(l:aI)(p:M.au)(B kb:Nat)(k:Int)(m:M.Method)(t:oV)(at_:Int)(vl vs:Value)(o:Option M.jv)(e:Ending)(w':World):Prop:=
 Kp (iW l kb vl vs) w w'∧aF w' l p∧
 ((o=none∧e=.panicked (zi (at_+1)))∨∃s',o=some s'∧e=.returned (.tuple #[])∧∃sS vs',aR w' l p B kb k m t at_ s' sS vs'∧bX w.heap.size vl vs sS vs')
theorem V5{α:Type}{enc:α→List Value}{k:Nat}(GR:∀x,(enc x).length=k):∀(l:List α) (i:Nat) (x:α),l[i]?=some x→∀j u,(enc x)[j]?=some u→(l.flatMap enc)[i*k+j]?=some u:=by
 intro l;induction l with
 |nil=>intro i x h;simp at h
 | cons y r ih =>
  intro i x hx j u hj;rw[List.flatMap_cons];cases i with
  |zero=>
   simp at hx;subst hx;rw[List.getElem?_append_left (by rw[Nat.zero_mul,Nat.zero_add];exact(List.getElem?_eq_some_iff.1 hj).1),Nat.zero_mul,Nat.zero_add];exact hj
  |succ i=>
   rw[List.getElem?_append_right (by rw[GR,Nat.succ_mul];omega),GR,show(i+1)*k+j - k=i*k+j from by rw[Nat.succ_mul];omega];exact ih i x (by simpa using hx) j u hj
theorem eZ{α:Type}{enc:α→List Value}{k:Nat}(GR:∀x,(enc x).length=k){w:World}{base e g n c:Nat}{l:List α}(h:w.ownsRow base e k (.slice (some ⟨g,0,none⟩) n c) n (l.flatMap enc)){i:Nat}{x:α}(hx:l[i]?=some x):
    ae w g (i*k) (enc x):=by
 intro j v hj;have:=h.cells (g:=g) rfl _ _ (V5 GR l i x hx j v hj);unfold Addr.add at this;split at this
 · rename_i h0;rw[h0];exact this
 · simpa using this
theorem fF{w:World}{base base':Nat}{e:TypeId}{size:Nat}{v:Value}{n:Nat}{xs:List Value}(h:w.ownsRow base e size v n xs)(hb:base'≤base):w.ownsRow base' e size v n xs:=
 ⟨h.1,h.2.imp id fun⟨g,cap,cur,e1,hg,r⟩=>⟨g,cap,cur,e1,Nat.le_trans hb hg,r⟩⟩
theorem aR.fresh{w w':World}{l:aI}{p:M.au}{B kb:Nat}{k:Int}{m:M.Method}{t:oV}{at_:Int}{s s':M.jv}{vl vs v1 v2:Value}(h:aR w l p B kb k m t at_ s vl vs)
    (hb:aC w' kb 238 (ND l.L k m t at_ v1 v2)) (hk:Kp (·=kb) w w') (o1:w'.ownsRow w.heap.size 66 2 v1 s'.locals.length (s'.locals.flatMap ik)) (o2:w'.ownsRow w.heap.size 66 2 v2 s'.stack.length (s'.stack.flatMap ik))
    (ne:∀g,v1.ownBlock=some g→v2.ownBlock≠some g) (hl:(s'.locals.length:Int)=m.locals) (hs:(s'.stack.length:Int)≤m.stack):
    Kp (iW l kb vl vs) w w'∧aF w' l p∧∃sS vs',aR w' l p B kb k m t at_ s' sS vs'∧bX w.heap.size vl vs sS vs':=by
 have hBk:=h.hk;have hB:=h.hB;have hO:=h.dP.ord;have hz:=h.blk.lt;have hL:aF w' l p:=h.dP.kp hk (fun b hb e=>by omega);refine⟨hk.weak fun b _ e=>.inr (.inl e),hL,v1,v2,⟨hL,h.hB,h.hk,bQ.kp aH.stays hk (fun b hb e=>by omega) h.ml,h.mi,hb,fF o1 (by omega),fF o2 (by omega),ne,h.tX,hs,hl⟩,fun g hg=>?_⟩;rcases hg with e|e
 · exact .inr (.inr (o1.lt g e).1)
 · exact .inr (.inr (o2.lt g e).1)
end Go.Proofs.YtcepdbbapgfcdaaGreat
namespace Go.Proofs.YtcepdbbapgfcdaaGreat
open Go Go.RowKit
section
variable {w w1 w2:World} {l:aI} {p:M.au} {B kb:Nat} {k:Int} {m:M.Method} {t:oV} {at_:Int} {vl vs J8 vs1:Value} {o:Option M.jv} {e:Ending} {s':M.jv}
theorem bu.after(hK:Kp (iW l kb vl vs) w w1)(hO:bX w.heap.size vl vs J8 vs1)(h:bu w1 l p B kb k m t at_ J8 vs1 o e w2):bu w l p B kb k m t at_ vl vs o e w2:=
 ⟨hK.look h.1 hO,h.2.1,h.2.2.imp id fun⟨s',h1,h2,a,b,h3,h4⟩=>⟨s',h1,h2,a,b,h3,hO.trans h4 hK.size⟩⟩
theorem bu.behind(hE:Ext w w1)(h:bu w1 l p B kb k m t at_ vl vs o e w2):bu w l p B kb k m t at_ vl vs o e w2:=
 bu.after hE.any (bX.refl _ _ _) h
end
theorem aC.set2{w:World}{b:Nat}{t:TypeId}{u0 u1:Value}(h:aC w b t #[u0,u1])(v0 v1:Value):aC ((w.setCell ⟨b,0,none⟩ v0).setCell ⟨b,1,none⟩ v1) b t #[v0,v1]:=
 (h.bI 0 v0).bI 1 v1
end Go.Proofs.YtcepdbbapgfcdaaGreat
namespace Go.Proofs.YtcepdbbapgfcdaaGreat
open Go Go.RowKit
theorem PE:∀(ls:List M.Tag) (q:Nat) (x:M.Tag),((ls.flatMap ik).set (q*2) (.int .i64 x.kind)).set (q*2+1) (.string x.name)=(ls.set q x).flatMap ik:=by
 intro ls;induction ls with
 |nil=>intro q x;rfl
 | cons y r ih =>
  intro q x;cases q with
  |zero=>simp[ik]
  |succ q=>
   have:=ih q x;rw[show(q+1)*2=q*2+2 from by omega];simp[ik,List.flatMap_cons,List.set_cons_succ]at this ⊢;exact this
theorem aR.wW{w:World}{l:aI}{p:M.au}{B kb:Nat}{k:Int}{m:M.Method}{t:oV}{at_:Int}{s:M.jv}{lg Ru:Nat}{vs:Value}(h:aR w l p B kb k m t at_ s (.slice (some ⟨lg,0,none⟩) s.locals.length Ru) vs)(q:Nat)(x:M.Tag):
    aR ((w.setCell ⟨lg,q*2,none⟩ (.int .i64 x.kind)).setCell ⟨lg,q*2+1,none⟩ (.string x.name)) l p B kb k m t at_ ⟨s.locals.set q x,s.stack⟩ (.slice (some ⟨lg,0,none⟩) s.locals.length Ru) vs∧
    Kp (iW l kb (.slice (some ⟨lg,0,none⟩) s.locals.length Ru) vs) w ((w.setCell ⟨lg,q*2,none⟩ (.int .i64 x.kind)).setCell ⟨lg,q*2+1,none⟩ (.string x.name)):=by
 have hk:Kp (·=lg) w ((w.setCell ⟨lg,q*2,none⟩ (.int .i64 x.kind)).setCell ⟨lg,q*2+1,none⟩ (.string x.name)):=
  ((Kp.refl (·=lg) w).setCell (p:=⟨lg,q*2,none⟩) (fun _=>rfl) _).setCell (p:=⟨lg,q*2+1,none⟩) (fun _=>rfl) _
 have hg:=(h.loc.lt lg rfl).1;have hO:=h.dP.ord;have hB:=h.hB;have hn:=h.YE.1;have h2:=(h.loc.stored (q*2) (.int .i64 x.kind)).1.stored (q*2+1) (.string x.name);rw[PE]at h2;refine⟨⟨h.dP.kp hk (fun b hb e=>by omega),h.hB,h.hk,bQ.kp aH.stays hk (fun b hb e=>by omega) h.ml,h.mi,h.blk.kp hk (fun e=>hn (by rw[e];rfl)),by simpa using h2.1,aD h.dG hk (fun g hg _ e=>h.ne lg rfl (by rw[←e];exact hg)),h.ne,h.tX,h.YH,by simpa using h.Uq⟩,hk.weak fun b _ e=>.inr (.inr (.inl (by rw[e];rfl)))⟩
end Go.Proofs.YtcepdbbapgfcdaaGreat
namespace Go.Proofs.YtcepdbbapgfcdaaGreat
open Go Go.RowKit
attribute [local go_sem] Oper.semAt_some
theorem jN{w:World}{I:Nat→Prop}{m:M.Method}{cs:List Value}(h:aH w I m cs):∃t:oV,cs=ig m t:=by
 obtain⟨a1,c1,a2,c2,a3,c3,e⟩:=h.form;exact⟨⟨a1,c1,a2,c2,a3,c3⟩,e⟩
theorem aR.low{w:World}{l:aI}{p:M.au}{B kb:Nat}{k:Int}{m:M.Method}{t:oV}{at_:Int}{s:M.jv}{vl vs:Value}(h:aR w l p B kb k m t at_ s vl vs){q:Nat}(hq:q<l.O):¬iW l kb vl vs q:=by
 have h1:=h.hB;have h2:=h.dP.ord;have h3:=h.hk;rintro(e|e|e|e)
 · omega
 · omega
 · have:=(h.loc.lt q e).1;omega
 · have:=(h.dG.lt q e).1;omega
def BZ(ev:Value)(c:Int):Prop:=(c=1∧ev=Value.nilIface)∨(c≠1∧∃b,ev=.iface 160 (.pointer (some ⟨b,0,none⟩)))
theorem DX.weak{w:World}{ev:Value}{c:Int}(h:DX w ev c):BZ ev c:=h.imp id fun⟨h1,b,h2,_⟩=>⟨h1,b,h2⟩
end Go.Proofs.YtcepdbbapgfcdaaGreat
namespace Go.Proofs.YtcepdbbapgfcdaaGreat
open Go Go.RowKit
def aaB(x:Value×Value):List Value:=[x.1,x.2]
def Mg(W:World)(S:Nat)(v vl vs:Value)(b:Nat):Prop:=S≤b∧b<W.heap.size∧v.ownBlock≠some b∧vl.ownBlock≠some b∧vs.ownBlock≠some b
def Sb(W:World)(S:Nat)(v vl vs:Value)(known:List M.jv)(cs:List (Value×Value)):Prop:=
 cs.length=known.length∧W.ownsRow S 259 2 v known.length (cs.flatMap aaB)∧
  ∀(j:Nat) (c:Value×Value) (f:M.jv),cs[j]?=some c→known[j]?=some f→SliceOf 2 eB W (Mg W S v vl vs) c.1 f.locals∧SliceOf 2 eB W (Mg W S v vl vs) c.2 f.stack
def Kn(W:World)(S:Nat)(v vl vs:Value)(known:List M.jv):Prop:=∃cs:List (Value×Value),Sb W S v vl vs known cs
theorem Kn.nil(W:World)(S:Nat)(vl vs:Value):Kn W S (.slice none 0 0) vl vs []:=
 ⟨[],rfl,World.ownsRow_nil _ _ _ _,fun j c f h=>by simp at h⟩
theorem jf{w:World}{base e k n:Nat}{v:Value}{xs:List Value}(h:w.ownsRow base e k v n xs){g:Nat}(hg:v.ownBlock=some g):∃cur,aC w g e cur:=by
 rcases h.2 with⟨h1,_⟩|⟨g',cap,cur,h1,_,hb,_⟩
 · rw[h1]at hg;cases hg
 · rw[h1]at hg;cases hg;exact⟨cur,hb⟩
theorem Kn.kp{W W':World}{S:Nat}{l:aI}{p:M.au}{B kb:Nat}{k:Int}{m:M.Method}{t:oV}{at_:Int}{s:M.jv}{v vl vs sS vs':Value}{known:List M.jv}(h:Kn W S v vl vs known)
    (hA:aR W l p B kb k m t at_ s vl vs) (hk:Kp (iW l kb vl vs) W W') (hO:bX W.heap.size vl vs sS vs') (hkb:kb<S):Kn W' S v sS vs' known:=by
 obtain⟨cs,h1,h2,h3⟩:=h;have hB:=hA.hB;have hBk:=hA.hk;have Bv:=hA.dP.ord;refine⟨cs,h1,aD h2 hk fun g hg hS e=>?_,fun j c f hc hf=>?_⟩
 · obtain⟨cur,hb⟩:=jf h2 hg;rcases e with e|e|e|e
   · omega
   · omega
   · obtain⟨cur',OP⟩:=jf hA.loc e;exact absurd (aC.inj hb OP) (by decide)
   · obtain⟨cur',OP⟩:=jf hA.dG e;exact absurd (aC.inj hb OP) (by decide)
 · have same:Same (Mg W S v vl vs) W W':=Kp.same hk fun b hb e=>by
    obtain⟨q1,q2,q3,q4,q5⟩:=hb;rcases e with e|e|e|e
    · omega
    · omega
    · exact q4 e
    · exact q5 e
   have sub:∀b,Mg W S v vl vs b→Mg W' S v sS vs' b:=fun b ⟨q1,q2,q3,q4,q5⟩=>⟨q1,Nat.lt_of_lt_of_le q2 hk.size,q3,fun e=>by
    rcases hO b (.inl e)with x|x|x
    · exact q4 x
    · exact q5 x
    · omega,fun e=>by
    rcases hO b (.inr e)with x|x|x
    · exact q4 x
    · exact q5 x
    · omega⟩
   obtain⟨a1,a2⟩:=h3 j c f hc hf;exact⟨a1.keep eB.stays same sub,a2.keep eB.stays same sub⟩
theorem Sb.snoc{W W':World}{S:Nat}{v v' vl vs c1 c2:Value}{known:List M.jv}{f:M.jv}{cs:List (Value×Value)}(h:Sb W S v vl vs known cs)
    (h1:SliceOf 2 eB W (Mg W S v vl vs) c1 f.locals) (h2:SliceOf 2 eB W (Mg W S v vl vs) c2 f.stack)
    (cu:W'.ownsRow S 259 2 v' (known.length+1) (cs.flatMap aaB++[c1,c2])) (hk:Kp (fun b=>v.ownBlock=some b) W W') (hv:∀g,v'.ownBlock=some g→v.ownBlock=some g∨W.heap.size≤g):Kn W' S v' vl vs (known++[f]):=by
 obtain⟨e1,e2,e3⟩:=h;have same:Same (Mg W S v vl vs) W W':=Kp.same hk fun b hb e=>hb.2.2.1 e;have sub:∀b,Mg W S v vl vs b→Mg W' S v' vl vs b:=fun b ⟨q1,q2,q3,q4,q5⟩=>⟨q1,Nat.lt_of_lt_of_le q2 hk.size,fun e=>by
  rcases hv b e with x|x
  · exact q3 x
  · omega,q4,q5⟩
 refine⟨cs++[(c1,c2)],by simp[e1],?_,fun j c f' hc hf=>?_⟩
 · rw[List.length_append,List.flatMap_append];simpa [aaB]using cu
 · rcases Nat.lt_trichotomy j cs.length with hj|hj|hj
   · rw[List.getElem?_append_left hj]at hc;rw[List.getElem?_append_left (by omega)]at hf;obtain⟨a1,a2⟩:=e3 j c f' hc hf;exact⟨a1.keep eB.stays same sub,a2.keep eB.stays same sub⟩
   · subst hj;rw[List.getElem?_append_right (Nat.le_refl _)]at hc;rw[e1,List.getElem?_append_right (Nat.le_refl _)]at hf;simp at hc hf;subst hc hf;exact⟨h1.keep eB.stays same sub,h2.keep eB.stays same sub⟩
   · rw[List.getElem?_eq_none (by simp;omega)]at hc;cases hc
theorem Sb.ext{W W':World}{S:Nat}{v vl vs:Value}{known:List M.jv}{cs:List (Value×Value)}(h:Sb W S v vl vs known cs)(hE:Ext W W'):Sb W' S v vl vs known cs:=by
 obtain⟨e1,e2,e3⟩:=h;have sub:∀b,Mg W S v vl vs b→Mg W' S v vl vs b:=fun b ⟨q1,q2,q3⟩=>⟨q1,Nat.lt_of_lt_of_le q2 hE.size,q3⟩;refine⟨e1,aD e2 hE (fun _ _ _ x=>x),fun j c f hc hf=>?_⟩;obtain⟨a1,a2⟩:=e3 j c f hc hf;exact⟨a1.keep eB.stays (Ext.same hE) sub,a2.keep eB.stays (Ext.same hE) sub⟩
end Go.Proofs.YtcepdbbapgfcdaaGreat
namespace Go.Proofs.YtcepdbbapgfcdaaGreat
open Go Go.RowKit
abbrev Own:=Nat→Option (Nat×Nat)
def gY(n:Nat)(own own':Own):Prop:=∀b,b<n→own' b=own b
theorem gY.refl(n:Nat)(own:Own):gY n own own:=fun _ _=>rfl
theorem gY.trans{n n':Nat}{a b c:Own}(h:gY n a b)(h':gY n' b c)(hn:n≤n'):gY n a c:=fun k hk=>(h' k (by omega)).trans (h k hk)
def Own.add(own:Own)(g:Nat)(r:Nat×Nat):Own:=fun b=>if b=g then some r else own b
theorem Own.add_eq(own:Own)(g:Nat)(r:Nat×Nat):own.add g r g=some r:=by simp[Own.add]
theorem Own.gB{own:Own}{g b:Nat}(r:Nat×Nat)(h:b≠g):own.add g r b=own b:=by simp[Own.add,h]
theorem Own.xm{own:Own}{g n:Nat}{r:Nat×Nat}(h:own g=some r∨n≤g):gY n own (own.add g r):=fun b hb=>by
 by_cases e:b=g
 · subst e;rcases h with h|h
   · rw[Own.add_eq,h]
   · omega
 · exact Own.gB r e
def MO(l:aI)(own:Own)(b:Nat):Prop:=b=l.D∨own b≠none
def PO(own:Own)(R:Nat×Nat→Prop)(b:Nat):Prop:=∃r,own b=some r∧R r
theorem PO.mo{l:aI}{own:Own}{R:Nat×Nat→Prop}{b:Nat}(h:PO own R b):MO l own b:=by
 obtain⟨r,h,_⟩:=h;exact .inr (by rw[h];simp)
theorem Kp.mo{l:aI}{own own':Own}{w a b:World}(h:Kp (MO l own) w a)(hk:Kp (MO l own') a b)(ha:gY w.heap.size own own'):Kp (MO l own) w b:=
 ⟨hk.os.trans h.os,hk.tape.trans h.tape,hk.output.trans h.output,Nat.le_trans h.size hk.size,
  fun k Br hd=>(hk.block k (Nat.lt_of_lt_of_le Br h.size) (fun x=>hd (by
   rcases x with x|x
   · exact .inl x
   · exact .inr (by rw[←ha k Br];exact x)))).trans (h.block k Br hd)⟩
structure gP(w:World)(own:Own)(B:Nat)(r:Nat×Nat)(e k:Nat)(v:Value)(n:Nat)(xs:List Value):Prop where
 row:w.ownsRow B e k v n xs
 role:∀g,v.ownBlock=some g→own g=some r
section
variable {w w':World} {own own':Own} {B:Nat} {r:Nat×Nat} {e k:Nat} {v:Value} {n:Nat} {xs:List Value} {R:Nat×Nat→Prop} {D:Nat→Prop}
theorem gP.keep(h:gP w own B r e k v n xs)(hk:Kp D w w')(ha:gY w.heap.size own own')(hD:∀b,own b=some r→B≤b→¬D b):gP w' own' B r e k v n xs:=
 ⟨aD h.row hk (fun g hg hb=>hD g (h.role g hg) hb),fun g hg=>(ha g (h.row.lt g hg).2).trans (h.role g hg)⟩
theorem gP.nil(w:World)(own:Own)(B:Nat)(r:Nat×Nat)(e k:Nat):gP w own B r e k (.slice none 0 0) 0 []:=
 ⟨World.ownsRow_nil _ _ _ _,fun g h=>by cases h⟩
theorem gP.form(h:gP w own B r e k v n xs):∃a c,v=.slice a n c:=bV h.row
theorem gP.take{g c:Nat}(h:gP w own B r e k (.slice (some ⟨g,0,none⟩) n c) n xs){j:Nat}(hj:j≤n):gP w own B r e k (.slice (some ⟨g,0,none⟩) j c) j (xs.take (j*k)):=
 ⟨BJ h.row hj,fun q hq=>h.role q hq⟩
theorem gP.ext(h:gP w own B r e k v n xs)(hE:Ext w w'):gP w' own B r e k v n xs:=h.keep hE (gY.refl _ _) fun _ _ _ x=>x
theorem gP.blk(h:gP w own B r e k v n xs){g:Nat}(hg:v.ownBlock=some g):B≤g∧g<w.heap.size:=h.row.lt g hg
theorem gP.vN(h:gP w own B r e k v n xs)(hk:Kp (PO own R) w w')(ha:gY w.heap.size own own')(hr:¬R r):gP w' own' B r e k v n xs:=
 h.keep hk ha fun b hb _ ⟨r',h1,h2⟩=>by rw[hb]at h1;cases h1;exact hr h2
end
structure GC where
 f:M.Fr
 cb:Nat
 t:oV
 vl:Value
 vs:Value
structure GO where
 o:M.iC
 v:Value
structure Gh where
 status:Int
 cs:List GC
 os:List GO
 outs:List Int
 back:M.Val
 vc:Value
 vh:Value
 vo:Value
def Gh.st(g:Gh):M.St:=⟨g.status,g.cs.map GC.f,g.os.map GO.o,g.outs,g.back⟩
def Eo(p:M.au)(c:GC):Array Value:=
 #[.int .i64 c.f.of.of.keeper,.string c.f.of.of.name,.int .i64 c.f.of.at_,.string (M.method p c.f.of).name,.slice c.t.a1 (M.method p c.f.of).args.length c.t.c1,.int .i64 (M.method p c.f.of).ret.kind,.string (M.method p c.f.of).ret.name,
  .int .i64 (M.method p c.f.of).locals,.int .i64 (M.method p c.f.of).stack,.slice c.t.a2 (M.method p c.f.of).code.length c.t.c2,.slice c.t.a3 (M.method p c.f.of).maps.length c.t.c3,.int .i64 c.f.pc,c.vl,c.vs,.int .i64 (M.method p c.f.of).stack]
def sO(c:GC):List Value:=[.pointer (some ⟨c.cb,0,none⟩)]
def kE(o:GO):List Value:=[.int .i64 o.o.of.keeper,.string o.o.of.name,o.v]
def yU(l:aI)(lk:Bool)(g:Gh):Array Value:=#[.pointer (some ⟨l.L,0,none⟩),.bool lk,.int .i64 g.status,g.vc,g.vh,g.vo,.int .i64 g.back.kind,.int .i64 g.back.n]
structure kM(w:World)(l:aI)(p:M.au)(own:Own)(B i:Nat)(c:GC):Prop where
 blk:aC w c.cb 128 (Eo p c)
 role:own c.cb=some (4,i)
 low:B≤c.cb
 ml:aH w (· <l.O) (M.method p c.f.of) (ig (M.method p c.f.of) c.t)
 loc:gP w own B (5,i) 32 2 c.vl c.f.locals.length (c.f.locals.flatMap bW)
 dG:gP w own B (6,i) 32 2 c.vs c.f.stack.length (c.f.stack.flatMap bW)
structure aK(w:World)(l:aI)(p:M.au)(own:Own)(B mb:Nat)(lk:Bool)(g:Gh):Prop where
 dP:aF w l p
 hB:l.L<B
 blk:aC w mb 88 (yU l lk g)
 role:own mb=some (0,0)
 low:B≤mb
 calls:gP w own B (1,0) 123 1 g.vc g.cs.length (g.cs.flatMap sO)
 call:∀i c,g.cs[i]?=some c→kM w l p own B i c
 heap:gP w own B (2,0) 62 3 g.vh g.os.length (g.os.flatMap kE)
 obj:∀j o,g.os[j]?=some o→gP w own B (7,j) 32 2 o.v o.o.fields.length (o.o.fields.flatMap bW)
 outs:gP w own B (3,0) 3 1 g.vo g.outs.length (g.outs.flatMap sJ)
 dom:∀b,own b≠none→B≤b∧b<w.heap.size
 good:M.Good p g.st
section
variable {w w':World} {l:aI} {p:M.au} {own own':Own} {B mb:Nat} {lk:Bool} {g:Gh} {D:Nat→Prop} {R:Nat×Nat→Prop}
theorem kM.keep{i:Nat}{c:GC}(h:kM w l p own B i c)(hk:Kp D w w')(ha:gY w.heap.size own own')(hD:∀b,(own b=some (4,i)∨own b=some (5,i)∨own b=some (6,i))→B≤b→¬D b)(hO:∀b,b<l.O→¬D b):kM w' l p own' B i c:=
 ⟨h.blk.kp hk (hD _ (.inl h.role) h.low),(ha _ h.blk.lt).trans h.role,h.low,bQ.kp aH.stays hk (fun b hb=>hO b hb) h.ml,h.loc.keep hk ha (fun b hb=>hD b (.inr (.inl hb))),h.dG.keep hk ha (fun b hb=>hD b (.inr (.inr hb)))⟩
theorem aK.keep(h:aK w l p own B mb lk g)(hk:Kp D w w')(ha:gY w.heap.size own own')(hd:∀b,own' b≠none→B≤b∧b<w'.heap.size)(hL:aF w' l p)(hD:∀b,own b≠none→¬D b)(hO:∀b,b<l.O→¬D b):aK w' l p own' B mb lk g:=by
 have hx:∀b r,own b=some r→¬D b:=fun b r hb=>hD b (by rw[hb];simp);exact⟨hL,h.hB,h.blk.kp hk (hx _ _ h.role),(ha _ h.blk.lt).trans h.role,h.low,h.calls.keep hk ha fun b hb _=>hx b _ hb,
  fun i c hc=>(h.call i c hc).keep hk ha (fun b hb _=>by rcases hb with hb|hb|hb<;>exact hx b _ hb) hO,
  h.heap.keep hk ha fun b hb _=>hx b _ hb,fun j o ho=>(h.obj j o ho).keep hk ha fun b hb _=>hx b _ hb,h.outs.keep hk ha fun b hb _=>hx b _ hb,hd,h.good⟩
theorem aK.zM(h:aK w l p own B mb lk g)(hs:w.heap.size≤w'.heap.size):∀b,own b≠none→B≤b∧b<w'.heap.size:=fun b hb=>⟨(h.dom b hb).1,Nat.lt_of_lt_of_le (h.dom b hb).2 hs⟩
theorem aK.ext(h:aK w l p own B mb lk g)(hE:Ext w w'):aK w' l p own B mb lk g:=
 h.keep hE (gY.refl _ _) (h.zM hE.size) (h.dP.ext hE) (fun _ _ x=>x) (fun _ _ x=>x)
theorem aK.aax(h:aK w l p own B mb lk g){b:Nat}(hb:b≤l.L):own b=none:=by
 cases e:own b with
 |none=>rfl
 |some r=>have:=(h.dom b (by rw[e];simp)).1;have:=h.hB;omega
theorem aK.kg(h:aK w l p own B mb lk g)(hk:Kp (·=l.D) w w')(hL:aF w' l p):aK w' l p own B mb lk g:=
 h.keep hk (gY.refl _ _) (h.zM hk.size) hL (fun b hb e=>by have:=h.dP.ord;exact hb (h.aax (by omega))) (fun b hb e=>by have:=h.dP.ord;omega)
theorem aK.Ig(h:aK w l p own B mb lk g)(hk:Kp (PO own R) w w'):aF w' l p:=
 h.dP.kp hk fun k Aa ⟨r,e,_⟩=>by rw[h.aax Aa]at e;cases e
theorem aK.wQ(h:aK w l p own B mb lk g):∀b,b<l.O→¬PO own R b:=fun b hb ⟨r,e,_⟩=>by
 have:=h.dP.ord;rw[h.aax (by omega)]at e;cases e
theorem kM.vN{i:Nat}{c:GC}(h:kM w l p own B i c)(hk:Kp (PO own R) w w')(ha:gY w.heap.size own own')(hR:¬R (4,i)∧¬R (5,i)∧¬R (6,i))(hO:∀b,b<l.O→¬PO own R b):kM w' l p own' B i c:=
 h.keep hk ha (fun b hb _ ⟨r,h1,h2⟩=>by
  rcases hb with hb|hb|hb<;>rw[hb]at h1<;>cases h1
  · exact hR.1 h2
  · exact hR.2.1 h2
  · exact hR.2.2 h2) hO
theorem aK.at_(h:aK w l p own B mb lk g){r:List GC}{c:GC}(hc:g.cs=r++[c]):kM w l p own B r.length c:=h.call _ _ (by rw[hc];simp)
theorem aK.JO(h:aK w l p own B mb lk g){r:List GC}{c c':GC}(bO:g.cs=r++[c])(hcb:c'.cb=c.cb)(hk:Kp (PO own fun q=>q=(4,r.length)∨q=(5,r.length)∨q=(6,r.length)) w w')(ha:gY w.heap.size own own')(hd:∀b,own' b≠none→B≤b∧b<w'.heap.size)
    (hc:kM w' l p own' B r.length c') (hG:M.Good p {g with cs:=r++[c']}.st):aK w' l p own' B mb lk {g with cs:=r++[c']}:=by
 refine⟨h.Ig hk,h.hB,h.blk.kp hk ?_,(ha _ h.blk.lt).trans h.role,h.low,?_,?_,h.heap.vN hk ha (by simp),fun j o ho=>(h.obj j o ho).vN hk ha (by simp),h.outs.vN hk ha (by simp),hd,hG⟩
 · rintro⟨q,h1,h2⟩;rw[h.role]at h1;cases h1;simp at h2
 · have:=h.calls.vN hk ha (by simp);rw[bO]at this;simpa [sO,hcb]using this
 · intro i c1 lJ;simp only at lJ;rcases Nat.lt_trichotomy i r.length with hi|hi|hi
   · rw[List.getElem?_append_left hi]at lJ;refine(h.call i c1 (by rw[bO,List.getElem?_append_left hi];exact lJ)).vN hk ha ?_ h.wQ;refine⟨?_,?_,?_⟩<;>simp<;>omega
   · subst hi;simp at lJ;subst lJ;exact hc
   · rw[List.getElem?_eq_none (by simp;omega)]at lJ;cases lJ
theorem aK.JN(h:aK w l p own B mb lk g)(g':Gh)(hk:Kp (PO own (·=(0,0))) w w')(hb:aC w' mb 88 (yU l lk g'))(bO:(g'.cs=g.cs∧g'.vc=g.vc)∨(gP w own B (1,0) 123 1 g'.vc g'.cs.length (g'.cs.flatMap sO)∧∃r,g.cs=g'.cs++r))
    (Nr:g'.os=g.os∧g'.vh=g.vh∧g'.outs=g.outs∧g'.vo=g.vo) (hG:M.Good p g'.st):aK w' l p own B mb lk g':=by
 obtain⟨e1,e2,e3,e4⟩:=Nr;have ha:=gY.refl w.heap.size own;refine⟨h.Ig hk,h.hB,hb,h.role,h.low,?_,?_,?_,?_,?_,h.zM hk.size,hG⟩
 · rcases bO with⟨a,b⟩|⟨a,_⟩
   · rw[a,b];exact h.calls.vN hk ha (by simp)
   · exact a.vN hk ha (by simp)
 · intro i c hc;refine(h.call i c ?_).vN hk ha (by simp) h.wQ;rcases bO with⟨a,_⟩|⟨_,r,a⟩
   · rw[←a];exact hc
   · rw[a,List.getElem?_append_left (List.getElem?_eq_some_iff.1 hc).1];exact hc
 · rw[e1,e2];exact h.heap.vN hk ha (by simp)
 · rw[e1];exact fun j o ho=>(h.obj j o ho).vN hk ha (by simp)
 · rw[e3,e4];exact h.outs.vN hk ha (by simp)
end
def cB(w:World)(l:aI)(p:M.au)(own:Own)(B mb:Nat)(lk:Bool)(v:Value)(s:M.St)(e:Ending)(w':World):Prop:=
 e=.returned v∧Kp (MO l own) w w'∧∃own' g',gY w.heap.size own own'∧aK w' l p own' B mb lk g'∧g'.st=s
theorem cB.after{w w1 w2:World}{l:aI}{p:M.au}{own fQ:Own}{B mb:Nat}{lk:Bool}{v:Value}{s:M.St}{e:Ending}(hK:Kp (MO l own) w w1)(ha:gY w.heap.size own fQ)(h:cB w1 l p fQ B mb lk v s e w2):cB w l p own B mb lk v s e w2:=by
 obtain⟨h1,h2,own',g',h3,h4,h5⟩:=h;exact⟨h1,hK.mo h2 ha,own',g',ha.trans h3 hK.size,h4,h5⟩
theorem cB.behind{w w1 w2:World}{l:aI}{p:M.au}{own:Own}{B mb:Nat}{lk:Bool}{v:Value}{s:M.St}{e:Ending}(hE:Ext w w1)(h:cB w1 l p own B mb lk v s e w2):cB w l p own B mb lk v s e w2:=
 h.after hE.any (gY.refl _ _)
theorem aK.stop{w w':World}{l:aI}{p:M.au}{own:Own}{B mb:Nat}{lk:Bool}{g:Gh}{v:Value}(h:aK w l p own B mb lk g)(hE:Ext w w'):cB w l p own B mb lk v g.st (.returned v) w':=
 ⟨rfl,hE.any,own,g,gY.refl _ _,h.ext hE,rfl⟩
end Go.Proofs.YtcepdbbapgfcdaaGreat
namespace Go.Proofs.YtcepdbbapgfcdaaGreat
open Go Go.RowKit
section
variable {w w':World} {l:aI} {p:M.au} {own:Own} {B mb:Nat} {lk:Bool} {g:Gh} {r:List GC} {c:GC}
theorem Gh.fr(bO:g.cs=r++[c]):g.st.frames=r.map GC.f++[c.f]:=by unfold Gh.st;rw[bO];simp
theorem Gh.top(bO:g.cs=r++[c]):M.top g.st=c.f:=M.qF (Gh.fr bO)
theorem aK.GL(h:aK w l p own B mb lk g)(bO:g.cs=r++[c]):M.dL p c.f g.st.heap.length=true:=h.good.top (Gh.fr bO)
theorem aK.mi(h:aK w l p own B mb lk g)(bO:g.cs=r++[c]):M.Eg (M.method p c.f.of):=
 M.lL (M.gI h.dP.ok (M.aP.1 (h.GL bO)).1).1
theorem aK.setStack(h:aK w l p own B mb lk g)(bO:g.cs=r++[c])(xs:List M.Val)(v':Value)(hb:aC w' c.cb 128 ((Eo p c).setIfInBounds 13 v'))(ho:w'.ownsRow B 32 2 v' xs.length (xs.flatMap bW))
    (hn:∀q,v'.ownBlock=some q→c.vs.ownBlock=some q∨w.heap.size≤q) (hk:Kp (fun b=>b=c.cb∨c.vs.ownBlock=some b) w w') (hG:M.Good p {g with cs:=r++[{c with f:={c.f with stack:=xs},vs:=v'}]}.st):
    Kp (MO l own) w w'∧∃own',gY w.heap.size own own'∧aK w' l p own' B mb lk {g with cs:=r++[{c with f:={c.f with stack:=xs},vs:=v'}]}:=by
 have hc:=h.at_ bO;have hpo:∀b,(b=c.cb∨c.vs.ownBlock=some b)→PO own (fun q=>q=(4,r.length)∨q=(6,r.length)) b:=fun b hb=>by
  rcases hb with e|e
  · subst e;exact⟨_,hc.role,.inl rfl⟩
  · exact⟨_,hc.dG.role b e,.inr rfl⟩
 have jD:=hk.weak fun b _ e=>hpo b e;refine⟨hk.weak fun b _ e=>(hpo b e).mo,?_⟩;have⟨own',ha,hd,acA⟩:∃own',gY w.heap.size own own'∧(∀b,own' b≠none→B≤b∧b<w'.heap.size)∧∀q,v'.ownBlock=some q→own' q=some (6,r.length):=by
  cases e:v'.ownBlock with
  |none=>exact⟨own,gY.refl _ _,h.zM hk.size,fun q hq=>by cases hq⟩
  |some q=>
   refine⟨own.add q (6,r.length),Own.xm ?_,fun b hb=>?_,fun q' hq=>by cases hq;exact Own.add_eq _ _ _⟩
   · rcases hn q e with x|x
     · exact .inl (hc.dG.role q x)
     · exact .inr x
   · by_cases eb:b=q
     · subst eb;exact ho.lt b e
     · rw[Own.gB _ eb]at hb;exact h.zM hk.size b hb
 have hnr:¬((5,r.length)=((4,r.length):Nat×Nat)∨(5,r.length)=((6,r.length):Nat×Nat)):=by simp
 refine⟨own',ha,h.JO bO rfl (jD.weak fun b _ ⟨q,e1,e2⟩=>⟨q,e1,e2.elim .inl fun e=>.inr (.inr e)⟩) ha hd ⟨hb,(ha _ hc.blk.lt).trans hc.role,hc.low,bQ.kp aH.stays jD (fun b hb=>h.wQ b hb) hc.ml,hc.loc.vN jD ha hnr,⟨ho,acA⟩⟩ hG⟩
theorem aK.acR(h:aK w l p own B mb lk g)(bO:g.cs=r++[c])(n:Int)(hG:M.Good p {g with cs:=r++[{c with f:={c.f with pc:=n}}]}.st):
    Kp (MO l own) w (w.setCell ⟨c.cb,11,none⟩ (.int .i64 n))∧aK (w.setCell ⟨c.cb,11,none⟩ (.int .i64 n)) l p own B mb lk {g with cs:=r++[{c with f:={c.f with pc:=n}}]}:=by
 have hc:=h.at_ bO;have hk:Kp (·=c.cb) w (w.setCell ⟨c.cb,11,none⟩ (.int .i64 n)):=(Kp.refl (·=c.cb) w).setCell (p:=⟨c.cb,11,none⟩) (fun _=>rfl) _;have jD:Kp (PO own (·=(4,r.length))) w (w.setCell ⟨c.cb,11,none⟩ (.int .i64 n)):=hk.weak fun b _ e=>⟨_,by rw[e];exact hc.role,rfl⟩;have ha:=gY.refl w.heap.size own;refine⟨jD.weak fun b _ e=>e.mo,h.JO bO rfl (jD.weak fun b _ ⟨q,e1,e2⟩=>⟨q,e1,.inl e2⟩) ha (h.zM hk.size) ⟨hc.blk.bI 11 _,hc.role,hc.low,bQ.kp aH.stays jD (fun b hb=>h.wQ b hb) hc.ml,hc.loc.vN jD ha (by simp),hc.dG.vN jD ha (by simp)⟩ hG⟩
end
def Eh(n:Nat)(q:Nat×Nat):Prop:=q=(4,n)∨q=(6,n)
theorem Kp.po{own own':Own}{R:Nat×Nat→Prop}{w a b:World}(h:Kp (PO own R) w a)(hk:Kp (PO own' R) a b)(ha:gY w.heap.size own own'):Kp (PO own R) w b:=
 ⟨hk.os.trans h.os,hk.tape.trans h.tape,hk.output.trans h.output,Nat.le_trans h.size hk.size,
  fun k Br hd=>(hk.block k (Nat.lt_of_lt_of_le Br h.size) (fun⟨q,e1,e2⟩=>hd ⟨q,by rw[←ha k Br];exact e1,e2⟩)).trans (h.block k Br hd)⟩
theorem aK.JS{w w' w'':World}{l:aI}{p:M.au}{own:Own}{B mb:Nat}{lk:Bool}{g:Gh}{r:List GC}{c:GC}(h:aK w l p own B mb lk g)(bO:g.cs=r++[c])(hk:Kp (fun b=>b=c.cb∨c.vs.ownBlock=some b) w' w''):Kp (PO own (Eh r.length)) w' w'':=
 hk.weak fun b _ e=>by
  rcases e with e|e
  · subst e;exact⟨_,(h.at_ bO).role,.inl rfl⟩
  · exact⟨_,(h.at_ bO).dG.role b e,.inr rfl⟩
theorem eG(w:World)(l:aI)(p:M.au)(own:Own)(B mb:Nat)(lk:Bool)(g:Gh)(h:aK w l p own B mb lk g)(r:List GC)(c:GC)(bO:g.cs=r++[c]):
    Calls Tryz.prog 72 #[.pointer (some ⟨mb,0,none⟩)] w fun e w'=>e=.returned (.pointer (some ⟨c.cb,0,none⟩))∧Ext w w':=by
 have hn:g.cs.length=r.length+1:=by rw[bO];simp
 obtain⟨b,cap,hv, -, -,dn⟩:=cO h.calls.row (by omega);have cu:=h.calls.row;rw[hv,hn]at cu;have ou:=(eZ (enc:=sO) (k:=1) (fun _=>rfl) (l:=g.cs) cu (i:=r.length) (x:=c) (by rw[bO];simp)).one;rw[Nat.mul_one]at ou;rw[hn]at hv;have hcells:(yU l lk g)[3]?=some (.slice (some ⟨b,0,none⟩) (r.length+1) cap):=by rw[←hv];rfl
 have hle:r.length+1≤8:=by have:=h.good.nf;rw[Gh.fr bO]at this;simpa using this
 have hw:IntKind.i64.wrap ((r.length:Int)+1 - 1)=r.length:=by rw[IntWalk.i64_in _ (by omega)];omega
 obtain⟨T,f,dB,HT⟩:=iq.ex (fun W'=>Ext w W') _ (Kp.refl _ _);have r3:=fun q=>(h.blk.ext (HT.aJ q)).c 3 _ hcells;have rt:=fun q=>(HT.aJ q).aA ou;have aj:=Ys HT;have H:=Ys h;clear h HT hcells ou cu hv;go_enter Tryz.func72,Tryz.ntmps72;go_wp2_with fail;(refine Gv aj ?_ ?_);rotate_left;(repeat (go_big_quiet_step ((fail))));(refine wpQuiet_nil ?_);(rintro _ ⟨sW,rfl⟩);rotate_left
 · exact(Kp.refl _ _).drew
 have bA:=aj.o.aJ sW;generalize f sW=w1 at*;clear aj r3 rt;go_wp2_with fail;go_ret;exact⟨rfl,bA⟩
theorem cB.mk'{w w':World}{l:aI}{p:M.au}{own own':Own}{B mb:Nat}{lk:Bool}{v:Value}{s:M.St}{g':Gh}(hK:Kp (MO l own) w w')(ha:gY w.heap.size own own')(h:aK w' l p own' B mb lk g')(hs:g'.st=s):cB w l p own B mb lk v s (.returned v) w':=
 ⟨rfl,hK,own',g',ha,h,hs⟩
theorem Fq(w:World)(l:aI)(p:M.au)(own:Own)(B mb:Nat)(lk:Bool)(g:Gh)(h:aK w l p own B mb lk g)(r:List GC)(c:GC)(bO:g.cs=r++[c])(bH:g.status=1)(tt:Int)(h0:0≤tt):
    Calls Tryz.prog 103 #[.pointer (some ⟨mb,0,none⟩),.int .i64 tt] w fun e w'=>cB w l p own B mb lk (.int .i64 (M.jump p tt g.st).1) (M.jump p tt g.st).2 e w'∧Kp (PO own (Eh r.length)) w w':=by
 have H:=Ys h;have HJ:Zs (M.jump p tt g.st=if((M.method p c.f.of).code.length:Int)≤tt then(10,g.st)else(1,{g.st with frames:=r.map GC.f++[{c.f with pc:=tt}]})):=Ys (by
  unfold M.jump;rw[Gh.top bO,M.dY (Gh.fr bO)])
 have HG:=Ys (M.sK h.good (Gh.fr bO) bH h0).2.2.1;have fw:=Ys bO;clear h bO;go_enter Tryz.func103,Tryz.ntmps103;go_wp2_with fail;refine(eG _ _ _ _ _ _ _ _ H.o r c fw.o).mono ?_;rintro e w1 ⟨rfl,bA⟩;have hA:=H.o.ext bA;have hc:=hA.at_ fw.o;have c9:=hc.blk.c 9 (.slice c.t.a2 (M.method p c.f.of).code.length c.t.c2) rfl;have c11:=hc.blk.c 11 (.int .i64 c.f.pc) rfl;have f11:=hc.blk.frozen 11;have hz:=hc.blk.lt;have HA:=Ys hA;have fe:=Ys bA;clear hA hc bA;by_cases hle:((M.method p c.f.of).code.length:Int)≤tt
 · have HV:Zs (M.jump p tt g.st=(10,g.st)):=Ys (by rw[HJ.o,if_pos hle]);have aev:decide (((M.method p c.f.of).code.length:Int)≤tt)=true:=decide_eq_true hle;go_wp2_with fail;go_ret;rw[HV.o];exact⟨cB.mk' fe.o.any (gY.refl _ _) HA.o rfl,fe.o.any⟩
 · have HV:Zs (M.jump p tt g.st=(1,{g.st with frames:=r.map GC.f++[{c.f with pc:=tt}]})):=Ys (by rw[HJ.o,if_neg hle]);have aev:(((M.method p c.f.of).code.length:Int)≤tt)=False:=eq_false hle;clear hle;go_wp2_with fail;go_ret;have hG:=HG.o;rw[HV.o]at hG;rw[HV.o];have hs:(⟨g.status,r++[{c with f:={c.f with pc:=tt}}],g.os,g.outs,g.back,g.vc,g.vh,g.vo⟩:Gh).st={g.st with frames:=r.map GC.f++[{c.f with pc:=tt}]}:=by simp[Gh.st]
   obtain⟨hK,hM⟩:=HA.o.acR fw.o tt (by rw[hs];exact hG);exact⟨cB.mk' (fe.o.any.trans hK) (gY.refl _ _) hM hs,fe.o.any.trans (HA.o.JS fw.o ((Kp.refl _ w1).setCell (p:=⟨c.cb,11,none⟩) (fun _=>.inl rfl) _))⟩
theorem BD(w:World)(l:aI)(p:M.au)(own:Own)(B mb:Nat)(lk:Bool)(g:Gh)(h:aK w l p own B mb lk g)(r:List GC)(c:GC)(bO:g.cs=r++[c])(bH:g.status=1)(tt:Int)(h0:0≤tt):
    Calls Tryz.prog 103 #[.pointer (some ⟨mb,0,none⟩),.int .i64 tt] w (cB w l p own B mb lk (.int .i64 (M.jump p tt g.st).1) (M.jump p tt g.st).2):=
 (Fq w l p own B mb lk g h r c bO bH tt h0).mono fun _ _ h=>h.1
end Go.Proofs.YtcepdbbapgfcdaaGreat
