/- Walks. -/
import Derived.Test.YtohpiobncgafeaaGreatDoorLnkh
set_option maxRecDepth 100000
set_option maxHeartbeats 4000000
set_option linter.unusedSimpArgs false
set_option linter.unusedVariables false
namespace Go.Proofs.YtohpiobncgafeaaGreatDoor
open Go Go.RowKit
theorem Be{w w0 w7:World}{l:au}{p:M.ai}{b:Nat}(hE:Ext w w0)(hK:Kp (·=l.D) w0 w7)(hL:aj w7 l p)(hb:l.L<b)(hw:w.heap.size≤b)(u0 u1 u2 u3 u4:Value):
    Kp (·=l.D) w (((((w7.setCell ⟨b,0,none⟩ u0).setCell ⟨b,1,none⟩ u1).setCell ⟨b,2,none⟩ u2).setCell ⟨b,3,none⟩ u3).setCell ⟨b,4,none⟩ u4)∧
    aj (((((w7.setCell ⟨b,0,none⟩ u0).setCell ⟨b,1,none⟩ u1).setCell ⟨b,2,none⟩ u2).setCell ⟨b,3,none⟩ u3).setCell ⟨b,4,none⟩ u4) l p:=by
 have h5:=Kp.mq (D:=(·=b)) (w:=w7) rfl u0 u1 u2 u3 u4;generalize (((((w7.setCell ⟨b,0,none⟩ u0).setCell ⟨b,1,none⟩ u1).setCell ⟨b,2,none⟩ u2).setCell ⟨b,3,none⟩ u3).setCell ⟨b,4,none⟩ u4)=w8 at*;exact⟨(hE.any.trans hK).own h5 (fun k e=>by omega),hL.kp h5 (fun k hk e=>by omega)⟩
theorem yZ(w:World)(l:au)(p:M.ai)(B kb:Nat)(k:Int)(m:M.Method)(t:lJ)(at_:Int)(s:M.gB)(vl vs:Value)(h:aD w l p B kb k m t at_ s vl vs)(i:M.Ins):
    Calls Tryz.prog 127 #[.pointer (some ⟨kb,0,none⟩),.agg #[.int .i64 i.op,.int .i64 i.a,.string i.name,.string i.member]] w fun e w'=>
     Kp (·=l.D) w w'∧aj w' l p∧(((M.get p k i.name i.member).2≠1∧e=.panicked (sG (at_+1)))∨((M.get p k i.name i.member).2=1∧e=.returned (.agg (fZ (M.get p k i.name i.member).1).toArray))):=by
 obtain⟨w0,bN⟩:∃w0,w0=(w.alloc (.cells #[.int .i64 i.op,.int .i64 i.a,.string i.name,.string i.member] 30)).alloc (.cells #[.int .i64 0,.string ⟨#[]⟩,.int .i64 0,.int .i64 0,.string ⟨#[]⟩] 187):=⟨_,rfl⟩;have aM:Ext w w0:=by rw[bN];exact kx
 have b3:az w0 w.heap.size 30 #[.int .i64 i.op,.int .i64 i.a,.string i.name,.string i.member]:=by rw[bN];exact(az.new _ _ _).ext kx
 have b4:az w0 (w.heap.size+1) 187 #[.int .i64 0,.string ⟨#[]⟩,.int .i64 0,.int .i64 0,.string ⟨#[]⟩]:=by rw[bN];exact az.newAt _ _ (by simp)
 have hA:=h.ext aM;have hD:=h.cu.Cg;have rX:=h.cu.ord;have hB:=h.hB;have hk:=h.hk;have hz:=h.blk.lt;have ou:=h.ou;have OT:¬kb=l.D:=by omega
 have KZ:¬w.heap.size=l.D:=by omega
 have kP:¬w.heap.size+1=l.D:=by omega
 obtain⟨T,f,dm,HT⟩:=gy.ex (fun W'=>Kp (·=l.D) w0 W') _ (Kp.refl _ _);have r0:=fun z=>(hA.blk.kp (HT.aK z) OT).c 0 (.pointer (some ⟨l.L,0,none⟩)) rfl;have r1:=fun z=>(hA.blk.kp (HT.aK z) OT).c 1 (.int .i64 k) rfl;have r2:=fun z=>(b3.kp (HT.aK z) KZ).c 2 (.string i.name) rfl;have r3:=fun z=>(b3.kp (HT.aK z) KZ).c 3 (.string i.member) rfl;have ax:=Ys HT;have dS:=Ys bN;have bW:=Ys aM;have HA:=Ys hA;have nQ:=Ys b4;obtain⟨v0,v1,v2,v3,v4,hv⟩:∃a b c d e,(fZ (M.get p k i.name i.member).1).toArray=#[.int .i64 a,.string b,.int .i64 c,.int .i64 d,.string e]:=⟨_,_,_,_,_,rfl⟩;have HV:=Ys hv;rw[hv];clear hv;clear h bN aM b3 b4 hA HT;go_enter Tryz.func127,Tryz.ntmps127;go_wp2_with fail;rw[←dS.o];(refine nM ax 18 (.two [0,1,2,3,4,5,6,7,8,9,10,11] 12 16 (.one [13,14,15] 16 (.one [] 17 (.fin []))) (.one [] 12 (.one [13,14,15] 17 (.fin [])))) ?_ ?_)
 · exact(Kp.refl _ _).drew
 (refine two [_,_,_,_,_,_,_,_,_,_,_,_] rfl rfl rfl fun K hK=>?_);(repeat (go_big_quiet_step (fail)));((refine Hp hK (fun K2 ag=>?_) fun K2 ag=>?_)<;>clear hK K)
 · go_wp2_with fail;refine(qW _ _ _ (HA.o.cu.ext (Kp.refl _ _).drew) k i.name i.member).mono ?_;rintro e w3 ⟨⟨ev,he,ji⟩,zV,mg⟩;rw[HV.o]at he;subst he;have jT:Zs (Kp (·=l.D) w0 w3):=Ys (((Kp.refl _ _).drew).trans mg);have KL:=Ys zV;clear zV mg;obtain⟨w7,Bt⟩:∃w7,w7=w3.alloc (.cells #[.int .i64 v0,.string v1,.int .i64 v2,.int .i64 v3,.string v4] 187):=⟨_,rfl⟩;have lI:Zs (Kp (·=l.D) w0 w7):=Ys (by rw[Bt];exact jT.o.alloc _);have DN:Zs (aj w7 l p):=Ys (by rw[Bt];exact KL.o.ext kx);have DY:az w7 w3.heap.size 187 #[.int .i64 v0,.string v1,.int .i64 v2,.int .i64 v3,.string v4]:=by rw[Bt];exact az.new _ _ _
   have KP:=Ys Bt;have u0:=DY.c 0 (.int .i64 v0) rfl;have u1:=DY.c 1 (.string v1) rfl;have u2:=DY.c 2 (.int .i64 v2) rfl;have u3:=DY.c 3 (.int .i64 v3) rfl;have u4:=DY.c 4 (.string v4) rfl;have hn5:¬w.heap.size+1=w3.heap.size:=by have:=nQ.o.lt;have:=jT.o.size;omega
   have ZL:¬w3.heap.size=w.heap.size+1:=by omega
   clear DY Bt;rcases ji with⟨hc,rfl⟩|⟨hc,b,rfl, -⟩
   all_goals
    have HC:=Ys hc;clear hc;go_wp2_with fail;(refine kk ax ag jT.o ?_);clear ag K2;(refine lu [_,_,_] rfl rfl fun K hK=>?_);(repeat (go_big_quiet_step (fail)));(refine qn hK fun K2 ag=>?_);clear hK K;go_wp2_with fail;(refine kk ax ag (jT.o.alloc _) ?_);clear ag K2;(refine bX rfl fun K2 ag=>?_);go_wp2_with fail;rw[←KP.o];(refine kk ax ag lI.o ?_);clear ag K2;clear ax r0 r1 r2 r3;have b4:=nQ.o.kp lI.o kP;have x0:=b4.c 0 (.int .i64 0) rfl;have x1:=b4.c 1 (.string ⟨#[]⟩) rfl;have x2:=b4.c 2 (.int .i64 0) rfl;have x3:=b4.c 3 (.int .i64 0) rfl;have x4:=b4.c 4 (.string ⟨#[]⟩) rfl;have f0:=b4.frozen 0;have f1:=b4.frozen 1;have f2:=b4.frozen 2;have f3:=b4.frozen 3;have f4:=b4.frozen 4;have z4:=b4.lt;have Tf:=Ys b4;clear b4;(refine dz ?_);go_wp2_with fail
   · refine bodyPost_ret (aP nz rfl _ _ (w.heap.size+1) rfl [.int .i64 v0,.string v1,.int .i64 v2,.int .i64 v3,.string v4] (af.iV (Tf.o.mq _ _ _ _ _)) rfl) rfl ?_;have Zo:=Be (b:=w.heap.size+1) bW.o lI.o DN.o (by omega) (by omega) (.int .i64 v0) (.string v1) (.int .i64 v2) (.int .i64 v3) (.string v4);exact⟨Zo.1,Zo.2,.inr ⟨HC.o,rfl⟩⟩
   · refine(dW _ kb at_ ((HA.o.blk.kp lI.o OT).c 10 _ rfl) ou.1 (by omega)).mono ?_;rintro e w9 ⟨rfl,rfl⟩;exact⟨rfl,bW.o.any.trans lI.o,DN.o,.inl ⟨HC.o,rfl⟩⟩
 · go_wp2_with fail;(refine kk ax ag (((Kp.refl _ _).drew).alloc _) ?_);clear ag K2;(refine bX rfl fun K2 ag=>?_);go_wp2_with fail;have b5:az (w0.alloc (.cells #[.int .i64 0,.string ⟨#[]⟩,.int .i64 0,.int .i64 0,.string ⟨#[]⟩] 187)).drew w0.heap.size 187 #[.int .i64 0,.string ⟨#[]⟩,.int .i64 0,.int .i64 0,.string ⟨#[]⟩]:=(az.new _ _ _).ext (Kp.refl _ _).drew;have hD0:=HA.o.cu.Cg;have hzD:¬w0.heap.size=l.D:=by omega
   refine(qW _ _ _ (HA.o.cu.ext ((Kp.refl _ _).alloc _).drew) k i.name i.member).mono ?_;rintro e w3 ⟨⟨ev,he,ji⟩,zV,mg⟩;rw[HV.o]at he;subst he;have jT:Zs (Kp (·=l.D) w0 w3):=Ys ((((Kp.refl _ w0).alloc _).drew).trans mg);have iQ:=b5.kp mg hzD;have hzw:=bW.o.size;have hn5:¬w.heap.size+1=w0.heap.size:=by have:=nQ.o.lt;omega
   have ZL:¬w0.heap.size=w.heap.size+1:=by omega
   have y0:=iQ.c 0 (.int .i64 0) rfl;have y1:=iQ.c 1 (.string ⟨#[]⟩) rfl;have y2:=iQ.c 2 (.int .i64 0) rfl;have y3:=iQ.c 3 (.int .i64 0) rfl;have y4:=iQ.c 4 (.string ⟨#[]⟩) rfl;have g0:=iQ.frozen 0;have g1:=iQ.frozen 1;have g2:=iQ.frozen 2;have g3:=iQ.frozen 3;have g4:=iQ.frozen 4;have z5:=iQ.lt;obtain⟨w7,Bt⟩:∃w7,w7=(((((w3.setCell ⟨w0.heap.size,0,none⟩ (.int .i64 v0)).setCell ⟨w0.heap.size,1,none⟩ (.string v1)).setCell ⟨w0.heap.size,2,none⟩ (.int .i64 v2)).setCell ⟨w0.heap.size,3,none⟩ (.int .i64 v3)).setCell ⟨w0.heap.size,4,none⟩ (.string v4)):=⟨_,rfl⟩;have yE:Kp (·=w0.heap.size) w3 w7:=by rw[Bt];exact Kp.mq (D:=(·=w0.heap.size)) rfl _ _ _ _ _
   have DY:az w7 w0.heap.size 187 #[.int .i64 v0,.string v1,.int .i64 v2,.int .i64 v3,.string v4]:=by rw[Bt];exact iQ.mq _ _ _ _ _
   have lI:Zs (Kp (·=l.D) w0 w7):=Ys (jT.o.own yE (fun k e=>by omega));have DN:Zs (aj w7 l p):=Ys (zV.kp yE (fun b hb e=>by omega));have ru:=Ys DY;have KP:=Ys Bt;have u0:=DY.c 0 (.int .i64 v0) rfl;have u1:=DY.c 1 (.string v1) rfl;have u2:=DY.c 2 (.int .i64 v2) rfl;have u3:=DY.c 3 (.int .i64 v3) rfl;have u4:=DY.c 4 (.string v4) rfl;clear b5 iQ zV mg yE DY Bt;rcases ji with⟨hc,rfl⟩|⟨hc,b,rfl, -⟩
   all_goals
    have HC:=Ys hc;clear hc;go_wp2_with fail;(refine kk ax ag jT.o ?_);clear ag K2;(refine lu [_,_,_] rfl rfl fun K hK=>?_);(repeat (go_big_quiet_step (fail)));(refine qn hK fun K2 ag=>?_);clear hK K;go_wp2_with fail;rw[←KP.o];(refine kk ax ag lI.o ?_);clear ag K2;clear ax r0 r1 r2 r3 y0 y1 y2 y3 y4 g0 g1 g2 g3 g4;have b4:=nQ.o.kp lI.o kP;have x0:=b4.c 0 (.int .i64 0) rfl;have x1:=b4.c 1 (.string ⟨#[]⟩) rfl;have x2:=b4.c 2 (.int .i64 0) rfl;have x3:=b4.c 3 (.int .i64 0) rfl;have x4:=b4.c 4 (.string ⟨#[]⟩) rfl;have f0:=b4.frozen 0;have f1:=b4.frozen 1;have f2:=b4.frozen 2;have f3:=b4.frozen 3;have f4:=b4.frozen 4;have z4:=b4.lt;have Tf:=Ys b4;clear b4;(refine dz ?_);go_wp2_with fail
   · refine bodyPost_ret (aP nz rfl _ _ (w.heap.size+1) rfl [.int .i64 v0,.string v1,.int .i64 v2,.int .i64 v3,.string v4] (af.iV (Tf.o.mq _ _ _ _ _)) rfl) rfl ?_;have Zo:=Be (b:=w.heap.size+1) bW.o lI.o DN.o (by omega) (by omega) (.int .i64 v0) (.string v1) (.int .i64 v2) (.int .i64 v3) (.string v4);exact⟨Zo.1,Zo.2,.inr ⟨HC.o,rfl⟩⟩
   · refine(dW _ kb at_ ((HA.o.blk.kp lI.o OT).c 10 _ rfl) ou.1 (by omega)).mono ?_;rintro e w9 ⟨rfl,rfl⟩;exact⟨rfl,bW.o.any.trans lI.o,DN.o,.inl ⟨HC.o,rfl⟩⟩
theorem Ny(w:World)(l:au)(p:M.ai)(B kb:Nat)(k:Int)(m:M.Method)(t:lJ)(at_:Int)(s:M.gB)(vl vs:Value)(h:aD w l p B kb k m t at_ s vl vs)(i:M.Ins)(dL:i.op=7):
    Calls Tryz.prog 85 #[.pointer (some ⟨kb,0,none⟩),.agg #[.int .i64 i.op,.int .i64 i.a,.string i.name,.string i.member]] w (aO w l p B kb k m t at_ vl vs (M.aQ p k m i s)):=by
 have HO:Zs (M.aQ p k m i s=if(M.get p k i.name i.member).2=1 then(M.gG p k (M.dC i.name) s).bind (M.fF m (M.dP (M.get p k i.name i.member).1.kind))else none):=Ys (by unfold M.aQ;rw[dL];rfl);obtain⟨w0,bN,aM,b3⟩:=nu w #[.int .i64 i.op,.int .i64 i.a,.string i.name,.string i.member] 30;have dS:=Ys bN;have HA:=Ys (h.ext aM);have HK:Zs (Kp (fE l kb vl vs) w0 w0):=Ys (Kp.refl _ _);have HS:=Ys (bu.refl w0.heap.size vl vs);have bW:=Ys aM;have gW:=Ys b3;have zZ:=h.blk.lt;have rD:¬fE l kb vl vs w.heap.size:=aD.gQ h;clear dL h aM b3 bN;go_enter Tryz.func85,Tryz.ntmps85;go_wp2_with fail;rw[←dS.o];obtain⟨G,hG⟩:∃G,M.get p k i.name i.member=G:=⟨_,rfl⟩;have vY:=yZ _ _ _ _ _ _ _ _ _ _ _ _ HA.o i;rw[hG]at vY;replace HO:Zs (M.aQ p k m i s=if G.2=1 then((M.gG p k (M.dC i.name) s).bind (M.fF m (M.dP G.1.kind)))else none):=Ys (by rw[HO.o,hG]);have rX:=HA.o.cu.ord;have hlB:=HA.o.hB;have acz:=HA.o.hk;refine vY.mono ?_;rintro e w1 ⟨j3,vV,⟨hc,rfl⟩|⟨hc,he⟩⟩
 · exact⟨rfl,aO.behind bW.o ⟨j3.weak (fun b _ e=>.inl e),vV,.inl ⟨by rw[HO.o,if_neg hc],rfl⟩⟩⟩
 replace HO:Zs (M.aQ p k m i s=((M.gG p k (M.dC i.name) s).bind (M.fF m (M.dP G.1.kind)))):=Ys (by rw[HO.o,if_pos hc]);replace he:e=.returned (.agg #[.int .i64 G.1.of.keeper,.string G.1.of.name,.int .i64 G.1.at_,.int .i64 G.1.kind.kind,.string G.1.kind.name]):=he;subst he;have ng:=HA.o.il j3 vV;obtain⟨w2,jS,bY,b5⟩:=nu w1 #[.int .i64 G.1.of.keeper,.string G.1.of.name,.int .i64 G.1.at_,.int .i64 G.1.kind.kind,.string G.1.kind.name] 187;have Cx:=gW.o.kp j3 (fun e=>rD (.inl e));have AL:=Cx.lt;have y2:=Cx.c 2 (.string i.name) rfl;have Vd:¬fE l kb vl vs w1.heap.size:=ng.gQ;have FV:Zs (Kp (fE l kb vl vs) w w2):=Ys ((bW.o.any.trans (j3.weak (fun b _ e=>.inl e))).trans bY.any);have ru:=Ys b5;replace gW:=Ys (Cx.ext bY);replace HA:=Ys (ng.ext bY);replace HK:Zs (Kp (fE l kb vl vs) w2 w2):=Ys (Kp.refl _ _);replace HS:=Ys (bu.refl w2.heap.size vl vs);have xX:=Ys jS;have HG:=Ys hG;clear vY j3 vV hc jS bY b5 Cx ng hG;go_wp2_with fail;rw[←xX.o];clear y2;refine(qQ _ i.name).mono ?_;rintro e w1 ⟨rfl,hE⟩;replace HA:=Ys (HA.o.ext hE);replace HK:=Ys (HK.o.trans hE.any);clear hE;go_wp2_with fail;refine(fo _ _ _ _ _ _ _ _ _ _ _ _ HA.o (M.dC i.name)).mono ?_;rintro e w2 aI;replace aI:=aO.after HK.o HS.o aI;rcases aI with⟨hK,hL,⟨ho,rfl⟩|⟨s2,ho,rfl,I7,vs2,hA,hO⟩⟩
 · exact⟨rfl,aO.after FV.o (bu.refl _ _ _) ⟨hK,hL,.inl ⟨by rw[HO.o,ho];try rfl,rfl⟩⟩⟩
 replace HO:Zs (M.aQ p k m i s=M.fF m (M.dP G.1.kind) s2):=Ys (by rw[HO.o,ho];try rfl);replace HA:=Ys hA;replace HK:=Ys hK;replace HS:=Ys hO;clear hA hK hO hL ho;have y3:=(ru.o.kp HK.o Vd).c 3 (.int .i64 G.1.kind.kind) rfl;have y4:=(ru.o.kp HK.o Vd).c 4 (.string G.1.kind.name) rfl;go_wp2_with fail;refine(vI _ G.1.kind).mono ?_;rintro e w3 ⟨rfl,hE⟩;replace HA:=Ys (HA.o.ext hE);replace HK:=Ys (HK.o.trans hE.any);clear hE;go_wp2_with fail;refine(jq _ _ _ _ _ _ _ _ _ _ _ _ HA.o (M.dP G.1.kind)).mono ?_;rintro e w4 aI;replace aI:=aO.after HK.o HS.o aI;rcases aI with⟨hK,hL,⟨ho,rfl⟩|⟨s4,ho,rfl,vl4,vs4,hA,hO⟩⟩
 · exact⟨rfl,aO.after FV.o (bu.refl _ _ _) ⟨hK,hL,.inl ⟨by rw[HO.o,ho];try rfl,rfl⟩⟩⟩
 replace HO:Zs (M.aQ p k m i s=some s4):=Ys (by rw[HO.o,ho];try rfl);replace HA:=Ys hA;replace HK:=Ys hK;replace HS:=Ys hO;clear hA hK hO hL ho;go_wp2_with fail;((try simp only[Exit.inBlock,Exit.then]);(first|refine bodyPost_ret (results_none rfl _ _ _) rfl ?_|refine bodyPost_end (results_none rfl _ _ _) rfl ?_));exact aO.after FV.o (bu.refl _ _ _) ⟨HK.o,HA.o.cu,.inr ⟨_,HO.o,rfl,_,_,HA.o,HS.o⟩⟩
theorem NG(w:World)(l:au)(p:M.ai)(B kb:Nat)(k:Int)(m:M.Method)(t:lJ)(at_:Int)(s:M.gB)(vl vs:Value)(h:aD w l p B kb k m t at_ s vl vs)(i:M.Ins)(dL:i.op=8):
    Calls Tryz.prog 86 #[.pointer (some ⟨kb,0,none⟩),.agg #[.int .i64 i.op,.int .i64 i.a,.string i.name,.string i.member]] w (aO w l p B kb k m t at_ vl vs (M.aQ p k m i s)):=by
 have HO:Zs (M.aQ p k m i s=if(M.get p k i.name i.member).2=1 then(M.gG p k (M.dP (M.get p k i.name i.member).1.kind) s).bind (M.gG p k (M.dC i.name))else none):=Ys (by unfold M.aQ;rw[dL];rfl);obtain⟨w0,bN,aM,b3⟩:=nu w #[.int .i64 i.op,.int .i64 i.a,.string i.name,.string i.member] 30;have dS:=Ys bN;have HA:=Ys (h.ext aM);have HK:Zs (Kp (fE l kb vl vs) w0 w0):=Ys (Kp.refl _ _);have HS:=Ys (bu.refl w0.heap.size vl vs);have bW:=Ys aM;have gW:=Ys b3;have zZ:=h.blk.lt;have rD:¬fE l kb vl vs w.heap.size:=aD.gQ h;clear dL h aM b3 bN;go_enter Tryz.func86,Tryz.ntmps86;go_wp2_with fail;rw[←dS.o];obtain⟨G,hG⟩:∃G,M.get p k i.name i.member=G:=⟨_,rfl⟩;have vY:=yZ _ _ _ _ _ _ _ _ _ _ _ _ HA.o i;rw[hG]at vY;replace HO:Zs (M.aQ p k m i s=if G.2=1 then((M.gG p k (M.dP G.1.kind) s).bind (M.gG p k (M.dC i.name)))else none):=Ys (by rw[HO.o,hG]);have rX:=HA.o.cu.ord;have hlB:=HA.o.hB;have acz:=HA.o.hk;refine vY.mono ?_;rintro e w1 ⟨j3,vV,⟨hc,rfl⟩|⟨hc,he⟩⟩
 · exact⟨rfl,aO.behind bW.o ⟨j3.weak (fun b _ e=>.inl e),vV,.inl ⟨by rw[HO.o,if_neg hc],rfl⟩⟩⟩
 replace HO:Zs (M.aQ p k m i s=((M.gG p k (M.dP G.1.kind) s).bind (M.gG p k (M.dC i.name)))):=Ys (by rw[HO.o,if_pos hc]);replace he:e=.returned (.agg #[.int .i64 G.1.of.keeper,.string G.1.of.name,.int .i64 G.1.at_,.int .i64 G.1.kind.kind,.string G.1.kind.name]):=he;subst he;have ng:=HA.o.il j3 vV;obtain⟨w2,jS,bY,b5⟩:=nu w1 #[.int .i64 G.1.of.keeper,.string G.1.of.name,.int .i64 G.1.at_,.int .i64 G.1.kind.kind,.string G.1.kind.name] 187;have Cx:=gW.o.kp j3 (fun e=>rD (.inl e));have AL:=Cx.lt;have y2:=Cx.c 2 (.string i.name) rfl;have Vd:¬fE l kb vl vs w1.heap.size:=ng.gQ;have FV:Zs (Kp (fE l kb vl vs) w w2):=Ys ((bW.o.any.trans (j3.weak (fun b _ e=>.inl e))).trans bY.any);have ru:=Ys b5;replace gW:=Ys (Cx.ext bY);replace HA:=Ys (ng.ext bY);replace HK:Zs (Kp (fE l kb vl vs) w2 w2):=Ys (Kp.refl _ _);replace HS:=Ys (bu.refl w2.heap.size vl vs);have xX:=Ys jS;have HG:=Ys hG;clear vY j3 vV hc jS bY b5 Cx ng hG;go_wp2_with fail;rw[←xX.o];clear y2;refine(vI _ G.1.kind).mono ?_;rintro e w1 ⟨rfl,hE⟩;replace HA:=Ys (HA.o.ext hE);replace HK:=Ys (HK.o.trans hE.any);clear hE;go_wp2_with fail;refine(fo _ _ _ _ _ _ _ _ _ _ _ _ HA.o (M.dP G.1.kind)).mono ?_;rintro e w2 aI;replace aI:=aO.after HK.o HS.o aI;rcases aI with⟨hK,hL,⟨ho,rfl⟩|⟨s2,ho,rfl,I7,vs2,hA,hO⟩⟩
 · exact⟨rfl,aO.after FV.o (bu.refl _ _ _) ⟨hK,hL,.inl ⟨by rw[HO.o,ho];try rfl,rfl⟩⟩⟩
 replace HO:Zs (M.aQ p k m i s=M.gG p k (M.dC i.name) s2):=Ys (by rw[HO.o,ho];try rfl);replace HA:=Ys hA;replace HK:=Ys hK;replace HS:=Ys hO;clear hA hK hO hL ho;have y2:=(gW.o.kp HK.o rD).c 2 (.string i.name) rfl;go_wp2_with fail;refine(qQ _ i.name).mono ?_;rintro e w3 ⟨rfl,hE⟩;replace HA:=Ys (HA.o.ext hE);replace HK:=Ys (HK.o.trans hE.any);clear hE;go_wp2_with fail;refine(fo _ _ _ _ _ _ _ _ _ _ _ _ HA.o (M.dC i.name)).mono ?_;rintro e w4 aI;replace aI:=aO.after HK.o HS.o aI;rcases aI with⟨hK,hL,⟨ho,rfl⟩|⟨s4,ho,rfl,vl4,vs4,hA,hO⟩⟩
 · exact⟨rfl,aO.after FV.o (bu.refl _ _ _) ⟨hK,hL,.inl ⟨by rw[HO.o,ho];try rfl,rfl⟩⟩⟩
 replace HO:Zs (M.aQ p k m i s=some s4):=Ys (by rw[HO.o,ho];try rfl);replace HA:=Ys hA;replace HK:=Ys hK;replace HS:=Ys hO;clear hA hK hO hL ho;go_wp2_with fail;((try simp only[Exit.inBlock,Exit.then]);(first|refine bodyPost_ret (results_none rfl _ _ _) rfl ?_|refine bodyPost_end (results_none rfl _ _ _) rfl ?_));exact aO.after FV.o (bu.refl _ _ _) ⟨HK.o,HA.o.cu,.inr ⟨_,HO.o,rfl,_,_,HA.o,HS.o⟩⟩
end Go.Proofs.YtohpiobncgafeaaGreatDoor
namespace Go.Proofs.YtohpiobncgafeaaGreatDoor
open Go Go.RowKit
attribute [local go_sem] Oper.semAt_some
theorem Ca(w:World)(a:Option Addr)(n c:Nat):
    Calls Tryz.prog 128 #[.slice a n c] w fun e w'=>
     e=.returned (.func (.func 144) #[] #[.pointer (some ⟨w.heap.size,0,none⟩)])∧w.alloc (.cells #[.slice a n c] 27)=w':=by
 go_enter Tryz.func128,Tryz.ntmps128;go_wp2;go_ret;exact⟨rfl,rfl⟩
def Ij(x:Int×M.Kind):Array Value:=#[.int .i64 x.1,.agg #[.int .i64 x.2.kind,.string x.2.name]]
theorem yg(refs:List M.Kind)(Vb:Nat)(v:Value)(I Bd:Nat→Prop)(hBd:∀k,Bd k→k≠Vb∧¬I k):
    Rn Tryz.prog 144 #[.pointer (some ⟨Vb,0,none⟩)] Ij (fun _=>False) Bd
     (fun xs=>xs=backTo refs refs.length) (fun pre=>∃rest,backTo refs refs.length=pre++rest) (fun _=>True)
     (fun W=>az W Vb 27 #[v]∧SliceOf 2 eZ W I v refs) (fun pre x=>∃rest,backTo refs refs.length=pre++x::rest):=by
 intro lp J Jx Jp W ⟨UT,oD⟩ hJ RG hJp hN hY YL;obtain⟨a,cap,rfl,hn,dx⟩:=oD.form;refine callsIn_of_wp Tryz.func144 rfl trivial ?_ rfl;simp only[Tryz.ntmps144,List.size_toArray,List.length_cons,List.length_nil,Nat.reduceAdd,Nat.reduceSub,Array.replicate_succ,Array.replicate_zero,List.push_toArray,List.append_toArray,List.nil_append,List.cons_append];have c0:=UT.c 0 (.slice a refs.length cap) rfl;have hw:IntKind.i64.wrap ((refs.length:Int) - 1)=(refs.length:Int) - 1:=IntWalk.i64_in _ (by omega);gi_wp2;clear hw;gi_loopg [3] refs.length (fun m i wr=>∃pre:List (Int×M.Kind),((m=0∧i=.int .i64 (-1))∨∃k:Nat,m=k+1∧i=.int .i64 k)∧m≤refs.length∧Zs (backTo refs refs.length=pre++backTo refs m)∧Zs (J pre wr∧az wr Vb 27 #[.slice a refs.length cap]∧SliceOf 2 eZ wr I (.slice a refs.length cap) refs))
 case atStart=>
  refine⟨[],?_,Nat.le_refl _,Ys (by simp),Ys ⟨YL,UT,oD⟩⟩;rcases Nat.eq_zero_or_pos refs.length with h0|h0
  · left;exact⟨h0,by rw[h0];rfl⟩
  · right;exact⟨refs.length - 1,by omega,by congr 1;omega⟩
 case round =>
  obtain⟨pre,hm,Qr,HB,HJ⟩:=hrel;rcases hm with⟨rfl,rfl⟩|⟨k,rfl,rfl⟩
  · have HS:Zs (backTo refs refs.length=pre):=Ys (by rw[HB.o];simp[backTo]);gi_wp2;((try simp only[Exit.inBlock,Exit.then]);(first|refine bodyPost_ret (results_none rfl _ _ _) rfl ?_|refine bodyPost_end (results_none rfl _ _ _) rfl ?_));exact .inl ⟨⟨_,rfl⟩,.inl ⟨pre,HS.o.symm,HJ.o.1⟩⟩
  · obtain⟨x,hx⟩:=get_some (show k<refs.length by omega);obtain⟨hj,hb,hs⟩:=HJ.o;obtain⟨b,off,cs,rfl,hI,rfl, -,hc⟩:=hs.get hx;obtain⟨g0,g1⟩:=hc.two;have d0:=hb.c 0 (.slice (some ⟨b,off,none⟩) refs.length cap) rfl;have uG:(0:Int)≤(k:Int):=by omega
    have pg:(k:Int)<refs.length:=by omega
    have hd:decide ((0:Int)≤(k:Int))=true:=decide_eq_true uG;have Ov:Zs (backTo refs refs.length=(pre++[((k:Int),x)])++backTo refs k):=Ys (by rw[HB.o,qh hx,List.append_assoc];rfl);obtain⟨fn,tmps,assign,body,hy,hR⟩:=hY pre ((k:Int),x) wr ⟨backTo refs k,by rw[Ov.o,List.append_assoc];rfl⟩ hj;simp only[Ij]at hy hR;have HY:=Ys hY;have HJJ:=Ys (And.intro hJ RG);have HH:=Ys (And.intro hBd (And.intro hb hs));have hw:IntKind.i64.wrap ((k:Int) - 1)=(k:Int) - 1:=IntWalk.i64_in _ (by omega);clear hY hJ RG hJp hN hBd hb hs oD hx hc hj UT;gi_wp2_with fail;refine hR.mono ?_;rintro e W1 ⟨gD,(⟨rfl,OQ⟩|⟨rfl,Zz⟩|⟨ch,rfl,hjp⟩)⟩
    · have p8:=HH.o.2.1.kp gD (fun hb=>(HH.o.1 _ hb).1 rfl);have xJ:=HH.o.2.2.keep eZ.stays (Kp.same gD fun q hq hb=>(HH.o.1 _ hb).2 hq) (fun _ h=>h);have HJ1:=Ys (And.intro OQ (And.intro p8 xJ));clear OQ p8 xJ gD g0 g1 d0 hy hR hd;gi_wp2_with fail;gi_roundg k
      case measure=>omega
      case rel=>
       refine⟨pre++[((k:Int),x)],?_,by omega,Ov,HJ1⟩;cases k with
       |zero=>left;exact⟨rfl,rfl⟩
       |succ k=>right;exact⟨k,rfl,by congr 1;omega⟩
    · gi_wp2_with fail;((try simp only[Exit.inBlock,Exit.then]);(first|refine bodyPost_ret (results_none rfl _ _ _) rfl ?_|refine bodyPost_end (results_none rfl _ _ _) rfl ?_));exact .inl ⟨⟨_,rfl⟩,.inr ⟨_,⟨_,Ov.o⟩,Zz⟩⟩
    · exact⟨rfl,.inr ⟨_,_,rfl,⟨_,Ov.o⟩,hjp⟩⟩
end Go.Proofs.YtohpiobncgafeaaGreatDoor
namespace Go.Proofs.YtohpiobncgafeaaGreatDoor
open Go Go.RowKit
attribute [local go_sem] Oper.semAt_some
theorem gP{w:World}{I:Nat→Prop}{m:M.Method}{cs:List Value}(h:aC w I m cs):∃t:lJ,cs=eG m t:=by
 obtain⟨a1,c1,a2,c2,a3,c3,e⟩:=h.form;exact⟨⟨a1,c1,a2,c2,a3,c3⟩,e⟩
theorem aD.old{w:World}{l:au}{p:M.ai}{B kb:Nat}{k:Int}{m:M.Method}{t:lJ}{at_:Int}{s:M.gB}{vl vs:Value}(h:aD w l p B kb k m t at_ s vl vs){q:Nat}(hq:fE l kb vl vs q):q<w.heap.size:=by
 have h1:=h.blk.lt;have h2:=h.cu.Cg;rcases hq with e|e|e|e
 · omega
 · omega
 · exact(h.loc.lt q e).2
 · exact(h.bQ.lt q e).2
theorem aD.low{w:World}{l:au}{p:M.ai}{B kb:Nat}{k:Int}{m:M.Method}{t:lJ}{at_:Int}{s:M.gB}{vl vs:Value}(h:aD w l p B kb k m t at_ s vl vs){q:Nat}(hq:q<l.O):¬fE l kb vl vs q:=by
 have h1:=h.hB;have h2:=h.cu.ord;have h3:=h.hk;rintro(e|e|e|e)
 · omega
 · omega
 · have:=(h.loc.lt q e).1;omega
 · have:=(h.bQ.lt q e).1;omega
theorem CR{p:M.ai}{k:Int}{x:M.Kind}:∀(L:List M.Kind) (s:M.gB),M.gM p k (L++[x]) s=(M.gM p k L s).bind (M.gG p k (M.dP x)):=by
 intro L;induction L with
 |nil=>intro s;simp[M.gM]
 |cons y r ih=>
  intro s;simp only[List.cons_append,M.gM];cases M.gG p k (M.dP y) s with
  |none=>rfl
  |some s1=>exact ih s1
theorem CQ{p:M.ai}{k:Int}{r:List M.Kind}:∀{L:List M.Kind} {s:M.gB},M.gM p k L s=none→M.gM p k (L++r) s=none:=by
 intro L;induction L with
 |nil=>intro s h;simp[M.gM]at h
 |cons y t ih=>
  intro s h;simp only[List.cons_append,M.gM]at h ⊢;cases hy:M.gG p k (M.dP y) s with
  |none=>rfl
  |some s1=>rw[hy]at h;exact ih h
def Lc(l:au)(p:M.ai)(B kb:Nat)(k:Int)(m:M.Method)(t:lJ)(at_:Int)(s:M.gB)(vl vs:Value)(w8:World)(pre:List (Int×M.Kind))(W:World):Prop:=
 ∃s' nO vs',M.gM p k (pre.map Prod.snd) s=some s'∧aD W l p B kb k m t at_ s' nO vs'∧bu (w8.heap.size+3) vl vs nO vs'∧Kp (fE l kb vl vs) w8 W
def WQ(l:au)(p:M.ai)(kb:Nat)(k:Int)(at_:Int)(s:M.gB)(vl vs:Value)(w8:World)(ch:List PanicEntry)(pre:List (Int×M.Kind))(W:World):Prop:=
 ch=sG (at_+1)∧M.gM p k (pre.map Prod.snd) s=none∧aj W l p∧Kp (fE l kb vl vs) w8 W
def vL(ev:Value)(c:Int):Prop:=(c=1∧ev=Value.nilIface)∨(c≠1∧∃b,ev=.iface 99 (.pointer (some ⟨b,0,none⟩)))
theorem uJ.weak{w:World}{ev:Value}{c:Int}(h:uJ w ev c):vL ev c:=h.imp id fun⟨h1,b,h2,_⟩=>⟨h1,b,h2⟩
theorem J5(w:World)(l:au)(p:M.ai)(B kb:Nat)(k:Int)(m:M.Method)(t:lJ)(at_:Int)(s:M.gB)(vl vs:Value)(h:aD w l p B kb k m t at_ s vl vs)(i:M.Ins)(dL:i.op=9):
    Calls Tryz.prog 87 #[.pointer (some ⟨kb,0,none⟩),.agg #[.int .i64 i.op,.int .i64 i.a,.string i.name,.string i.member]] w (aO w l p B kb k m t at_ vl vs (M.aQ p k m i s)):=by
 obtain⟨G,hG⟩:∃G,M.call p k i.name i.member=G:=⟨_,rfl⟩;have HO:Zs (M.aQ p k m i s=if G.2=1 then(M.gM p k (M.method p G.1).args.reverse s).bind fun s1=>(M.gG p k (M.dC i.name) s1).bind (M.fF m (M.dP (M.method p G.1).ret))else none):=Ys (by unfold M.aQ;rw[dL,hG];rfl);obtain⟨w0,bN⟩:∃w0,w0=(w.alloc (.cells #[.pointer (some ⟨kb,0,none⟩)] 108)).alloc (.cells #[.int .i64 i.op,.int .i64 i.a,.string i.name,.string i.member] 30):=⟨_,rfl⟩;have aM:Ext w w0:=by rw[bN];exact kx
 have b2:az w0 w.heap.size 108 #[.pointer (some ⟨kb,0,none⟩)]:=by rw[bN];exact(az.new _ _ _).ext kx
 have b3:az w0 (w.heap.size+1) 30 #[.int .i64 i.op,.int .i64 i.a,.string i.name,.string i.member]:=by rw[bN];exact az.newAt _ _ (by simp)
 have hA:=h.ext aM;have hD:=h.cu.Cg;have rX:=h.cu.ord;have hB:=h.hB;have hk:=h.hk;have hz:=h.blk.lt;have ou:=h.ou;have OT:¬kb=l.D:=by omega
 have KZ:¬w.heap.size=l.D:=by omega
 have kP:¬w.heap.size+1=l.D:=by omega
 obtain⟨T,f,dm,HT⟩:=gy.ex (fun W'=>Kp (·=l.D) w0 W') _ (Kp.refl _ _);have r0:=fun z=>(hA.blk.kp (HT.aK z) OT).c 0 (.pointer (some ⟨l.L,0,none⟩)) rfl;have r1:=fun z=>(hA.blk.kp (HT.aK z) OT).c 1 (.int .i64 k) rfl;have r2:=fun z=>(b3.kp (HT.aK z) kP).c 2 (.string i.name) rfl;have r3:=fun z=>(b3.kp (HT.aK z) kP).c 3 (.string i.member) rfl;have r4:=fun z=>(b2.kp (HT.aK z) KZ).c 0 (.pointer (some ⟨kb,0,none⟩)) rfl;have ax:=Ys HT;have dS:=Ys bN;have bW:=Ys aM;have HA:=Ys hA;have uF:=Ys b2;have gW:=Ys b3;have HG:=Ys hG;have hv:(mX G.1).toArray=#[.int .i64 G.1.of.keeper,.string G.1.of.name,.int .i64 G.1.at_]:=rfl;have HV:=Ys hv;have xB:=Ys h;have TG:=Ys h.gQ;clear h dL bN aM b2 b3 hA HT hG hv;refine(callsIn_wide (n:=10)).1 ?_;refine pW Tryz.func87 rfl ?_;simp only[Tryz.ntmps87,List.size_toArray,List.length_cons,List.length_nil,Nat.reduceAdd,Nat.reduceSub,Array.replicate_succ,Array.replicate_zero,List.push_toArray,List.append_toArray,List.nil_append,List.cons_append];refine oZ fun K hK=>?_;go_wp2_with fail;rw[←dS.o];refine oZ fun K hK=>?_
 have tail : ∀ (b7 : Nat) (w7 : World) (ev : Value), Kp (· = l.D) w0 w7 → aj w7 l p → az w7 b7 53 #[.int .i64 G.1.of.keeper, .string G.1.of.name, .int .i64 G.1.at_] → w0.heap.size ≤ b7 → vL ev G.2 →
     K {tmps:=#[.pointer (some ⟨kb,0,none⟩),.agg #[.int .i64 i.op,.int .i64 i.a,.string i.name,.string i.member],.pointer (some ⟨w.heap.size,0,none⟩),.pointer (some ⟨w.heap.size+1,0,none⟩),
      .pointer (some ⟨b7,0,none⟩),ev,undef,undef,undef,.tuple #[.agg #[.int .i64 G.1.of.keeper,.string G.1.of.name,.int .i64 G.1.at_],ev],.pointer (some ⟨kb,0,none⟩),.pointer (some ⟨kb,0,none⟩),.pointer (some ⟨kb,0,none⟩),.pointer (some ⟨l.L,0,none⟩),
      .pointer (some ⟨kb,0,none⟩),.pointer (some ⟨kb,0,none⟩),.pointer (some ⟨kb,1,none⟩),.int .i64 k,.pointer (some ⟨w.heap.size+1,2,none⟩),.string i.name,.pointer (some ⟨w.heap.size+1,3,none⟩),.string i.member,
      .tuple #[.agg #[.int .i64 G.1.of.keeper,.string G.1.of.name,.int .i64 G.1.at_],ev],.agg #[.int .i64 G.1.of.keeper,.string G.1.of.name,.int .i64 G.1.at_],ev,undef,undef,undef,undef,undef,undef,undef,undef,undef,undef,undef,undef,undef,undef,undef,undef,undef,undef,undef,undef,undef,undef,undef,undef,undef,undef,undef,undef,undef],defers:=[]} w7:=by
  clear ax r0 r1 r2 r3 r4;intro b7 w7 ev yE Qf KR UQ ji;have lI:=Ys yE;have DN:=Ys Qf;have FQ:=Ys KR;have s2:=(uF.o.kp yE KZ).c 0 (.pointer (some ⟨kb,0,none⟩)) rfl;clear yE Qf KR;refine hK _ _ ?_;clear hK K;refine oZ fun K hK=>?_;rcases ji with⟨hc,rfl⟩|⟨hc,b,rfl⟩;rotate_left
  · replace HO:Zs (M.aQ p k m i s=none):=Ys (by rw[HO.o,if_neg hc]);go_wp2_with fail;refine(dW _ kb at_ ((HA.o.blk.kp lI.o OT).c 10 _ rfl) ou.1 (by omega)).mono ?_;rintro e w9 ⟨rfl,rfl⟩;exact⟨rfl,aO.behind bW.o ⟨lI.o.weak (fun b _ e=>.inl e),DN.o,.inl ⟨HO.o,rfl⟩⟩⟩
  replace HO:Zs (M.aQ p k m i s=(M.gM p k (M.method p G.1).args.reverse s).bind fun s1=>(M.gG p k (M.dC i.name) s1).bind (M.fF m (M.dP (M.method p G.1).ret))):=Ys (by rw[HO.o,if_pos hc]);have uT:Zs (M.bM p G.1=true):=Ys (by
   have:=HG.o;rw[←this]at hc ⊢;obtain⟨r,hr⟩:=M.jY hc;exact M.jN hr)
  go_wp2_with fail;clear s2;obtain⟨T,f,dm,HT⟩:=gy.ex (fun W'=>Ext w7 W') _ (Kp.refl _ _);have Zb:=HA.o.blk.kp lI.o OT;have Y6:=uF.o.kp lI.o KZ;have r0:=fun z=>(Zb.ext (HT.aK z)).c 0 (.pointer (some ⟨l.L,0,none⟩)) rfl;have r4:=fun z=>(Y6.ext (HT.aK z)).c 0 (.pointer (some ⟨kb,0,none⟩)) rfl;have r5:=fun z=>(FQ.o.ext (HT.aK z)).c 0 (.int .i64 G.1.of.keeper) rfl;have r6:=fun z=>(FQ.o.ext (HT.aK z)).c 1 (.string G.1.of.name) rfl;have r7:=fun z=>(FQ.o.ext (HT.aK z)).c 2 (.int .i64 G.1.at_) rfl;have ax:=Ys HT;clear HT Zb Y6;refine oZ fun K hK=>?_;have Fa:∀(b8:Nat) (w8:World) (t2:lJ),Ext w7 w8→az w8 b8 34 (eG (M.method p G.1) t2).toArray→w7.heap.size≤b8→aC w8 (· <l.O) (M.method p G.1) (eG (M.method p G.1) t2)→
   K {tmps:=#[.pointer (some ⟨kb,0,none⟩),.agg #[.int .i64 i.op,.int .i64 i.a,.string i.name,.string i.member],.pointer (some ⟨w.heap.size,0,none⟩),.pointer (some ⟨w.heap.size+1,0,none⟩),
    .pointer (some ⟨b7,0,none⟩),.nilIface,.pointer (some ⟨b8,0,none⟩),undef,undef,.tuple #[.agg #[.int .i64 G.1.of.keeper,.string G.1.of.name,.int .i64 G.1.at_],.nilIface],.pointer (some ⟨kb,0,none⟩),.pointer (some ⟨kb,0,none⟩),.pointer (some ⟨kb,0,none⟩),.pointer (some ⟨l.L,0,none⟩),
    .pointer (some ⟨kb,0,none⟩),.pointer (some ⟨kb,0,none⟩),.pointer (some ⟨kb,1,none⟩),.int .i64 k,.pointer (some ⟨w.heap.size+1,2,none⟩),.string i.name,.pointer (some ⟨w.heap.size+1,3,none⟩),.string i.member,
    .tuple #[.agg #[.int .i64 G.1.of.keeper,.string G.1.of.name,.int .i64 G.1.at_],.nilIface],.agg #[.int .i64 G.1.of.keeper,.string G.1.of.name,.int .i64 G.1.at_],.nilIface,.nilIface,.bool false,undef,undef,.pointer (some ⟨kb,0,none⟩),.pointer (some ⟨kb,0,none⟩),.pointer (some ⟨kb,0,none⟩),.pointer (some ⟨l.L,0,none⟩),.agg #[.int .i64 G.1.of.keeper,.string G.1.of.name,.int .i64 G.1.at_],.agg (eG (M.method p G.1) t2).toArray,undef,undef,undef,undef,undef,undef,undef,undef,undef,undef,undef,undef,undef,undef,undef,undef,undef,undef,undef],defers:=[]} w8:=by
   clear ax r0 r4 r5 r6 r7;intro b8 w8 t2 lC Ut hb8 jk;have jQ:=Ys lC;have zQ:=Ys Ut;have zU:=Ys jk;clear lC Ut jk;refine hK _ _ ?_;clear hK K;have adD:=zQ.o.c 1 (.slice t2.a1 (M.method p G.1).args.length t2.c1) rfl;refine Fj ?_;refine AZ (n:=10) fun K hK=>wpIn_wide.2 ?_;go_wp2_with fail;refine(Ca _ _ _ _).mono ?_;rintro e w9 ⟨rfl,rfl⟩;go_wp2_with fail;refine Hu ?_;have adN:kb<w8.heap.size:=(HA.o.blk.kp lI.o OT |>.ext jQ.o).lt;have hA8:aD w8 l p B kb k m t at_ s vl vs:=(HA.o.il lI.o DN.o).ext jQ.o;have Fu:=Ys hA8;have oD:SliceOf 2 eZ w8 (· <l.O) (.slice t2.a1 (M.method p G.1).args.length t2.c1) (M.method p G.1).args:=aC.args zU.o;have Dx:=Ys oD;clear hA8 oD;have HN:Zs (¬fE l kb vl vs w.heap.size):=Ys TG.o;refine Kr (gf:=144) (lb:=#[.pointer (some ⟨w8.heap.size,0,none⟩)]) (α:=Int×M.Kind) rfl (enters_of Tryz.func144 (by kernel_rfl) rfl) (encs:=Ij) (fun x=>rfl)
    (Bb:=fun k=>fE l kb vl vs k∨w8.heap.size+3≤k)
    (yg (M.method p G.1).args w8.heap.size (.slice t2.a1 (M.method p G.1).args.length t2.c1) (· <l.O) _ ?hBd) ?hIt ?hD1 ?hD2 ?hB1 ?hB2
    (Lc l p B kb k m t at_ s vl vs w8) (fun _ _ _=>False) (WQ l p kb k at_ s vl vs w8) ⟨_,Tryz.func87⟩ ?hIp ?hI ?hIx ?h0 ?hIB
    (fun pre x W a₁ W₁=>Lc l p B kb k m t at_ s vl vs w8 pre W∧w8.heap.size+2<W.heap.size∧W₁=W.alloc (.cells #[.int .i64 x.2.kind,.string x.2.name] 25)∧
     a₁={tmps:=#[.pointer (some ⟨kb,0,none⟩),.agg #[.int .i64 i.op,.int .i64 i.a,.string i.name,.string i.member],.pointer (some ⟨w.heap.size,0,none⟩),.pointer (some ⟨w.heap.size+1,0,none⟩),
    .pointer (some ⟨b7,0,none⟩),.nilIface,.pointer (some ⟨b8,0,none⟩),undef,.pointer (some ⟨W.heap.size,0,none⟩),.tuple #[.agg #[.int .i64 G.1.of.keeper,.string G.1.of.name,.int .i64 G.1.at_],.nilIface],.pointer (some ⟨kb,0,none⟩),.pointer (some ⟨kb,0,none⟩),.pointer (some ⟨kb,0,none⟩),.pointer (some ⟨l.L,0,none⟩),
    .pointer (some ⟨kb,0,none⟩),.pointer (some ⟨kb,0,none⟩),.pointer (some ⟨kb,1,none⟩),.int .i64 k,.pointer (some ⟨w.heap.size+1,2,none⟩),.string i.name,.pointer (some ⟨w.heap.size+1,3,none⟩),.string i.member,
    .tuple #[.agg #[.int .i64 G.1.of.keeper,.string G.1.of.name,.int .i64 G.1.at_],.nilIface],.agg #[.int .i64 G.1.of.keeper,.string G.1.of.name,.int .i64 G.1.at_],.nilIface,.nilIface,.bool false,undef,undef,.pointer (some ⟨kb,0,none⟩),.pointer (some ⟨kb,0,none⟩),.pointer (some ⟨kb,0,none⟩),.pointer (some ⟨l.L,0,none⟩),.agg #[.int .i64 G.1.of.keeper,.string G.1.of.name,.int .i64 G.1.at_],.agg (eG (M.method p G.1) t2).toArray,
    .pointer (some ⟨b8,1,none⟩),.slice t2.a1 (M.method p G.1).args.length t2.c1,.func (.func 144) #[] #[.pointer (some ⟨w8.heap.size,0,none⟩)],.int .i64 x.1,.agg #[.int .i64 x.2.kind,.string x.2.name],undef,undef,undef,undef,undef,undef,undef,undef,undef,undef,undef,undef,undef,undef],defers:=[]}) ?hassign ?hAx ?hbody ?hdone ?hstop ?hpanic
   case hBd=>
    intro q hq;have Vh:(fE l kb vl vs q∨w8.heap.size+3≤q)∨q=(w8.alloc (.cells #[.slice t2.a1 (M.method p G.1).args.length t2.c1] 27)).heap.size+1:=hq;simp only[World.size_alloc]at Vh;have h1:=Fu.o.gQ;rcases Vh with(h|h)|h
    · exact⟨fun e=>h1 (e▸h),fun e=>aD.low Fu.o e h⟩
    · omega
    · omega
   case hIt=>
    intro W hW;exact⟨(az.new _ _ _).ext hW,(Dx.o.ext eZ.stays ((Kp.refl _ w8).alloc _)).ext eZ.stays hW⟩
   case hD1=>exact fun h=>h
   case hD2=>exact fun h=>h
   case hB1=>
    simp only[World.size_alloc];rintro(h|h)
    · have:=aD.old Fu.o h;omega
    · omega
   case hB2=>
    simp only[World.size_alloc];rintro(h|h)
    · have:=aD.old Fu.o h;omega
    · omega
   case hIp=>
    rintro c s1 A B' ⟨h1,h2,h3,h4⟩ hk;simp only[World.size_alloc]at hk;have Yt:=Fu.o.cu.lt;exact⟨h1,h2,h3.kp hk (fun b hb e=>by rcases e with e|e;exact e;omega),h4.own hk (fun b e=>by rcases e with e|e;exact e.elim;omega)⟩
   case hI=>
    rintro s1 A B' ⟨s',nO,vs',h1,h2,h3,h4⟩ hk;simp only[World.size_alloc]at hk;have Yt:=Fu.o.cu.lt;have ab9:=Fu.o.cu.ord;have no:∀g,(nO.ownBlock=some g∨vs'.ownBlock=some g)→¬(False∨g=w8.heap.size+1+1):=fun g hg e=>by
     rcases e with e|e
     · exact e
     · rcases h3 g hg with h|h|h
       · have:=(Fu.o.loc.lt g h).2;omega
       · have:=(Fu.o.bQ.lt g h).2;omega
       · omega
    exact⟨s',nO,vs',h1,h2.kp' hk (h2.cu.kp hk (fun b hb e=>by rcases e with e|e;exact e;omega)) (fun e=>by rcases e with e|e;exact e;omega) (fun g hg=>no g (.inl hg)) (fun g hg=>no g (.inr hg)) (fun b hb e=>by rcases e with e|e;exact e;omega),h3,h4.own hk (fun b e=>by rcases e with e|e;exact e.elim;omega)⟩
   case hIx=>exact fun _ _ _ _ h=>h.elim
   case h0=>exact⟨s,vl,vs,rfl,Fu.o.ext kx,bu.refl _ _ _,(kx:Ext w8 _).any⟩
   case hIB=>exact fun _ _ _=>trivial
   case hassign=>
    intro pre x W K OU hi cK hK;simp only[Ij];simp only[World.size_alloc]at cK;gi_wp2_with fail
   case hAx=>
    rintro pre x W a₁ W₁ ⟨_,_,rfl,_⟩;exact((Kp.refl _ W).alloc _)
   case hbody=>
    rintro pre x W a₁ W₁ W₂ ⟨⟨s',nO,vs',h1,h2,h3,h4⟩,cK,rfl,rfl⟩ jf oF;simp only[World.size_alloc]at jf oF;have Yt:=Fu.o.cu.lt;have ab9:=Fu.o.cu.ord;have wu:w.heap.size+1<w8.heap.size:=by
     have:=gW.o.lt;have:=lI.o.size;have:=jQ.o.size;omega
    have no:∀g,(nO.ownBlock=some g∨vs'.ownBlock=some g)→g≠w8.heap.size+1+1∧(g<w.heap.size∨w8.heap.size+3≤g)∧(fE l kb vl vs g∨w8.heap.size+3≤g):=fun g hg=>by
     rcases h3 g hg with h|h|h
     · have:=(xB.o.loc.lt g h).2;exact⟨by omega,.inl this,.inl (.inr (.inr (.inl h)))⟩
     · have:=(xB.o.bQ.lt g h).2;exact⟨by omega,.inl this,.inl (.inr (.inr (.inr h)))⟩
     · exact⟨by omega,.inr h,.inr h⟩
    have aZ:Ext W (W.alloc (.cells #[.int .i64 x.2.kind,.string x.2.name] 25)):=kx;have ng:=h2.ext aZ;have Yq:aD W₂ l p B kb k m t at_ s' nO vs':=ng.kp' jf (ng.cu.kp jf (fun b hb e=>by omega)) (by omega) (fun g hg=>(no g (.inl hg)).1) (fun g hg=>(no g (.inr hg)).1) (fun b hb e=>by omega);have cb:=(az.new W 25 #[.int .i64 x.2.kind,.string x.2.name]).kp jf (by omega);have hnW:¬fE l kb nO vs' W.heap.size:=h2.gQ;have Qv:¬fE l kb nO vs' w.heap.size:=by
     rintro(e|e|e|e)
     · omega
     · omega
     · have:=(no _ (.inl e)).2.1;omega
     · have:=(no _ (.inr e)).2.1;omega
    have iA:=((((uF.o.kp lI.o KZ).ext jQ.o).kp h4 HN.o).ext aZ).kp jf (by omega);have xe:Kp (fE l kb vl vs) w8 W₂:=(h4.trans aZ.any).own jf (fun k e=>by omega);obtain⟨T,f,dm,HT⟩:=gy.ex (fun W'=>Kp (fE l kb nO vs') W₂ W') _ (Kp.refl _ _);have r2:=fun z=>(iA.kp (HT.aK z) Qv).c 0 (.pointer (some ⟨kb,0,none⟩)) rfl;have r7:=fun z=>(cb.kp (HT.aK z) hnW).c 0 (.int .i64 x.2.kind) rfl;have r8:=fun z=>(cb.kp (HT.aK z) hnW).c 1 (.string x.2.name) rfl;have ax:=Ys HT;have xC:=Ys Yq;have Ri:=Ys xe;have vM:=Ys no;have H3:=Ys h3;have HS:Zs (M.gM p k ((pre++[x]).map Prod.snd) s=M.gG p k (M.dP x.2) s'):=Ys (by rw[List.map_append,List.map_cons,List.map_nil,CR,h1];rfl);have acS:w8.heap.size+3≤W₂.heap.size:=by omega
    clear h1 h2 h3 h4 jf oF ng Yq cb iA xe HT aZ no hnW Qv;gi_wp2_with fail;(refine N8 ax 4 [([0,1],2),([],3)] [] ?_ (fun _=>trivial) ?_)
    · exact(Kp.refl _ _).drew
    (refine Nh [_,_] rfl rfl fun K hK=>?_);(repeat (go_big_quiet_step (fail)));(refine qn hK fun K2 ag=>?_);clear hK K;gi_wp2_with fail;refine⟨trivial,?_⟩;refine(CallsIn.inRound _ (callsIn_wide.2 (vI W₂.drew x.2))).mono ?_;rintro e w4 ⟨rfl,dN⟩;have iM:Zs (Ext W₂ w4):=Ys (((Kp.refl _ W₂).drew).trans dN);clear dN;gi_wp2_with fail;(refine kk ax ag iM.o.any ?_);clear ag K2;(refine aak rfl fun K2 ag=>?_);gi_wp2_with fail;refine⟨trivial,?_⟩;refine(CallsIn.inRound _ (callsIn_wide.2 (fo w4 _ _ _ _ _ _ _ _ _ _ _ (xC.o.ext iM.o) (M.dP x.2)))).mono ?_;rintro e w5 aI;have ed:=aO.behind iM.o aI;have hBb:Kp (fun k=>fE l kb vl vs k∨w8.heap.size+3≤k) W₂ w5:=ed.1.weak (fun b _ e=>by
     rcases e with e|e|e|e
     · exact .inl (.inl e)
     · exact .inl (.inr (.inl e))
     · exact(vM.o b (.inl e)).2.2
     · exact(vM.o b (.inr e)).2.2)
    have UI:Kp (fE l kb vl vs) w8 w5:=Ri.o.mix hBb (fun k hk e=>by rcases e with e|e;exact e;omega);rcases ed with⟨ql,OI,⟨ho,rfl⟩|⟨s2,ho,rfl,I7,vs2,Fy,Mx⟩⟩
    · exact⟨rfl,hBb,rfl,by rw[HS.o,ho],OI,UI⟩
    · have HF:Zs (Kp (fun k=>fE l kb vl vs k∨w8.heap.size+3≤k) W₂ w5∧Lc l p B kb k m t at_ s vl vs w8 (pre++[x]) w5):=Ys ⟨hBb,s2,I7,vs2,by rw[HS.o,ho],Fy,H3.o.trans Mx acS,UI⟩;have BQ:=Ys ql;clear hBb UI ql OI Fy Mx ho aI;gi_wp2_with fail;(refine kk ax ag BQ.o ?_);clear ag K2;(refine Ni ?_);gi_wp2_with fail;exact HF.o
   case hdone =>
    rintro xs W rfl ⟨s',nO,vs',h1,h2,h3,h4⟩ hK;have xg:(backTo (M.method p G.1).args (M.method p G.1).args.length).map Prod.snd=(M.method p G.1).args.reverse:=by rw[iC _ _ (Nat.le_refl _),List.take_length]
    rw[xg]at h1;have ZT:=Fu.o.cu.ord;have acD:=Fu.o.cu.lt;have wu:w.heap.size+1<w8.heap.size:=by
     have:=gW.o.lt;have:=lI.o.size;have:=jQ.o.size;omega
    have oF:(w8.alloc (.cells #[.slice t2.a1 (M.method p G.1).args.length t2.c1] 27)).heap.size=w8.heap.size+1:=by simp
    rw[oF]at hK ⊢;replace HO:Zs (M.aQ p k m i s=(M.gG p k (M.dC i.name) s').bind (M.fF m (M.dP (M.method p G.1).ret))):=Ys (by rw[HO.o,h1];rfl);have Rj:Zs (Kp (fE l kb vl vs) w W):=Ys (bW.o.any.trans (((lI.o.weak (fun b _ e=>.inl e)).trans jQ.o.any).trans h4));refine⟨by simp,by simp,?_⟩;show Code.qM _ _ _ _ _ _
    refine Oi (ds:=[{target:=.collected (w8.heap.size+1),args:=#[]}]) (R:=fun e W'=>W'.heap[w8.heap.size+1]?=some (.deferred (some []))∧aO w l p B kb k m t at_ vl vs (M.aQ p k m i s) e (W'.putObj (w8.heap.size+1) (.deferred none))) ?_ ?_ ?_;rotate_left
    · rintro a W' hd ⟨hk,hR⟩;show LeavesInM _ _ _ _ _ _ a.defers _ _
      rw[hd];refine⟨by simp,.inl ⟨_,_,rfl,run_takeDeferred hk,?_⟩⟩;exact⟨.tuple #[],by simp[results,Tryz.f87,go_sem],hR⟩
    · rintro c a W' hd ⟨hk,hR⟩;show LeavesInM _ _ _ _ _ _ a.defers _ _
      rw[hd];exact⟨by simp,.inl ⟨_,_,rfl,run_takeDeferred hk,hR⟩⟩
    have hWz:w8.heap.size+2≤W.heap.size:=by have:=(Array.getElem?_eq_some_iff.1 hK).1;omega
    have Kk:∀(v1 v2:Value),bu (w8.heap.size+2) vl vs v1 v2→∀q,w.heap.size≤q→q<w8.heap.size+2→¬fE l kb v1 v2 q:=fun v1 v2 ho q hq1 Vi=>by
     rintro(e|e|e|e)
     · omega
     · omega
     · rcases ho q (.inl e)with h|h|h
       · have:=(xB.o.loc.lt q h).2;omega
       · have:=(xB.o.bQ.lt q h).2;omega
       · omega
     · rcases ho q (.inr e)with h|h|h
       · have:=(xB.o.loc.lt q h).2;omega
       · have:=(xB.o.bQ.lt q h).2;omega
       · omega
    have fin:∀(v1 v2:Value) (o:Option M.gB) (e:Ending) (W' W'':World),bu (w8.heap.size+2) vl vs v1 v2→Kp (fE l kb vl vs) w W'→W'.heap[w8.heap.size+1]?=some (.deferred (some []))→aO W' l p B kb k m t at_ v1 v2 o e W''→w8.heap.size+2≤W'.heap.size→
        W''.heap[w8.heap.size+1]?=some (.deferred (some []))∧aO w l p B kb k m t at_ vl vs o e (W''.putObj (w8.heap.size+1) (.deferred none)):=fun v1 v2 o e W' W'' ho uU hd hE qx=>by
     have xE:=Kp.putObj W'' (w8.heap.size+1) (.deferred none);have acu:Kp (fE l kb vl vs) w W'':=uU.look hE.1 (ho.le (by omega));refine⟨(hE.1.block _ (by omega) (Kk v1 v2 ho _ (by omega) (by omega))).trans hd,acu.own xE (fun k e=>by omega),hE.2.1.kp xE (fun b hb e=>by omega),?_⟩;rcases hE.2.2 with⟨h1,h2⟩|⟨s2,h1,h2,a,b,h5,h6⟩
     · exact .inl ⟨h1,h2⟩
     · have ho2:bu (w8.heap.size+2) vl vs a b:=ho.trans h6 (by omega);have nT:∀g,(a.ownBlock=some g∨b.ownBlock=some g)→¬g=w8.heap.size+1:=fun g hg e=>Kk a b ho2 g (by omega) (by omega) (by
        rcases hg with h|h
        · exact .inr (.inr (.inl h))
        · exact .inr (.inr (.inr h)))
       exact .inr ⟨s2,h1,h2,a,b,h5.kp' xE (h5.cu.kp xE (fun b hb e=>by omega)) (by omega) (fun g hg=>nT g (.inl hg)) (fun g hg=>nT g (.inr hg)) (fun b hb e=>by omega),ho2.le (by omega)⟩
    have P6:bu (w8.heap.size+2) vl vs nO vs':=h3.le (by omega);have adE:w.heap.size≤b8∧b8<w8.heap.size:=by
     have:=zQ.o.lt;have:=lI.o.size;have:=bW.o.size;omega
    have n0:∀q,w.heap.size≤q→¬fE l kb vl vs q:=fun q hq h=>by have:=aD.old xB.o h;omega
    have B2:=Ys (((uF.o.kp lI.o KZ).ext jQ.o).kp h4 (n0 _ (by omega)));have B3:=Ys (((gW.o.kp lI.o kP).ext jQ.o).kp h4 (n0 _ (by omega)));have B8:=Ys (zQ.o.kp h4 (n0 _ (by omega)));obtain⟨T,f,dm,HT⟩:=gy.ex (fun W'=>Kp (fE l kb nO vs') W W') _ (Kp.refl _ _);have r2:=fun z=>(B2.o.kp (HT.aK z) (Kk _ _ P6 _ (by omega) (by omega))).c 0 (.pointer (some ⟨kb,0,none⟩)) rfl;have r3:=fun z=>(B3.o.kp (HT.aK z) (Kk _ _ P6 _ (by omega) (by omega))).c 2 (.string i.name) rfl;have ax:=Ys HT;have gF:=Ys fin;have DR:=Ys Kk;have HAW:=Ys h2;have xV:=Ys P6;have HKD:=Ys hK;clear h1 h2 h3 h4 hK fin Kk P6 n0 HT xg;go_wp2_with fail;(refine dQ ax 5 [([0,1,2],3),([],4)] [] ?_ ?_)
    · exact(Kp.refl _ _).drew
    (refine dn [_,_,_] rfl rfl fun K hK=>?_);(repeat (go_big_quiet_step (fail)));(refine qn hK fun K2 ag=>?_);clear hK K;go_wp2_with fail;refine(qQ W.drew i.name).mono ?_;rintro e w4 ⟨rfl,dN⟩;have iM:Zs (Ext W w4):=Ys (((Kp.refl _ W).drew).trans dN);clear dN;go_wp2_with fail;(refine kk ax ag iM.o.any ?_);clear ag K2;(refine fG rfl fun K2 ag=>?_);go_wp2_with fail;refine(fo w4 _ _ _ _ _ _ _ _ _ _ _ (HAW.o.ext iM.o) (M.dC i.name)).mono ?_;rintro e w5 aI;have ed:=aO.behind iM.o aI;have tL:=gF.o nO vs' _ e W w5 xV.o Rj.o HKD.o ed hWz;rcases ed with⟨ql,OI,⟨ho,rfl⟩|⟨s2,ho,rfl,I7,vs2,Fy,Mx⟩⟩
    · rw[ho]at tL;exact⟨rfl,tL.1,by rw[HO.o,ho];exact tL.2⟩
    replace HO:Zs (M.aQ p k m i s=M.fF m (M.dP (M.method p G.1).ret) s2):=Ys (by rw[HO.o,ho];rfl);have abz:=Ys tL.1;have Pp:Zs (bu (w8.heap.size+2) vl vs I7 vs2):=Ys (xV.o.trans Mx hWz);have BQ:=Ys ql;have O3:=Ys Fy;have TD:Zs (Kp (fE l kb vl vs) w w5):=Ys (Rj.o.look ql (xV.o.le (by omega)));have hW5:w8.heap.size+2≤w5.heap.size:=by have:=ql.size;omega
    have B25:=Ys (B2.o.kp ql (DR.o _ _ xV.o _ (by omega) (by omega)));have B85:=Ys (B8.o.kp ql (DR.o _ _ xV.o _ (by omega) (by omega)));clear aI tL ql OI ho Fy Mx r3;go_wp2_with fail;(refine kk ax ag BQ.o ?_);clear ag K2;clear r2;(refine C9 rfl ?_);clear ax;obtain⟨T,f,dm,HT⟩:=gy.ex (fun W'=>Kp (fE l kb I7 vs2) w5 W') _ (Kp.refl _ _);have r2:=fun z=>(B25.o.kp (HT.aK z) (DR.o _ _ Pp.o _ (by omega) (by omega))).c 0 (.pointer (some ⟨kb,0,none⟩)) rfl;have r4:=fun z=>(B85.o.kp (HT.aK z) (DR.o _ _ Pp.o _ (by omega) (by omega))).c 2 (.int .i64 (M.method p G.1).ret.kind) rfl;have r5:=fun z=>(B85.o.kp (HT.aK z) (DR.o _ _ Pp.o _ (by omega) (by omega))).c 3 (.string (M.method p G.1).ret.name) rfl;have ax:=Ys HT;clear HT;go_wp2_with fail;(refine dQ ax 5 [([0,1,2],3),([],4)] [] ?_ ?_)
    · exact(Kp.refl _ _).drew
    (refine dn [_,_,_] rfl rfl fun K hK=>?_);(repeat (go_big_quiet_step (fail)));(refine qn hK fun K2 ag=>?_);clear hK K;go_wp2_with fail;refine(vI w5.drew (M.method p G.1).ret).mono ?_;rintro e w6 ⟨rfl,iZ⟩;have nR:Zs (Ext w5 w6):=Ys (((Kp.refl _ w5).drew).trans iZ);clear iZ;go_wp2_with fail;(refine kk ax ag nR.o.any ?_);clear ag K2;(refine fG rfl fun K2 ag=>?_);go_wp2_with fail;refine(jq w6 _ _ _ _ _ _ _ _ _ _ _ (O3.o.ext nR.o) (M.dP (M.method p G.1).ret)).mono ?_;rintro e w9 aI;have jV:=aO.behind nR.o aI;have kH:=jV.1;have tL:=gF.o I7 vs2 _ e w5 w9 Pp.o TD.o abz.o jV hW5;rw[←HO.o]at tL;have HFF:=Ys tL;have xS:=Ys kH;have Zn:=jV.2.2;clear tL jV kH aI;rcases Zn with⟨-,rfl⟩|⟨s9, -,rfl, -⟩
    · exact⟨rfl,HFF.o⟩
    go_wp2_with fail;(refine kk ax ag xS.o ?_);clear ag K2;clear r2 r4 r5;(refine C9 rfl ?_);go_wp2_with fail;exact⟨rfl,HFF.o⟩
   case hstop=>exact fun _ _ _ _ h=>h.elim
   case hpanic=>
    rintro c pre W ⟨rest,yL⟩ ⟨rfl,h2,h3,h4⟩ hK;refine⟨by simp,by simp,?_⟩;have ZT:=Fu.o.cu.ord;have acD:=Fu.o.cu.lt;have xE:=Kp.putObj W (w8.alloc (.cells #[.slice t2.a1 (M.method p G.1).args.length t2.c1] 27)).heap.size (.deferred none);have oF:(w8.alloc (.cells #[.slice t2.a1 (M.method p G.1).args.length t2.c1] 27)).heap.size=w8.heap.size+1:=by simp
    have oq:M.aQ p k m i s=none:=by
     rw[HO.o];have e1:(M.method p G.1).args.reverse=pre.map Prod.snd++rest.map Prod.snd:=by
      have:=congrArg (List.map Prod.snd) yL;rw[iC _ _ (Nat.le_refl _),List.take_length,List.map_append]at this;exact this
     rw[e1,CQ h2];rfl
    have YM:Kp (fE l kb vl vs) w0 W:=((lI.o.weak (fun b _ e=>.inl e)).trans jQ.o.any).trans h4;refine⟨by simp,.inl ⟨_,_,rfl,run_takeDeferred hK,?_⟩⟩;exact aO.behind bW.o ⟨YM.own xE (fun k e=>by have:=lI.o.size;have:=jQ.o.size;omega),h3.kp xE (fun k hk e=>by omega),.inl ⟨oq,rfl⟩⟩
  (refine nM ax 7 (.two [0,1,2,3,4] 5 6 (.one [] 6 (.fin [])) (.one [] 5 (.fin []))) ?_ ?_)
  · exact(Kp.refl _ _).drew
  clear hK;have DU:=Ys Fa;clear Fa;(refine two [_,_,_,_,_] rfl rfl rfl fun K hK=>?_);(repeat (go_big_quiet_step (fail)));((refine Hp hK (fun K2 ag=>?_) fun K2 ag=>?_)<;>clear hK K)
  · go_wp2_with fail;refine(dK w7.drew l p (DN.o.ext (Kp.refl _ _).drew) G.1 uT.o).mono ?_;rintro e w8 ⟨⟨cs,jk,rfl⟩,lC⟩;obtain⟨t2,rfl⟩:=gP jk;have jQ:Zs (Ext w7 w8):=Ys (((Kp.refl _ _).drew).trans lC);have zU:=Ys jk;clear jk lC;simp only[eG];go_wp2_with fail;(refine kk ax ag jQ.o ?_);clear ag K2;(refine bX rfl fun K2 ag=>?_);go_wp2_with fail;(refine kk ax ag (jQ.o.alloc _) ?_);clear ag K2;(refine dz ?_);go_wp2_with fail;exact DU.o _ _ t2 (jQ.o.alloc _) (az.new _ _ _) jQ.o.size (bD.ext aC.stays (kx:Ext w8 _) zU.o)
  · go_wp2_with fail;(refine kk ax ag (((Kp.refl _ _).drew).alloc _) ?_);clear ag K2;(refine bX rfl fun K2 ag=>?_);go_wp2_with fail;have b5:az (w7.alloc (.cells #[.string ⟨#[]⟩,.slice none 0 0,.int .i64 0,.string ⟨#[]⟩,.int .i64 0,.int .i64 0,.slice none 0 0,.slice none 0 0] 34)).drew w7.heap.size 34 #[.string ⟨#[]⟩,.slice none 0 0,.int .i64 0,.string ⟨#[]⟩,.int .i64 0,.int .i64 0,.slice none 0 0,.slice none 0 0]:=(az.new _ _ _).ext (Kp.refl _ _).drew;refine(dK ((w7.alloc (.cells #[.string ⟨#[]⟩,.slice none 0 0,.int .i64 0,.string ⟨#[]⟩,.int .i64 0,.int .i64 0,.slice none 0 0,.slice none 0 0] 34)).drew) l p (DN.o.ext ((Kp.refl _ _).alloc _).drew) G.1 uT.o).mono ?_;rintro e w8 ⟨⟨cs,jk,rfl⟩,lC⟩;obtain⟨t2,rfl⟩:=gP jk;have jQ:Zs (Ext w7 w8):=Ys ((((Kp.refl _ w7).alloc _).drew).trans lC);have iQ:=b5.ext lC;have y0:=iQ.c 0 (.string ⟨#[]⟩) rfl;have y1:=iQ.c 1 (.slice none 0 0) rfl;have y2:=iQ.c 2 (.int .i64 0) rfl;have y3:=iQ.c 3 (.string ⟨#[]⟩) rfl;have y4:=iQ.c 4 (.int .i64 0) rfl;have y5:=iQ.c 5 (.int .i64 0) rfl;have y6:=iQ.c 6 (.slice none 0 0) rfl;have y7:=iQ.c 7 (.slice none 0 0) rfl;have g0:=iQ.frozen 0;have g1:=iQ.frozen 1;have g2:=iQ.frozen 2;have g3:=iQ.frozen 3;have g4:=iQ.frozen 4;have g5:=iQ.frozen 5;have g6:=iQ.frozen 6;have g7:=iQ.frozen 7;have z5:=iQ.lt;have MP:=jk;obtain⟨w9,fT⟩:∃w9,w9=((((((((w8.setCell ⟨w7.heap.size,0,none⟩ (.string (M.method p G.1).name)).setCell ⟨w7.heap.size,1,none⟩ (.slice t2.a1 (M.method p G.1).args.length t2.c1)).setCell ⟨w7.heap.size,2,none⟩ (.int .i64 (M.method p G.1).ret.kind)).setCell ⟨w7.heap.size,3,none⟩ (.string (M.method p G.1).ret.name)).setCell ⟨w7.heap.size,4,none⟩ (.int .i64 (M.method p G.1).locals)).setCell ⟨w7.heap.size,5,none⟩ (.int .i64 (M.method p G.1).stack)).setCell ⟨w7.heap.size,6,none⟩ (.slice t2.a2 (M.method p G.1).code.length t2.c2)).setCell ⟨w7.heap.size,7,none⟩ (.slice t2.a3 (M.method p G.1).maps.length t2.c3)):=⟨_,rfl⟩;have kH:Kp (·=w7.heap.size) w8 w9:=by rw[fT];exact Kp.N9 (D:=(·=w7.heap.size)) rfl _ _ _ _ _ _ _ _
    have b9:az w9 w7.heap.size 34 (eG (M.method p G.1) t2).toArray:=by rw[fT];exact iQ.N9 _ _ _ _ _ _ _ _
    have hz7:=DN.o.lt;have ZR:=DN.o.ord;have o7:Zs (Ext w7 w9):=Ys (jQ.o.own kH (fun k e=>by omega));have zU:=Ys (bD.kp aC.stays kH (fun b hb e=>by omega) jk);have DJ:=Ys b9;have F5:=Ys fT;clear b5 iQ jk MP lC fT kH b9;simp only[eG];go_wp2_with fail;(refine kk ax ag jQ.o ?_);clear ag K2;clear ax r0 r4 r5 r6 r7;(refine dz ?_);go_wp2_with fail;rw[←F5.o];exact DU.o _ _ t2 o7.o DJ.o (Nat.le_refl _) zU.o
 (refine nM ax 18 (.two [0,1,2,3,4,5,6,7,8,9,10,11] 12 16 (.one [13,14,15] 16 (.one [] 17 (.fin []))) (.one [] 12 (.one [13,14,15] 17 (.fin [])))) ?_ ?_)
 · exact(Kp.refl _ _).drew
 clear hK;have TAIL:=Ys tail;clear tail;(refine two [_,_,_,_,_,_,_,_,_,_,_,_] rfl rfl rfl fun K hK=>?_);(repeat (go_big_quiet_step (fail)));((refine Hp hK (fun K2 ag=>?_) fun K2 ag=>?_)<;>clear hK K)
 · go_wp2_with fail;have vY:=lZ _ _ _ (HA.o.cu.ext (Kp.refl _ _).drew) k i.name i.member;rw[HG.o]at vY;refine vY.mono ?_;rintro e w3 ⟨⟨ev,he,ji⟩,zV,mg⟩;rw[HV.o]at he;subst he;have jT:Zs (Kp (·=l.D) w0 w3):=Ys (((Kp.refl _ _).drew).trans mg);have KL:=Ys zV;have xR:=Ys (uJ.weak ji);clear zV mg vY ji;go_wp2_with fail;(refine kk ax ag jT.o ?_);clear ag K2;(refine lu [_,_,_] rfl rfl fun K hK=>?_);(repeat (go_big_quiet_step (fail)));(refine qn hK fun K2 ag=>?_);clear hK K;go_wp2_with fail;(refine kk ax ag (jT.o.alloc _) ?_);clear ag K2;(refine bX rfl fun K2 ag=>?_);go_wp2_with fail;(refine kk ax ag (jT.o.alloc _) ?_);clear ag K2;(refine dz ?_);go_wp2_with fail;exact TAIL.o _ _ _ (jT.o.alloc _) (KL.o.ext kx) (az.new _ _ _) jT.o.size xR.o
 · go_wp2_with fail;(refine kk ax ag (((Kp.refl _ _).drew).alloc _) ?_);clear ag K2;(refine bX rfl fun K2 ag=>?_);go_wp2_with fail;have b5:az (w0.alloc (.cells #[.int .i64 0,.string ⟨#[]⟩,.int .i64 0] 53)).drew w0.heap.size 53 #[.int .i64 0,.string ⟨#[]⟩,.int .i64 0]:=(az.new _ _ _).ext (Kp.refl _ _).drew;have hD0:=HA.o.cu.Cg;have hzD:¬w0.heap.size=l.D:=by omega
   have hzw:=bW.o.size;have vY:=lZ ((w0.alloc (.cells #[.int .i64 0,.string ⟨#[]⟩,.int .i64 0] 53)).drew) _ _ (HA.o.cu.ext ((Kp.refl _ _).alloc _).drew) k i.name i.member;rw[HG.o]at vY;refine vY.mono ?_;rintro e w3 ⟨⟨ev,he,ji⟩,zV,mg⟩;rw[HV.o]at he;subst he;have jT:Zs (Kp (·=l.D) w0 w3):=Ys ((((Kp.refl _ w0).alloc _).drew).trans mg);have iQ:=b5.kp mg hzD;have y0:=iQ.c 0 (.int .i64 0) rfl;have y1:=iQ.c 1 (.string ⟨#[]⟩) rfl;have y2:=iQ.c 2 (.int .i64 0) rfl;have g0:=iQ.frozen 0;have g1:=iQ.frozen 1;have g2:=iQ.frozen 2;have z5:=iQ.lt;obtain⟨w7,Bt⟩:∃w7,w7=((w3.setCell ⟨w0.heap.size,0,none⟩ (.int .i64 G.1.of.keeper)).setCell ⟨w0.heap.size,1,none⟩ (.string G.1.of.name)).setCell ⟨w0.heap.size,2,none⟩ (.int .i64 G.1.at_):=⟨_,rfl⟩;have yE:Kp (·=w0.heap.size) w3 w7:=by rw[Bt];exact Kp.lq (D:=(·=w0.heap.size)) rfl _ _ _
   have DY:az w7 w0.heap.size 53 #[.int .i64 G.1.of.keeper,.string G.1.of.name,.int .i64 G.1.at_]:=by rw[Bt];exact iQ.lq _ _ _
   have lI:Zs (Kp (·=l.D) w0 w7):=Ys (jT.o.own yE (fun k e=>by omega));have DN:Zs (aj w7 l p):=Ys (zV.kp yE (fun b hb e=>by omega));have ru:=Ys DY;have KP:=Ys Bt;have xR:=Ys (uJ.weak ji);clear b5 iQ zV mg yE DY Bt vY ji;go_wp2_with fail;(refine kk ax ag jT.o ?_);clear ag K2;(refine lu [_,_,_] rfl rfl fun K hK=>?_);(repeat (go_big_quiet_step (fail)));(refine qn hK fun K2 ag=>?_);clear hK K;go_wp2_with fail;rw[←KP.o];(refine kk ax ag lI.o ?_);clear ag K2;clear ax r0 r1 r2 r3 r4 y0 y1 y2 g0 g1 g2;(refine dz ?_);go_wp2_with fail;exact TAIL.o _ _ _ lI.o DN.o ru.o (Nat.le_refl _) xR.o
end Go.Proofs.YtohpiobncgafeaaGreatDoor
namespace Go.Proofs.YtohpiobncgafeaaGreatDoor
open Go Go.RowKit
theorem LV:Elem 56 171 2:=iJ (z:=.agg #[.slice none 0 0,.slice none 0 0]) (bytes:=48) Tryz.underlying56 (by kernel_rfl) rfl (by decide) (by decide)
def VD(x:Value×Value):List Value:=[x.1,x.2]
def Fx(W:World)(S:Nat)(v vl vs:Value)(b:Nat):Prop:=S≤b∧b<W.heap.size∧v.ownBlock≠some b∧vl.ownBlock≠some b∧vs.ownBlock≠some b
def LA(W:World)(S:Nat)(v vl vs:Value)(known:List M.gB)(cs:List (Value×Value)):Prop:=
 cs.length=known.length∧W.ownsRow S 171 2 v known.length (cs.flatMap VD)∧
  ∀(j:Nat) (c:Value×Value) (f:M.gB),cs[j]?=some c→known[j]?=some f→SliceOf 2 eU W (Fx W S v vl vs) c.1 f.locals∧SliceOf 2 eU W (Fx W S v vl vs) c.2 f.stack
def Kn(W:World)(S:Nat)(v vl vs:Value)(known:List M.gB):Prop:=∃cs:List (Value×Value),LA W S v vl vs known cs
theorem Kn.nil(W:World)(S:Nat)(vl vs:Value):Kn W S (.slice none 0 0) vl vs []:=
 ⟨[],rfl,World.ownsRow_nil _ _ _ _,fun j c f h=>by simp at h⟩
theorem fO{w:World}{base e k n:Nat}{v:Value}{xs:List Value}(h:w.ownsRow base e k v n xs){g:Nat}(hg:v.ownBlock=some g):∃cur,az w g e cur:=by
 rcases h.2 with⟨h1,_⟩|⟨g',cap,cur,h1,_,hb,_⟩
 · rw[h1]at hg;cases hg
 · rw[h1]at hg;cases hg;exact⟨cur,hb⟩
theorem Kn.kp{W W':World}{S:Nat}{l:au}{p:M.ai}{B kb:Nat}{k:Int}{m:M.Method}{t:lJ}{at_:Int}{s:M.gB}{v vl vs nO vs':Value}{known:List M.gB}(h:Kn W S v vl vs known)
    (hA:aD W l p B kb k m t at_ s vl vs) (hk:Kp (fE l kb vl vs) W W') (hO:bu W.heap.size vl vs nO vs') (hkb:kb<S):Kn W' S v nO vs' known:=by
 obtain⟨cs,h1,h2,h3⟩:=h;have hB:=hA.hB;have hBk:=hA.hk;have rX:=hA.cu.ord;refine⟨cs,h1,aA h2 hk fun g hg hS e=>?_,fun j c f hc hf=>?_⟩
 · obtain⟨cur,hb⟩:=fO h2 hg;rcases e with e|e|e|e
   · omega
   · omega
   · obtain⟨cur',JD⟩:=fO hA.loc e;exact absurd (az.inj hb JD) (by decide)
   · obtain⟨cur',JD⟩:=fO hA.bQ e;exact absurd (az.inj hb JD) (by decide)
 · have same:Same (Fx W S v vl vs) W W':=Kp.same hk fun b hb e=>by
    obtain⟨q1,q2,q3,q4,q5⟩:=hb;rcases e with e|e|e|e
    · omega
    · omega
    · exact q4 e
    · exact q5 e
   have sub:∀b,Fx W S v vl vs b→Fx W' S v nO vs' b:=fun b ⟨q1,q2,q3,q4,q5⟩=>⟨q1,Nat.lt_of_lt_of_le q2 hk.size,q3,fun e=>by
    rcases hO b (.inl e)with x|x|x
    · exact q4 x
    · exact q5 x
    · omega,fun e=>by
    rcases hO b (.inr e)with x|x|x
    · exact q4 x
    · exact q5 x
    · omega⟩
   obtain⟨a1,a2⟩:=h3 j c f hc hf;exact⟨a1.keep eU.stays same sub,a2.keep eU.stays same sub⟩
theorem LA.snoc{W W':World}{S:Nat}{v v' vl vs c1 c2:Value}{known:List M.gB}{f:M.gB}{cs:List (Value×Value)}(h:LA W S v vl vs known cs)
    (h1:SliceOf 2 eU W (Fx W S v vl vs) c1 f.locals) (h2:SliceOf 2 eU W (Fx W S v vl vs) c2 f.stack)
    (aU:W'.ownsRow S 171 2 v' (known.length+1) (cs.flatMap VD++[c1,c2])) (hk:Kp (fun b=>v.ownBlock=some b) W W') (hv:∀g,v'.ownBlock=some g→v.ownBlock=some g∨W.heap.size≤g):Kn W' S v' vl vs (known++[f]):=by
 obtain⟨e1,e2,e3⟩:=h;have same:Same (Fx W S v vl vs) W W':=Kp.same hk fun b hb e=>hb.2.2.1 e;have sub:∀b,Fx W S v vl vs b→Fx W' S v' vl vs b:=fun b ⟨q1,q2,q3,q4,q5⟩=>⟨q1,Nat.lt_of_lt_of_le q2 hk.size,fun e=>by
  rcases hv b e with x|x
  · exact q3 x
  · omega,q4,q5⟩
 refine⟨cs++[(c1,c2)],by simp[e1],?_,fun j c f' hc hf=>?_⟩
 · rw[List.length_append,List.flatMap_append];simpa [VD]using aU
 · rcases Nat.lt_trichotomy j cs.length with hj|hj|hj
   · rw[List.getElem?_append_left hj]at hc;rw[List.getElem?_append_left (by omega)]at hf;obtain⟨a1,a2⟩:=e3 j c f' hc hf;exact⟨a1.keep eU.stays same sub,a2.keep eU.stays same sub⟩
   · subst hj;rw[List.getElem?_append_right (Nat.le_refl _)]at hc;rw[e1,List.getElem?_append_right (Nat.le_refl _)]at hf;simp at hc hf;subst hc hf;exact⟨h1.keep eU.stays same sub,h2.keep eU.stays same sub⟩
   · rw[List.getElem?_eq_none (by simp;omega)]at hc;cases hc
theorem LA.ext{W W':World}{S:Nat}{v vl vs:Value}{known:List M.gB}{cs:List (Value×Value)}(h:LA W S v vl vs known cs)(hE:Ext W W'):LA W' S v vl vs known cs:=by
 obtain⟨e1,e2,e3⟩:=h;have sub:∀b,Fx W S v vl vs b→Fx W' S v vl vs b:=fun b ⟨q1,q2,q3⟩=>⟨q1,Nat.lt_of_lt_of_le q2 hE.size,q3⟩;refine⟨e1,aA e2 hE (fun _ _ _ x=>x),fun j c f hc hf=>?_⟩;obtain⟨a1,a2⟩:=e3 j c f hc hf;exact⟨a1.keep eU.stays (Ext.same hE) sub,a2.keep eU.stays (Ext.same hE) sub⟩
end Go.Proofs.YtohpiobncgafeaaGreatDoor
namespace Go.Proofs.YtohpiobncgafeaaGreatDoor
open Go Go.RowKit
abbrev Own:=Nat→Option (Nat×Nat)
def eF(n:Nat)(own own':Own):Prop:=∀b,b<n→own' b=own b
theorem eF.refl(n:Nat)(own:Own):eF n own own:=fun _ _=>rfl
theorem eF.trans{n n':Nat}{a b c:Own}(h:eF n a b)(h':eF n' b c)(hn:n≤n'):eF n a c:=fun k hk=>(h' k (by omega)).trans (h k hk)
def Own.add(own:Own)(g:Nat)(r:Nat×Nat):Own:=fun b=>if b=g then some r else own b
theorem Own.add_eq(own:Own)(g:Nat)(r:Nat×Nat):own.add g r g=some r:=by simp[Own.add]
theorem Own.dV{own:Own}{g b:Nat}(r:Nat×Nat)(h:b≠g):own.add g r b=own b:=by simp[Own.add,h]
theorem Own.qO{own:Own}{g n:Nat}{r:Nat×Nat}(h:own g=some r∨n≤g):eF n own (own.add g r):=fun b hb=>by
 by_cases e:b=g
 · subst e;rcases h with h|h
   · rw[Own.add_eq,h]
   · omega
 · exact Own.dV r e
def MO(l:au)(own:Own)(b:Nat):Prop:=b=l.D∨own b≠none
def PO(own:Own)(R:Nat×Nat→Prop)(b:Nat):Prop:=∃r,own b=some r∧R r
theorem PO.mo{l:au}{own:Own}{R:Nat×Nat→Prop}{b:Nat}(h:PO own R b):MO l own b:=by
 obtain⟨r,h,_⟩:=h;exact .inr (by rw[h];simp)
theorem Kp.mo{l:au}{own own':Own}{w a b:World}(h:Kp (MO l own) w a)(hk:Kp (MO l own') a b)(ha:eF w.heap.size own own'):Kp (MO l own) w b:=
 ⟨hk.os.trans h.os,hk.tape.trans h.tape,hk.output.trans h.output,Nat.le_trans h.size hk.size,
  fun k uU hd=>(hk.block k (Nat.lt_of_lt_of_le uU h.size) (fun x=>hd (by
   rcases x with x|x
   · exact .inl x
   · exact .inr (by rw[←ha k uU];exact x)))).trans (h.block k uU hd)⟩
structure eu(w:World)(own:Own)(B:Nat)(r:Nat×Nat)(e k:Nat)(v:Value)(n:Nat)(xs:List Value):Prop where
 row:w.ownsRow B e k v n xs
 role:∀g,v.ownBlock=some g→own g=some r
section
variable {w w':World} {own own':Own} {B:Nat} {r:Nat×Nat} {e k:Nat} {v:Value} {n:Nat} {xs:List Value} {R:Nat×Nat→Prop} {D:Nat→Prop}
theorem eu.keep(h:eu w own B r e k v n xs)(hk:Kp D w w')(ha:eF w.heap.size own own')(hD:∀b,own b=some r→B≤b→¬D b):eu w' own' B r e k v n xs:=
 ⟨aA h.row hk (fun g hg hb=>hD g (h.role g hg) hb),fun g hg=>(ha g (h.row.lt g hg).2).trans (h.role g hg)⟩
theorem eu.nil(w:World)(own:Own)(B:Nat)(r:Nat×Nat)(e k:Nat):eu w own B r e k (.slice none 0 0) 0 []:=
 ⟨World.ownsRow_nil _ _ _ _,fun g h=>by cases h⟩
theorem eu.form(h:eu w own B r e k v n xs):∃a c,v=.slice a n c:=bJ h.row
theorem eu.take{g c:Nat}(h:eu w own B r e k (.slice (some ⟨g,0,none⟩) n c) n xs){j:Nat}(hj:j≤n):eu w own B r e k (.slice (some ⟨g,0,none⟩) j c) j (xs.take (j*k)):=
 ⟨vD h.row hj,fun q hq=>h.role q hq⟩
theorem eu.ext(h:eu w own B r e k v n xs)(hE:Ext w w'):eu w' own B r e k v n xs:=h.keep hE (eF.refl _ _) fun _ _ _ x=>x
theorem eu.blk(h:eu w own B r e k v n xs){g:Nat}(hg:v.ownBlock=some g):B≤g∧g<w.heap.size:=h.row.lt g hg
theorem eu.p9(h:eu w own B r e k v n xs)(hk:Kp (PO own R) w w')(ha:eF w.heap.size own own')(hr:¬R r):eu w' own' B r e k v n xs:=
 h.keep hk ha fun b hb _ ⟨r',h1,h2⟩=>by rw[hb]at h1;cases h1;exact hr h2
end
structure GC where
 f:M.Fr
 cb:Nat
 t:lJ
 vl:Value
 vs:Value
structure GO where
 o:M.kZ
 v:Value
structure Gh where
 status:Int
 cs:List GC
 os:List GO
 outs:List Int
 back:M.Val
 vc:Value
 vh:Value
 vo:Value
def Gh.st(g:Gh):M.St:=⟨g.status,g.cs.map GC.f,g.os.map GO.o,g.outs,g.back⟩
def yh(p:M.ai)(c:GC):Array Value:=
 #[.int .i64 c.f.of.of.keeper,.string c.f.of.of.name,.int .i64 c.f.of.at_,.string (M.method p c.f.of).name,.slice c.t.a1 (M.method p c.f.of).args.length c.t.c1,.int .i64 (M.method p c.f.of).ret.kind,.string (M.method p c.f.of).ret.name,
  .int .i64 (M.method p c.f.of).locals,.int .i64 (M.method p c.f.of).stack,.slice c.t.a2 (M.method p c.f.of).code.length c.t.c2,.slice c.t.a3 (M.method p c.f.of).maps.length c.t.c3,.int .i64 c.f.pc,c.vl,c.vs,.int .i64 (M.method p c.f.of).stack]
def nL(c:GC):List Value:=[.pointer (some ⟨c.cb,0,none⟩)]
def iD(o:GO):List Value:=[.int .i64 o.o.of.keeper,.string o.o.of.name,o.v]
def rY(l:au)(lk:Bool)(g:Gh):Array Value:=#[.pointer (some ⟨l.L,0,none⟩),.bool lk,.int .i64 g.status,g.vc,g.vh,g.vo,.int .i64 g.back.kind,.int .i64 g.back.n]
structure iN(w:World)(l:au)(p:M.ai)(own:Own)(B i:Nat)(c:GC):Prop where
 blk:az w c.cb 132 (yh p c)
 role:own c.cb=some (4,i)
 low:B≤c.cb
 ml:aC w (· <l.O) (M.method p c.f.of) (eG (M.method p c.f.of) c.t)
 loc:eu w own B (5,i) 63 2 c.vl c.f.locals.length (c.f.locals.flatMap bq)
 bQ:eu w own B (6,i) 63 2 c.vs c.f.stack.length (c.f.stack.flatMap bq)
structure ay(w:World)(l:au)(p:M.ai)(own:Own)(B mb:Nat)(lk:Bool)(g:Gh):Prop where
 cu:aj w l p
 hB:l.L<B
 blk:az w mb 87 (rY l lk g)
 role:own mb=some (0,0)
 low:B≤mb
 calls:eu w own B (1,0) 127 1 g.vc g.cs.length (g.cs.flatMap nL)
 call:∀i c,g.cs[i]?=some c→iN w l p own B i c
 heap:eu w own B (2,0) 174 3 g.vh g.os.length (g.os.flatMap iD)
 obj:∀j o,g.os[j]?=some o→eu w own B (7,j) 63 2 o.v o.o.fields.length (o.o.fields.flatMap bq)
 outs:eu w own B (3,0) 3 1 g.vo g.outs.length (g.outs.flatMap nH)
 dom:∀b,own b≠none→B≤b∧b<w.heap.size
 good:M.Good p g.st
section
variable {w w':World} {l:au} {p:M.ai} {own own':Own} {B mb:Nat} {lk:Bool} {g:Gh} {D:Nat→Prop} {R:Nat×Nat→Prop}
theorem iN.keep{i:Nat}{c:GC}(h:iN w l p own B i c)(hk:Kp D w w')(ha:eF w.heap.size own own')(hD:∀b,(own b=some (4,i)∨own b=some (5,i)∨own b=some (6,i))→B≤b→¬D b)(hO:∀b,b<l.O→¬D b):iN w' l p own' B i c:=
 ⟨h.blk.kp hk (hD _ (.inl h.role) h.low),(ha _ h.blk.lt).trans h.role,h.low,bD.kp aC.stays hk (fun b hb=>hO b hb) h.ml,h.loc.keep hk ha (fun b hb=>hD b (.inr (.inl hb))),h.bQ.keep hk ha (fun b hb=>hD b (.inr (.inr hb)))⟩
theorem ay.keep(h:ay w l p own B mb lk g)(hk:Kp D w w')(ha:eF w.heap.size own own')(hd:∀b,own' b≠none→B≤b∧b<w'.heap.size)(hL:aj w' l p)(hD:∀b,own b≠none→¬D b)(hO:∀b,b<l.O→¬D b):ay w' l p own' B mb lk g:=by
 have hx:∀b r,own b=some r→¬D b:=fun b r hb=>hD b (by rw[hb];simp);exact⟨hL,h.hB,h.blk.kp hk (hx _ _ h.role),(ha _ h.blk.lt).trans h.role,h.low,h.calls.keep hk ha fun b hb _=>hx b _ hb,
  fun i c hc=>(h.call i c hc).keep hk ha (fun b hb _=>by rcases hb with hb|hb|hb<;>exact hx b _ hb) hO,
  h.heap.keep hk ha fun b hb _=>hx b _ hb,fun j o ho=>(h.obj j o ho).keep hk ha fun b hb _=>hx b _ hb,h.outs.keep hk ha fun b hb _=>hx b _ hb,hd,h.good⟩
theorem ay.sV(h:ay w l p own B mb lk g)(hs:w.heap.size≤w'.heap.size):∀b,own b≠none→B≤b∧b<w'.heap.size:=fun b hb=>⟨(h.dom b hb).1,Nat.lt_of_lt_of_le (h.dom b hb).2 hs⟩
theorem ay.ext(h:ay w l p own B mb lk g)(hE:Ext w w'):ay w' l p own B mb lk g:=
 h.keep hE (eF.refl _ _) (h.sV hE.size) (h.cu.ext hE) (fun _ _ x=>x) (fun _ _ x=>x)
theorem ay.Vw(h:ay w l p own B mb lk g){b:Nat}(hb:b≤l.L):own b=none:=by
 cases e:own b with
 |none=>rfl
 |some r=>have:=(h.dom b (by rw[e];simp)).1;have:=h.hB;omega
theorem ay.il(h:ay w l p own B mb lk g)(hk:Kp (·=l.D) w w')(hL:aj w' l p):ay w' l p own B mb lk g:=
 h.keep hk (eF.refl _ _) (h.sV hk.size) hL (fun b hb e=>by have:=h.cu.ord;exact hb (h.Vw (by omega))) (fun b hb e=>by have:=h.cu.ord;omega)
theorem ay.Bz(h:ay w l p own B mb lk g)(hk:Kp (PO own R) w w'):aj w' l p:=
 h.cu.kp hk fun k GL ⟨r,e,_⟩=>by rw[h.Vw GL]at e;cases e
theorem ay.qF(h:ay w l p own B mb lk g):∀b,b<l.O→¬PO own R b:=fun b hb ⟨r,e,_⟩=>by
 have:=h.cu.ord;rw[h.Vw (by omega)]at e;cases e
theorem iN.p9{i:Nat}{c:GC}(h:iN w l p own B i c)(hk:Kp (PO own R) w w')(ha:eF w.heap.size own own')(hR:¬R (4,i)∧¬R (5,i)∧¬R (6,i))(hO:∀b,b<l.O→¬PO own R b):iN w' l p own' B i c:=
 h.keep hk ha (fun b hb _ ⟨r,h1,h2⟩=>by
  rcases hb with hb|hb|hb<;>rw[hb]at h1<;>cases h1
  · exact hR.1 h2
  · exact hR.2.1 h2
  · exact hR.2.2 h2) hO
theorem ay.at_(h:ay w l p own B mb lk g){r:List GC}{c:GC}(hc:g.cs=r++[c]):iN w l p own B r.length c:=h.call _ _ (by rw[hc];simp)
theorem ay.Dk(h:ay w l p own B mb lk g){r:List GC}{c c':GC}(bE:g.cs=r++[c])(Wo:c'.cb=c.cb)(hk:Kp (PO own fun q=>q=(4,r.length)∨q=(5,r.length)∨q=(6,r.length)) w w')(ha:eF w.heap.size own own')(hd:∀b,own' b≠none→B≤b∧b<w'.heap.size)
    (hc:iN w' l p own' B r.length c') (hG:M.Good p {g with cs:=r++[c']}.st):ay w' l p own' B mb lk {g with cs:=r++[c']}:=by
 refine⟨h.Bz hk,h.hB,h.blk.kp hk ?_,(ha _ h.blk.lt).trans h.role,h.low,?_,?_,h.heap.p9 hk ha (by simp),fun j o ho=>(h.obj j o ho).p9 hk ha (by simp),h.outs.p9 hk ha (by simp),hd,hG⟩
 · rintro⟨q,h1,h2⟩;rw[h.role]at h1;cases h1;simp at h2
 · have:=h.calls.p9 hk ha (by simp);rw[bE]at this;simpa [nL,Wo]using this
 · intro i c1 l8;simp only at l8;rcases Nat.lt_trichotomy i r.length with hi|hi|hi
   · rw[List.getElem?_append_left hi]at l8;refine(h.call i c1 (by rw[bE,List.getElem?_append_left hi];exact l8)).p9 hk ha ?_ h.qF;refine⟨?_,?_,?_⟩<;>simp<;>omega
   · subst hi;simp at l8;subst l8;exact hc
   · rw[List.getElem?_eq_none (by simp;omega)]at l8;cases l8
theorem ay.Dj(h:ay w l p own B mb lk g)(g':Gh)(hk:Kp (PO own (·=(0,0))) w w')(hb:az w' mb 87 (rY l lk g'))(bE:(g'.cs=g.cs∧g'.vc=g.vc)∨(eu w own B (1,0) 127 1 g'.vc g'.cs.length (g'.cs.flatMap nL)∧∃r,g.cs=g'.cs++r))
    (GR:g'.os=g.os∧g'.vh=g.vh∧g'.outs=g.outs∧g'.vo=g.vo) (hG:M.Good p g'.st):ay w' l p own B mb lk g':=by
 obtain⟨e1,e2,e3,e4⟩:=GR;have ha:=eF.refl w.heap.size own;refine⟨h.Bz hk,h.hB,hb,h.role,h.low,?_,?_,?_,?_,?_,h.sV hk.size,hG⟩
 · rcases bE with⟨a,b⟩|⟨a,_⟩
   · rw[a,b];exact h.calls.p9 hk ha (by simp)
   · exact a.p9 hk ha (by simp)
 · intro i c hc;refine(h.call i c ?_).p9 hk ha (by simp) h.qF;rcases bE with⟨a,_⟩|⟨_,r,a⟩
   · rw[←a];exact hc
   · rw[a,List.getElem?_append_left (List.getElem?_eq_some_iff.1 hc).1];exact hc
 · rw[e1,e2];exact h.heap.p9 hk ha (by simp)
 · rw[e1];exact fun j o ho=>(h.obj j o ho).p9 hk ha (by simp)
 · rw[e3,e4];exact h.outs.p9 hk ha (by simp)
end
def bG(w:World)(l:au)(p:M.ai)(own:Own)(B mb:Nat)(lk:Bool)(v:Value)(s:M.St)(e:Ending)(w':World):Prop:=
 e=.returned v∧Kp (MO l own) w w'∧∃own' g',eF w.heap.size own own'∧ay w' l p own' B mb lk g'∧g'.st=s
theorem bG.after{w w1 w2:World}{l:au}{p:M.ai}{own dO:Own}{B mb:Nat}{lk:Bool}{v:Value}{s:M.St}{e:Ending}(hK:Kp (MO l own) w w1)(ha:eF w.heap.size own dO)(h:bG w1 l p dO B mb lk v s e w2):bG w l p own B mb lk v s e w2:=by
 obtain⟨h1,h2,own',g',h3,h4,h5⟩:=h;exact⟨h1,hK.mo h2 ha,own',g',ha.trans h3 hK.size,h4,h5⟩
theorem bG.behind{w w1 w2:World}{l:au}{p:M.ai}{own:Own}{B mb:Nat}{lk:Bool}{v:Value}{s:M.St}{e:Ending}(hE:Ext w w1)(h:bG w1 l p own B mb lk v s e w2):bG w l p own B mb lk v s e w2:=
 h.after hE.any (eF.refl _ _)
theorem ay.stop{w w':World}{l:au}{p:M.ai}{own:Own}{B mb:Nat}{lk:Bool}{g:Gh}{v:Value}(h:ay w l p own B mb lk g)(hE:Ext w w'):bG w l p own B mb lk v g.st (.returned v) w':=
 ⟨rfl,hE.any,own,g,eF.refl _ _,h.ext hE,rfl⟩
end Go.Proofs.YtohpiobncgafeaaGreatDoor
