/- Walks. -/
import Derived.Test.YtkmclfpjpajjeaaGreatTnCoreLn
set_option maxRecDepth 100000
set_option maxHeartbeats 4000000
set_option linter.unusedSimpArgs false
set_option linter.unusedVariables false
namespace Go.Proofs.YtkmclfpjpajjeaaGreat
open Go Go.RowKit
theorem aQ.jT{w:World}{l:aH}{p:M.ax}{B kb:Nat}{k:Int}{m:M.Method}{t:qj}{at_:Int}{s:M.iY}{vl vs:Value}(h:aQ w l p B kb k m t at_ s vl vs):¬jf l kb vl vs w.heap.size:=by
 have h1:=h.blk.lt;have h2:=h.dN.ord;have h3:=h.hB;have h4:=h.hk;rintro(e|e|e|e)
 · omega
 · omega
 · have:=(h.loc.lt _ e).2;omega
 · have:=(h.dD.lt _ e).2;omega
theorem VI(w:World)(l:aH)(p:M.ax)(B kb:Nat)(k:Int)(m:M.Method)(t:qj)(at_:Int)(s:M.iY)(vl vs:Value)(h:aQ w l p B kb k m t at_ s vl vs)(i:M.Ins)(fF:i.op=4):
    Calls Tryz.prog 153 #[.pointer (some ⟨kb,0,none⟩),.agg #[.int .i64 i.op,.int .i64 i.a,.string i.name,.string i.member]] w (bG w l p B kb k m t at_ vl vs (M.bJ p k m i s)):=by
 have HO:Zs (M.bJ p k m i s=(M.gK p k M.iL s).bind fun s1=>(M.gK p k M.iL s1).bind (M.iB m M.iL)):=Z3 (by unfold M.bJ;rw[fF];rfl);obtain⟨w0,bI,aU,b3⟩:=nu w #[.int .i64 i.op,.int .i64 i.a,.string i.name,.string i.member] 130;have⟨dO,HA⟩:=aJ bI (h.ext aU);have HK:Zs (Kp (jf l kb vl vs) w0 w0):=Z3 Kp.rr;have⟨HS,bM,gN⟩:=bg (bW.refl w0.heap.size vl vs) aU b3;have G6:=h.blk.lt;have yE:¬jf l kb vl vs w.heap.size:=aQ.jT h;clear fF h aU b3 bI;go_enter Tryz.func153,Tryz.ntmps153;go_wp2_with fail;rw[←dO.o];refine(yh _).mono ?_;rintro e w1 ⟨rfl,hE⟩;replace HA:=Z3 (HA.o.ext hE);replace HK:=Z3 (HK.o.trans hE.any);clear hE;go_wp2_with fail;refine(iU _ _ _ _ _ _ _ _ _ _ _ _ HA.o M.iL).mono ?_;rintro e w2 aV;replace aV:=bG.after HK.o HS.o aV;rcases aV with⟨hK,hL,⟨ho,rfl⟩|⟨s2,ho,rfl,QF,vs2,hA,hO⟩⟩
 · exact⟨rfl,bG.behind bM.o ⟨hK,hL,.inl ⟨by rw[HO.o,ho];try rfl,rfl⟩⟩⟩
 replace HO:Zs (M.bJ p k m i s=(M.gK p k M.iL s2).bind (M.iB m M.iL)):=Z3 (by rw[HO.o,ho];try rfl);replace HA:=Z3 hA;replace HK:=Z3 hK;replace HS:=Z3 hO;clear hA hK hO hL ho;go_wp2_with fail;refine(yh _).mono ?_;rintro e w3 ⟨rfl,hE⟩;replace HA:=Z3 (HA.o.ext hE);replace HK:=Z3 (HK.o.trans hE.any);clear hE;go_wp2_with fail;refine(iU _ _ _ _ _ _ _ _ _ _ _ _ HA.o M.iL).mono ?_;rintro e w4 aV;replace aV:=bG.after HK.o HS.o aV;rcases aV with⟨hK,hL,⟨ho,rfl⟩|⟨s4,ho,rfl,vl4,vs4,hA,hO⟩⟩
 · exact⟨rfl,bG.behind bM.o ⟨hK,hL,.inl ⟨by rw[HO.o,ho];try rfl,rfl⟩⟩⟩
 replace HO:Zs (M.bJ p k m i s=M.iB m M.iL s4):=Z3 (by rw[HO.o,ho];try rfl);replace HA:=Z3 hA;replace HK:=Z3 hK;replace HS:=Z3 hO;clear hA hK hO hL ho;go_wp2_with fail;refine(yh _).mono ?_;rintro e w5 ⟨rfl,hE⟩;replace HA:=Z3 (HA.o.ext hE);replace HK:=Z3 (HK.o.trans hE.any);clear hE;go_wp2_with fail;refine(mJ _ _ _ _ _ _ _ _ _ _ _ _ HA.o M.iL).mono ?_;rintro e w6 aV;replace aV:=bG.after HK.o HS.o aV;rcases aV with⟨hK,hL,⟨ho,rfl⟩|⟨s6,ho,rfl,vl6,vs6,hA,hO⟩⟩
 · exact⟨rfl,bG.behind bM.o ⟨hK,hL,.inl ⟨by rw[HO.o,ho];try rfl,rfl⟩⟩⟩
 replace HO:Zs (M.bJ p k m i s=some s6):=Z3 (by rw[HO.o,ho];try rfl);replace HA:=Z3 hA;replace HK:=Z3 hK;replace HS:=Z3 hO;clear hA hK hO hL ho;go_wp2_with fail;((try simp only[Exit.inBlock,Exit.then]);(first|refine bodyPost_ret (results_none rfl _ _ _) rfl ?_|refine bodyPost_end (results_none rfl _ _ _) rfl ?_));exact bG.behind bM.o ⟨HK.o,HA.o.dN,.inr ⟨_,HO.o,rfl,_,_,HA.o,HS.o⟩⟩
theorem RO(w:World)(l:aH)(p:M.ax)(B kb:Nat)(k:Int)(m:M.Method)(t:qj)(at_:Int)(s:M.iY)(vl vs:Value)(h:aQ w l p B kb k m t at_ s vl vs)(i:M.Ins)(fF:i.op=5):
    Calls Tryz.prog 154 #[.pointer (some ⟨kb,0,none⟩),.agg #[.int .i64 i.op,.int .i64 i.a,.string i.name,.string i.member]] w (bG w l p B kb k m t at_ vl vs (M.bJ p k m i s)):=by
 have HO:Zs (M.bJ p k m i s=M.iB m M.AV s):=Z3 (by unfold M.bJ;rw[fF];rfl);obtain⟨w0,bI,aU,b3⟩:=nu w #[.int .i64 i.op,.int .i64 i.a,.string i.name,.string i.member] 130;have⟨dO,HA⟩:=aJ bI (h.ext aU);have HK:Zs (Kp (jf l kb vl vs) w0 w0):=Z3 Kp.rr;have⟨HS,bM,gN⟩:=bg (bW.refl w0.heap.size vl vs) aU b3;have G6:=h.blk.lt;have yE:¬jf l kb vl vs w.heap.size:=aQ.jT h;clear fF h aU b3 bI;go_enter Tryz.func154,Tryz.ntmps154;go_wp2_with fail;rw[←dO.o];refine(mJ _ _ _ _ _ _ _ _ _ _ _ _ HA.o M.AV).mono ?_;rintro e w1 aV;replace aV:=bG.after HK.o HS.o aV;rcases aV with⟨hK,hL,⟨ho,rfl⟩|⟨s1,ho,rfl,Na,vs1,hA,hO⟩⟩
 · exact⟨rfl,bG.behind bM.o ⟨hK,hL,.inl ⟨by rw[HO.o,ho];try rfl,rfl⟩⟩⟩
 replace HO:Zs (M.bJ p k m i s=some s1):=Z3 (by rw[HO.o,ho];try rfl);replace HA:=Z3 hA;replace HK:=Z3 hK;replace HS:=Z3 hO;clear hA hK hO hL ho;go_wp2_with fail;((try simp only[Exit.inBlock,Exit.then]);(first|refine bodyPost_ret (results_none rfl _ _ _) rfl ?_|refine bodyPost_end (results_none rfl _ _ _) rfl ?_));exact bG.behind bM.o ⟨HK.o,HA.o.dN,.inr ⟨_,HO.o,rfl,_,_,HA.o,HS.o⟩⟩
theorem VL(w:World)(l:aH)(p:M.ax)(B kb:Nat)(k:Int)(m:M.Method)(t:qj)(at_:Int)(s:M.iY)(vl vs:Value)(h:aQ w l p B kb k m t at_ s vl vs)(i:M.Ins)(fF:i.op=6):
    Calls Tryz.prog 155 #[.pointer (some ⟨kb,0,none⟩),.agg #[.int .i64 i.op,.int .i64 i.a,.string i.name,.string i.member]] w (bG w l p B kb k m t at_ vl vs (M.bJ p k m i s)):=by
 have HO:Zs (M.bJ p k m i s=M.iB m (M.eP i.name) s):=Z3 (by unfold M.bJ;rw[fF];rfl);obtain⟨w0,bI,aU,b3⟩:=nu w #[.int .i64 i.op,.int .i64 i.a,.string i.name,.string i.member] 130;have⟨dO,HA⟩:=aJ bI (h.ext aU);have HK:Zs (Kp (jf l kb vl vs) w0 w0):=Z3 Kp.rr;have⟨HS,bM,gN⟩:=bg (bW.refl w0.heap.size vl vs) aU b3;have G6:=h.blk.lt;have yE:¬jf l kb vl vs w.heap.size:=aQ.jT h;have y2:=b3.c 2 (.string i.name) rfl;clear fF h aU b3 bI;go_enter Tryz.func155,Tryz.ntmps155;go_wp2_with fail;rw[←dO.o];refine(xP _ i.name).mono ?_;rintro e w1 ⟨rfl,hE⟩;replace HA:=Z3 (HA.o.ext hE);replace HK:=Z3 (HK.o.trans hE.any);clear hE;go_wp2_with fail;refine(mJ _ _ _ _ _ _ _ _ _ _ _ _ HA.o (M.eP i.name)).mono ?_;rintro e w2 aV;replace aV:=bG.after HK.o HS.o aV;rcases aV with⟨hK,hL,⟨ho,rfl⟩|⟨s2,ho,rfl,QF,vs2,hA,hO⟩⟩
 · exact⟨rfl,bG.behind bM.o ⟨hK,hL,.inl ⟨by rw[HO.o,ho];try rfl,rfl⟩⟩⟩
 replace HO:Zs (M.bJ p k m i s=some s2):=Z3 (by rw[HO.o,ho];try rfl);replace HA:=Z3 hA;replace HK:=Z3 hK;replace HS:=Z3 hO;clear hA hK hO hL ho;go_wp2_with fail;((try simp only[Exit.inBlock,Exit.then]);(first|refine bodyPost_ret (results_none rfl _ _ _) rfl ?_|refine bodyPost_end (results_none rfl _ _ _) rfl ?_));exact bG.behind bM.o ⟨HK.o,HA.o.dN,.inr ⟨_,HO.o,rfl,_,_,HA.o,HS.o⟩⟩
theorem VN(w:World)(l:aH)(p:M.ax)(B kb:Nat)(k:Int)(m:M.Method)(t:qj)(at_:Int)(s:M.iY)(vl vs:Value)(h:aQ w l p B kb k m t at_ s vl vs)(i:M.Ins)(fF:i.op=14):
    Calls Tryz.prog 163 #[.pointer (some ⟨kb,0,none⟩),.agg #[.int .i64 i.op,.int .i64 i.a,.string i.name,.string i.member]] w (bG w l p B kb k m t at_ vl vs (M.bJ p k m i s)):=by
 have HO:Zs (M.bJ p k m i s=M.gK p k M.iL s):=Z3 (by unfold M.bJ;rw[fF];rfl);obtain⟨w0,bI,aU,b3⟩:=nu w #[.int .i64 i.op,.int .i64 i.a,.string i.name,.string i.member] 130;have⟨dO,HA⟩:=aJ bI (h.ext aU);have HK:Zs (Kp (jf l kb vl vs) w0 w0):=Z3 Kp.rr;have⟨HS,bM,gN⟩:=bg (bW.refl w0.heap.size vl vs) aU b3;have G6:=h.blk.lt;have yE:¬jf l kb vl vs w.heap.size:=aQ.jT h;clear fF h aU b3 bI;go_enter Tryz.func163,Tryz.ntmps163;go_wp2_with fail;rw[←dO.o];refine(yh _).mono ?_;rintro e w1 ⟨rfl,hE⟩;replace HA:=Z3 (HA.o.ext hE);replace HK:=Z3 (HK.o.trans hE.any);clear hE;go_wp2_with fail;refine(iU _ _ _ _ _ _ _ _ _ _ _ _ HA.o M.iL).mono ?_;rintro e w2 aV;replace aV:=bG.after HK.o HS.o aV;rcases aV with⟨hK,hL,⟨ho,rfl⟩|⟨s2,ho,rfl,QF,vs2,hA,hO⟩⟩
 · exact⟨rfl,bG.behind bM.o ⟨hK,hL,.inl ⟨by rw[HO.o,ho];try rfl,rfl⟩⟩⟩
 replace HO:Zs (M.bJ p k m i s=some s2):=Z3 (by rw[HO.o,ho];try rfl);replace HA:=Z3 hA;replace HK:=Z3 hK;replace HS:=Z3 hO;clear hA hK hO hL ho;go_wp2_with fail;((try simp only[Exit.inBlock,Exit.then]);(first|refine bodyPost_ret (results_none rfl _ _ _) rfl ?_|refine bodyPost_end (results_none rfl _ _ _) rfl ?_));exact bG.behind bM.o ⟨HK.o,HA.o.dN,.inr ⟨_,HO.o,rfl,_,_,HA.o,HS.o⟩⟩
theorem YS(w:World)(l:aH)(p:M.ax)(B kb:Nat)(k:Int)(m:M.Method)(t:qj)(at_:Int)(s:M.iY)(vl vs:Value)(h:aQ w l p B kb k m t at_ s vl vs)(i:M.Ins)(fF:i.op=13):
    Calls Tryz.prog 162 #[.pointer (some ⟨kb,0,none⟩),.agg #[.int .i64 i.op,.int .i64 i.a,.string i.name,.string i.member]] w (bG w l p B kb k m t at_ vl vs (M.bJ p k m i s)):=by
 have HO:Zs (M.bJ p k m i s=M.fZ p k m i.a s):=Z3 (by unfold M.bJ;rw[fF];rfl);obtain⟨w0,bI,aU,b3⟩:=nu w #[.int .i64 i.op,.int .i64 i.a,.string i.name,.string i.member] 130;have⟨dO,HA⟩:=aJ bI (h.ext aU);have HK:Zs (Kp (jf l kb vl vs) w0 w0):=Z3 Kp.rr;have⟨HS,bM,gN⟩:=bg (bW.refl w0.heap.size vl vs) aU b3;have G6:=h.blk.lt;have yE:¬jf l kb vl vs w.heap.size:=aQ.jT h;obtain⟨ah1, -,y1, -⟩:=b3.ca;clear fF h aU b3 bI;go_enter Tryz.func162,Tryz.ntmps162;go_wp2_with fail;rw[←dO.o];refine(xq _ _ _ _ _ _ _ _ _ _ _ _ HA.o i.a).mono ?_;rintro e w1 aV;replace aV:=bG.after HK.o HS.o aV;rcases aV with⟨hK,hL,⟨ho,rfl⟩|⟨s1,ho,rfl,Na,vs1,hA,hO⟩⟩
 · exact⟨rfl,bG.behind bM.o ⟨hK,hL,.inl ⟨by rw[HO.o,ho];try rfl,rfl⟩⟩⟩
 replace HO:Zs (M.bJ p k m i s=some s1):=Z3 (by rw[HO.o,ho];try rfl);replace HA:=Z3 hA;replace HK:=Z3 hK;replace HS:=Z3 hO;clear hA hK hO hL ho;go_wp2_with fail;((try simp only[Exit.inBlock,Exit.then]);(first|refine bodyPost_ret (results_none rfl _ _ _) rfl ?_|refine bodyPost_end (results_none rfl _ _ _) rfl ?_));exact bG.behind bM.o ⟨HK.o,HA.o.dN,.inr ⟨_,HO.o,rfl,_,_,HA.o,HS.o⟩⟩
theorem RP(w:World)(l:aH)(p:M.ax)(B kb:Nat)(k:Int)(m:M.Method)(t:qj)(at_:Int)(s:M.iY)(vl vs:Value)(h:aQ w l p B kb k m t at_ s vl vs)(i:M.Ins)(fF:i.op=11):
    Calls Tryz.prog 160 #[.pointer (some ⟨kb,0,none⟩),.agg #[.int .i64 i.op,.int .i64 i.a,.string i.name,.string i.member]] w (bG w l p B kb k m t at_ vl vs (M.bJ p k m i s)):=by
 have HO:Zs (M.bJ p k m i s=(M.gK p k M.iL s).bind (M.fZ p k m i.a)):=Z3 (by unfold M.bJ;rw[fF];rfl);obtain⟨w0,bI,aU,b3⟩:=nu w #[.int .i64 i.op,.int .i64 i.a,.string i.name,.string i.member] 130;have⟨dO,HA⟩:=aJ bI (h.ext aU);have HK:Zs (Kp (jf l kb vl vs) w0 w0):=Z3 Kp.rr;have⟨HS,bM,gN⟩:=bg (bW.refl w0.heap.size vl vs) aU b3;have G6:=h.blk.lt;have yE:¬jf l kb vl vs w.heap.size:=aQ.jT h;clear fF h aU b3 bI;go_enter Tryz.func160,Tryz.ntmps160;go_wp2_with fail;rw[←dO.o];refine(yh _).mono ?_;rintro e w1 ⟨rfl,hE⟩;replace HA:=Z3 (HA.o.ext hE);replace HK:=Z3 (HK.o.trans hE.any);clear hE;go_wp2_with fail;refine(iU _ _ _ _ _ _ _ _ _ _ _ _ HA.o M.iL).mono ?_;rintro e w2 aV;replace aV:=bG.after HK.o HS.o aV;rcases aV with⟨hK,hL,⟨ho,rfl⟩|⟨s2,ho,rfl,QF,vs2,hA,hO⟩⟩
 · exact⟨rfl,bG.behind bM.o ⟨hK,hL,.inl ⟨by rw[HO.o,ho];try rfl,rfl⟩⟩⟩
 replace HO:Zs (M.bJ p k m i s=M.fZ p k m i.a s2):=Z3 (by rw[HO.o,ho];try rfl);replace HA:=Z3 hA;replace HK:=Z3 hK;replace HS:=Z3 hO;clear hA hK hO hL ho;have y1:=(gN.o.kp HK.o yE).c 1 (.int .i64 i.a) rfl;go_wp2_with fail;refine(xq _ _ _ _ _ _ _ _ _ _ _ _ HA.o i.a).mono ?_;rintro e w3 aV;replace aV:=bG.after HK.o HS.o aV;rcases aV with⟨hK,hL,⟨ho,rfl⟩|⟨s3,ho,rfl,vl3,vs3,hA,hO⟩⟩
 · exact⟨rfl,bG.behind bM.o ⟨hK,hL,.inl ⟨by rw[HO.o,ho];try rfl,rfl⟩⟩⟩
 replace HO:Zs (M.bJ p k m i s=some s3):=Z3 (by rw[HO.o,ho];try rfl);replace HA:=Z3 hA;replace HK:=Z3 hK;replace HS:=Z3 hO;clear hA hK hO hL ho;go_wp2_with fail;((try simp only[Exit.inBlock,Exit.then]);(first|refine bodyPost_ret (results_none rfl _ _ _) rfl ?_|refine bodyPost_end (results_none rfl _ _ _) rfl ?_));exact bG.behind bM.o ⟨HK.o,HA.o.dN,.inr ⟨_,HO.o,rfl,_,_,HA.o,HS.o⟩⟩
theorem O1(w:World)(l:aH)(p:M.ax)(B kb:Nat)(k:Int)(m:M.Method)(t:qj)(at_:Int)(s:M.iY)(vl vs:Value)(h:aQ w l p B kb k m t at_ s vl vs)(i:M.Ins)(fF:i.op=12):
    Calls Tryz.prog 161 #[.pointer (some ⟨kb,0,none⟩),.agg #[.int .i64 i.op,.int .i64 i.a,.string i.name,.string i.member]] w (bG w l p B kb k m t at_ vl vs (M.bJ p k m i s)):=by
 have HO:Zs (M.bJ p k m i s=(M.sZ s).bind (M.fZ p k m i.a)):=Z3 (by unfold M.bJ;rw[fF];rfl);obtain⟨w0,bI,aU,b3⟩:=nu w #[.int .i64 i.op,.int .i64 i.a,.string i.name,.string i.member] 130;have⟨dO,HA⟩:=aJ bI (h.ext aU);have HK:Zs (Kp (jf l kb vl vs) w0 w0):=Z3 Kp.rr;have⟨HS,bM,gN⟩:=bg (bW.refl w0.heap.size vl vs) aU b3;have G6:=h.blk.lt;have yE:¬jf l kb vl vs w.heap.size:=aQ.jT h;clear fF h aU b3 bI;go_enter Tryz.func161,Tryz.ntmps161;go_wp2_with fail;rw[←dO.o];refine(vH _ _ _ _ _ _ _ _ _ _ _ _ HA.o).mono ?_;rintro e w1 aV;replace aV:=bG.after HK.o HS.o aV;rcases aV with⟨hK,hL,⟨ho,rfl⟩|⟨s1,ho,rfl,Na,vs1,hA,hO⟩⟩
 · exact⟨rfl,bG.behind bM.o ⟨hK,hL,.inl ⟨by rw[HO.o,ho];try rfl,rfl⟩⟩⟩
 replace HO:Zs (M.bJ p k m i s=M.fZ p k m i.a s1):=Z3 (by rw[HO.o,ho];try rfl);replace HA:=Z3 hA;replace HK:=Z3 hK;replace HS:=Z3 hO;clear hA hK hO hL ho;have y1:=(gN.o.kp HK.o yE).c 1 (.int .i64 i.a) rfl;go_wp2_with fail;refine(xq _ _ _ _ _ _ _ _ _ _ _ _ HA.o i.a).mono ?_;rintro e w2 aV;replace aV:=bG.after HK.o HS.o aV;rcases aV with⟨hK,hL,⟨ho,rfl⟩|⟨s2,ho,rfl,QF,vs2,hA,hO⟩⟩
 · exact⟨rfl,bG.behind bM.o ⟨hK,hL,.inl ⟨by rw[HO.o,ho];try rfl,rfl⟩⟩⟩
 replace HO:Zs (M.bJ p k m i s=some s2):=Z3 (by rw[HO.o,ho];try rfl);replace HA:=Z3 hA;replace HK:=Z3 hK;replace HS:=Z3 hO;clear hA hK hO hL ho;go_wp2_with fail;((try simp only[Exit.inBlock,Exit.then]);(first|refine bodyPost_ret (results_none rfl _ _ _) rfl ?_|refine bodyPost_end (results_none rfl _ _ _) rfl ?_));exact bG.behind bM.o ⟨HK.o,HA.o.dN,.inr ⟨_,HO.o,rfl,_,_,HA.o,HS.o⟩⟩
theorem RJ(w:World)(l:aH)(p:M.ax)(B kb:Nat)(k:Int)(m:M.Method)(t:qj)(at_:Int)(s:M.iY)(vl vs:Value)(h:aQ w l p B kb k m t at_ s vl vs)(i:M.Ins)(fF:i.op=15):
    Calls Tryz.prog 164 #[.pointer (some ⟨kb,0,none⟩),.agg #[.int .i64 i.op,.int .i64 i.a,.string i.name,.string i.member]] w (bG w l p B kb k m t at_ vl vs (M.bJ p k m i s)):=by
 have HO:Zs (M.bJ p k m i s=(M.sZ s).bind (M.iB m (M.eP i.name))):=Z3 (by unfold M.bJ;rw[fF];rfl);obtain⟨w0,bI,aU,b3⟩:=nu w #[.int .i64 i.op,.int .i64 i.a,.string i.name,.string i.member] 130;have⟨dO,HA⟩:=aJ bI (h.ext aU);have HK:Zs (Kp (jf l kb vl vs) w0 w0):=Z3 Kp.rr;have⟨HS,bM,gN⟩:=bg (bW.refl w0.heap.size vl vs) aU b3;have G6:=h.blk.lt;have yE:¬jf l kb vl vs w.heap.size:=aQ.jT h;clear fF h aU b3 bI;go_enter Tryz.func164,Tryz.ntmps164;go_wp2_with fail;rw[←dO.o];refine(vH _ _ _ _ _ _ _ _ _ _ _ _ HA.o).mono ?_;rintro e w1 aV;replace aV:=bG.after HK.o HS.o aV;rcases aV with⟨hK,hL,⟨ho,rfl⟩|⟨s1,ho,rfl,Na,vs1,hA,hO⟩⟩
 · exact⟨rfl,bG.behind bM.o ⟨hK,hL,.inl ⟨by rw[HO.o,ho];try rfl,rfl⟩⟩⟩
 replace HO:Zs (M.bJ p k m i s=M.iB m (M.eP i.name) s1):=Z3 (by rw[HO.o,ho];try rfl);replace HA:=Z3 hA;replace HK:=Z3 hK;replace HS:=Z3 hO;clear hA hK hO hL ho;have y2:=(gN.o.kp HK.o yE).c 2 (.string i.name) rfl;go_wp2_with fail;refine(xP _ i.name).mono ?_;rintro e w2 ⟨rfl,hE⟩;replace HA:=Z3 (HA.o.ext hE);replace HK:=Z3 (HK.o.trans hE.any);clear hE;go_wp2_with fail;refine(mJ _ _ _ _ _ _ _ _ _ _ _ _ HA.o (M.eP i.name)).mono ?_;rintro e w3 aV;replace aV:=bG.after HK.o HS.o aV;rcases aV with⟨hK,hL,⟨ho,rfl⟩|⟨s3,ho,rfl,vl3,vs3,hA,hO⟩⟩
 · exact⟨rfl,bG.behind bM.o ⟨hK,hL,.inl ⟨by rw[HO.o,ho];try rfl,rfl⟩⟩⟩
 replace HO:Zs (M.bJ p k m i s=some s3):=Z3 (by rw[HO.o,ho];try rfl);replace HA:=Z3 hA;replace HK:=Z3 hK;replace HS:=Z3 hO;clear hA hK hO hL ho;go_wp2_with fail;((try simp only[Exit.inBlock,Exit.then]);(first|refine bodyPost_ret (results_none rfl _ _ _) rfl ?_|refine bodyPost_end (results_none rfl _ _ _) rfl ?_));exact bG.behind bM.o ⟨HK.o,HA.o.dN,.inr ⟨_,HO.o,rfl,_,_,HA.o,HS.o⟩⟩
theorem VP(w:World)(l:aH)(p:M.ax)(B kb:Nat)(k:Int)(m:M.Method)(t:qj)(at_:Int)(s:M.iY)(vl vs:Value)(h:aQ w l p B kb k m t at_ s vl vs)(i:M.Ins)(fF:i.op=10):
    Calls Tryz.prog 159 #[.pointer (some ⟨kb,0,none⟩),.agg #[.int .i64 i.op,.int .i64 i.a,.string i.name,.string i.member]] w (bG w l p B kb k m t at_ vl vs (M.bJ p k m i s)):=by
 have HO:Zs (M.bJ p k m i s=M.gK p k (M.fJ m.ret) s):=Z3 (by unfold M.bJ;rw[fF];rfl);obtain⟨w0,bI,aU,b3⟩:=nu w #[.int .i64 i.op,.int .i64 i.a,.string i.name,.string i.member] 130;have⟨dO,HA⟩:=aJ bI (h.ext aU);have HK:Zs (Kp (jf l kb vl vs) w0 w0):=Z3 Kp.rr;have⟨HS,bM,gN⟩:=bg (bW.refl w0.heap.size vl vs) aU b3;have G6:=h.blk.lt;have yE:¬jf l kb vl vs w.heap.size:=aQ.jT h;obtain⟨-, -, -, -, -,y4,y5, -⟩:=h.blk.ca;clear fF h aU b3 bI;go_enter Tryz.func159,Tryz.ntmps159;go_wp2_with fail;rw[←dO.o];refine(Cu _ m.ret).mono ?_;rintro e w1 ⟨rfl,hE⟩;replace HA:=Z3 (HA.o.ext hE);replace HK:=Z3 (HK.o.trans hE.any);clear hE;go_wp2_with fail;refine(iU _ _ _ _ _ _ _ _ _ _ _ _ HA.o (M.fJ m.ret)).mono ?_;rintro e w2 aV;replace aV:=bG.after HK.o HS.o aV;rcases aV with⟨hK,hL,⟨ho,rfl⟩|⟨s2,ho,rfl,QF,vs2,hA,hO⟩⟩
 · exact⟨rfl,bG.behind bM.o ⟨hK,hL,.inl ⟨by rw[HO.o,ho];try rfl,rfl⟩⟩⟩
 replace HO:Zs (M.bJ p k m i s=some s2):=Z3 (by rw[HO.o,ho];try rfl);replace HA:=Z3 hA;replace HK:=Z3 hK;replace HS:=Z3 hO;clear hA hK hO hL ho;go_wp2_with fail;((try simp only[Exit.inBlock,Exit.then]);(first|refine bodyPost_ret (results_none rfl _ _ _) rfl ?_|refine bodyPost_end (results_none rfl _ _ _) rfl ?_));exact bG.behind bM.o ⟨HK.o,HA.o.dN,.inr ⟨_,HO.o,rfl,_,_,HA.o,HS.o⟩⟩
theorem VR(w:World)(l:aH)(p:M.ax)(B kb:Nat)(k:Int)(m:M.Method)(t:qj)(at_:Int)(s:M.iY)(vl vs:Value)(h:aQ w l p B kb k m t at_ s vl vs)(i:M.Ins)(fF:i.op=2)(ha:0≤i.a∧i.a<m.locals):
    Calls Tryz.prog 151 #[.pointer (some ⟨kb,0,none⟩),.agg #[.int .i64 i.op,.int .i64 i.a,.string i.name,.string i.member]] w (bG w l p B kb k m t at_ vl vs (M.bJ p k m i s)):=by
 have HO:Zs (M.bJ p k m i s=(s.locals[i.a.toNat]?).bind fun t=>if t.kind=0 then none else M.iB m t s):=Z3 (by unfold M.bJ;rw[fF];rfl);obtain⟨op,a,nm,mb⟩:=i;dsimp only at fF ha HO;obtain⟨q,rfl⟩:∃q:Nat,a=q:=⟨a.toNat,by omega⟩;have hql:q<s.locals.length:=by have:=h.VS;omega
 obtain⟨x,hx⟩:=iT s.locals q hql;replace HO:Zs (M.bJ p k m ⟨op,q,nm,mb⟩ s=if x.kind=0 then none else M.iB m x s):=Z3 (by rw[HO.o,Int.toNat_natCast,hx];rfl);obtain⟨w0,bI,aU,b3⟩:=nu w #[.int .i64 op,.int .i64 q,.string nm,.string mb] 130;have hA:=h.ext aU;have qN:=hA.loc;obtain⟨lg,Tq,hlv,KO,Rl,hg3⟩:=cB qN Wg;subst hlv;obtain⟨x0,x1⟩:=(fC (enc:=iD) (k:=2) (fun _=>rfl) qN hx).two;obtain⟨T,f,dA,HT⟩:=iN.ex (fun W'=>Ext w0 W') _ Kp.rr;have e11:=fun z=>(hA.blk.ext (HT.aW z)).c 11 (.slice (some ⟨lg,0,none⟩) s.locals.length Tq) rfl;have e1:=fun z=>(b3.ext (HT.aW z)).c 1 (.int .i64 q) rfl;have e2:=fun z=>(HT.aW z).aD x0;have e3:=fun z=>(HT.aW z).aD x1;have Qr:(q:Int)<s.locals.length:=by omega
 have uB:=h.uB;have hz:=h.blk.lt;have⟨aj,dO,bM,HA⟩:=gD HT bI aU hA;clear h fF hx bI aU b3 hA qN HT x0 x1 ha;have IP:(x.kind==0)=true∨(x.kind==0)=false:=by cases (x.kind==0)<;>simp
 go_enter Tryz.func151,Tryz.ntmps151;go_wp2_with fail;rw[←dO.o];(refine eO aj 9 [([0,1,2,3,4,5,6,7],8)] [] ?_ ?_)
 · exact Kp.rr.drew
 refine iX ?_;intro K2 ag;go_wp2_with fail;(refine kk aj ag kx ?_);clear ag K2;(refine dW ?_);go_wp2_with fail
 · clear IP e11 e1 e2 e3;have wZ:(x.kind==0)=true:=by assumption
   replace HO:Zs (M.bJ p k m ⟨op,q,nm,mb⟩ s=none):=Z3 (by rw[HO.o,if_pos (by simpa using wZ)]);have Td:=HA.o.ext (kx:Ext w0 ((w0.alloc (.cells #[.int .i64 x.kind,.string x.name] 139)).drew));refine(gW _ kb at_ (Td.blk.c 10 _ rfl) uB.1 Wg).mono ?_;rintro e w3 ⟨rfl,rfl⟩;exact⟨rfl,bG.behind bM.o ⟨(kx:Ext w0 ((w0.alloc (.cells #[.int .i64 x.kind,.string x.name] 139)).drew)).any,Td.dN,.inl ⟨HO.o,rfl⟩⟩⟩
 · clear IP e11 e1 e2 e3;have wZ:(x.kind==0)=false:=by assumption
   replace HO:Zs (M.bJ p k m ⟨op,q,nm,mb⟩ s=M.iB m x s):=Z3 (by rw[HO.o,if_neg (by simpa using wZ)]);have jc:Zs (Ext w0 ((w0.alloc (.cells #[.int .i64 x.kind,.string x.name] 139)).drew)):=Z3 kx;refine(mJ _ _ _ _ _ _ _ _ _ _ _ _ (HA.o.ext jc.o) x).mono ?_;rintro e w2 aV;replace aV:=bG.behind (bM.o.trans jc.o) aV;rw[←HO.o]at aV;have HZ:=Z3 aV;rcases aV.2.2 with⟨-,rfl⟩|⟨s', -,rfl, -⟩
   · exact⟨rfl,HZ.o⟩
   · clear aV;go_wp2_with fail;((try simp only[Exit.inBlock,Exit.then]);(first|refine bodyPost_ret (results_none rfl _ _ _) rfl ?_|refine bodyPost_end (results_none rfl _ _ _) rfl ?_));exact HZ.o
theorem Q6:∀(ls:List M.Tag) (q:Nat) (x:M.Tag),((ls.flatMap iD).set (q*2) (.int .i64 x.kind)).set (q*2+1) (.string x.name)=(ls.set q x).flatMap iD:=by
 intro ls;induction ls with
 |nil=>intro q x;rfl
 | cons y r ih =>
  intro q x;cases q with
  |zero=>simp[iD]
  |succ q=>
   have:=ih q x;rw[show(q+1)*2=q*2+2 from by omega];simp[iD,List.flatMap_cons,List.set_cons_succ]at this ⊢;exact this
theorem aQ.xD{w:World}{l:aH}{p:M.ax}{B kb:Nat}{k:Int}{m:M.Method}{t:qj}{at_:Int}{s:M.iY}{lg Tq:Nat}{vs:Value}(h:aQ w l p B kb k m t at_ s (.slice (some ⟨lg,0,none⟩) s.locals.length Tq) vs)(q:Nat)(x:M.Tag):
    aQ ((w.setCell ⟨lg,q*2,none⟩ (.int .i64 x.kind)).setCell ⟨lg,q*2+1,none⟩ (.string x.name)) l p B kb k m t at_ ⟨s.locals.set q x,s.stack⟩ (.slice (some ⟨lg,0,none⟩) s.locals.length Tq) vs∧
    Kp (jf l kb (.slice (some ⟨lg,0,none⟩) s.locals.length Tq) vs) w ((w.setCell ⟨lg,q*2,none⟩ (.int .i64 x.kind)).setCell ⟨lg,q*2+1,none⟩ (.string x.name)):=by
 have hk:Kp (·=lg) w ((w.setCell ⟨lg,q*2,none⟩ (.int .i64 x.kind)).setCell ⟨lg,q*2+1,none⟩ (.string x.name)):=
  ((Kp.refl (·=lg) w).setCell (p:=⟨lg,q*2,none⟩) (fun _=>rfl) _).setCell (p:=⟨lg,q*2+1,none⟩) (fun _=>rfl) _
 have hg:=(h.loc.lt lg rfl).1;have hO:=h.dN.ord;have hB:=h.hB;have hn:=h.neb.1;have h2:=(h.loc.stored (q*2) (.int .i64 x.kind)).1.stored (q*2+1) (.string x.name);rw[Q6]at h2;refine⟨⟨h.dN.kp hk (fun b hb e=>by omega),h.hB,h.hk,bQ.kp aG.stays hk (fun b hb e=>by omega) h.ml,h.mi,h.blk.kp hk (fun e=>hn (by rw[e];rfl)),by simpa using h2.1,aA h.dD hk (fun g hg _ e=>h.ne lg rfl (by rw[←e];exact hg)),h.ne,h.uB,h.ssz,by simpa using h.VS⟩,hk.weak fun b _ e=>.inr (.inr (.inl (by rw[e];rfl)))⟩
theorem YT(w:World)(l:aH)(p:M.ax)(B kb:Nat)(k:Int)(m:M.Method)(t:qj)(at_:Int)(s:M.iY)(vl vs:Value)(h:aQ w l p B kb k m t at_ s vl vs)(i:M.Ins)(fF:i.op=3)(ha:0≤i.a∧i.a<m.locals):
    Calls Tryz.prog 152 #[.pointer (some ⟨kb,0,none⟩),.agg #[.int .i64 i.op,.int .i64 i.a,.string i.name,.string i.member]] w (bG w l p B kb k m t at_ vl vs (M.bJ p k m i s)):=by
 have HO:Zs (M.bJ p k m i s=(M.nD s).map fun x=>⟨x.2.locals.set i.a.toNat x.1,x.2.stack⟩):=Z3 (by unfold M.bJ;rw[fF];rfl);obtain⟨op,a,nm,mb⟩:=i;dsimp only at fF ha HO;obtain⟨q,rfl⟩:∃q:Nat,a=q:=⟨a.toNat,by omega⟩;have hql:q<s.locals.length:=by have:=h.VS;omega
 obtain⟨w0,bI,aU,b3⟩:=nu w #[.int .i64 op,.int .i64 q,.string nm,.string mb] 130;have hA:=h.ext aU;have hn:=h.jT;obtain⟨lg,Tq,hlv,KO,Rl,hg3⟩:=cB hA.loc Wg;subst hlv;obtain⟨T,f,dA,HT⟩:=iN.ex (fun W'=>Kp (jf l kb (.slice (some ⟨lg,0,none⟩) s.locals.length Tq) vs) w0 W'∧∃s' vs',aQ W' l p B kb k m t at_ s' (.slice (some ⟨lg,0,none⟩) s.locals.length Tq) vs') w0 ⟨Kp.rr,_,_,hA⟩;have e11:∀z,(f z).cell? ⟨kb,11,none⟩=some (.slice (some ⟨lg,0,none⟩) s.locals.length Tq):=fun z=>by
  obtain⟨_,s',vs',hz⟩:=HT.aW z;exact hz.blk.c 11 _ rfl
 have e1:=fun z=>(b3.kp (HT.aW z).1 hn).c 1 (.int .i64 q) rfl;have Qr:(q:Int)<s.locals.length:=by omega
 have uB:=h.uB;have hz:=h.blk.lt;have⟨aj,dO,bM,HA⟩:=gD HT bI aU hA;clear h fF bI aU b3 hA HT ha hn;rcases List.eq_nil_or_concat s.stack with hs|⟨st,x,hs⟩
 · replace HO:Zs (M.bJ p k m ⟨op,q,nm,mb⟩ s=none):=Z3 (by rw[HO.o];unfold M.nD;rw[hs];rfl);have HS:=Z3 hs;clear hs;go_enter Tryz.func152,Tryz.ntmps152;go_wp2_with fail;rw[←dO.o];(refine eO aj 8 [([0,1,2,3,4,5,6],7)] [] ?_ ?_)
   · exact⟨Kp.rr.drew,_,_,HA.o.ext Kp.rr.drew⟩
   refine iX ?_;intro K2 ag;go_wp2_with fail;refine(uK _ _ _ _ _ _ _ _ _ _ _ _ (HA.o.ext Kp.rr.drew) HS.o).mono ?_;rintro e w1 ⟨rfl,bH⟩;have hE:=(bM.o.trans Kp.rr.drew).trans bH;exact⟨rfl,hE.any,((HA.o.ext Kp.rr.drew).ext bH).dN,.inl ⟨HO.o,rfl⟩⟩
 · rw[List.concat_eq_append]at hs;replace HO:Zs (M.bJ p k m ⟨op,q,nm,mb⟩ s=some ⟨s.locals.set q x,st⟩):=Z3 (by rw[HO.o];unfold M.nD;rw[hs];simp);have HS:=Z3 hs;clear hs;go_enter Tryz.func152,Tryz.ntmps152;go_wp2_with fail;rw[←dO.o];(refine eO aj 8 [([0,1,2,3,4,5,6],7)] [] ?_ ?_)
   · exact⟨Kp.rr.drew,_,_,HA.o.ext Kp.rr.drew⟩
   refine iX ?_;intro K2 ag;go_wp2_with fail;refine(yg _ _ _ _ _ _ _ _ _ _ _ _ (HA.o.ext Kp.rr.drew) st x HS.o).mono ?_;rintro e w1 ⟨rfl,⟨vs1,rZ,NB⟩,lI⟩;have Ab:Zs (Kp (jf l kb (.slice (some ⟨lg,0,none⟩) s.locals.length Tq) vs) w0 w1):=Z3 (((Kp.refl _ w0).drew).trans lI);have⟨Nw,kX⟩:=aJ NB rZ;clear rZ NB lI;go_wp2_with fail;(refine kk aj ag ⟨Ab.o,_,_,kX.o⟩ ?_);clear ag K2;obtain⟨y,hy⟩:=iT s.locals q hql;obtain⟨x0,x1⟩:=(fC (enc:=iD) (k:=2) (fun _=>rfl) kX.o.loc hy).two;have f0:=kX.o.loc.frozenAt (q*2);have f1:=kX.o.loc.frozenAt (q*2+1);have hgz:=(kX.o.loc.lt lg rfl).2;clear e11 e1 hy;(refine dW ?_);go_wp2_with fail;((try simp only[Exit.inBlock,Exit.then]);(first|refine bodyPost_ret (results_none rfl _ _ _) rfl ?_|refine bodyPost_end (results_none rfl _ _ _) rfl ?_));obtain⟨hA2,Rh⟩:=kX.o.xD q x;exact bG.behind bM.o ⟨Ab.o.look Rh Nw.o,hA2.dN,.inr ⟨_,HO.o,rfl,_,_,hA2,Nw.o⟩⟩
theorem IE{w w0 w7:World}{l:aH}{p:M.ax}{b:Nat}(hE:Ext w w0)(hK:Kp (·=l.D) w0 w7)(hL:aC w7 l p)(hb:l.L<b)(hw:w.heap.size≤b)(u0 u1 u2 u3 u4:Value):
    Kp (·=l.D) w (((((w7.setCell ⟨b,0,none⟩ u0).setCell ⟨b,1,none⟩ u1).setCell ⟨b,2,none⟩ u2).setCell ⟨b,3,none⟩ u3).setCell ⟨b,4,none⟩ u4)∧
    aC (((((w7.setCell ⟨b,0,none⟩ u0).setCell ⟨b,1,none⟩ u1).setCell ⟨b,2,none⟩ u2).setCell ⟨b,3,none⟩ u3).setCell ⟨b,4,none⟩ u4) l p:=by
 have h5:=Kp.qX (D:=(·=b)) (w:=w7) rfl u0 u1 u2 u3 u4;generalize (((((w7.setCell ⟨b,0,none⟩ u0).setCell ⟨b,1,none⟩ u1).setCell ⟨b,2,none⟩ u2).setCell ⟨b,3,none⟩ u3).setCell ⟨b,4,none⟩ u4)=w8 at*;exact⟨(hE.any.trans hK).own h5 (fun k e=>by omega),hL.kp h5 (fun k hk e=>by omega)⟩
theorem FW(w:World)(l:aH)(p:M.ax)(B kb:Nat)(k:Int)(m:M.Method)(t:qj)(at_:Int)(s:M.iY)(vl vs:Value)(h:aQ w l p B kb k m t at_ s vl vs)(i:M.Ins):
    Calls Tryz.prog 179 #[.pointer (some ⟨kb,0,none⟩),.agg #[.int .i64 i.op,.int .i64 i.a,.string i.name,.string i.member]] w fun e w'=>
     Kp (·=l.D) w w'∧aC w' l p∧(((M.get p k i.name i.member).2≠1∧e=.panicked (zP (at_+1)))∨((M.get p k i.name i.member).2=1∧e=.returned (.agg (jH (M.get p k i.name i.member).1).toArray))):=by
 obtain⟨w0,bI⟩:∃w0,w0=(w.alloc (.cells #[.int .i64 i.op,.int .i64 i.a,.string i.name,.string i.member] 130)).alloc (.cells #[.int .i64 0,.string ⟨#[]⟩,.int .i64 0,.int .i64 0,.string ⟨#[]⟩] 164):=⟨_,rfl⟩;have aU:Ext w w0:=by rw[bI];exact kx
 have b3:ay w0 w.heap.size 130 #[.int .i64 i.op,.int .i64 i.a,.string i.name,.string i.member]:=by rw[bI];exact(ay.new _ _ _).ext kx
 have b4:ay w0 (w.heap.size+1) 164 #[.int .i64 0,.string ⟨#[]⟩,.int .i64 0,.int .i64 0,.string ⟨#[]⟩]:=by rw[bI];exact ay.newAt _ _ Wf
 have hA:=h.ext aU;have hD:=h.dN.Hl;have Aw:=h.dN.ord;have hB:=h.hB;have hk:=h.hk;have hz:=h.blk.lt;have uB:=h.uB;have hkD:¬kb=l.D:=by omega
 have Va:¬w.heap.size=l.D:=by omega
 have mR:¬w.heap.size+1=l.D:=by omega
 obtain⟨T,f,dA,HT⟩:=iN.ex (fun W'=>Kp (·=l.D) w0 W') _ Kp.rr;obtain⟨-,r0,r1, -⟩:=ay.kY fun z=>(hA.blk.kp (HT.aW z) hkD);obtain⟨-, -, -,r2,r3, -⟩:=ay.kY fun z=>(b3.kp (HT.aW z) Va);have⟨aj,dO,bM,HA,kP⟩:=kL HT bI aU hA b4;obtain⟨v0,v1,v2,v3,v4,hv⟩:∃a b c d e,(jH (M.get p k i.name i.member).1).toArray=#[.int .i64 a,.string b,.int .i64 c,.int .i64 d,.string e]:=⟨_,_,_,_,_,rfl⟩;have HV:=Z3 hv;rw[hv];clear hv;clear h bI aU b3 b4 hA HT;go_enter Tryz.func179,Tryz.ntmps179;go_wp2_with fail;rw[←dO.o];(refine lN aj 18 (.two [0,1,2,3,4,5,6,7,8,9,10,11] 12 16 (.one [13,14,15] 16 (.one [] 17 (.fin []))) (.one [] 12 (.one [13,14,15] 17 (.fin [])))) ?_ ?_)
 · exact Kp.rr.drew
 (refine two [_,_,_,_,_,_,_,_,_,_,_,_] rfl rfl rfl fun K hK=>?_);(repeat (go_big_quiet_step (fail)));((refine Gj hK (fun K2 ag=>?_) fun K2 ag=>?_)<;>clear hK K)
 · go_wp2_with fail;refine(xZ _ _ _ (HA.o.dN.ext Kp.rr.drew) k i.name i.member).mono ?_;rintro e w3 ⟨⟨ev,he,nN⟩,Fu,nL⟩;rw[HV.o]at he;subst he;have mg:Zs (Kp (·=l.D) w0 w3):=Z3 ((Kp.rr.drew).trans nL);have SQ:=Z3 Fu;clear Fu nL;obtain⟨w7,Da⟩:∃w7,w7=w3.alloc (.cells #[.int .i64 v0,.string v1,.int .i64 v2,.int .i64 v3,.string v4] 164):=⟨_,rfl⟩;have mh:Zs (Kp (·=l.D) w0 w7):=Z3 (by rw[Da];exact mg.o.alloc _);have KZ:Zs (aC w7 l p):=Z3 (by rw[Da];exact SQ.o.ext kx);have XT:ay w7 w3.heap.size 164 #[.int .i64 v0,.string v1,.int .i64 v2,.int .i64 v3,.string v4]:=by rw[Da];exact ay.new _ _ _
   have SX:=Z3 Da;obtain⟨-,u0,u1,u2,u3,u4, -⟩:=XT.ca;have hn5:¬w.heap.size+1=w3.heap.size:=by have:=kP.o.lt;have:=mg.o.size;omega
   have hn6:¬w3.heap.size=w.heap.size+1:=by omega
   clear XT Da;rcases nN with⟨hc,rfl⟩|⟨hc,b,rfl, -⟩
   all_goals
    have HC:=Z3 hc;clear hc;go_wp2_with fail;(refine kk aj ag mg.o ?_);clear ag K2;refine Ey ?_;intro K2 ag;go_wp2_with fail;(refine kk aj ag (mg.o.alloc _) ?_);clear ag K2;(refine aX rfl fun K2 ag=>?_);go_wp2_with fail;rw[←SX.o];(refine kk aj ag mh.o ?_);clear ag K2;clear aj r0 r1 r2 r3;have b4:=kP.o.kp mh.o mR;obtain⟨z4,x0,x1,x2,x3,x4, -⟩:=b4.ca;obtain⟨f0,f1,f2,f3,f4, -⟩:=b4.fz;have aaN:=Z3 b4;clear b4;(refine bU ?_);go_wp2_with fail
   · refine bodyPost_ret (aY sD rfl _ _ (w.heap.size+1) rfl [.int .i64 v0,.string v1,.int .i64 v2,.int .i64 v3,.string v4] (ae.gM (aaN.o.qX _ _ _ _ _)) rfl) rfl ?_;have hfe:=IE (b:=w.heap.size+1) bM.o mh.o KZ.o Wg Wg (.int .i64 v0) (.string v1) (.int .i64 v2) (.int .i64 v3) (.string v4);exact⟨hfe.1,hfe.2,.inr ⟨HC.o,rfl⟩⟩
   · refine(gW _ kb at_ ((HA.o.blk.kp mh.o hkD).c 10 _ rfl) uB.1 Wg).mono ?_;rintro e w9 ⟨rfl,rfl⟩;exact⟨rfl,bM.o.any.trans mh.o,KZ.o,.inl ⟨HC.o,rfl⟩⟩
 · go_wp2_with fail;(refine kk aj ag ((Kp.rr.drew).alloc _) ?_);clear ag K2;(refine aX rfl fun K2 ag=>?_);go_wp2_with fail;have b5:ay (w0.alloc (.cells #[.int .i64 0,.string ⟨#[]⟩,.int .i64 0,.int .i64 0,.string ⟨#[]⟩] 164)).drew w0.heap.size 164 #[.int .i64 0,.string ⟨#[]⟩,.int .i64 0,.int .i64 0,.string ⟨#[]⟩]:=(ay.new _ _ _).ext Kp.rr.drew;have hD0:=HA.o.dN.Hl;have hzD:¬w0.heap.size=l.D:=by omega
   refine(xZ _ _ _ (HA.o.dN.ext (Kp.rr.alloc _).drew) k i.name i.member).mono ?_;rintro e w3 ⟨⟨ev,he,nN⟩,Fu,nL⟩;rw[HV.o]at he;subst he;have mg:Zs (Kp (·=l.D) w0 w3):=Z3 ((((Kp.refl _ w0).alloc _).drew).trans nL);have GV:=b5.kp nL hzD;have hzw:=bM.o.size;have hn5:¬w.heap.size+1=w0.heap.size:=by have:=kP.o.lt;omega
   have hn6:¬w0.heap.size=w.heap.size+1:=by omega
   obtain⟨z5,y0,y1,y2,y3,y4, -⟩:=GV.ca;obtain⟨g0,g1,g2,g3,g4, -⟩:=GV.fz;obtain⟨w7,Da⟩:∃w7,w7=(((((w3.setCell ⟨w0.heap.size,0,none⟩ (.int .i64 v0)).setCell ⟨w0.heap.size,1,none⟩ (.string v1)).setCell ⟨w0.heap.size,2,none⟩ (.int .i64 v2)).setCell ⟨w0.heap.size,3,none⟩ (.int .i64 v3)).setCell ⟨w0.heap.size,4,none⟩ (.string v4)):=⟨_,rfl⟩;have sK:Kp (·=w0.heap.size) w3 w7:=by rw[Da];exact Kp.qX (D:=(·=w0.heap.size)) rfl _ _ _ _ _
   have XT:ay w7 w0.heap.size 164 #[.int .i64 v0,.string v1,.int .i64 v2,.int .i64 v3,.string v4]:=by rw[Da];exact GV.qX _ _ _ _ _
   have mh:Zs (Kp (·=l.D) w0 w7):=Z3 (mg.o.own sK (fun k e=>by omega));have KZ:Zs (aC w7 l p):=Z3 (Fu.kp sK (fun b hb e=>by omega));have⟨lC,SX⟩:=aJ XT Da;obtain⟨-,u0,u1,u2,u3,u4, -⟩:=XT.ca;clear b5 GV Fu nL sK XT Da;rcases nN with⟨hc,rfl⟩|⟨hc,b,rfl, -⟩
   all_goals
    have HC:=Z3 hc;clear hc;go_wp2_with fail;(refine kk aj ag mg.o ?_);clear ag K2;refine Ey ?_;intro K2 ag;go_wp2_with fail;rw[←SX.o];(refine kk aj ag mh.o ?_);clear ag K2;clear aj r0 r1 r2 r3 y0 y1 y2 y3 y4 g0 g1 g2 g3 g4;have b4:=kP.o.kp mh.o mR;obtain⟨z4,x0,x1,x2,x3,x4, -⟩:=b4.ca;obtain⟨f0,f1,f2,f3,f4, -⟩:=b4.fz;have aaN:=Z3 b4;clear b4;(refine bU ?_);go_wp2_with fail
   · refine bodyPost_ret (aY sD rfl _ _ (w.heap.size+1) rfl [.int .i64 v0,.string v1,.int .i64 v2,.int .i64 v3,.string v4] (ae.gM (aaN.o.qX _ _ _ _ _)) rfl) rfl ?_;have hfe:=IE (b:=w.heap.size+1) bM.o mh.o KZ.o Wg Wg (.int .i64 v0) (.string v1) (.int .i64 v2) (.int .i64 v3) (.string v4);exact⟨hfe.1,hfe.2,.inr ⟨HC.o,rfl⟩⟩
   · refine(gW _ kb at_ ((HA.o.blk.kp mh.o hkD).c 10 _ rfl) uB.1 Wg).mono ?_;rintro e w9 ⟨rfl,rfl⟩;exact⟨rfl,bM.o.any.trans mh.o,KZ.o,.inl ⟨HC.o,rfl⟩⟩
theorem VJ(w:World)(l:aH)(p:M.ax)(B kb:Nat)(k:Int)(m:M.Method)(t:qj)(at_:Int)(s:M.iY)(vl vs:Value)(h:aQ w l p B kb k m t at_ s vl vs)(i:M.Ins)(fF:i.op=7):
    Calls Tryz.prog 156 #[.pointer (some ⟨kb,0,none⟩),.agg #[.int .i64 i.op,.int .i64 i.a,.string i.name,.string i.member]] w (bG w l p B kb k m t at_ vl vs (M.bJ p k m i s)):=by
 have HO:Zs (M.bJ p k m i s=if(M.get p k i.name i.member).2=1 then(M.gK p k (M.eP i.name) s).bind (M.iB m (M.fJ (M.get p k i.name i.member).1.kind))else none):=Z3 (by unfold M.bJ;rw[fF];rfl);obtain⟨w0,bI,aU,b3⟩:=nu w #[.int .i64 i.op,.int .i64 i.a,.string i.name,.string i.member] 130;have⟨dO,HA⟩:=aJ bI (h.ext aU);have HK:Zs (Kp (jf l kb vl vs) w0 w0):=Z3 Kp.rr;have⟨HS,bM,gN⟩:=bg (bW.refl w0.heap.size vl vs) aU b3;have G6:=h.blk.lt;have yE:¬jf l kb vl vs w.heap.size:=aQ.jT h;clear fF h aU b3 bI;go_enter Tryz.func156,Tryz.ntmps156;go_wp2_with fail;rw[←dO.o];obtain⟨G,hG⟩:∃G,M.get p k i.name i.member=G:=⟨_,rfl⟩;have CX:=FW _ _ _ _ _ _ _ _ _ _ _ _ HA.o i;rw[hG]at CX;replace HO:Zs (M.bJ p k m i s=if G.2=1 then((M.gK p k (M.eP i.name) s).bind (M.iB m (M.fJ G.1.kind)))else none):=Z3 (by rw[HO.o,hG]);have Aw:=HA.o.dN.ord;have hlB:=HA.o.hB;have agY:=HA.o.hk;refine CX.mono ?_;rintro e w1 ⟨lI,Aq,⟨hc,rfl⟩|⟨hc,he⟩⟩
 · exact⟨rfl,bG.behind bM.o ⟨lI.weak (fun b _ e=>.inl e),Aq,.inl ⟨by rw[HO.o,if_neg hc],rfl⟩⟩⟩
 replace HO:Zs (M.bJ p k m i s=((M.gK p k (M.eP i.name) s).bind (M.iB m (M.fJ G.1.kind)))):=Z3 (by rw[HO.o,if_pos hc]);replace he:e=.returned (.agg #[.int .i64 G.1.of.keeper,.string G.1.of.name,.int .i64 G.1.at_,.int .i64 G.1.kind.kind,.string G.1.kind.name]):=he;subst he;have rZ:=HA.o.kM lI Aq;obtain⟨w2,ny,bZ,b5⟩:=nu w1 #[.int .i64 G.1.of.keeper,.string G.1.of.name,.int .i64 G.1.at_,.int .i64 G.1.kind.kind,.string G.1.kind.name] 164;have OB:=gN.o.kp lI (fun e=>yE (.inl e));obtain⟨Db, -, -,y2, -⟩:=OB.ca;have aep:¬jf l kb vl vs w1.heap.size:=rZ.jT;have XB:Zs (Kp (jf l kb vl vs) w w2):=Z3 ((bM.o.any.trans (lI.weak (fun b _ e=>.inl e))).trans bZ.any);have lC:=Z3 b5;replace gN:=Z3 (OB.ext bZ);replace HA:=Z3 (rZ.ext bZ);replace HK:Zs (Kp (jf l kb vl vs) w2 w2):=Z3 Kp.rr;replace HS:=Z3 (bW.refl w2.heap.size vl vs);have⟨Bi,HG⟩:=aJ ny hG;clear CX lI Aq hc ny bZ b5 OB rZ hG;go_wp2_with fail;rw[←Bi.o];clear y2;refine(xP _ i.name).mono ?_;rintro e w1 ⟨rfl,hE⟩;replace HA:=Z3 (HA.o.ext hE);replace HK:=Z3 (HK.o.trans hE.any);clear hE;go_wp2_with fail;refine(iU _ _ _ _ _ _ _ _ _ _ _ _ HA.o (M.eP i.name)).mono ?_;rintro e w2 aV;replace aV:=bG.after HK.o HS.o aV;rcases aV with⟨hK,hL,⟨ho,rfl⟩|⟨s2,ho,rfl,QF,vs2,hA,hO⟩⟩
 · exact⟨rfl,bG.after XB.o (bW.refl _ _ _) ⟨hK,hL,.inl ⟨by rw[HO.o,ho];try rfl,rfl⟩⟩⟩
 replace HO:Zs (M.bJ p k m i s=M.iB m (M.fJ G.1.kind) s2):=Z3 (by rw[HO.o,ho];try rfl);replace HA:=Z3 hA;replace HK:=Z3 hK;replace HS:=Z3 hO;clear hA hK hO hL ho;obtain⟨-, -, -, -,y3,y4, -⟩:=(lC.o.kp HK.o aep).ca;go_wp2_with fail;refine(Cu _ G.1.kind).mono ?_;rintro e w3 ⟨rfl,hE⟩;replace HA:=Z3 (HA.o.ext hE);replace HK:=Z3 (HK.o.trans hE.any);clear hE;go_wp2_with fail;refine(mJ _ _ _ _ _ _ _ _ _ _ _ _ HA.o (M.fJ G.1.kind)).mono ?_;rintro e w4 aV;replace aV:=bG.after HK.o HS.o aV;rcases aV with⟨hK,hL,⟨ho,rfl⟩|⟨s4,ho,rfl,vl4,vs4,hA,hO⟩⟩
 · exact⟨rfl,bG.after XB.o (bW.refl _ _ _) ⟨hK,hL,.inl ⟨by rw[HO.o,ho];try rfl,rfl⟩⟩⟩
 replace HO:Zs (M.bJ p k m i s=some s4):=Z3 (by rw[HO.o,ho];try rfl);replace HA:=Z3 hA;replace HK:=Z3 hK;replace HS:=Z3 hO;clear hA hK hO hL ho;go_wp2_with fail;((try simp only[Exit.inBlock,Exit.then]);(first|refine bodyPost_ret (results_none rfl _ _ _) rfl ?_|refine bodyPost_end (results_none rfl _ _ _) rfl ?_));exact bG.after XB.o (bW.refl _ _ _) ⟨HK.o,HA.o.dN,.inr ⟨_,HO.o,rfl,_,_,HA.o,HS.o⟩⟩
theorem VQ(w:World)(l:aH)(p:M.ax)(B kb:Nat)(k:Int)(m:M.Method)(t:qj)(at_:Int)(s:M.iY)(vl vs:Value)(h:aQ w l p B kb k m t at_ s vl vs)(i:M.Ins)(fF:i.op=8):
    Calls Tryz.prog 157 #[.pointer (some ⟨kb,0,none⟩),.agg #[.int .i64 i.op,.int .i64 i.a,.string i.name,.string i.member]] w (bG w l p B kb k m t at_ vl vs (M.bJ p k m i s)):=by
 have HO:Zs (M.bJ p k m i s=if(M.get p k i.name i.member).2=1 then(M.gK p k (M.fJ (M.get p k i.name i.member).1.kind) s).bind (M.gK p k (M.eP i.name))else none):=Z3 (by unfold M.bJ;rw[fF];rfl);obtain⟨w0,bI,aU,b3⟩:=nu w #[.int .i64 i.op,.int .i64 i.a,.string i.name,.string i.member] 130;have⟨dO,HA⟩:=aJ bI (h.ext aU);have HK:Zs (Kp (jf l kb vl vs) w0 w0):=Z3 Kp.rr;have⟨HS,bM,gN⟩:=bg (bW.refl w0.heap.size vl vs) aU b3;have G6:=h.blk.lt;have yE:¬jf l kb vl vs w.heap.size:=aQ.jT h;clear fF h aU b3 bI;go_enter Tryz.func157,Tryz.ntmps157;go_wp2_with fail;rw[←dO.o];obtain⟨G,hG⟩:∃G,M.get p k i.name i.member=G:=⟨_,rfl⟩;have CX:=FW _ _ _ _ _ _ _ _ _ _ _ _ HA.o i;rw[hG]at CX;replace HO:Zs (M.bJ p k m i s=if G.2=1 then((M.gK p k (M.fJ G.1.kind) s).bind (M.gK p k (M.eP i.name)))else none):=Z3 (by rw[HO.o,hG]);have Aw:=HA.o.dN.ord;have hlB:=HA.o.hB;have agY:=HA.o.hk;refine CX.mono ?_;rintro e w1 ⟨lI,Aq,⟨hc,rfl⟩|⟨hc,he⟩⟩
 · exact⟨rfl,bG.behind bM.o ⟨lI.weak (fun b _ e=>.inl e),Aq,.inl ⟨by rw[HO.o,if_neg hc],rfl⟩⟩⟩
 replace HO:Zs (M.bJ p k m i s=((M.gK p k (M.fJ G.1.kind) s).bind (M.gK p k (M.eP i.name)))):=Z3 (by rw[HO.o,if_pos hc]);replace he:e=.returned (.agg #[.int .i64 G.1.of.keeper,.string G.1.of.name,.int .i64 G.1.at_,.int .i64 G.1.kind.kind,.string G.1.kind.name]):=he;subst he;have rZ:=HA.o.kM lI Aq;obtain⟨w2,ny,bZ,b5⟩:=nu w1 #[.int .i64 G.1.of.keeper,.string G.1.of.name,.int .i64 G.1.at_,.int .i64 G.1.kind.kind,.string G.1.kind.name] 164;have OB:=gN.o.kp lI (fun e=>yE (.inl e));obtain⟨Db, -, -,y2, -⟩:=OB.ca;have aep:¬jf l kb vl vs w1.heap.size:=rZ.jT;have XB:Zs (Kp (jf l kb vl vs) w w2):=Z3 ((bM.o.any.trans (lI.weak (fun b _ e=>.inl e))).trans bZ.any);have lC:=Z3 b5;replace gN:=Z3 (OB.ext bZ);replace HA:=Z3 (rZ.ext bZ);replace HK:Zs (Kp (jf l kb vl vs) w2 w2):=Z3 Kp.rr;replace HS:=Z3 (bW.refl w2.heap.size vl vs);have⟨Bi,HG⟩:=aJ ny hG;clear CX lI Aq hc ny bZ b5 OB rZ hG;go_wp2_with fail;rw[←Bi.o];clear y2;refine(Cu _ G.1.kind).mono ?_;rintro e w1 ⟨rfl,hE⟩;replace HA:=Z3 (HA.o.ext hE);replace HK:=Z3 (HK.o.trans hE.any);clear hE;go_wp2_with fail;refine(iU _ _ _ _ _ _ _ _ _ _ _ _ HA.o (M.fJ G.1.kind)).mono ?_;rintro e w2 aV;replace aV:=bG.after HK.o HS.o aV;rcases aV with⟨hK,hL,⟨ho,rfl⟩|⟨s2,ho,rfl,QF,vs2,hA,hO⟩⟩
 · exact⟨rfl,bG.after XB.o (bW.refl _ _ _) ⟨hK,hL,.inl ⟨by rw[HO.o,ho];try rfl,rfl⟩⟩⟩
 replace HO:Zs (M.bJ p k m i s=M.gK p k (M.eP i.name) s2):=Z3 (by rw[HO.o,ho];try rfl);replace HA:=Z3 hA;replace HK:=Z3 hK;replace HS:=Z3 hO;clear hA hK hO hL ho;have y2:=(gN.o.kp HK.o yE).c 2 (.string i.name) rfl;go_wp2_with fail;refine(xP _ i.name).mono ?_;rintro e w3 ⟨rfl,hE⟩;replace HA:=Z3 (HA.o.ext hE);replace HK:=Z3 (HK.o.trans hE.any);clear hE;go_wp2_with fail;refine(iU _ _ _ _ _ _ _ _ _ _ _ _ HA.o (M.eP i.name)).mono ?_;rintro e w4 aV;replace aV:=bG.after HK.o HS.o aV;rcases aV with⟨hK,hL,⟨ho,rfl⟩|⟨s4,ho,rfl,vl4,vs4,hA,hO⟩⟩
 · exact⟨rfl,bG.after XB.o (bW.refl _ _ _) ⟨hK,hL,.inl ⟨by rw[HO.o,ho];try rfl,rfl⟩⟩⟩
 replace HO:Zs (M.bJ p k m i s=some s4):=Z3 (by rw[HO.o,ho];try rfl);replace HA:=Z3 hA;replace HK:=Z3 hK;replace HS:=Z3 hO;clear hA hK hO hL ho;go_wp2_with fail;((try simp only[Exit.inBlock,Exit.then]);(first|refine bodyPost_ret (results_none rfl _ _ _) rfl ?_|refine bodyPost_end (results_none rfl _ _ _) rfl ?_));exact bG.after XB.o (bW.refl _ _ _) ⟨HK.o,HA.o.dN,.inr ⟨_,HO.o,rfl,_,_,HA.o,HS.o⟩⟩
attribute [local go_sem] Oper.semAt_some
theorem Ju(w:World)(a:Option Addr)(n c:Nat):
    Calls Tryz.prog 180 #[.slice a n c] w fun e w'=>
     e=.returned (.func (.func 191) #[] #[.pointer (some ⟨w.heap.size,0,none⟩)])∧w.alloc (.cells #[.slice a n c] 100)=w':=by
 go_enter Tryz.func180,Tryz.ntmps180;go_wp2;go_ret;exact⟨rfl,rfl⟩
def P6(x:Int×M.Kind):Array Value:=#[.int .i64 x.1,.agg #[.int .i64 x.2.kind,.string x.2.name]]
theorem EX(refs:List M.Kind)(Vb:Nat)(v:Value)(I Bd:Nat→Prop)(hBd:∀k,Bd k→k≠Vb∧¬I k):
    ZE Tryz.prog 191 #[.pointer (some ⟨Vb,0,none⟩)] P6 (fun _=>False) Bd
     (fun xs=>xs=backTo refs refs.length) (fun pre=>∃rest,backTo refs refs.length=pre++rest) (fun _=>True)
     (fun W=>ay W Vb 100 #[v]∧SliceOf 2 jv W I v refs) (fun pre x=>∃rest,backTo refs refs.length=pre++x::rest):=by
 intro lp J Jx Jp W ⟨hbV,vC⟩ hJ ZT hJp hN hY hJ0;obtain⟨a,cap,rfl,hn,dm⟩:=vC.form;refine callsIn_of_wp Tryz.func191 rfl trivial ?_ rfl;simp only[Tryz.ntmps191,List.size_toArray,List.length_cons,List.length_nil,Nat.reduceAdd,Nat.reduceSub,Array.replicate_succ,Array.replicate_zero,List.push_toArray,List.append_toArray,List.nil_append,List.cons_append];have c0:=hbV.c 0 (.slice a refs.length cap) rfl;have hw:IntKind.i64.wrap ((refs.length:Int) - 1)=(refs.length:Int) - 1:=IntWalk.i64_in _ Wg;gi_wp2;clear hw;gi_loopg [3] refs.length (fun m i wr=>∃pre:List (Int×M.Kind),((m=0∧i=.int .i64 (-1))∨∃k:Nat,m=k+1∧i=.int .i64 k)∧m≤refs.length∧Zs (backTo refs refs.length=pre++backTo refs m)∧Zs (J pre wr∧ay wr Vb 100 #[.slice a refs.length cap]∧SliceOf 2 jv wr I (.slice a refs.length cap) refs))
 case atStart=>
  refine⟨[],?_,Nat.le_refl _,Z3 Wf,Z3 ⟨hJ0,hbV,vC⟩⟩;rcases Nat.eq_zero_or_pos refs.length with h0|h0
  · left;exact⟨h0,by rw[h0];rfl⟩
  · right;exact⟨refs.length - 1,by omega,by congr 1;omega⟩
 case round =>
  obtain⟨pre,hm,hmn,HB,HJ⟩:=hrel;rcases hm with⟨rfl,rfl⟩|⟨k,rfl,rfl⟩
  · have HS:Zs (backTo refs refs.length=pre):=Z3 (by rw[HB.o];simp[backTo]);gi_wp2;((try simp only[Exit.inBlock,Exit.then]);(first|refine bodyPost_ret (results_none rfl _ _ _) rfl ?_|refine bodyPost_end (results_none rfl _ _ _) rfl ?_));exact .inl ⟨⟨_,rfl⟩,.inl ⟨pre,HS.o.symm,HJ.o.1⟩⟩
  · obtain⟨x,hx⟩:=get_some (show k<refs.length by omega);obtain⟨hj,hb,hs⟩:=HJ.o;obtain⟨b,off,cs,rfl,hI,rfl, -,hc⟩:=hs.get hx;obtain⟨g0,g1⟩:=hc.two;have d0:=hb.c 0 (.slice (some ⟨b,off,none⟩) refs.length cap) rfl;have zB:(0:Int)≤(k:Int):=by omega
    have sM:(k:Int)<refs.length:=by omega
    have hd:decide ((0:Int)≤(k:Int))=true:=decide_eq_true zB;have lU:Zs (backTo refs refs.length=(pre++[((k:Int),x)])++backTo refs k):=Z3 (by rw[HB.o,wN hx,List.append_assoc];rfl);obtain⟨fn,tmps,assign,body,hy,hR⟩:=hY pre ((k:Int),x) wr ⟨backTo refs k,by rw[lU.o,List.append_assoc];rfl⟩ hj;simp only[P6]at hy hR;have⟨HY,HJJ,HH⟩:=bg hY (And.intro hJ ZT) (And.intro hBd (And.intro hb hs));have hw:IntKind.i64.wrap ((k:Int) - 1)=(k:Int) - 1:=IntWalk.i64_in _ Wg;clear hY hJ ZT hJp hN hBd hb hs vC hx hc hj hbV;gi_wp2_with fail;refine hR.mono ?_;rintro e W1 ⟨jr,(⟨rfl,Ti⟩|⟨rfl,hjx⟩|⟨ch,rfl,hjp⟩)⟩
    · have vZ:=HH.o.2.1.kp jr (fun hb=>(HH.o.1 _ hb).1 rfl);have Ep:=HH.o.2.2.keep jv.stays (Kp.same jr fun q hq hb=>(HH.o.1 _ hb).2 hq) (fun _ h=>h);have HJ1:=Z3 (And.intro Ti (And.intro vZ Ep));clear Ti vZ Ep jr g0 g1 d0 hy hR hd;gi_wp2_with fail;gi_roundg k
      case measure=>omega
      case rel=>
       refine⟨pre++[((k:Int),x)],?_,by omega,lU,HJ1⟩;cases k with
       |zero=>left;exact⟨rfl,rfl⟩
       |succ k=>right;exact⟨k,rfl,by congr 1;omega⟩
    · gi_wp2_with fail;((try simp only[Exit.inBlock,Exit.then]);(first|refine bodyPost_ret (results_none rfl _ _ _) rfl ?_|refine bodyPost_end (results_none rfl _ _ _) rfl ?_));exact .inl ⟨⟨_,rfl⟩,.inr ⟨_,⟨_,lU.o⟩,hjx⟩⟩
    · exact⟨rfl,.inr ⟨_,_,rfl,⟨_,lU.o⟩,hjp⟩⟩
end Go.Proofs.YtkmclfpjpajjeaaGreat
namespace Go.Proofs.YtkmclfpjpajjeaaGreat
open Go Go.RowKit
attribute [local go_sem] Oper.semAt_some
theorem jS{w:World}{I:Nat→Prop}{m:M.Method}{cs:List Value}(h:aG w I m cs):∃t:qj,cs=iC m t:=by
 obtain⟨a1,c1,a2,c2,a3,c3,e⟩:=h.form;exact⟨⟨a1,c1,a2,c2,a3,c3⟩,e⟩
theorem aQ.old{w:World}{l:aH}{p:M.ax}{B kb:Nat}{k:Int}{m:M.Method}{t:qj}{at_:Int}{s:M.iY}{vl vs:Value}(h:aQ w l p B kb k m t at_ s vl vs){q:Nat}(hq:jf l kb vl vs q):q<w.heap.size:=by
 have h1:=h.blk.lt;have h2:=h.dN.Hl;rcases hq with e|e|e|e
 · omega
 · omega
 · exact(h.loc.lt q e).2
 · exact(h.dD.lt q e).2
theorem aQ.low{w:World}{l:aH}{p:M.ax}{B kb:Nat}{k:Int}{m:M.Method}{t:qj}{at_:Int}{s:M.iY}{vl vs:Value}(h:aQ w l p B kb k m t at_ s vl vs){q:Nat}(hq:q<l.O):¬jf l kb vl vs q:=by
 have h1:=h.hB;have h2:=h.dN.ord;have h3:=h.hk;rintro(e|e|e|e)
 · omega
 · omega
 · have:=(h.loc.lt q e).1;omega
 · have:=(h.dD.lt q e).1;omega
theorem J5{p:M.ax}{k:Int}{x:M.Kind}:∀(L:List M.Kind) (s:M.iY),M.iQ p k (L++[x]) s=(M.iQ p k L s).bind (M.gK p k (M.fJ x)):=by
 intro L;induction L with
 |nil=>intro s;simp[M.iQ]
 |cons y r ih=>
  intro s;simp only[List.cons_append,M.iQ];cases M.gK p k (M.fJ y) s with
  |none=>rfl
  |some s1=>exact ih s1
theorem J4{p:M.ax}{k:Int}{r:List M.Kind}:∀{L:List M.Kind} {s:M.iY},M.iQ p k L s=none→M.iQ p k (L++r) s=none:=by
 intro L;induction L with
 |nil=>intro s h;simp[M.iQ]at h
 |cons y t ih=>
  intro s h;simp only[List.cons_append,M.iQ]at h ⊢;cases hy:M.gK p k (M.fJ y) s with
  |none=>rfl
  |some s1=>rw[hy]at h;exact ih h
def Ty(l:aH)(p:M.ax)(B kb:Nat)(k:Int)(m:M.Method)(t:qj)(at_:Int)(s:M.iY)(vl vs:Value)(w8:World)(pre:List (Int×M.Kind))(W:World):Prop:=
 ∃s' tJ vs',M.iQ p k (pre.map Prod.snd) s=some s'∧aQ W l p B kb k m t at_ s' tJ vs'∧bW (w8.heap.size+3) vl vs tJ vs'∧Kp (jf l kb vl vs) w8 W
def aco(l:aH)(p:M.ax)(kb:Nat)(k:Int)(at_:Int)(s:M.iY)(vl vs:Value)(w8:World)(ch:List PanicEntry)(pre:List (Int×M.Kind))(W:World):Prop:=
 ch=zP (at_+1)∧M.iQ p k (pre.map Prod.snd) s=none∧aC W l p∧Kp (jf l kb vl vs) w8 W
def CB(ev:Value)(c:Int):Prop:=(c=1∧ev=Value.nilIface)∨(c≠1∧∃b,ev=.iface 155 (.pointer (some ⟨b,0,none⟩)))
theorem EB.weak{w:World}{ev:Value}{c:Int}(h:EB w ev c):CB ev c:=h.imp id fun⟨h1,b,h2,_⟩=>⟨h1,b,h2⟩
theorem RI(w:World)(l:aH)(p:M.ax)(B kb:Nat)(k:Int)(m:M.Method)(t:qj)(at_:Int)(s:M.iY)(vl vs:Value)(h:aQ w l p B kb k m t at_ s vl vs)(i:M.Ins)(fF:i.op=9):
    Calls Tryz.prog 158 #[.pointer (some ⟨kb,0,none⟩),.agg #[.int .i64 i.op,.int .i64 i.a,.string i.name,.string i.member]] w (bG w l p B kb k m t at_ vl vs (M.bJ p k m i s)):=by
 obtain⟨G,hG⟩:∃G,M.call p k i.name i.member=G:=⟨_,rfl⟩;have HO:Zs (M.bJ p k m i s=if G.2=1 then(M.iQ p k (M.method p G.1).args.reverse s).bind fun s1=>(M.gK p k (M.eP i.name) s1).bind (M.iB m (M.fJ (M.method p G.1).ret))else none):=Z3 (by unfold M.bJ;rw[fF,hG];rfl);obtain⟨w0,bI⟩:∃w0,w0=(w.alloc (.cells #[.pointer (some ⟨kb,0,none⟩)] 212)).alloc (.cells #[.int .i64 i.op,.int .i64 i.a,.string i.name,.string i.member] 130):=⟨_,rfl⟩;have aU:Ext w w0:=by rw[bI];exact kx
 have b2:ay w0 w.heap.size 212 #[.pointer (some ⟨kb,0,none⟩)]:=by rw[bI];exact(ay.new _ _ _).ext kx
 have b3:ay w0 (w.heap.size+1) 130 #[.int .i64 i.op,.int .i64 i.a,.string i.name,.string i.member]:=by rw[bI];exact ay.newAt _ _ Wf
 have hA:=h.ext aU;have hD:=h.dN.Hl;have Aw:=h.dN.ord;have hB:=h.hB;have hk:=h.hk;have hz:=h.blk.lt;have uB:=h.uB;have hkD:¬kb=l.D:=by omega
 have Va:¬w.heap.size=l.D:=by omega
 have mR:¬w.heap.size+1=l.D:=by omega
 obtain⟨T,f,dA,HT⟩:=iN.ex (fun W'=>Kp (·=l.D) w0 W') _ Kp.rr;obtain⟨-,r0,r1, -⟩:=ay.kY fun z=>(hA.blk.kp (HT.aW z) hkD);obtain⟨-, -, -,r2,r3, -⟩:=ay.kY fun z=>(b3.kp (HT.aW z) mR);have r4:=fun z=>(b2.kp (HT.aW z) Va).c 0 (.pointer (some ⟨kb,0,none⟩)) rfl;have⟨aj,dO,bM,HA,mQ,gN,HG⟩:=pX HT bI aU hA b2 b3 hG;have hv:(zH G.1).toArray=#[.int .i64 G.1.of.keeper,.string G.1.of.name,.int .i64 G.1.at_]:=rfl;have⟨HV,Eb⟩:=aJ hv h;have HNW:=Z3 h.jT;clear h fF bI aU b2 b3 hA HT hG hv;refine(callsIn_wide (n:=10)).1 ?_;refine vP Tryz.func158 rfl ?_;simp only[Tryz.ntmps158,List.size_toArray,List.length_cons,List.length_nil,Nat.reduceAdd,Nat.reduceSub,Array.replicate_succ,Array.replicate_zero,List.push_toArray,List.append_toArray,List.nil_append,List.cons_append];refine uX fun K hK=>?_;go_wp2_with fail;rw[←dO.o];refine uX fun K hK=>?_
 have tail : ∀ (b7 : Nat) (w7 : World) (ev : Value), Kp (· = l.D) w0 w7 → aC w7 l p → ay w7 b7 94 #[.int .i64 G.1.of.keeper, .string G.1.of.name, .int .i64 G.1.at_] → w0.heap.size ≤ b7 → CB ev G.2 →
     K {tmps:=#[.pointer (some ⟨kb,0,none⟩),.agg #[.int .i64 i.op,.int .i64 i.a,.string i.name,.string i.member],.pointer (some ⟨w.heap.size,0,none⟩),.pointer (some ⟨w.heap.size+1,0,none⟩),
      .pointer (some ⟨b7,0,none⟩),ev,undef,undef,undef,.tuple #[.agg #[.int .i64 G.1.of.keeper,.string G.1.of.name,.int .i64 G.1.at_],ev],.pointer (some ⟨kb,0,none⟩),.pointer (some ⟨kb,0,none⟩),.pointer (some ⟨kb,0,none⟩),.pointer (some ⟨l.L,0,none⟩),
      .pointer (some ⟨kb,0,none⟩),.pointer (some ⟨kb,0,none⟩),.pointer (some ⟨kb,1,none⟩),.int .i64 k,.pointer (some ⟨w.heap.size+1,2,none⟩),.string i.name,.pointer (some ⟨w.heap.size+1,3,none⟩),.string i.member,
      .tuple #[.agg #[.int .i64 G.1.of.keeper,.string G.1.of.name,.int .i64 G.1.at_],ev],.agg #[.int .i64 G.1.of.keeper,.string G.1.of.name,.int .i64 G.1.at_],ev,undef,undef,undef,undef,undef,undef,undef,undef,undef,undef,undef,undef,undef,undef,undef,undef,undef,undef,undef,undef,undef,undef,undef,undef,undef,undef,undef,undef,undef],defers:=[]} w7:=by
  clear aj r0 r1 r2 r3 r4;intro b7 w7 ev sK Yo hB7 Ht nN;have⟨mh,KZ,zW⟩:=bg sK Yo hB7;have s2:=(mQ.o.kp sK Va).c 0 (.pointer (some ⟨kb,0,none⟩)) rfl;clear sK Yo hB7;refine hK _ _ ?_;clear hK K;refine uX fun K hK=>?_;rcases nN with⟨hc,rfl⟩|⟨hc,b,rfl⟩;rotate_left
  · replace HO:Zs (M.bJ p k m i s=none):=Z3 (by rw[HO.o,if_neg hc]);go_wp2_with fail;refine(gW _ kb at_ ((HA.o.blk.kp mh.o hkD).c 10 _ rfl) uB.1 Wg).mono ?_;rintro e w9 ⟨rfl,rfl⟩;exact⟨rfl,bG.behind bM.o ⟨mh.o.weak (fun b _ e=>.inl e),KZ.o,.inl ⟨HO.o,rfl⟩⟩⟩
  replace HO:Zs (M.bJ p k m i s=(M.iQ p k (M.method p G.1).args.reverse s).bind fun s1=>(M.gK p k (M.eP i.name) s1).bind (M.iB m (M.fJ (M.method p G.1).ret))):=Z3 (by rw[HO.o,if_pos hc]);have BX:Zs (M.bP p G.1=true):=Z3 (by
   have:=HG.o;rw[←this]at hc ⊢;obtain⟨r,hr⟩:=M.l7 hc;exact M.kW hr)
  go_wp2_with fail;clear s2;obtain⟨T,f,dA,HT⟩:=iN.ex (fun W'=>Ext w7 W') _ Kp.rr;have adY:=HA.o.blk.kp mh.o hkD;have adV:=mQ.o.kp mh.o Va;have r0:=fun z=>(adY.ext (HT.aW z)).c 0 (.pointer (some ⟨l.L,0,none⟩)) rfl;have r4:=fun z=>(adV.ext (HT.aW z)).c 0 (.pointer (some ⟨kb,0,none⟩)) rfl;obtain⟨-,r5,r6,r7, -⟩:=ay.kY fun z=>(zW.o.ext (HT.aW z));have aj:=Z3 HT;clear HT adY adV;refine uX fun K hK=>?_;have M5:∀(b8:Nat) (w8:World) (t2:qj),Ext w7 w8→ay w8 b8 106 (iC (M.method p G.1) t2).toArray→w7.heap.size≤b8→aG w8 (· <l.O) (M.method p G.1) (iC (M.method p G.1) t2)→
   K {tmps:=#[.pointer (some ⟨kb,0,none⟩),.agg #[.int .i64 i.op,.int .i64 i.a,.string i.name,.string i.member],.pointer (some ⟨w.heap.size,0,none⟩),.pointer (some ⟨w.heap.size+1,0,none⟩),
    .pointer (some ⟨b7,0,none⟩),.nilIface,.pointer (some ⟨b8,0,none⟩),undef,undef,.tuple #[.agg #[.int .i64 G.1.of.keeper,.string G.1.of.name,.int .i64 G.1.at_],.nilIface],.pointer (some ⟨kb,0,none⟩),.pointer (some ⟨kb,0,none⟩),.pointer (some ⟨kb,0,none⟩),.pointer (some ⟨l.L,0,none⟩),
    .pointer (some ⟨kb,0,none⟩),.pointer (some ⟨kb,0,none⟩),.pointer (some ⟨kb,1,none⟩),.int .i64 k,.pointer (some ⟨w.heap.size+1,2,none⟩),.string i.name,.pointer (some ⟨w.heap.size+1,3,none⟩),.string i.member,
    .tuple #[.agg #[.int .i64 G.1.of.keeper,.string G.1.of.name,.int .i64 G.1.at_],.nilIface],.agg #[.int .i64 G.1.of.keeper,.string G.1.of.name,.int .i64 G.1.at_],.nilIface,.nilIface,.bool false,undef,undef,.pointer (some ⟨kb,0,none⟩),.pointer (some ⟨kb,0,none⟩),.pointer (some ⟨kb,0,none⟩),.pointer (some ⟨l.L,0,none⟩),.agg #[.int .i64 G.1.of.keeper,.string G.1.of.name,.int .i64 G.1.at_],.agg (iC (M.method p G.1) t2).toArray,undef,undef,undef,undef,undef,undef,undef,undef,undef,undef,undef,undef,undef,undef,undef,undef,undef,undef,undef],defers:=[]} w8:=by
   clear aj r0 r4 r5 r6 r7;intro b8 w8 t2 lK hB8 hb8 mF;have⟨lJ,yt,GQ⟩:=bg lK hB8 mF;clear lK hB8 mF;refine hK _ _ ?_;clear hK K;have ah3:=yt.o.c 1 (.slice t2.a1 (M.method p G.1).args.length t2.c1) rfl;refine Nf ?_;refine Io (n:=10) fun K hK=>wpIn_wide.2 ?_;go_wp2_with fail;refine(Ju _ _ _ _).mono ?_;rintro e w9 ⟨rfl,rfl⟩;go_wp2_with fail;refine PI ?_;have aik:kb<w8.heap.size:=(HA.o.blk.kp mh.o hkD |>.ext lJ.o).lt;have hA8:aQ w8 l p B kb k m t at_ s vl vs:=(HA.o.kM mh.o KZ.o).ext lJ.o;have Nv:=Z3 hA8;have vC:SliceOf 2 jv w8 (· <l.O) (.slice t2.a1 (M.method p G.1).args.length t2.c1) (M.method p G.1).args:=aG.args GQ.o;have Ad:=Z3 vC;clear hA8 vC;have HN:Zs (¬jf l kb vl vs w.heap.size):=Z3 HNW.o;refine Sa (gf:=191) (lb:=#[.pointer (some ⟨w8.heap.size,0,none⟩)]) (α:=Int×M.Kind) rfl (enters_of Tryz.func191 Wr rfl) (encs:=P6) (fun x=>rfl)
    (Bb:=fun k=>jf l kb vl vs k∨w8.heap.size+3≤k)
    (EX (M.method p G.1).args w8.heap.size (.slice t2.a1 (M.method p G.1).args.length t2.c1) (· <l.O) _ ?hBd) ?hIt ?hD1 ?hD2 ?hB1 ?hB2
    (Ty l p B kb k m t at_ s vl vs w8) (fun _ _ _=>False) (aco l p kb k at_ s vl vs w8) ⟨_,Tryz.func158⟩ ?hIp ?hI ?hIx ?h0 ?hIB
    (fun pre x W a₁ W₁=>Ty l p B kb k m t at_ s vl vs w8 pre W∧w8.heap.size+2<W.heap.size∧W₁=W.alloc (.cells #[.int .i64 x.2.kind,.string x.2.name] 102)∧
     a₁={tmps:=#[.pointer (some ⟨kb,0,none⟩),.agg #[.int .i64 i.op,.int .i64 i.a,.string i.name,.string i.member],.pointer (some ⟨w.heap.size,0,none⟩),.pointer (some ⟨w.heap.size+1,0,none⟩),
    .pointer (some ⟨b7,0,none⟩),.nilIface,.pointer (some ⟨b8,0,none⟩),undef,.pointer (some ⟨W.heap.size,0,none⟩),.tuple #[.agg #[.int .i64 G.1.of.keeper,.string G.1.of.name,.int .i64 G.1.at_],.nilIface],.pointer (some ⟨kb,0,none⟩),.pointer (some ⟨kb,0,none⟩),.pointer (some ⟨kb,0,none⟩),.pointer (some ⟨l.L,0,none⟩),
    .pointer (some ⟨kb,0,none⟩),.pointer (some ⟨kb,0,none⟩),.pointer (some ⟨kb,1,none⟩),.int .i64 k,.pointer (some ⟨w.heap.size+1,2,none⟩),.string i.name,.pointer (some ⟨w.heap.size+1,3,none⟩),.string i.member,
    .tuple #[.agg #[.int .i64 G.1.of.keeper,.string G.1.of.name,.int .i64 G.1.at_],.nilIface],.agg #[.int .i64 G.1.of.keeper,.string G.1.of.name,.int .i64 G.1.at_],.nilIface,.nilIface,.bool false,undef,undef,.pointer (some ⟨kb,0,none⟩),.pointer (some ⟨kb,0,none⟩),.pointer (some ⟨kb,0,none⟩),.pointer (some ⟨l.L,0,none⟩),.agg #[.int .i64 G.1.of.keeper,.string G.1.of.name,.int .i64 G.1.at_],.agg (iC (M.method p G.1) t2).toArray,
    .pointer (some ⟨b8,1,none⟩),.slice t2.a1 (M.method p G.1).args.length t2.c1,.func (.func 191) #[] #[.pointer (some ⟨w8.heap.size,0,none⟩)],.int .i64 x.1,.agg #[.int .i64 x.2.kind,.string x.2.name],undef,undef,undef,undef,undef,undef,undef,undef,undef,undef,undef,undef,undef,undef],defers:=[]}) ?hassign ?hAx ?hbody ?hdone ?hstop ?hpanic
   case hBd=>
    intro q hq;have Qr:(jf l kb vl vs q∨w8.heap.size+3≤q)∨q=(w8.alloc (.cells #[.slice t2.a1 (M.method p G.1).args.length t2.c1] 100)).heap.size+1:=hq;simp only[World.size_alloc]at Qr;have h1:=Nv.o.jT;rcases Qr with(h|h)|h
    · exact⟨fun e=>h1 (e▸h),fun e=>aQ.low Nv.o e h⟩
    · omega
    · omega
   case hIt=>
    intro W hW;exact⟨(ay.new _ _ _).ext hW,(Ad.o.ext jv.stays ((Kp.refl _ w8).alloc _)).ext jv.stays hW⟩
   case hD1=>exact fun h=>h
   case hD2=>exact fun h=>h
   case hB1=>
    simp only[World.size_alloc];rintro(h|h)
    · have:=aQ.old Nv.o h;omega
    · omega
   case hB2=>
    simp only[World.size_alloc];rintro(h|h)
    · have:=aQ.old Nv.o h;omega
    · omega
   case hIp=>
    rintro c s1 A B' ⟨h1,h2,h3,h4⟩ hk;simp only[World.size_alloc]at hk;have adB:=Nv.o.dN.lt;exact⟨h1,h2,h3.kp hk (fun b hb e=>by rcases e with e|e;exact e;omega),h4.own hk (fun b e=>by rcases e with e|e;exact e.elim;omega)⟩
   case hI=>
    rintro s1 A B' ⟨s',tJ,vs',h1,h2,h3,h4⟩ hk;simp only[World.size_alloc]at hk;have adB:=Nv.o.dN.lt;have agv:=Nv.o.dN.ord;have no:∀g,(tJ.ownBlock=some g∨vs'.ownBlock=some g)→¬(False∨g=w8.heap.size+1+1):=fun g hg e=>by
     rcases e with e|e
     · exact e
     · rcases h3 g hg with h|h|h
       · have:=(Nv.o.loc.lt g h).2;omega
       · have:=(Nv.o.dD.lt g h).2;omega
       · omega
    exact⟨s',tJ,vs',h1,h2.kp' hk (h2.dN.kp hk (fun b hb e=>by rcases e with e|e;exact e;omega)) (fun e=>by rcases e with e|e;exact e;omega) (fun g hg=>no g (.inl hg)) (fun g hg=>no g (.inr hg)) (fun b hb e=>by rcases e with e|e;exact e;omega),h3,h4.own hk (fun b e=>by rcases e with e|e;exact e.elim;omega)⟩
   case hIx=>exact fun _ _ _ _ h=>h.elim
   case h0=>exact⟨s,vl,vs,rfl,Nv.o.ext kx,bW.refl _ _ _,(kx:Ext w8 _).any⟩
   case hIB=>exact fun _ _ _=>trivial
   case hassign=>
    intro pre x W K Qq hi bY hK;simp only[P6];simp only[World.size_alloc]at bY;gi_wp2_with fail
   case hAx=>
    rintro pre x W a₁ W₁ ⟨_,_,rfl,_⟩;exact((Kp.refl _ W).alloc _)
   case hbody=>
    rintro pre x W a₁ W₁ W₂ ⟨⟨s',tJ,vs',h1,h2,h3,h4⟩,bY,rfl,rfl⟩ l8 uE;simp only[World.size_alloc]at l8 uE;have adB:=Nv.o.dN.lt;have agv:=Nv.o.dN.ord;have JS:w.heap.size+1<w8.heap.size:=by
     have:=gN.o.lt;have:=mh.o.size;have:=lJ.o.size;omega
    have no:∀g,(tJ.ownBlock=some g∨vs'.ownBlock=some g)→g≠w8.heap.size+1+1∧(g<w.heap.size∨w8.heap.size+3≤g)∧(jf l kb vl vs g∨w8.heap.size+3≤g):=fun g hg=>by
     rcases h3 g hg with h|h|h
     · have:=(Eb.o.loc.lt g h).2;exact⟨by omega,.inl this,.inl (.inr (.inr (.inl h)))⟩
     · have:=(Eb.o.dD.lt g h).2;exact⟨by omega,.inl this,.inl (.inr (.inr (.inr h)))⟩
     · exact⟨by omega,.inr h,.inr h⟩
    have bH:Ext W (W.alloc (.cells #[.int .i64 x.2.kind,.string x.2.name] 102)):=kx;have rZ:=h2.ext bH;have hA2:aQ W₂ l p B kb k m t at_ s' tJ vs':=rZ.kp' l8 (rZ.dN.kp l8 (fun b hb e=>by omega)) Wg (fun g hg=>(no g (.inl hg)).1) (fun g hg=>(no g (.inr hg)).1) (fun b hb e=>by omega);have cb:=(ay.new W 102 #[.int .i64 x.2.kind,.string x.2.name]).kp l8 Wg;have hnW:¬jf l kb tJ vs' W.heap.size:=h2.jT;have hnw:¬jf l kb tJ vs' w.heap.size:=by
     rintro(e|e|e|e)
     · omega
     · omega
     · have:=(no _ (.inl e)).2.1;omega
     · have:=(no _ (.inr e)).2.1;omega
    have nM:=((((mQ.o.kp mh.o Va).ext lJ.o).kp h4 HN.o).ext bH).kp l8 Wg;have El:Kp (jf l kb vl vs) w8 W₂:=(h4.trans bH.any).own l8 (fun k e=>by omega);obtain⟨T,f,dA,HT⟩:=iN.ex (fun W'=>Kp (jf l kb tJ vs') W₂ W') _ Kp.rr;have r2:=fun z=>(nM.kp (HT.aW z) hnw).c 0 (.pointer (some ⟨kb,0,none⟩)) rfl;obtain⟨-,r7,r8, -⟩:=ay.kY fun z=>(cb.kp (HT.aW z) hnW);have⟨aj,zQ,Zr,vN,H3⟩:=kL HT hA2 El no h3;have HS:Zs (M.iQ p k ((pre++[x]).map Prod.snd) s=M.gK p k (M.fJ x.2) s'):=Z3 (by rw[List.map_append,List.map_cons,List.map_nil,J5,h1];rfl);have ahs:w8.heap.size+3≤W₂.heap.size:=by omega
    clear h1 h2 h3 h4 l8 uE rZ hA2 cb nM El HT bH no hnW hnw;gi_wp2_with fail;(refine We aj 4 [([0,1],2),([],3)] [] ?_ (fun _=>trivial) ?_)
    · exact Kp.rr.drew
    (refine Vx [_,_] rfl rfl fun K hK=>?_);(repeat (go_big_quiet_step (fail)));(refine qn hK fun K2 ag=>?_);clear hK K;gi_wp2_with fail;refine⟨trivial,?_⟩;refine(CallsIn.inRound _ (callsIn_wide.2 (Cu W₂.drew x.2))).mono ?_;rintro e w4 ⟨rfl,dI⟩;have iG:Zs (Ext W₂ w4):=Z3 (((Kp.refl _ W₂).drew).trans dI);clear dI;gi_wp2_with fail;(refine kk aj ag iG.o.any ?_);clear ag K2;(refine aeQ rfl fun K2 ag=>?_);gi_wp2_with fail;refine⟨trivial,?_⟩;refine(CallsIn.inRound _ (callsIn_wide.2 (iU w4 _ _ _ _ _ _ _ _ _ _ _ (zQ.o.ext iG.o) (M.fJ x.2)))).mono ?_;rintro e w5 aV;have cZ:=bG.behind iG.o aV;have hBb:Kp (fun k=>jf l kb vl vs k∨w8.heap.size+3≤k) W₂ w5:=cZ.1.weak (fun b _ e=>by
     rcases e with e|e|e|e
     · exact .inl (.inl e)
     · exact .inl (.inr (.inl e))
     · exact(vN.o b (.inl e)).2.2
     · exact(vN.o b (.inr e)).2.2)
    have abK:Kp (jf l kb vl vs) w8 w5:=Zr.o.mix hBb (fun k hk e=>by rcases e with e|e;exact e;omega);rcases cZ with⟨gU,WV,⟨ho,rfl⟩|⟨s2,ho,rfl,QF,vs2,NA,UT⟩⟩
    · exact⟨rfl,hBb,rfl,by rw[HS.o,ho],WV,abK⟩
    · have HF:Zs (Kp (fun k=>jf l kb vl vs k∨w8.heap.size+3≤k) W₂ w5∧Ty l p B kb k m t at_ s vl vs w8 (pre++[x]) w5):=Z3 ⟨hBb,s2,QF,vs2,by rw[HS.o,ho],NA,H3.o.trans UT ahs,abK⟩;have oW:=Z3 gU;clear hBb abK gU WV NA UT ho aV;gi_wp2_with fail;(refine kk aj ag oW.o ?_);clear ag K2;(refine Vy ?_);gi_wp2_with fail;exact HF.o
   case hdone =>
    rintro xs W rfl ⟨s',tJ,vs',h1,h2,h3,h4⟩ hK;have DV:(backTo (M.method p G.1).args (M.method p G.1).args.length).map Prod.snd=(M.method p G.1).args.reverse:=by rw[kQ _ _ (Nat.le_refl _),List.take_length]
    rw[DV]at h1;have aex:=Nv.o.dN.ord;have ag2:=Nv.o.dN.lt;have JS:w.heap.size+1<w8.heap.size:=by
     have:=gN.o.lt;have:=mh.o.size;have:=lJ.o.size;omega
    have uE:(w8.alloc (.cells #[.slice t2.a1 (M.method p G.1).args.length t2.c1] 100)).heap.size=w8.heap.size+1:=by simp
    rw[uE]at hK ⊢;replace HO:Zs (M.bJ p k m i s=(M.gK p k (M.eP i.name) s').bind (M.iB m (M.fJ (M.method p G.1).ret))):=Z3 (by rw[HO.o,h1];rfl);have Zt:Zs (Kp (jf l kb vl vs) w W):=Z3 (bM.o.any.trans (((mh.o.weak (fun b _ e=>.inl e)).trans lJ.o.any).trans h4));refine⟨by simp,by simp,?_⟩;show Code.xJ _ _ _ _ _ _
    refine Wy (ds:=[{target:=.collected (w8.heap.size+1),args:=#[]}]) (R:=fun e W'=>W'.heap[w8.heap.size+1]?=some (.deferred (some []))∧bG w l p B kb k m t at_ vl vs (M.bJ p k m i s) e (W'.putObj (w8.heap.size+1) (.deferred none))) ?_ ?_ ?_;rotate_left
    · rintro a W' hd ⟨hk,hR⟩;show LeavesInM _ _ _ _ _ _ a.defers _ _
      rw[hd];refine⟨by simp,.inl ⟨_,_,rfl,run_takeDeferred hk,?_⟩⟩;exact⟨.tuple #[],by simp[results,Tryz.f158,go_sem],hR⟩
    · rintro c a W' hd ⟨hk,hR⟩;show LeavesInM _ _ _ _ _ _ a.defers _ _
      rw[hd];exact⟨by simp,.inl ⟨_,_,rfl,run_takeDeferred hk,hR⟩⟩
    have hWz:w8.heap.size+2≤W.heap.size:=by have:=(Array.getElem?_eq_some_iff.1 hK).1;omega
    have R5:∀(v1 v2:Value),bW (w8.heap.size+2) vl vs v1 v2→∀q,w.heap.size≤q→q<w8.heap.size+2→¬jf l kb v1 v2 q:=fun v1 v2 ho q Bq pY=>by
     rintro(e|e|e|e)
     · omega
     · omega
     · rcases ho q (.inl e)with h|h|h
       · have:=(Eb.o.loc.lt q h).2;omega
       · have:=(Eb.o.dD.lt q h).2;omega
       · omega
     · rcases ho q (.inr e)with h|h|h
       · have:=(Eb.o.loc.lt q h).2;omega
       · have:=(Eb.o.dD.lt q h).2;omega
       · omega
    have fin:∀(v1 v2:Value) (o:Option M.iY) (e:Ending) (W' W'':World),bW (w8.heap.size+2) vl vs v1 v2→Kp (jf l kb vl vs) w W'→W'.heap[w8.heap.size+1]?=some (.deferred (some []))→bG W' l p B kb k m t at_ v1 v2 o e W''→w8.heap.size+2≤W'.heap.size→
        W''.heap[w8.heap.size+1]?=some (.deferred (some []))∧bG w l p B kb k m t at_ vl vs o e (W''.putObj (w8.heap.size+1) (.deferred none)):=fun v1 v2 o e W' W'' ho BZ hd hE kv=>by
     have uC:=Kp.putObj W'' (w8.heap.size+1) (.deferred none);have agT:Kp (jf l kb vl vs) w W'':=BZ.look hE.1 (ho.le Wg);refine⟨(hE.1.block _ Wg (R5 v1 v2 ho _ Wg Wg)).trans hd,agT.own uC (fun k e=>by omega),hE.2.1.kp uC (fun b hb e=>by omega),?_⟩;rcases hE.2.2 with⟨h1,h2⟩|⟨s2,h1,h2,a,b,h5,h6⟩
     · exact .inl ⟨h1,h2⟩
     · have ho2:bW (w8.heap.size+2) vl vs a b:=ho.trans h6 Wg;have tO:∀g,(a.ownBlock=some g∨b.ownBlock=some g)→¬g=w8.heap.size+1:=fun g hg e=>R5 a b ho2 g Wg Wg (by
        rcases hg with h|h
        · exact .inr (.inr (.inl h))
        · exact .inr (.inr (.inr h)))
       exact .inr ⟨s2,h1,h2,a,b,h5.kp' uC (h5.dN.kp uC (fun b hb e=>by omega)) Wg (fun g hg=>tO g (.inl hg)) (fun g hg=>tO g (.inr hg)) (fun b hb e=>by omega),ho2.le Wg⟩
    have Tc:bW (w8.heap.size+2) vl vs tJ vs':=h3.le Wg;have ah4:w.heap.size≤b8∧b8<w8.heap.size:=by
     have:=yt.o.lt;have:=mh.o.size;have:=bM.o.size;omega
    have n0:∀q,w.heap.size≤q→¬jf l kb vl vs q:=fun q hq h=>by have:=aQ.old Eb.o h;omega
    have⟨B2,B3,B8⟩:=bg (((mQ.o.kp mh.o Va).ext lJ.o).kp h4 (n0 _ Wg)) (((gN.o.kp mh.o mR).ext lJ.o).kp h4 (n0 _ Wg)) (yt.o.kp h4 (n0 _ Wg));obtain⟨T,f,dA,HT⟩:=iN.ex (fun W'=>Kp (jf l kb tJ vs') W W') _ Kp.rr;have r2:=fun z=>(B2.o.kp (HT.aW z) (R5 _ _ Tc _ Wg Wg)).c 0 (.pointer (some ⟨kb,0,none⟩)) rfl;have r3:=fun z=>(B3.o.kp (HT.aW z) (R5 _ _ Tc _ Wg Wg)).c 2 (.string i.name) rfl;have⟨aj,jL,PS,HAW⟩:=gD HT fin R5 h2;have xK:=Z3 Tc;have HKD:=Z3 hK;clear h1 h2 h3 h4 hK fin R5 Tc n0 HT DV;go_wp2_with fail;(refine eO aj 5 [([0,1,2],3),([],4)] [] ?_ ?_)
    · exact Kp.rr.drew
    refine iX ?_;intro K2 ag;go_wp2_with fail;refine(xP W.drew i.name).mono ?_;rintro e w4 ⟨rfl,dI⟩;have iG:Zs (Ext W w4):=Z3 (((Kp.refl _ W).drew).trans dI);clear dI;go_wp2_with fail;(refine kk aj ag iG.o.any ?_);clear ag K2;(refine gZ rfl fun K2 ag=>?_);go_wp2_with fail;refine(iU w4 _ _ _ _ _ _ _ _ _ _ _ (HAW.o.ext iG.o) (M.eP i.name)).mono ?_;rintro e w5 aV;have cZ:=bG.behind iG.o aV;have Ar:=jL.o tJ vs' _ e W w5 xK.o Zt.o HKD.o cZ hWz;rcases cZ with⟨gU,WV,⟨ho,rfl⟩|⟨s2,ho,rfl,QF,vs2,NA,UT⟩⟩
    · rw[ho]at Ar;exact⟨rfl,Ar.1,by rw[HO.o,ho];exact Ar.2⟩
    replace HO:Zs (M.bJ p k m i s=M.iB m (M.fJ (M.method p G.1).ret) s2):=Z3 (by rw[HO.o,ho];rfl);have afW:=Z3 Ar.1;have aa7:Zs (bW (w8.heap.size+2) vl vs QF vs2):=Z3 (xK.o.trans UT hWz);have⟨oW,Hd⟩:=aJ gU NA;have aa3:Zs (Kp (jf l kb vl vs) w w5):=Z3 (Zt.o.look gU (xK.o.le Wg));have hW5:w8.heap.size+2≤w5.heap.size:=by have:=gU.size;omega
    have⟨B25,B85⟩:=aJ (B2.o.kp gU (PS.o _ _ xK.o _ Wg Wg)) (B8.o.kp gU (PS.o _ _ xK.o _ Wg Wg));clear aV Ar gU WV ho NA UT r3;go_wp2_with fail;(refine kk aj ag oW.o ?_);clear ag K2;clear r2;(refine Kc rfl ?_);clear aj;obtain⟨T,f,dA,HT⟩:=iN.ex (fun W'=>Kp (jf l kb QF vs2) w5 W') _ Kp.rr;have r2:=fun z=>(B25.o.kp (HT.aW z) (PS.o _ _ aa7.o _ Wg Wg)).c 0 (.pointer (some ⟨kb,0,none⟩)) rfl;obtain⟨-, -, -,r4,r5, -⟩:=ay.kY fun z=>(B85.o.kp (HT.aW z) (PS.o _ _ aa7.o _ Wg Wg));have aj:=Z3 HT;clear HT;go_wp2_with fail;(refine eO aj 5 [([0,1,2],3),([],4)] [] ?_ ?_)
    · exact Kp.rr.drew
    refine iX ?_;intro K2 ag;go_wp2_with fail;refine(Cu w5.drew (M.method p G.1).ret).mono ?_;rintro e w6 ⟨rfl,dC⟩;have kH:Zs (Ext w5 w6):=Z3 (((Kp.refl _ w5).drew).trans dC);clear dC;go_wp2_with fail;(refine kk aj ag kH.o.any ?_);clear ag K2;(refine gZ rfl fun K2 ag=>?_);go_wp2_with fail;refine(mJ w6 _ _ _ _ _ _ _ _ _ _ _ (Hd.o.ext kH.o) (M.fJ (M.method p G.1).ret)).mono ?_;rintro e w9 aV;have nk:=bG.behind kH.o aV;have fM:=nk.1;have Ar:=jL.o QF vs2 _ e w5 w9 aa7.o aa3.o afW.o nk hW5;rw[←HO.o]at Ar;have⟨WJ,vM⟩:=aJ Ar fM;have ad8:=nk.2.2;clear Ar nk fM aV;rcases ad8 with⟨-,rfl⟩|⟨s9, -,rfl, -⟩
    · exact⟨rfl,WJ.o⟩
    go_wp2_with fail;(refine kk aj ag vM.o ?_);clear ag K2;clear r2 r4 r5;(refine Kc rfl ?_);go_wp2_with fail;exact⟨rfl,WJ.o⟩
   case hstop=>exact fun _ _ _ _ h=>h.elim
   case hpanic=>
    rintro c pre W ⟨rest,yR⟩ ⟨rfl,h2,h3,h4⟩ hK;refine⟨by simp,by simp,?_⟩;have aex:=Nv.o.dN.ord;have ag2:=Nv.o.dN.lt;have uC:=Kp.putObj W (w8.alloc (.cells #[.slice t2.a1 (M.method p G.1).args.length t2.c1] 100)).heap.size (.deferred none);have uE:(w8.alloc (.cells #[.slice t2.a1 (M.method p G.1).args.length t2.c1] 100)).heap.size=w8.heap.size+1:=by simp
    have nW:M.bJ p k m i s=none:=by
     rw[HO.o];have e1:(M.method p G.1).args.reverse=pre.map Prod.snd++rest.map Prod.snd:=by
      have:=congrArg (List.map Prod.snd) yR;rw[kQ _ _ (Nat.le_refl _),List.take_length,List.map_append]at this;exact this
     rw[e1,J4 h2];rfl
    have adK:Kp (jf l kb vl vs) w0 W:=((mh.o.weak (fun b _ e=>.inl e)).trans lJ.o.any).trans h4;refine⟨by simp,.inl ⟨_,_,rfl,run_takeDeferred hK,?_⟩⟩;exact bG.behind bM.o ⟨adK.own uC (fun k e=>by have:=mh.o.size;have:=lJ.o.size;omega),h3.kp uC (fun k hk e=>by omega),.inl ⟨nW,rfl⟩⟩
  (refine lN aj 7 (.two [0,1,2,3,4] 5 6 (.one [] 6 (.fin [])) (.one [] 5 (.fin []))) ?_ ?_)
  · exact Kp.rr.drew
  clear hK;have Lh:=Z3 M5;clear M5;(refine two [_,_,_,_,_] rfl rfl rfl fun K hK=>?_);(repeat (go_big_quiet_step (fail)));((refine Gj hK (fun K2 ag=>?_) fun K2 ag=>?_)<;>clear hK K)
  · go_wp2_with fail;refine(fQ w7.drew l p (KZ.o.ext Kp.rr.drew) G.1 BX.o).mono ?_;rintro e w8 ⟨⟨cs,mF,rfl⟩,lK⟩;obtain⟨t2,rfl⟩:=jS mF;have lJ:Zs (Ext w7 w8):=Z3 ((Kp.rr.drew).trans lK);have GQ:=Z3 mF;clear mF lK;simp only[iC];go_wp2_with fail;(refine kk aj ag lJ.o ?_);clear ag K2;(refine aX rfl fun K2 ag=>?_);go_wp2_with fail;(refine kk aj ag (lJ.o.alloc _) ?_);clear ag K2;(refine bU ?_);go_wp2_with fail;exact Lh.o _ _ t2 (lJ.o.alloc _) (ay.new _ _ _) lJ.o.size (bQ.ext aG.stays (kx:Ext w8 _) GQ.o)
  · go_wp2_with fail;(refine kk aj ag ((Kp.rr.drew).alloc _) ?_);clear ag K2;(refine aX rfl fun K2 ag=>?_);go_wp2_with fail;have b5:ay (w7.alloc (.cells #[.string ⟨#[]⟩,.slice none 0 0,.int .i64 0,.string ⟨#[]⟩,.int .i64 0,.int .i64 0,.slice none 0 0,.slice none 0 0] 106)).drew w7.heap.size 106 #[.string ⟨#[]⟩,.slice none 0 0,.int .i64 0,.string ⟨#[]⟩,.int .i64 0,.int .i64 0,.slice none 0 0,.slice none 0 0]:=(ay.new _ _ _).ext Kp.rr.drew;refine(fQ ((w7.alloc (.cells #[.string ⟨#[]⟩,.slice none 0 0,.int .i64 0,.string ⟨#[]⟩,.int .i64 0,.int .i64 0,.slice none 0 0,.slice none 0 0] 106)).drew) l p (KZ.o.ext (Kp.rr.alloc _).drew) G.1 BX.o).mono ?_;rintro e w8 ⟨⟨cs,mF,rfl⟩,lK⟩;obtain⟨t2,rfl⟩:=jS mF;have lJ:Zs (Ext w7 w8):=Z3 ((((Kp.refl _ w7).alloc _).drew).trans lK);have GV:=b5.ext lK;obtain⟨z5,y0,y1,y2,y3,y4,y5,y6,y7, -⟩:=GV.ca;obtain⟨g0,g1,g2,g3,g4,g5,g6,g7, -⟩:=GV.fz;have U7:=mF;obtain⟨w9,jK⟩:∃w9,w9=((((((((w8.setCell ⟨w7.heap.size,0,none⟩ (.string (M.method p G.1).name)).setCell ⟨w7.heap.size,1,none⟩ (.slice t2.a1 (M.method p G.1).args.length t2.c1)).setCell ⟨w7.heap.size,2,none⟩ (.int .i64 (M.method p G.1).ret.kind)).setCell ⟨w7.heap.size,3,none⟩ (.string (M.method p G.1).ret.name)).setCell ⟨w7.heap.size,4,none⟩ (.int .i64 (M.method p G.1).locals)).setCell ⟨w7.heap.size,5,none⟩ (.int .i64 (M.method p G.1).stack)).setCell ⟨w7.heap.size,6,none⟩ (.slice t2.a2 (M.method p G.1).code.length t2.c2)).setCell ⟨w7.heap.size,7,none⟩ (.slice t2.a3 (M.method p G.1).maps.length t2.c3)):=⟨_,rfl⟩;have fM:Kp (·=w7.heap.size) w8 w9:=by rw[jK];exact Kp.Ko (D:=(·=w7.heap.size)) rfl _ _ _ _ _ _ _ _
    have b9:ay w9 w7.heap.size 106 (iC (M.method p G.1) t2).toArray:=by rw[jK];exact GV.Ko _ _ _ _ _ _ _ _
    have hz7:=KZ.o.lt;have aew:=KZ.o.ord;have su:Zs (Ext w7 w9):=Z3 (lJ.o.own fM (fun k e=>by omega));have⟨GQ,zR,QV⟩:=bg (bQ.kp aG.stays fM (fun b hb e=>by omega) mF) b9 jK;clear b5 GV mF U7 lK jK fM b9;simp only[iC];go_wp2_with fail;(refine kk aj ag lJ.o ?_);clear ag K2;clear aj r0 r4 r5 r6 r7;(refine bU ?_);go_wp2_with fail;rw[←QV.o];exact Lh.o _ _ t2 su.o zR.o (Nat.le_refl _) GQ.o
 (refine lN aj 18 (.two [0,1,2,3,4,5,6,7,8,9,10,11] 12 16 (.one [13,14,15] 16 (.one [] 17 (.fin []))) (.one [] 12 (.one [13,14,15] 17 (.fin [])))) ?_ ?_)
 · exact Kp.rr.drew
 clear hK;have TAIL:=Z3 tail;clear tail;(refine two [_,_,_,_,_,_,_,_,_,_,_,_] rfl rfl rfl fun K hK=>?_);(repeat (go_big_quiet_step (fail)));((refine Gj hK (fun K2 ag=>?_) fun K2 ag=>?_)<;>clear hK K)
 · go_wp2_with fail;have CX:=uI _ _ _ (HA.o.dN.ext Kp.rr.drew) k i.name i.member;rw[HG.o]at CX;refine CX.mono ?_;rintro e w3 ⟨⟨ev,he,nN⟩,Fu,nL⟩;rw[HV.o]at he;subst he;have mg:Zs (Kp (·=l.D) w0 w3):=Z3 ((Kp.rr.drew).trans nL);have⟨SQ,Hf⟩:=aJ Fu (EB.weak nN);clear Fu nL CX nN;go_wp2_with fail;(refine kk aj ag mg.o ?_);clear ag K2;refine Ey ?_;intro K2 ag;go_wp2_with fail;(refine kk aj ag (mg.o.alloc _) ?_);clear ag K2;(refine aX rfl fun K2 ag=>?_);go_wp2_with fail;(refine kk aj ag (mg.o.alloc _) ?_);clear ag K2;(refine bU ?_);go_wp2_with fail;exact TAIL.o _ _ _ (mg.o.alloc _) (SQ.o.ext kx) (ay.new _ _ _) mg.o.size Hf.o
 · go_wp2_with fail;(refine kk aj ag ((Kp.rr.drew).alloc _) ?_);clear ag K2;(refine aX rfl fun K2 ag=>?_);go_wp2_with fail;have b5:ay (w0.alloc (.cells #[.int .i64 0,.string ⟨#[]⟩,.int .i64 0] 94)).drew w0.heap.size 94 #[.int .i64 0,.string ⟨#[]⟩,.int .i64 0]:=(ay.new _ _ _).ext Kp.rr.drew;have hD0:=HA.o.dN.Hl;have hzD:¬w0.heap.size=l.D:=by omega
   have hzw:=bM.o.size;have CX:=uI ((w0.alloc (.cells #[.int .i64 0,.string ⟨#[]⟩,.int .i64 0] 94)).drew) _ _ (HA.o.dN.ext (Kp.rr.alloc _).drew) k i.name i.member;rw[HG.o]at CX;refine CX.mono ?_;rintro e w3 ⟨⟨ev,he,nN⟩,Fu,nL⟩;rw[HV.o]at he;subst he;have mg:Zs (Kp (·=l.D) w0 w3):=Z3 ((((Kp.refl _ w0).alloc _).drew).trans nL);have GV:=b5.kp nL hzD;obtain⟨z5,y0,y1,y2, -⟩:=GV.ca;obtain⟨g0,g1,g2, -⟩:=GV.fz;obtain⟨w7,Da⟩:∃w7,w7=((w3.setCell ⟨w0.heap.size,0,none⟩ (.int .i64 G.1.of.keeper)).setCell ⟨w0.heap.size,1,none⟩ (.string G.1.of.name)).setCell ⟨w0.heap.size,2,none⟩ (.int .i64 G.1.at_):=⟨_,rfl⟩;have sK:Kp (·=w0.heap.size) w3 w7:=by rw[Da];exact Kp.qW (D:=(·=w0.heap.size)) rfl _ _ _
   have XT:ay w7 w0.heap.size 94 #[.int .i64 G.1.of.keeper,.string G.1.of.name,.int .i64 G.1.at_]:=by rw[Da];exact GV.qW _ _ _
   have mh:Zs (Kp (·=l.D) w0 w7):=Z3 (mg.o.own sK (fun k e=>by omega));have KZ:Zs (aC w7 l p):=Z3 (Fu.kp sK (fun b hb e=>by omega));have⟨lC,SX,Hf⟩:=bg XT Da (EB.weak nN);clear b5 GV Fu nL sK XT Da CX nN;go_wp2_with fail;(refine kk aj ag mg.o ?_);clear ag K2;refine Ey ?_;intro K2 ag;go_wp2_with fail;rw[←SX.o];(refine kk aj ag mh.o ?_);clear ag K2;clear aj r0 r1 r2 r3 r4 y0 y1 y2 g0 g1 g2;(refine bU ?_);go_wp2_with fail;exact TAIL.o _ _ _ mh.o KZ.o lC.o (Nat.le_refl _) Hf.o
end Go.Proofs.YtkmclfpjpajjeaaGreat
