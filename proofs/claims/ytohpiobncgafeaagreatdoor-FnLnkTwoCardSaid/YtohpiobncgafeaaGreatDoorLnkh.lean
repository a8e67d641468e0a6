/- Walks. -/
import Derived.Test.YtohpiobncgafeaaGreatDoorLnkg
set_option maxRecDepth 100000
set_option maxHeartbeats 4000000
set_option linter.unusedSimpArgs false
set_option linter.unusedVariables false
namespace Go.Proofs.YtohpiobncgafeaaGreatDoor
open Go Go.RowKit
theorem pK(w:World)(l:au)(p:M.ai)(B kb:Nat)(k:Int)(m:M.Method)(t:lJ)(at_:Int)(s:M.gB)(vl vs:Value)(h:aD w l p B kb k m t at_ s vl vs):
    Calls Tryz.prog 130 #[.pointer (some ⟨kb,0,none⟩)] w (aO w l p B kb k m t at_ vl vs (M.qA s)):=by
 have ou:=h.ou;have H:=Ys h;clear h;rcases List.eq_nil_or_concat s.stack with hs|⟨st,y,hs⟩
 · have HO:Zs (M.qA s=none):=Ys (by unfold M.qA M.mV;rw[hs];rfl);have HS:=Ys hs;clear hs;go_enter Tryz.func130,Tryz.ntmps130;go_wp2_with fail;refine(oL _ _ _ _ _ _ _ _ _ _ _ _ H.o HS.o).mono ?_;rintro e w1 ⟨rfl,aZ⟩;exact⟨rfl,aZ.any,H.o.cu.ext aZ,.inl ⟨HO.o,rfl⟩⟩
 · rw [List.concat_eq_append] at hs; have HO : Zs (M.qA s = if y.kind = 2 ∨ y.kind = 3 then some ⟨s.locals, st⟩ else none) := Ys (by unfold M.qA M.mV; rw [hs]; simp); have HS := Ys hs; clear hs; obtain ⟨yk, yn⟩ := y; have Bo : (yk = 2 ∨ (yk = 3 ∧ (yk != 2) = true)) ∧ M.qA s = some ⟨s.locals, st⟩ ∨ ((yk != 2) = true ∧ (yk != 3) = true) ∧ M.qA s = none := by
    by_cases h2:yk=2
    · exact .inl ⟨.inl h2,by rw[HO.o,if_pos (.inl h2)]⟩
    · by_cases h3:yk=3
      · exact .inl ⟨.inr ⟨h3,bne_iff_ne.2 h2⟩,by rw[HO.o,if_pos (.inr h3)]⟩
      · exact .inr ⟨⟨bne_iff_ne.2 h2,bne_iff_ne.2 h3⟩,by rw[HO.o,if_neg (by simp[h2,h3])]⟩
   rcases Bo with⟨h1,h2⟩|⟨⟨h1,h3⟩,h2⟩
   · have xU:=Ys h2;clear h2;rcases h1 with rfl|⟨rfl,h1⟩
     all_goals
      go_enter Tryz.func130,Tryz.ntmps130;go_wp2_with fail;refine(qX _ _ _ _ _ _ _ _ _ _ _ _ H.o st _ HS.o).mono ?_;rintro e w1 ⟨rfl,⟨vs1,ng,FB⟩,j3⟩;have iF:=Ys ng;have OC:=Ys FB;have BP:=Ys j3;clear ng FB j3;go_wp2_with fail;((try simp only[Exit.inBlock,Exit.then]);(first|refine bodyPost_ret (results_none rfl _ _ _) rfl ?_|refine bodyPost_end (results_none rfl _ _ _) rfl ?_));exact⟨BP.o.alloc _,iF.o.cu.ext kx,.inr ⟨_,xU.o,rfl,_,_,iF.o.ext kx,OC.o⟩⟩
   · have xU:=Ys h2;clear h2;go_enter Tryz.func130,Tryz.ntmps130;go_wp2_with fail;refine(qX _ _ _ _ _ _ _ _ _ _ _ _ H.o st _ HS.o).mono ?_;rintro e w1 ⟨rfl,⟨vs1,ng,FB⟩,j3⟩;have iF:=Ys ng;have BP:=Ys j3;clear ng FB j3;go_wp2_with fail;refine(dW _ kb at_ ((iF.o.ext kx).blk.c 10 _ rfl) ou.1 (by omega)).mono ?_;rintro e w3 ⟨rfl,rfl⟩;exact⟨rfl,BP.o.alloc _,iF.o.cu.ext kx,.inl ⟨xU.o,rfl⟩⟩
theorem DV:FN 222 3:=⟨_,Tryz.underlying222,by kernel_rfl⟩
theorem y8(w:World)(l:au)(p:M.ai)(B kb:Nat)(k:Int)(m:M.Method)(t:lJ)(at_:Int)(s:M.gB)(vl vs:Value)(h:aD w l p B kb k m t at_ s vl vs)(a:Int):
    Calls Tryz.prog 131 #[.pointer (some ⟨kb,0,none⟩),.int .i64 a] w fun e w'=>
     ((M.wF m a=none∧e=.returned (.tuple #[.agg #[.int .i64 0,.slice none 0 0,.slice none 0 0],.bool false]))∨
      ∃f cs,M.wF m a=some f∧f∈m.maps∧iB w' (· <l.O) f cs∧e=.returned (.tuple #[.agg cs.toArray,.bool true]))∧Ext w w':=by
 obtain⟨w0,bN,aM,b4⟩:=nu w #[.int .i64 0,.slice none 0 0,.slice none 0 0] 222;have hOl:l.O<w.heap.size:=by have:=h.cu.ord;have:=h.cu.lt;omega
 have c9:=h.blk.c 9 (.slice t.a3 m.maps.length t.c3) rfl;have hz:=h.blk.lt;obtain⟨_,_,vm,jk,_,_,MQ⟩:=h.ml;simp only[eG,List.cons.injEq,and_true,true_and]at jk;obtain⟨-, -,rfl⟩:=jk;have HMS:=Ys MQ;have nQ:=Ys b4;have bW:=Ys aM;have dS:=Ys bN;have hm5:=h.mi.maps;obtain⟨ta1,tc1,ta2,tc2,ta,tc⟩:=t;simp only at*;clear MQ b4 aM bN h;go_enter Tryz.func131,Tryz.ntmps131;go_wp2_with fail;rw[←dS.o];go_loopw [14] (fun i wr=>∃q:Nat,q≤m.maps.length∧i=.int .i64 q∧Ext w0 wr∧Zs (M.wF m a=(m.maps.drop q).find? fun f=>f.at_=a)) (fun i _=>m.maps.length - (intOf i).toNat)
 case atStart=>exact⟨0,Nat.zero_le _,rfl,Kp.refl _ _,Ys rfl⟩
 case round =>
  obtain⟨q,hq,rfl,hE,HA⟩:=hrel;have Bn:=nQ.o.ext hE;have y0:=Bn.c 0 (.int .i64 0) rfl;have y1:=Bn.c 1 (.slice none 0 0) rfl;have y2:=Bn.c 2 (.slice none 0 0) rfl;have f0:=Bn.frozen 0;have f1:=Bn.frozen 1;have f2:=Bn.frozen 2;have yz:=Bn.lt;have DI:=Ys Bn;have KI:=Ys (bW.o.trans hE);clear Bn;by_cases cK:q<m.maps.length
  · obtain⟨x,hx⟩:=gH m.maps q cK;obtain⟨b,off,cs,rfl,Dz,GZ, -,gI⟩:=HMS.o.get hx;have HXL:=Ys GZ;obtain⟨xa1,xc1,xa2,xc2,rfl⟩:=GZ.form;obtain⟨g0,g1,g2⟩:=(gI.ext (bW.o.trans hE)).three;have gz:=aS g0;have HX:=Ys hx;clear GZ gI hx;by_cases Na:x.at_=a
    · have HR:Zs (M.wF m a=some x):=Ys (by rw[HA.o,gX HX.o,List.find?_cons_of_pos (by simpa using Na)]);have acP:(x.at_==a)=true:=by simpa using Na
      clear Na;go_wp2_with fail;have hs:=Kp.lq (D:=(·=w.heap.size)) (w:=wr) rfl (.int .i64 x.at_) (.slice xa1 x.locals.length xc1) (.slice xa2 x.stack.length xc2);have hb:=DI.o.lq (.int .i64 x.at_) (.slice xa1 x.locals.length xc1) (.slice xa2 x.stack.length xc2);refine bodyPost_ret (bP DV rfl _ _ w.heap.size rfl [.int .i64 x.at_,.slice xa1 x.locals.length xc1,.slice xa2 x.stack.length xc2] ((af.iV hb).ext ((Kp.refl _ _).alloc _)) rfl) rfl ?_;exact⟨.inr ⟨x,_,HR.o,List.mem_of_getElem? HX.o,bD.ext iB.stays ((Kp.refl _ _).alloc _) (bD.kp iB.stays hs (fun b hb e=>by omega) (bD.ext iB.stays KI.o HXL.o)),rfl⟩,(KI.o.own hs (fun k hk=>by omega)).alloc _⟩
    · have HR:Zs (M.wF m a=(m.maps.drop (q+1)).find? fun f=>f.at_=a):=Ys (by rw[HA.o,gX HX.o,List.find?_cons_of_neg (by simpa using Na)]);have acP:(x.at_==a)=false:=beq_eq_false_iff_ne.2 Na;clear Na;go_wp2_with fail;go_roundw
      case rel=>exact⟨q+1,by omega,by go_num,kx,HR⟩
      case measure=>simp[intOf];omega
  · have HR:Zs (M.wF m a=none):=Ys (by rw[HA.o,List.drop_eq_nil_of_le (by omega)];rfl);go_wp2_with fail;have hs:=Kp.lq (D:=(·=w.heap.size)) (w:=wr) rfl (.int .i64 0) (.slice none 0 0) (.slice none 0 0);have hb:=DI.o.lq (.int .i64 0) (.slice none 0 0) (.slice none 0 0);refine bodyPost_ret (bP DV rfl _ _ w.heap.size rfl [.int .i64 0,.slice none 0 0,.slice none 0 0] (af.iV hb) rfl) rfl ?_;exact⟨.inl ⟨HR.o,rfl⟩,KI.o.own hs (fun k hk=>by omega)⟩
theorem PY{α:Type}{enc:α→List Value}{k:Nat}(Aw:∀x,(enc x).length=k):∀(l:List α) (i:Nat) (x:α),l[i]?=some x→∀j u,(enc x)[j]?=some u→(l.flatMap enc)[i*k+j]?=some u:=by
 intro l;induction l with
 |nil=>intro i x h;simp at h
 | cons y r ih =>
  intro i x hx j u hj;rw[List.flatMap_cons];cases i with
  |zero=>
   simp at hx;subst hx;rw[List.getElem?_append_left (by rw[Nat.zero_mul,Nat.zero_add];exact(List.getElem?_eq_some_iff.1 hj).1),Nat.zero_mul,Nat.zero_add];exact hj
  |succ i=>
   rw[List.getElem?_append_right (by rw[Aw,Nat.succ_mul];omega),Aw,show(i+1)*k+j - k=i*k+j from by rw[Nat.succ_mul];omega];exact ih i x (by simpa using hx) j u hj
theorem dG{α:Type}{enc:α→List Value}{k:Nat}(Aw:∀x,(enc x).length=k){w:World}{base e g n c:Nat}{l:List α}(h:w.ownsRow base e k (.slice (some ⟨g,0,none⟩) n c) n (l.flatMap enc)){i:Nat}{x:α}(hx:l[i]?=some x):
    af w g (i*k) (enc x):=by
 intro j v hj;have:=h.cells (g:=g) rfl _ _ (PY Aw l i x hx j v hj);unfold Addr.add at this;split at this
 · rename_i h0;rw[h0];exact this
 · simpa using this
theorem wH{p:M.ai}{k:Int}{a b:List M.Tag}{q:Nat}{x y:M.Tag}(hx:a[q]?=some x)(hy:b[q]?=some y):M.fU p k (a.drop q) (b.drop q)=(M.may p k x y&&M.fU p k (a.drop (q+1)) (b.drop (q+1))):=by
 rw[gX hx,gX hy];rfl
theorem zg{p:M.ai}{k:Int}{a b:List M.Tag}{q:Nat}(h:b.length≤q):M.fU p k (a.drop q) (b.drop q)=true:=by
 have e:b.drop q=[]:=List.drop_eq_nil_of_le h;rw[e];cases a.drop q<;>rfl
theorem rM(w:World)(l:au)(p:M.ai)(B kb:Nat)(k:Int)(m:M.Method)(t:lJ)(at_:Int)(s:M.gB)(vl vs:Value)(h:aD w l p B kb k m t at_ s vl vs)(fm:M.SMap)(cs:List Value)(hf:iB w (· <l.O) fm cs)(FD:fm.locals.length=s.locals.length):
    Calls Tryz.prog 132 #[.pointer (some ⟨kb,0,none⟩),.agg cs.toArray] w fun e w'=>e=.returned (.bool (M.dZ p k s fm))∧Ext w w':=by
 have Pe:=Ys hf;obtain⟨fa1,LX,fa2,Gt,rfl⟩:=hf.form;obtain⟨_,_,he,oD,Sg⟩:=hf;simp only[List.cons.injEq,and_true,true_and]at he;obtain⟨rfl,rfl⟩:=he;obtain⟨w0,bN,aM,b3⟩:=nu w #[.int .i64 fm.at_,.slice fa1 fm.locals.length LX,.slice fa2 fm.stack.length Gt] 222;have hA:=h.ext aM;obtain⟨sa,sc,rfl⟩:=bJ h.bQ;obtain⟨la,lc,rfl⟩:=bJ h.loc;obtain⟨T,f,dm,HT⟩:=gy.ex (fun W'=>Ext w0 W') _ (Kp.refl _ _);have K8:=fun q=>(hA.blk.ext (HT.aK q)).c 12 (.slice sa s.stack.length sc) rfl;have r2:=fun q=>(b3.ext (HT.aK q)).c 2 (.slice fa2 fm.stack.length Gt) rfl;have ax:=Ys HT;have dS:=Ys bN;have bW:=Ys aM;have HA:=Ys hA;have gW:=Ys b3;have Dx:=Ys (And.intro oD Sg);have hll:fm.locals.length≤6:=by have:=h.NI;have:=h.mi.locals;omega
 have adX:s.stack.length≤5:=by have:=h.SN;have:=h.mi.stack;omega
 have HLL:=Ys FD;clear h HT bN aM hA b3 oD Sg FD;by_cases bU:fm.stack.length=s.stack.length
 · have HU:Zs (M.dZ p k s fm=(M.fU p k s.locals fm.locals&&M.fU p k s.stack fm.stack)):=Ys (by unfold M.dZ;rw[decide_eq_true bU];rfl);have QA:((fm.stack.length:Int) !=(s.stack.length:Int))=false:=by simp[bU]
   have qN:=Ys bU;clear bU;go_enter Tryz.func132,Tryz.ntmps132;go_wp2_with fail;rw[←dS.o];(refine O0 ax ?_ ?_);rotate_left;(repeat (go_big_quiet_step ((fail))));(refine wpQuiet_nil ?_);(rintro _ ⟨sW,rfl⟩);rotate_left
   · exact(Kp.refl _ _).drew
   have aZ:=ax.o.aK sW;generalize f sW=w1 at*;clear ax K8 r2 QA;have ng:=HA.o.ext aZ;have hB1:=gW.o.ext aZ;have p1:=hB1.c 1 (.slice fa1 fm.locals.length LX) rfl;have p2:=hB1.c 2 (.slice fa2 fm.stack.length Gt) rfl;have iF:=Ys ng;have BJ:=Ys hB1;have eP:Zs (Ext w w1):=Ys (bW.o.trans aZ);clear ng hB1 aZ;go_wp2_with fail;go_loopw [21] (fun i wr=>∃q:Nat,q≤fm.locals.length∧i=.int .i64 q∧Ext w1 wr∧Zs (M.fU p k s.locals fm.locals=M.fU p k (s.locals.drop q) (fm.locals.drop q))) (fun i _=>fm.locals.length - (intOf i).toNat)
   case atStart=>exact⟨0,Nat.zero_le _,rfl,Kp.refl _ _,Ys rfl⟩
   case round=>
    obtain⟨q,hq,rfl,hE,Lf⟩:=hrel;have Co:=iF.o.ext hE;have Uu:=BJ.o.ext hE;have p2r:=Uu.c 2 (.slice fa2 fm.stack.length Gt) rfl;have HBr:=Ys Uu;have KG:=Ys Co;have KI:=Ys hE;by_cases cK:q<fm.locals.length
    · obtain⟨y,hy⟩:=gH fm.locals q cK;obtain⟨x,hx⟩:=gH s.locals q (by rw[←HLL.o];exact cK);obtain⟨b,off,cs,rfl,Dz,rfl, -,gI⟩:=Dx.o.1.get hy;obtain⟨g0,g1⟩:=(gI.ext (eP.o.trans hE)).two;have gz:=aS g0;have lY:=Co.loc;obtain⟨lg,K6,U9,IL,JH,Wt⟩:=aX lY (by rw[←HLL.o];omega);cases U9;obtain⟨x0,x1⟩:=(dG (enc:=gZ) (k:=2) (fun _=>rfl) lY hx).two;have HM:Zs (M.fU p k s.locals fm.locals=(M.may p k x y&&M.fU p k (s.locals.drop (q+1)) (fm.locals.drop (q+1)))):=Ys (by rw[Lf.o,wH hx hy]);obtain⟨W4,Ep,dN,b6⟩:=nu wr #[.int .i64 y.kind,.string y.name] 112;obtain⟨T,f,dm,HT⟩:=gy.ex (fun W'=>Ext W4 W') _ (Kp.refl _ _);have e0:=fun z=>(Co.blk.ext (dN.trans (HT.aK z))).c 0 (.pointer (some ⟨l.L,0,none⟩)) rfl;have e1:=fun z=>(Co.blk.ext (dN.trans (HT.aK z))).c 1 (.int .i64 k) rfl;have e11:=fun z=>(Co.blk.ext (dN.trans (HT.aK z))).c 11 (.slice (some ⟨lg,0,none⟩) s.locals.length lc) rfl;have e2:=fun z=>(dN.trans (HT.aK z)).aJ x0;have e3:=fun z=>(dN.trans (HT.aK z)).aJ x1;have e6:=fun z=>(b6.ext (HT.aK z)).c 0 (.int .i64 y.kind) rfl;have e7:=fun z=>(b6.ext (HT.aK z)).c 1 (.string y.name) rfl;have ax:=Ys HT;have BX:=Ys Ep;have Ph:=Ys (Co.cu.ext dN);have iM:=Ys dN;have hqs:(q:Int)<s.locals.length:=by have:=HLL.o;omega
      clear gI hy hx lY x0 x1 Ep dN b6 HT Co Uu;go_wp2_with fail;rw[←BX.o];(refine dQ ax 18 [([0,1,2,3,4,5,6,7,8,9,10,11,12,13,14,15],16)] [17] ?_ ?_)
      · exact(Kp.refl _ _).drew
      (refine dn [_,_,_,_,_,_,_,_,_,_,_,_,_,_,_,_] rfl rfl fun K hK=>?_);(repeat (go_big_quiet_step (fail)));(refine qn hK fun K2 ag=>?_);clear hK K;go_wp2_with fail;refine(vg _ _ _ (Ph.o.ext (Kp.refl _ _).drew) k x y).mono ?_;rintro e w5 ⟨rfl,ed⟩;have wW:Ext W4 w5:=((Kp.refl _ _).drew:Ext W4 _).trans ed;have iG:Zs (Ext wr w5):=Ys (iM.o.trans wW);cases tT:M.may p k x y
      · have HR:Zs (M.dZ p k s fm=false):=Ys (by rw[HU.o,HM.o,tT];rfl);clear tT ed;go_wp2_with fail;(refine kk ax ag wW ?_);clear ag K2;(refine fq [_] rfl rfl fun K hK=>?_);(repeat (go_big_quiet_step (fail)));(refine qn hK ?_);clear hK K;go_wp2_with fail;go_ret;exact⟨ae HR.o.symm,eP.o.trans (KI.o.trans iG.o)⟩
      · have HR:Zs (M.fU p k s.locals fm.locals=M.fU p k (s.locals.drop (q+1)) (fm.locals.drop (q+1))):=Ys (by rw[HM.o,tT];rfl);clear tT ed;go_wp2_with fail;(refine kk ax ag wW ?_);clear ag K2;(refine fq [_] rfl rfl fun K hK=>?_);(repeat (go_big_quiet_step (fail)));(refine qn hK ?_);clear hK K;go_wp2_with fail;refine⟨⟨q+1,by omega,by go_num,KI.o.trans iG.o,HR⟩,by simp[intOf];omega⟩
    · have HU2:Zs (M.dZ p k s fm=M.fU p k s.stack fm.stack):=Ys (by rw[HU.o,Lf.o,zg (by omega)];rfl);obtain⟨wo,rfl⟩:∃wo:World,wo=wr:=⟨_,rfl⟩;have HAo:=KG;have HBo:=HBr;have HEo:Zs (Ext w wo):=Ys (eP.o.trans hE);have adY:fm.stack.length≤5:=by have:=qN.o;omega
      clear KG HBr KI Co Uu hE Lf p1 p2;go_wp2_with fail;go_loopw [48] (fun i wr=>∃q:Nat,q≤fm.stack.length∧i=.int .i64 q∧Ext wo wr∧Zs (M.fU p k s.stack fm.stack=M.fU p k (s.stack.drop q) (fm.stack.drop q))) (fun i _=>fm.stack.length - (intOf i).toNat)
      case atStart=>exact⟨0,Nat.zero_le _,rfl,Kp.refl _ _,Ys rfl⟩
      case round=>
       obtain⟨q,hq,rfl,hE,Lf⟩:=hrel;have Co:=HAo.o.ext hE;have Uu:=HBo.o.ext hE;have HBr:=Ys Uu;have KG:=Ys Co;have KI:=Ys hE;by_cases cK:q<fm.stack.length
       · obtain⟨y,hy⟩:=gH fm.stack q cK;obtain⟨x,hx⟩:=gH s.stack q (by rw[←qN.o];exact cK);obtain⟨b,off,cs,rfl,Dz,rfl, -,gI⟩:=Dx.o.2.get hy;obtain⟨g0,g1⟩:=(gI.ext (HEo.o.trans hE)).two;have gz:=aS g0;have lY:=Co.bQ;obtain⟨lg,K6,U9,IL,JH,Wt⟩:=aX lY (by rw[←qN.o];omega);cases U9;obtain⟨x0,x1⟩:=(dG (enc:=gZ) (k:=2) (fun _=>rfl) lY hx).two;have HM:Zs (M.fU p k s.stack fm.stack=(M.may p k x y&&M.fU p k (s.stack.drop (q+1)) (fm.stack.drop (q+1)))):=Ys (by rw[Lf.o,wH hx hy]);obtain⟨W4,Ep,dN,b6⟩:=nu wr #[.int .i64 y.kind,.string y.name] 112;obtain⟨T,f,dm,HT⟩:=gy.ex (fun W'=>Ext W4 W') _ (Kp.refl _ _);have e0:=fun z=>(Co.blk.ext (dN.trans (HT.aK z))).c 0 (.pointer (some ⟨l.L,0,none⟩)) rfl;have e1:=fun z=>(Co.blk.ext (dN.trans (HT.aK z))).c 1 (.int .i64 k) rfl;have e11:=fun z=>(Co.blk.ext (dN.trans (HT.aK z))).c 12 (.slice (some ⟨lg,0,none⟩) s.stack.length sc) rfl;have e2:=fun z=>(dN.trans (HT.aK z)).aJ x0;have e3:=fun z=>(dN.trans (HT.aK z)).aJ x1;have e6:=fun z=>(b6.ext (HT.aK z)).c 0 (.int .i64 y.kind) rfl;have e7:=fun z=>(b6.ext (HT.aK z)).c 1 (.string y.name) rfl;have ax:=Ys HT;have BX:=Ys Ep;have Ph:=Ys (Co.cu.ext dN);have iM:=Ys dN;have hqs:(q:Int)<s.stack.length:=by have:=qN.o;omega
         clear gI hy hx lY x0 x1 Ep dN b6 HT Co Uu;go_wp2_with fail;rw[←BX.o];(refine dQ ax 18 [([0,1,2,3,4,5,6,7,8,9,10,11,12,13,14,15],16)] [17] ?_ ?_)
         · exact(Kp.refl _ _).drew
         (refine dn [_,_,_,_,_,_,_,_,_,_,_,_,_,_,_,_] rfl rfl fun K hK=>?_);(repeat (go_big_quiet_step (fail)));(refine qn hK fun K2 ag=>?_);clear hK K;go_wp2_with fail;refine(vg _ _ _ (Ph.o.ext (Kp.refl _ _).drew) k x y).mono ?_;rintro e w5 ⟨rfl,ed⟩;have wW:Ext W4 w5:=((Kp.refl _ _).drew:Ext W4 _).trans ed;have iG:Zs (Ext wr w5):=Ys (iM.o.trans wW);cases tT:M.may p k x y
         · have HR:Zs (M.dZ p k s fm=false):=Ys (by rw[HU2.o,HM.o,tT];rfl);clear tT ed;go_wp2_with fail;(refine kk ax ag wW ?_);clear ag K2;(refine fq [_] rfl rfl fun K hK=>?_);(repeat (go_big_quiet_step (fail)));(refine qn hK ?_);clear hK K;go_wp2_with fail;go_ret;exact⟨ae HR.o.symm,HEo.o.trans (KI.o.trans iG.o)⟩
         · have HR:Zs (M.fU p k s.stack fm.stack=M.fU p k (s.stack.drop (q+1)) (fm.stack.drop (q+1))):=Ys (by rw[HM.o,tT];rfl);clear tT ed;go_wp2_with fail;(refine kk ax ag wW ?_);clear ag K2;(refine fq [_] rfl rfl fun K hK=>?_);(repeat (go_big_quiet_step (fail)));(refine qn hK ?_);clear hK K;go_wp2_with fail;refine⟨⟨q+1,by omega,by go_num,KI.o.trans iG.o,HR⟩,by simp[intOf];omega⟩
       · have HR:Zs (M.dZ p k s fm=true):=Ys (by rw[HU2.o,Lf.o,zg (by omega)]);go_wp2_with fail;go_ret;exact⟨ae HR.o.symm,HEo.o.trans hE⟩
 · have HU:Zs (M.dZ p k s fm=false):=Ys (by unfold M.dZ;rw[decide_eq_false bU];rfl);have QA:((fm.stack.length:Int) !=(s.stack.length:Int))=true:=bne_iff_ne.2 (by omega);clear bU;go_enter Tryz.func132,Tryz.ntmps132;go_wp2_with fail;rw[←dS.o];(refine O0 ax ?_ ?_);rotate_left;(repeat (go_big_quiet_step ((fail))));(refine wpQuiet_nil ?_);(rintro _ ⟨sW,rfl⟩);rotate_left
   · exact(Kp.refl _ _).drew
   go_wp2_with fail;go_ret;exact⟨ae HU.o.symm,bW.o.trans (ax.o.aK sW)⟩
theorem vz{m:M.Method}{f:M.SMap}(h:M.pM m f=true):(f.locals.length:Int)=m.locals∧(f.stack.length:Int)≤m.stack:=by
 unfold M.pM at h;simp only[Bool.and_eq_true,decide_eq_true_eq]at h;exact⟨h.1.1.1.2,h.1.1.2⟩
theorem qD(w:World)(l:au)(p:M.ai)(B kb:Nat)(k:Int)(m:M.Method)(t:lJ)(at_:Int)(s:M.gB)(vl vs:Value)(h:aD w l p B kb k m t at_ s vl vs)(a:Int):
    Calls Tryz.prog 129 #[.pointer (some ⟨kb,0,none⟩),.int .i64 a] w (aO w l p B kb k m t at_ vl vs (M.fw p k m a s)):=by
 have ou:=h.ou;have acC:=h.NI;have H:=Ys h;clear h;go_enter Tryz.func129,Tryz.ntmps129;go_wp2_with fail;refine(y8 _ _ _ _ _ _ _ _ _ _ _ _ H.o a).mono ?_;rintro e w1 ⟨(⟨nT,rfl⟩|⟨fm,cs,AJ,GN,hf,rfl⟩),aZ⟩
 · have HO:Zs (M.fw p k m a s=none):=Ys (by unfold M.fw;rw[nT];rfl);have iF:=Ys (H.o.ext aZ);have eP:=Ys aZ;clear nT aZ;go_wp2_with fail;refine(dW _ kb at_ ((iF.o.ext kx).blk.c 10 _ rfl) ou.1 (by omega)).mono ?_;rintro e w3 ⟨rfl,rfl⟩;exact⟨rfl,(eP.o.alloc _).any,iF.o.cu.ext kx,.inl ⟨HO.o,rfl⟩⟩
 · have HO:Zs (M.fw p k m a s=if M.dZ p k s fm then some s else none):=Ys (by unfold M.fw;rw[AJ];rfl);have hlen:=vz (H.o.mi.pM fm GN);have HF:=Ys hf;obtain⟨fa1,LX,fa2,Gt,rfl⟩:=hf.form;have iF:=Ys (H.o.ext aZ);have eP:=Ys aZ;clear AJ aZ hf GN;go_wp2_with fail;refine(rM _ _ _ _ _ _ _ _ _ _ _ _ (iF.o.ext kx) fm _ (bD.ext iB.stays kx HF.o) (by omega)).mono ?_;rintro e w2 ⟨rfl,bY⟩;have jC:Zs (Ext w w2):=Ys ((eP.o.alloc _).trans bY);clear bY;cases CG:M.dZ p k s fm
   · have xU:Zs (M.fw p k m a s=none):=Ys (by rw[HO.o,CG];rfl);clear CG;go_wp2_with fail;refine(dW _ kb at_ ((H.o.ext jC.o).blk.c 10 _ rfl) ou.1 (by omega)).mono ?_;rintro e w3 ⟨rfl,rfl⟩;exact⟨rfl,jC.o.any,H.o.cu.ext jC.o,.inl ⟨xU.o,rfl⟩⟩
   · have xU:Zs (M.fw p k m a s=some s):=Ys (by rw[HO.o,CG];rfl);clear CG;go_wp2_with fail;((try simp only[Exit.inBlock,Exit.then]);(first|refine bodyPost_ret (results_none rfl _ _ _) rfl ?_|refine bodyPost_end (results_none rfl _ _ _) rfl ?_));exact⟨jC.o.any,H.o.cu.ext jC.o,.inr ⟨_,xU.o,rfl,_,_,H.o.ext jC.o,bu.refl _ _ _⟩⟩
theorem dJ{w:World}{base base':Nat}{e:TypeId}{size:Nat}{v:Value}{n:Nat}{xs:List Value}(h:w.ownsRow base e size v n xs)(hb:base'≤base):w.ownsRow base' e size v n xs:=
 ⟨h.1,h.2.imp id fun⟨g,cap,cur,e1,hg,r⟩=>⟨g,cap,cur,e1,Nat.le_trans hb hg,r⟩⟩
theorem aD.fresh{w w':World}{l:au}{p:M.ai}{B kb:Nat}{k:Int}{m:M.Method}{t:lJ}{at_:Int}{s s':M.gB}{vl vs v1 v2:Value}(h:aD w l p B kb k m t at_ s vl vs)
    (hb:az w' kb 111 (Hb l.L k m t at_ v1 v2)) (hk:Kp (·=kb) w w') (o1:w'.ownsRow w.heap.size 112 2 v1 s'.locals.length (s'.locals.flatMap gZ)) (o2:w'.ownsRow w.heap.size 112 2 v2 s'.stack.length (s'.stack.flatMap gZ))
    (ne:∀g,v1.ownBlock=some g→v2.ownBlock≠some g) (hl:(s'.locals.length:Int)=m.locals) (hs:(s'.stack.length:Int)≤m.stack):
    Kp (fE l kb vl vs) w w'∧aj w' l p∧∃nO vs',aD w' l p B kb k m t at_ s' nO vs'∧bu w.heap.size vl vs nO vs':=by
 have hBk:=h.hk;have hB:=h.hB;have hO:=h.cu.ord;have hz:=h.blk.lt;have hL:aj w' l p:=h.cu.kp hk (fun b hb e=>by omega);refine⟨hk.weak fun b _ e=>.inr (.inl e),hL,v1,v2,⟨hL,h.hB,h.hk,bD.kp aC.stays hk (fun b hb e=>by omega) h.ml,h.mi,hb,dJ o1 (by omega),dJ o2 (by omega),ne,h.ou,hs,hl⟩,fun g hg=>?_⟩;rcases hg with e|e
 · exact .inr (.inr (o1.lt g e).1)
 · exact .inr (.inr (o2.lt g e).1)
theorem J8(w:World)(l:au)(p:M.ai)(B kb:Nat)(k:Int)(m:M.Method)(t:lJ)(at_:Int)(s:M.gB)(vl vs:Value)(h:aD w l p B kb k m t at_ s vl vs)(goes:Bool):
    Calls Tryz.prog 94 #[.pointer (some ⟨kb,0,none⟩),.bool goes] w (aO w l p B kb k m t at_ vl vs (M.kg p k m goes at_ s)):=by
 have ou:=h.ou;have acC:=h.NI;have c10:=h.blk.c 10 (.int .i64 at_) rfl;have rX:=h.cu.ord;have hBB:=h.hB;have hBk:=h.hk;have H:=Ys h;clear h;cases goes
 all_goals
  go_enter Tryz.func94,Tryz.ntmps94;go_wp2_with fail;refine(y8 _ _ _ _ _ _ _ _ _ _ _ _ H.o at_).mono ?_;rintro e w1 ⟨(⟨nT,rfl⟩|⟨fm,cs,AJ,GN,hf,rfl⟩),aZ⟩
 · have HO:Zs (M.kg p k m false at_ s=none):=Ys (by unfold M.kg;rw[nT];rfl);have iF:=Ys (H.o.ext aZ);have eP:=Ys aZ;clear nT aZ;go_wp2_with fail;refine(dW _ kb at_ ((iF.o.ext kx).blk.c 10 _ rfl) ou.1 (by omega)).mono ?_;rintro e w3 ⟨rfl,rfl⟩;exact⟨rfl,(eP.o.alloc _).any,iF.o.cu.ext kx,.inl ⟨HO.o,rfl⟩⟩
 · have HO:Zs (M.kg p k m false at_ s=some ⟨fm.locals,fm.stack⟩):=Ys (by unfold M.kg;rw[AJ];rfl);have hlen:=vz (H.o.mi.pM fm GN);have acs:=Nat.lt_of_lt_of_le H.o.blk.lt aZ.size;have jk:=H.o.mi.locals;have MQ:=H.o.mi.stack;have HF:=Ys hf;obtain⟨fa1,LX,fa2,Gt,rfl⟩:=hf.form;obtain⟨wz,Ez,hEz,b4⟩:=nu w1 #[.int .i64 fm.at_,.slice fa1 fm.locals.length LX,.slice fa2 fm.stack.length Gt] 222;have Oy:Zs (Ext w wz):=Ys (aZ.trans hEz);have HFz:=Ys (bD.ext iB.stays hEz HF.o);have y1:=b4.c 1 (.slice fa1 fm.locals.length LX) rfl;have nQ:=Ys b4;have hzz:=b4.lt;have XL:=Ys Ez;clear AJ aZ hf GN c10 hEz b4 Ez;go_wp2_with fail;rw[←XL.o];have Dx:Zs (SliceOf 2 eU wz (· <l.O) (.slice fa1 fm.locals.length LX) fm.locals∧SliceOf 2 eU wz (· <l.O) (.slice fa2 fm.stack.length Gt) fm.stack):=Ys (by
    obtain⟨_,_,he,oD,Sg⟩:=HFz.o;simp only[List.cons.injEq,and_true,true_and]at he;obtain⟨rfl,rfl⟩:=he;exact⟨oD,Sg⟩)
   refine(lK _ _ _ _ (SliceOf.toFlat (R:=eU) (fun _ _ _ _ e=>e) (fun _=>rfl) oM Dx.o.1) (by omega)).mono ?_;rintro e w3 ⟨⟨v1,rfl,gJ⟩,dA⟩;obtain⟨g1,k1,rfl⟩:=bJ gJ;have yG:=(H.o.ext (Oy.o.trans dA)).blk;have d11:=yG.c 11 vl rfl;have e11:=yG.frozen 11;have z11:=yG.lt;have GG:=nQ.o.ext dA;have y2:=GG.c 2 (.slice fa2 fm.stack.length Gt) rfl;have n1:¬w1.heap.size=kb:=by omega
   have n2:¬kb=w1.heap.size:=by omega
   have jT:=Ys yG;have aaU:=Ys GG;have iL:=Ys dA;have TH:=Ys gJ;clear yG GG dA gJ;go_wp2_with fail;obtain⟨w4,qR⟩:∃w4,w4=w3.setCell ⟨kb,11,none⟩ (.slice g1 fm.locals.length k1):=⟨_,rfl⟩;have ni:Kp (·=kb) w3 w4:=by rw[qR];exact(Kp.refl (·=kb) w3).setCell (p:=⟨kb,11,none⟩) (fun _=>rfl) _
   have Bn:az w4 kb 111 (Hb l.L k m t at_ (.slice g1 fm.locals.length k1) vs):=by rw[qR];exact jT.o.bA 11 _
   rw[←qR];have acb:w3.heap.size≤w4.heap.size:=ni.size;have JL:SliceOf 2 eU w4 (· <l.O) (.slice fa2 fm.stack.length Gt) fm.stack:=(Dx.o.2.ext eU.stays iL.o).keep eU.stays (Kp.same ni (fun b hb e=>by omega)) (fun _ h=>h);refine(lK _ _ _ _ (SliceOf.toFlat (R:=eU) (fun _ _ _ _ e=>e) (fun _=>rfl) oM JL) (by omega)).mono ?_;rintro e w5 ⟨⟨v2,rfl,nE⟩,ed⟩;obtain⟨g2,k2,rfl⟩:=bJ nE;have jd:=Bn.ext ed;have d12:=jd.c 12 vs rfl;have e12:=jd.frozen 12;have z12:=jd.lt;have gJ:=TH.o;have xD:Kp (·=kb) w5 (w5.setCell ⟨kb,12,none⟩ (.slice g2 fm.stack.length k2)):=(Kp.refl (·=kb) w5).setCell (p:=⟨kb,12,none⟩) (fun _=>rfl) _;have G5:=Oy.o.size;have AO:=iL.o.size;have hF:=H.o.fresh (s':=⟨fm.locals,fm.stack⟩) (jd.bA 12 _) (((((Oy.o.trans iL.o).any (D:=(·=kb))).trans ni).trans ed.any).trans xD)
    (dJ (aA (aA (aA gJ ni (fun g hg hb e=>by omega)) ed (fun _ _ _ e=>e)) xD (fun g hg hb e=>by omega)) G5)
    (dJ (aA nE xD (fun g hg hb e=>by omega)) (by omega))
    (fun g h1 h2=>by have:=(gJ.lt g h1).2;have:=(nE.lt g h2).1;omega) hlen.1 hlen.2
   have Tw:=Ys hF;clear hF xD gJ nE jd ed JL Bn ni qR;go_wp2_with fail;((try simp only[Exit.inBlock,Exit.then]);(first|refine bodyPost_ret (results_none rfl _ _ _) rfl ?_|refine bodyPost_end (results_none rfl _ _ _) rfl ?_));exact⟨Tw.o.1,Tw.o.2.1,.inr ⟨_,HO.o,rfl,Tw.o.2.2⟩⟩
 · have HO:Zs (M.kg p k m true at_ s=some s):=Ys (by unfold M.kg;rw[nT];rfl);have iF:=Ys (H.o.ext aZ);have eP:=Ys aZ;clear nT aZ;go_wp2_with fail;((try simp only[Exit.inBlock,Exit.then]);(first|refine bodyPost_ret (results_none rfl _ _ _) rfl ?_|refine bodyPost_end (results_none rfl _ _ _) rfl ?_));exact⟨(eP.o.alloc _).any,iF.o.cu.ext kx,.inr ⟨_,HO.o,rfl,_,_,iF.o.ext kx,bu.refl _ _ _⟩⟩
 · have HO:Zs (M.kg p k m true at_ s=if !M.dZ p k s fm then none else some ⟨fm.locals,fm.stack⟩):=Ys (by unfold M.kg;rw[AJ];simp);have hlen:=vz (H.o.mi.pM fm GN);have acs:=Nat.lt_of_lt_of_le H.o.blk.lt aZ.size;have jk:=H.o.mi.locals;have MQ:=H.o.mi.stack;have HF:=Ys hf;obtain⟨fa1,LX,fa2,Gt,rfl⟩:=hf.form;obtain⟨wq,Sk,hEq,b4⟩:=nu w1 #[.int .i64 fm.at_,.slice fa1 fm.locals.length LX,.slice fa2 fm.stack.length Gt] 222;have bW:Zs (Ext w wq):=Ys (aZ.trans hEq);have HF0:=Ys (bD.ext iB.stays hEq HF.o);have HB0:=Ys b4;have HWQ:=Ys Sk;clear AJ aZ hf GN c10 hEq b4 Sk;go_wp2_with fail;rw[←HWQ.o];refine(rM _ _ _ _ _ _ _ _ _ _ _ _ (H.o.ext bW.o) fm _ HF0.o (by omega)).mono ?_;rintro e wz ⟨rfl,hEy⟩;have Bn:=HB0.o.ext hEy;have y1:=Bn.c 1 (.slice fa1 fm.locals.length LX) rfl;have nQ:=Ys Bn;have hzz:=Bn.lt;have Oy:Zs (Ext w wz):=Ys (bW.o.trans hEy);have HFz:=Ys (bD.ext iB.stays hEy HF0.o);clear hEy Bn HWQ bW;cases CG:M.dZ p k s fm
   · have xU:Zs (M.kg p k m true at_ s=none):=Ys (by rw[HO.o,CG];rfl);clear CG;go_wp2_with fail;refine(dW _ kb at_ ((H.o.ext Oy.o).blk.c 10 _ rfl) ou.1 (by omega)).mono ?_;rintro e w3 ⟨rfl,rfl⟩;exact⟨rfl,Oy.o.any,H.o.cu.ext Oy.o,.inl ⟨xU.o,rfl⟩⟩
   replace HO:Zs (M.kg p k m true at_ s=some ⟨fm.locals,fm.stack⟩):=Ys (by rw[HO.o,CG];rfl);clear CG;go_wp2_with fail;have Dx:Zs (SliceOf 2 eU wz (· <l.O) (.slice fa1 fm.locals.length LX) fm.locals∧SliceOf 2 eU wz (· <l.O) (.slice fa2 fm.stack.length Gt) fm.stack):=Ys (by
    obtain⟨_,_,he,oD,Sg⟩:=HFz.o;simp only[List.cons.injEq,and_true,true_and]at he;obtain⟨rfl,rfl⟩:=he;exact⟨oD,Sg⟩)
   refine(lK _ _ _ _ (SliceOf.toFlat (R:=eU) (fun _ _ _ _ e=>e) (fun _=>rfl) oM Dx.o.1) (by omega)).mono ?_;rintro e w3 ⟨⟨v1,rfl,gJ⟩,dA⟩;obtain⟨g1,k1,rfl⟩:=bJ gJ;have yG:=(H.o.ext (Oy.o.trans dA)).blk;have d11:=yG.c 11 vl rfl;have e11:=yG.frozen 11;have z11:=yG.lt;have GG:=nQ.o.ext dA;have y2:=GG.c 2 (.slice fa2 fm.stack.length Gt) rfl;have n1:¬w1.heap.size=kb:=by omega
   have n2:¬kb=w1.heap.size:=by omega
   have jT:=Ys yG;have aaU:=Ys GG;have iL:=Ys dA;have TH:=Ys gJ;clear yG GG dA gJ;go_wp2_with fail;obtain⟨w4,qR⟩:∃w4,w4=w3.setCell ⟨kb,11,none⟩ (.slice g1 fm.locals.length k1):=⟨_,rfl⟩;have ni:Kp (·=kb) w3 w4:=by rw[qR];exact(Kp.refl (·=kb) w3).setCell (p:=⟨kb,11,none⟩) (fun _=>rfl) _
   have Bn:az w4 kb 111 (Hb l.L k m t at_ (.slice g1 fm.locals.length k1) vs):=by rw[qR];exact jT.o.bA 11 _
   rw[←qR];have acb:w3.heap.size≤w4.heap.size:=ni.size;have JL:SliceOf 2 eU w4 (· <l.O) (.slice fa2 fm.stack.length Gt) fm.stack:=(Dx.o.2.ext eU.stays iL.o).keep eU.stays (Kp.same ni (fun b hb e=>by omega)) (fun _ h=>h);refine(lK _ _ _ _ (SliceOf.toFlat (R:=eU) (fun _ _ _ _ e=>e) (fun _=>rfl) oM JL) (by omega)).mono ?_;rintro e w5 ⟨⟨v2,rfl,nE⟩,ed⟩;obtain⟨g2,k2,rfl⟩:=bJ nE;have jd:=Bn.ext ed;have d12:=jd.c 12 vs rfl;have e12:=jd.frozen 12;have z12:=jd.lt;have gJ:=TH.o;have xD:Kp (·=kb) w5 (w5.setCell ⟨kb,12,none⟩ (.slice g2 fm.stack.length k2)):=(Kp.refl (·=kb) w5).setCell (p:=⟨kb,12,none⟩) (fun _=>rfl) _;have G5:=Oy.o.size;have AO:=iL.o.size;have hF:=H.o.fresh (s':=⟨fm.locals,fm.stack⟩) (jd.bA 12 _) (((((Oy.o.trans iL.o).any (D:=(·=kb))).trans ni).trans ed.any).trans xD)
    (dJ (aA (aA (aA gJ ni (fun g hg hb e=>by omega)) ed (fun _ _ _ e=>e)) xD (fun g hg hb e=>by omega)) G5)
    (dJ (aA nE xD (fun g hg hb e=>by omega)) (by omega))
    (fun g h1 h2=>by have:=(gJ.lt g h1).2;have:=(nE.lt g h2).1;omega) hlen.1 hlen.2
   have Tw:=Ys hF;clear hF xD gJ nE jd ed JL Bn ni qR;go_wp2_with fail;((try simp only[Exit.inBlock,Exit.then]);(first|refine bodyPost_ret (results_none rfl _ _ _) rfl ?_|refine bodyPost_end (results_none rfl _ _ _) rfl ?_));exact⟨Tw.o.1,Tw.o.2.1,.inr ⟨_,HO.o,rfl,Tw.o.2.2⟩⟩
end Go.Proofs.YtohpiobncgafeaaGreatDoor
namespace Go.Proofs.YtohpiobncgafeaaGreatDoor
open Go Go.RowKit
section
variable {w w1 w2:World} {l:au} {p:M.ai} {B kb:Nat} {k:Int} {m:M.Method} {t:lJ} {at_:Int} {vl vs Ff vs1:Value} {o:Option M.gB} {e:Ending} {s':M.gB}
theorem aO.after(hK:Kp (fE l kb vl vs) w w1)(hO:bu w.heap.size vl vs Ff vs1)(h:aO w1 l p B kb k m t at_ Ff vs1 o e w2):aO w l p B kb k m t at_ vl vs o e w2:=
 ⟨hK.look h.1 hO,h.2.1,h.2.2.imp id fun⟨s',h1,h2,a,b,h3,h4⟩=>⟨s',h1,h2,a,b,h3,hO.trans h4 hK.size⟩⟩
theorem aO.behind(hE:Ext w w1)(h:aO w1 l p B kb k m t at_ vl vs o e w2):aO w l p B kb k m t at_ vl vs o e w2:=
 aO.after hE.any (bu.refl _ _ _) h
end
theorem qZ(w:World):Calls Tryz.prog 124 #[] w fun e w'=>e=.returned (.agg #[.int .i64 M.fB.kind,.string M.fB.name])∧Ext w w':=by
 go_enter Tryz.func124,Tryz.ntmps124;go_wp2;refine bodyPost_ret (aP sK rfl _ _ w.heap.size rfl [.int .i64 1,.string M.none_] (af.iV (az.new _ _ _)) rfl) rfl ?_;exact⟨rfl,kx⟩
theorem qQ(w:World)(n:ByteArray):Calls Tryz.prog 36 #[.string n] w fun e w'=>e=.returned (.agg #[.int .i64 (M.dC n).kind,.string (M.dC n).name])∧Ext w w':=by
 go_enter Tryz.func36,Tryz.ntmps36;go_wp2;refine bodyPost_ret (aP sK rfl _ _ w.heap.size rfl [.int .i64 2,.string n] (af.iV (az.new _ _ _)) rfl) rfl ?_;exact⟨rfl,kx⟩
theorem az.set2{w:World}{b:Nat}{t:TypeId}{u0 u1:Value}(h:az w b t #[u0,u1])(v0 v1:Value):az ((w.setCell ⟨b,0,none⟩ v0).setCell ⟨b,1,none⟩ v1) b t #[v0,v1]:=
 (h.bA 0 v0).bA 1 v1
theorem Kp.IX{D:Nat→Prop}{w w1:World}{b:Nat}(h:Kp D w w1)(hb:w.heap.size≤b)(v0 v1:Value):Kp D w ((w1.setCell ⟨b,0,none⟩ v0).setCell ⟨b,1,none⟩ v1):=
 h.own (D':=(·=b)) (((Kp.refl (·=b) w1).setCell (p:=⟨b,0,none⟩) (fun _=>rfl) v0).setCell (p:=⟨b,1,none⟩) (fun _=>rfl) v1) (fun k e=>by omega)
theorem vI(w:World)(x:M.Kind):Calls Tryz.prog 37 #[.agg #[.int .i64 x.kind,.string x.name]] w fun e w'=>e=.returned (.agg #[.int .i64 (M.dP x).kind,.string (M.dP x).name])∧Ext w w':=by
 obtain⟨xk,xn⟩:=x;obtain⟨w0,bN⟩:∃w0,w0=(w.alloc (.cells #[.int .i64 xk,.string xn] 25)).alloc (.cells #[.int .i64 0,.string ⟨#[]⟩] 112):=⟨_,rfl⟩;have aM:Ext w w0:=by rw[bN];exact kx
 have b1:az w0 w.heap.size 25 #[.int .i64 xk,.string xn]:=by rw[bN];exact(az.new _ _ _).ext kx
 have b2:az w0 (w.heap.size+1) 112 #[.int .i64 0,.string ⟨#[]⟩]:=by rw[bN];exact az.newAt _ _ (by simp)
 have dS:=Ys bN;have bW:=Ys aM;have BJ:=Ys b1;have uF:=Ys b2;clear bN aM b1 b2;cases hx:M.fV ⟨xk,xn⟩
 · have HT:Zs (M.dP ⟨xk,xn⟩=M.zP):=Ys (by unfold M.dP;rw[hx];rfl);have HX:=Ys hx;clear hx;go_enter Tryz.func37,Tryz.ntmps37;go_wp2_with fail;rw[←dS.o];refine(uX ⟨xk,xn⟩ _).mono ?_;rintro e w1 ⟨rfl,hE⟩;rw[HX.o];have iA:=uF.o.ext hE;have x0:=iA.c 0 (.int .i64 0) rfl;have x1:=iA.c 1 (.string ⟨#[]⟩) rfl;have f0:=iA.frozen 0;have f1:=iA.frozen 1;have z:=iA.lt;have Xk:=Ys iA;have eP:=Ys (bW.o.trans hE);clear hE iA;go_wp2_with fail;refine bodyPost_ret (aP sK rfl _ _ (w.heap.size+1) rfl [.int .i64 0,.string ⟨#[]⟩] (af.iV (Xk.o.set2 _ _)) rfl) rfl ?_;exact⟨by rw[HT.o];rfl,eP.o.IX (by omega) _ _⟩
 · have HT:Zs (M.dP ⟨xk,xn⟩=⟨xk,xn⟩):=Ys (by unfold M.dP;rw[hx];rfl);have HX:=Ys hx;clear hx;go_enter Tryz.func37,Tryz.ntmps37;go_wp2_with fail;rw[←dS.o];refine(uX ⟨xk,xn⟩ _).mono ?_;rintro e w1 ⟨rfl,hE⟩;rw[HX.o];have iA:=uF.o.ext hE;have p8:=BJ.o.ext hE;have y0:=p8.c 0 (.int .i64 xk) rfl;have y1:=p8.c 1 (.string xn) rfl;have x0:=iA.c 0 (.int .i64 0) rfl;have x1:=iA.c 1 (.string ⟨#[]⟩) rfl;have f0:=iA.frozen 0;have f1:=iA.frozen 1;have z:=iA.lt;have Xk:=Ys iA;have eP:=Ys (bW.o.trans hE);clear hE iA p8;go_wp2_with fail;refine bodyPost_ret (aP sK rfl _ _ (w.heap.size+1) rfl [.int .i64 xk,.string xn] (af.iV (Xk.o.set2 _ _)) rfl) rfl ?_;exact⟨by rw[HT.o],eP.o.IX (by omega) _ _⟩
theorem NB(w:World)(l:au)(p:M.ai)(B kb:Nat)(k:Int)(m:M.Method)(t:lJ)(at_:Int)(s:M.gB)(vl vs:Value)(h:aD w l p B kb k m t at_ s vl vs)(i:M.Ins)(dL:i.op=1):
    Calls Tryz.prog 79 #[.pointer (some ⟨kb,0,none⟩),.agg #[.int .i64 i.op,.int .i64 i.a,.string i.name,.string i.member]] w (aO w l p B kb k m t at_ vl vs (M.aQ p k m i s)):=by
 have HO:Zs (M.aQ p k m i s=M.fF m M.fB s):=Ys (by unfold M.aQ;rw[dL];rfl);have H:=Ys h;clear h dL;go_enter Tryz.func79,Tryz.ntmps79;go_wp2_with fail;refine(qZ _).mono ?_;rintro e w1 ⟨rfl,aZ⟩;have eP:Zs (Ext w w1):=Ys ((kx:Ext w _).trans aZ);clear aZ;go_wp2_with fail;refine(jq _ _ _ _ _ _ _ _ _ _ _ _ (H.o.ext eP.o) M.fB).mono ?_;rintro e w2 aI;rw[←HO.o]at aI;have HZ:=Ys (aO.behind eP.o aI);rcases aI.2.2 with⟨-,rfl⟩|⟨s', -,rfl, -⟩
 · exact⟨rfl,HZ.o⟩
 · clear aI;go_wp2_with fail;((try simp only[Exit.inBlock,Exit.then]);(first|refine bodyPost_ret (results_none rfl _ _ _) rfl ?_|refine bodyPost_end (results_none rfl _ _ _) rfl ?_));exact HZ.o
end Go.Proofs.YtohpiobncgafeaaGreatDoor
namespace Go.Proofs.YtohpiobncgafeaaGreatDoor
open Go Go.RowKit
theorem aD.gQ{w:World}{l:au}{p:M.ai}{B kb:Nat}{k:Int}{m:M.Method}{t:lJ}{at_:Int}{s:M.gB}{vl vs:Value}(h:aD w l p B kb k m t at_ s vl vs):¬fE l kb vl vs w.heap.size:=by
 have h1:=h.blk.lt;have h2:=h.cu.ord;have h3:=h.hB;have h4:=h.hk;rintro(e|e|e|e)
 · omega
 · omega
 · have:=(h.loc.lt _ e).2;omega
 · have:=(h.bQ.lt _ e).2;omega
theorem Nw(w:World)(l:au)(p:M.ai)(B kb:Nat)(k:Int)(m:M.Method)(t:lJ)(at_:Int)(s:M.gB)(vl vs:Value)(h:aD w l p B kb k m t at_ s vl vs)(i:M.Ins)(dL:i.op=4):
    Calls Tryz.prog 82 #[.pointer (some ⟨kb,0,none⟩),.agg #[.int .i64 i.op,.int .i64 i.a,.string i.name,.string i.member]] w (aO w l p B kb k m t at_ vl vs (M.aQ p k m i s)):=by
 have HO:Zs (M.aQ p k m i s=(M.gG p k M.fB s).bind fun s1=>(M.gG p k M.fB s1).bind (M.fF m M.fB)):=Ys (by unfold M.aQ;rw[dL];rfl);obtain⟨w0,bN,aM,b3⟩:=nu w #[.int .i64 i.op,.int .i64 i.a,.string i.name,.string i.member] 30;have dS:=Ys bN;have HA:=Ys (h.ext aM);have HK:Zs (Kp (fE l kb vl vs) w0 w0):=Ys (Kp.refl _ _);have HS:=Ys (bu.refl w0.heap.size vl vs);have bW:=Ys aM;have gW:=Ys b3;have zZ:=h.blk.lt;have rD:¬fE l kb vl vs w.heap.size:=aD.gQ h;clear dL h aM b3 bN;go_enter Tryz.func82,Tryz.ntmps82;go_wp2_with fail;rw[←dS.o];refine(qZ _).mono ?_;rintro e w1 ⟨rfl,hE⟩;replace HA:=Ys (HA.o.ext hE);replace HK:=Ys (HK.o.trans hE.any);clear hE;go_wp2_with fail;refine(fo _ _ _ _ _ _ _ _ _ _ _ _ HA.o M.fB).mono ?_;rintro e w2 aI;replace aI:=aO.after HK.o HS.o aI;rcases aI with⟨hK,hL,⟨ho,rfl⟩|⟨s2,ho,rfl,I7,vs2,hA,hO⟩⟩
 · exact⟨rfl,aO.behind bW.o ⟨hK,hL,.inl ⟨by rw[HO.o,ho];try rfl,rfl⟩⟩⟩
 replace HO:Zs (M.aQ p k m i s=(M.gG p k M.fB s2).bind (M.fF m M.fB)):=Ys (by rw[HO.o,ho];try rfl);replace HA:=Ys hA;replace HK:=Ys hK;replace HS:=Ys hO;clear hA hK hO hL ho;go_wp2_with fail;refine(qZ _).mono ?_;rintro e w3 ⟨rfl,hE⟩;replace HA:=Ys (HA.o.ext hE);replace HK:=Ys (HK.o.trans hE.any);clear hE;go_wp2_with fail;refine(fo _ _ _ _ _ _ _ _ _ _ _ _ HA.o M.fB).mono ?_;rintro e w4 aI;replace aI:=aO.after HK.o HS.o aI;rcases aI with⟨hK,hL,⟨ho,rfl⟩|⟨s4,ho,rfl,vl4,vs4,hA,hO⟩⟩
 · exact⟨rfl,aO.behind bW.o ⟨hK,hL,.inl ⟨by rw[HO.o,ho];try rfl,rfl⟩⟩⟩
 replace HO:Zs (M.aQ p k m i s=M.fF m M.fB s4):=Ys (by rw[HO.o,ho];try rfl);replace HA:=Ys hA;replace HK:=Ys hK;replace HS:=Ys hO;clear hA hK hO hL ho;go_wp2_with fail;refine(qZ _).mono ?_;rintro e w5 ⟨rfl,hE⟩;replace HA:=Ys (HA.o.ext hE);replace HK:=Ys (HK.o.trans hE.any);clear hE;go_wp2_with fail;refine(jq _ _ _ _ _ _ _ _ _ _ _ _ HA.o M.fB).mono ?_;rintro e w6 aI;replace aI:=aO.after HK.o HS.o aI;rcases aI with⟨hK,hL,⟨ho,rfl⟩|⟨s6,ho,rfl,vl6,vs6,hA,hO⟩⟩
 · exact⟨rfl,aO.behind bW.o ⟨hK,hL,.inl ⟨by rw[HO.o,ho];try rfl,rfl⟩⟩⟩
 replace HO:Zs (M.aQ p k m i s=some s6):=Ys (by rw[HO.o,ho];try rfl);replace HA:=Ys hA;replace HK:=Ys hK;replace HS:=Ys hO;clear hA hK hO hL ho;go_wp2_with fail;((try simp only[Exit.inBlock,Exit.then]);(first|refine bodyPost_ret (results_none rfl _ _ _) rfl ?_|refine bodyPost_end (results_none rfl _ _ _) rfl ?_));exact aO.behind bW.o ⟨HK.o,HA.o.cu,.inr ⟨_,HO.o,rfl,_,_,HA.o,HS.o⟩⟩
theorem J9(w:World)(l:au)(p:M.ai)(B kb:Nat)(k:Int)(m:M.Method)(t:lJ)(at_:Int)(s:M.gB)(vl vs:Value)(h:aD w l p B kb k m t at_ s vl vs)(i:M.Ins)(dL:i.op=5):
    Calls Tryz.prog 83 #[.pointer (some ⟨kb,0,none⟩),.agg #[.int .i64 i.op,.int .i64 i.a,.string i.name,.string i.member]] w (aO w l p B kb k m t at_ vl vs (M.aQ p k m i s)):=by
 have HO:Zs (M.aQ p k m i s=M.fF m M.Dc s):=Ys (by unfold M.aQ;rw[dL];rfl);obtain⟨w0,bN,aM,b3⟩:=nu w #[.int .i64 i.op,.int .i64 i.a,.string i.name,.string i.member] 30;have dS:=Ys bN;have HA:=Ys (h.ext aM);have HK:Zs (Kp (fE l kb vl vs) w0 w0):=Ys (Kp.refl _ _);have HS:=Ys (bu.refl w0.heap.size vl vs);have bW:=Ys aM;have gW:=Ys b3;have zZ:=h.blk.lt;have rD:¬fE l kb vl vs w.heap.size:=aD.gQ h;clear dL h aM b3 bN;go_enter Tryz.func83,Tryz.ntmps83;go_wp2_with fail;rw[←dS.o];refine(jq _ _ _ _ _ _ _ _ _ _ _ _ HA.o M.Dc).mono ?_;rintro e w1 aI;replace aI:=aO.after HK.o HS.o aI;rcases aI with⟨hK,hL,⟨ho,rfl⟩|⟨s1,ho,rfl,Ff,vs1,hA,hO⟩⟩
 · exact⟨rfl,aO.behind bW.o ⟨hK,hL,.inl ⟨by rw[HO.o,ho];try rfl,rfl⟩⟩⟩
 replace HO:Zs (M.aQ p k m i s=some s1):=Ys (by rw[HO.o,ho];try rfl);replace HA:=Ys hA;replace HK:=Ys hK;replace HS:=Ys hO;clear hA hK hO hL ho;go_wp2_with fail;((try simp only[Exit.inBlock,Exit.then]);(first|refine bodyPost_ret (results_none rfl _ _ _) rfl ?_|refine bodyPost_end (results_none rfl _ _ _) rfl ?_));exact aO.behind bW.o ⟨HK.o,HA.o.cu,.inr ⟨_,HO.o,rfl,_,_,HA.o,HS.o⟩⟩
theorem NA(w:World)(l:au)(p:M.ai)(B kb:Nat)(k:Int)(m:M.Method)(t:lJ)(at_:Int)(s:M.gB)(vl vs:Value)(h:aD w l p B kb k m t at_ s vl vs)(i:M.Ins)(dL:i.op=6):
    Calls Tryz.prog 84 #[.pointer (some ⟨kb,0,none⟩),.agg #[.int .i64 i.op,.int .i64 i.a,.string i.name,.string i.member]] w (aO w l p B kb k m t at_ vl vs (M.aQ p k m i s)):=by
 have HO:Zs (M.aQ p k m i s=M.fF m (M.dC i.name) s):=Ys (by unfold M.aQ;rw[dL];rfl);obtain⟨w0,bN,aM,b3⟩:=nu w #[.int .i64 i.op,.int .i64 i.a,.string i.name,.string i.member] 30;have dS:=Ys bN;have HA:=Ys (h.ext aM);have HK:Zs (Kp (fE l kb vl vs) w0 w0):=Ys (Kp.refl _ _);have HS:=Ys (bu.refl w0.heap.size vl vs);have bW:=Ys aM;have gW:=Ys b3;have zZ:=h.blk.lt;have rD:¬fE l kb vl vs w.heap.size:=aD.gQ h;have y2:=b3.c 2 (.string i.name) rfl;clear dL h aM b3 bN;go_enter Tryz.func84,Tryz.ntmps84;go_wp2_with fail;rw[←dS.o];refine(qQ _ i.name).mono ?_;rintro e w1 ⟨rfl,hE⟩;replace HA:=Ys (HA.o.ext hE);replace HK:=Ys (HK.o.trans hE.any);clear hE;go_wp2_with fail;refine(jq _ _ _ _ _ _ _ _ _ _ _ _ HA.o (M.dC i.name)).mono ?_;rintro e w2 aI;replace aI:=aO.after HK.o HS.o aI;rcases aI with⟨hK,hL,⟨ho,rfl⟩|⟨s2,ho,rfl,I7,vs2,hA,hO⟩⟩
 · exact⟨rfl,aO.behind bW.o ⟨hK,hL,.inl ⟨by rw[HO.o,ho];try rfl,rfl⟩⟩⟩
 replace HO:Zs (M.aQ p k m i s=some s2):=Ys (by rw[HO.o,ho];try rfl);replace HA:=Ys hA;replace HK:=Ys hK;replace HS:=Ys hO;clear hA hK hO hL ho;go_wp2_with fail;((try simp only[Exit.inBlock,Exit.then]);(first|refine bodyPost_ret (results_none rfl _ _ _) rfl ?_|refine bodyPost_end (results_none rfl _ _ _) rfl ?_));exact aO.behind bW.o ⟨HK.o,HA.o.cu,.inr ⟨_,HO.o,rfl,_,_,HA.o,HS.o⟩⟩
theorem NC(w:World)(l:au)(p:M.ai)(B kb:Nat)(k:Int)(m:M.Method)(t:lJ)(at_:Int)(s:M.gB)(vl vs:Value)(h:aD w l p B kb k m t at_ s vl vs)(i:M.Ins)(dL:i.op=14):
    Calls Tryz.prog 92 #[.pointer (some ⟨kb,0,none⟩),.agg #[.int .i64 i.op,.int .i64 i.a,.string i.name,.string i.member]] w (aO w l p B kb k m t at_ vl vs (M.aQ p k m i s)):=by
 have HO:Zs (M.aQ p k m i s=M.gG p k M.fB s):=Ys (by unfold M.aQ;rw[dL];rfl);obtain⟨w0,bN,aM,b3⟩:=nu w #[.int .i64 i.op,.int .i64 i.a,.string i.name,.string i.member] 30;have dS:=Ys bN;have HA:=Ys (h.ext aM);have HK:Zs (Kp (fE l kb vl vs) w0 w0):=Ys (Kp.refl _ _);have HS:=Ys (bu.refl w0.heap.size vl vs);have bW:=Ys aM;have gW:=Ys b3;have zZ:=h.blk.lt;have rD:¬fE l kb vl vs w.heap.size:=aD.gQ h;clear dL h aM b3 bN;go_enter Tryz.func92,Tryz.ntmps92;go_wp2_with fail;rw[←dS.o];refine(qZ _).mono ?_;rintro e w1 ⟨rfl,hE⟩;replace HA:=Ys (HA.o.ext hE);replace HK:=Ys (HK.o.trans hE.any);clear hE;go_wp2_with fail;refine(fo _ _ _ _ _ _ _ _ _ _ _ _ HA.o M.fB).mono ?_;rintro e w2 aI;replace aI:=aO.after HK.o HS.o aI;rcases aI with⟨hK,hL,⟨ho,rfl⟩|⟨s2,ho,rfl,I7,vs2,hA,hO⟩⟩
 · exact⟨rfl,aO.behind bW.o ⟨hK,hL,.inl ⟨by rw[HO.o,ho];try rfl,rfl⟩⟩⟩
 replace HO:Zs (M.aQ p k m i s=some s2):=Ys (by rw[HO.o,ho];try rfl);replace HA:=Ys hA;replace HK:=Ys hK;replace HS:=Ys hO;clear hA hK hO hL ho;go_wp2_with fail;((try simp only[Exit.inBlock,Exit.then]);(first|refine bodyPost_ret (results_none rfl _ _ _) rfl ?_|refine bodyPost_end (results_none rfl _ _ _) rfl ?_));exact aO.behind bW.o ⟨HK.o,HA.o.cu,.inr ⟨_,HO.o,rfl,_,_,HA.o,HS.o⟩⟩
theorem QM(w:World)(l:au)(p:M.ai)(B kb:Nat)(k:Int)(m:M.Method)(t:lJ)(at_:Int)(s:M.gB)(vl vs:Value)(h:aD w l p B kb k m t at_ s vl vs)(i:M.Ins)(dL:i.op=13):
    Calls Tryz.prog 91 #[.pointer (some ⟨kb,0,none⟩),.agg #[.int .i64 i.op,.int .i64 i.a,.string i.name,.string i.member]] w (aO w l p B kb k m t at_ vl vs (M.aQ p k m i s)):=by
 have HO:Zs (M.aQ p k m i s=M.fw p k m i.a s):=Ys (by unfold M.aQ;rw[dL];rfl);obtain⟨w0,bN,aM,b3⟩:=nu w #[.int .i64 i.op,.int .i64 i.a,.string i.name,.string i.member] 30;have dS:=Ys bN;have HA:=Ys (h.ext aM);have HK:Zs (Kp (fE l kb vl vs) w0 w0):=Ys (Kp.refl _ _);have HS:=Ys (bu.refl w0.heap.size vl vs);have bW:=Ys aM;have gW:=Ys b3;have zZ:=h.blk.lt;have rD:¬fE l kb vl vs w.heap.size:=aD.gQ h;have y1:=b3.c 1 (.int .i64 i.a) rfl;have adB:=b3.lt;clear dL h aM b3 bN;go_enter Tryz.func91,Tryz.ntmps91;go_wp2_with fail;rw[←dS.o];refine(qD _ _ _ _ _ _ _ _ _ _ _ _ HA.o i.a).mono ?_;rintro e w1 aI;replace aI:=aO.after HK.o HS.o aI;rcases aI with⟨hK,hL,⟨ho,rfl⟩|⟨s1,ho,rfl,Ff,vs1,hA,hO⟩⟩
 · exact⟨rfl,aO.behind bW.o ⟨hK,hL,.inl ⟨by rw[HO.o,ho];try rfl,rfl⟩⟩⟩
 replace HO:Zs (M.aQ p k m i s=some s1):=Ys (by rw[HO.o,ho];try rfl);replace HA:=Ys hA;replace HK:=Ys hK;replace HS:=Ys hO;clear hA hK hO hL ho;go_wp2_with fail;((try simp only[Exit.inBlock,Exit.then]);(first|refine bodyPost_ret (results_none rfl _ _ _) rfl ?_|refine bodyPost_end (results_none rfl _ _ _) rfl ?_));exact aO.behind bW.o ⟨HK.o,HA.o.cu,.inr ⟨_,HO.o,rfl,_,_,HA.o,HS.o⟩⟩
theorem Ka(w:World)(l:au)(p:M.ai)(B kb:Nat)(k:Int)(m:M.Method)(t:lJ)(at_:Int)(s:M.gB)(vl vs:Value)(h:aD w l p B kb k m t at_ s vl vs)(i:M.Ins)(dL:i.op=11):
    Calls Tryz.prog 89 #[.pointer (some ⟨kb,0,none⟩),.agg #[.int .i64 i.op,.int .i64 i.a,.string i.name,.string i.member]] w (aO w l p B kb k m t at_ vl vs (M.aQ p k m i s)):=by
 have HO:Zs (M.aQ p k m i s=(M.gG p k M.fB s).bind (M.fw p k m i.a)):=Ys (by unfold M.aQ;rw[dL];rfl);obtain⟨w0,bN,aM,b3⟩:=nu w #[.int .i64 i.op,.int .i64 i.a,.string i.name,.string i.member] 30;have dS:=Ys bN;have HA:=Ys (h.ext aM);have HK:Zs (Kp (fE l kb vl vs) w0 w0):=Ys (Kp.refl _ _);have HS:=Ys (bu.refl w0.heap.size vl vs);have bW:=Ys aM;have gW:=Ys b3;have zZ:=h.blk.lt;have rD:¬fE l kb vl vs w.heap.size:=aD.gQ h;clear dL h aM b3 bN;go_enter Tryz.func89,Tryz.ntmps89;go_wp2_with fail;rw[←dS.o];refine(qZ _).mono ?_;rintro e w1 ⟨rfl,hE⟩;replace HA:=Ys (HA.o.ext hE);replace HK:=Ys (HK.o.trans hE.any);clear hE;go_wp2_with fail;refine(fo _ _ _ _ _ _ _ _ _ _ _ _ HA.o M.fB).mono ?_;rintro e w2 aI;replace aI:=aO.after HK.o HS.o aI;rcases aI with⟨hK,hL,⟨ho,rfl⟩|⟨s2,ho,rfl,I7,vs2,hA,hO⟩⟩
 · exact⟨rfl,aO.behind bW.o ⟨hK,hL,.inl ⟨by rw[HO.o,ho];try rfl,rfl⟩⟩⟩
 replace HO:Zs (M.aQ p k m i s=M.fw p k m i.a s2):=Ys (by rw[HO.o,ho];try rfl);replace HA:=Ys hA;replace HK:=Ys hK;replace HS:=Ys hO;clear hA hK hO hL ho;have y1:=(gW.o.kp HK.o rD).c 1 (.int .i64 i.a) rfl;go_wp2_with fail;refine(qD _ _ _ _ _ _ _ _ _ _ _ _ HA.o i.a).mono ?_;rintro e w3 aI;replace aI:=aO.after HK.o HS.o aI;rcases aI with⟨hK,hL,⟨ho,rfl⟩|⟨s3,ho,rfl,WK,vs3,hA,hO⟩⟩
 · exact⟨rfl,aO.behind bW.o ⟨hK,hL,.inl ⟨by rw[HO.o,ho];try rfl,rfl⟩⟩⟩
 replace HO:Zs (M.aQ p k m i s=some s3):=Ys (by rw[HO.o,ho];try rfl);replace HA:=Ys hA;replace HK:=Ys hK;replace HS:=Ys hO;clear hA hK hO hL ho;go_wp2_with fail;((try simp only[Exit.inBlock,Exit.then]);(first|refine bodyPost_ret (results_none rfl _ _ _) rfl ?_|refine bodyPost_end (results_none rfl _ _ _) rfl ?_));exact aO.behind bW.o ⟨HK.o,HA.o.cu,.inr ⟨_,HO.o,rfl,_,_,HA.o,HS.o⟩⟩
theorem Hj(w:World)(l:au)(p:M.ai)(B kb:Nat)(k:Int)(m:M.Method)(t:lJ)(at_:Int)(s:M.gB)(vl vs:Value)(h:aD w l p B kb k m t at_ s vl vs)(i:M.Ins)(dL:i.op=12):
    Calls Tryz.prog 90 #[.pointer (some ⟨kb,0,none⟩),.agg #[.int .i64 i.op,.int .i64 i.a,.string i.name,.string i.member]] w (aO w l p B kb k m t at_ vl vs (M.aQ p k m i s)):=by
 have HO:Zs (M.aQ p k m i s=(M.qA s).bind (M.fw p k m i.a)):=Ys (by unfold M.aQ;rw[dL];rfl);obtain⟨w0,bN,aM,b3⟩:=nu w #[.int .i64 i.op,.int .i64 i.a,.string i.name,.string i.member] 30;have dS:=Ys bN;have HA:=Ys (h.ext aM);have HK:Zs (Kp (fE l kb vl vs) w0 w0):=Ys (Kp.refl _ _);have HS:=Ys (bu.refl w0.heap.size vl vs);have bW:=Ys aM;have gW:=Ys b3;have zZ:=h.blk.lt;have rD:¬fE l kb vl vs w.heap.size:=aD.gQ h;clear dL h aM b3 bN;go_enter Tryz.func90,Tryz.ntmps90;go_wp2_with fail;rw[←dS.o];refine(pK _ _ _ _ _ _ _ _ _ _ _ _ HA.o).mono ?_;rintro e w1 aI;replace aI:=aO.after HK.o HS.o aI;rcases aI with⟨hK,hL,⟨ho,rfl⟩|⟨s1,ho,rfl,Ff,vs1,hA,hO⟩⟩
 · exact⟨rfl,aO.behind bW.o ⟨hK,hL,.inl ⟨by rw[HO.o,ho];try rfl,rfl⟩⟩⟩
 replace HO:Zs (M.aQ p k m i s=M.fw p k m i.a s1):=Ys (by rw[HO.o,ho];try rfl);replace HA:=Ys hA;replace HK:=Ys hK;replace HS:=Ys hO;clear hA hK hO hL ho;have y1:=(gW.o.kp HK.o rD).c 1 (.int .i64 i.a) rfl;go_wp2_with fail;refine(qD _ _ _ _ _ _ _ _ _ _ _ _ HA.o i.a).mono ?_;rintro e w2 aI;replace aI:=aO.after HK.o HS.o aI;rcases aI with⟨hK,hL,⟨ho,rfl⟩|⟨s2,ho,rfl,I7,vs2,hA,hO⟩⟩
 · exact⟨rfl,aO.behind bW.o ⟨hK,hL,.inl ⟨by rw[HO.o,ho];try rfl,rfl⟩⟩⟩
 replace HO:Zs (M.aQ p k m i s=some s2):=Ys (by rw[HO.o,ho];try rfl);replace HA:=Ys hA;replace HK:=Ys hK;replace HS:=Ys hO;clear hA hK hO hL ho;go_wp2_with fail;((try simp only[Exit.inBlock,Exit.then]);(first|refine bodyPost_ret (results_none rfl _ _ _) rfl ?_|refine bodyPost_end (results_none rfl _ _ _) rfl ?_));exact aO.behind bW.o ⟨HK.o,HA.o.cu,.inr ⟨_,HO.o,rfl,_,_,HA.o,HS.o⟩⟩
theorem J6(w:World)(l:au)(p:M.ai)(B kb:Nat)(k:Int)(m:M.Method)(t:lJ)(at_:Int)(s:M.gB)(vl vs:Value)(h:aD w l p B kb k m t at_ s vl vs)(i:M.Ins)(dL:i.op=15):
    Calls Tryz.prog 93 #[.pointer (some ⟨kb,0,none⟩),.agg #[.int .i64 i.op,.int .i64 i.a,.string i.name,.string i.member]] w (aO w l p B kb k m t at_ vl vs (M.aQ p k m i s)):=by
 have HO:Zs (M.aQ p k m i s=(M.qA s).bind (M.fF m (M.dC i.name))):=Ys (by unfold M.aQ;rw[dL];rfl);obtain⟨w0,bN,aM,b3⟩:=nu w #[.int .i64 i.op,.int .i64 i.a,.string i.name,.string i.member] 30;have dS:=Ys bN;have HA:=Ys (h.ext aM);have HK:Zs (Kp (fE l kb vl vs) w0 w0):=Ys (Kp.refl _ _);have HS:=Ys (bu.refl w0.heap.size vl vs);have bW:=Ys aM;have gW:=Ys b3;have zZ:=h.blk.lt;have rD:¬fE l kb vl vs w.heap.size:=aD.gQ h;clear dL h aM b3 bN;go_enter Tryz.func93,Tryz.ntmps93;go_wp2_with fail;rw[←dS.o];refine(pK _ _ _ _ _ _ _ _ _ _ _ _ HA.o).mono ?_;rintro e w1 aI;replace aI:=aO.after HK.o HS.o aI;rcases aI with⟨hK,hL,⟨ho,rfl⟩|⟨s1,ho,rfl,Ff,vs1,hA,hO⟩⟩
 · exact⟨rfl,aO.behind bW.o ⟨hK,hL,.inl ⟨by rw[HO.o,ho];try rfl,rfl⟩⟩⟩
 replace HO:Zs (M.aQ p k m i s=M.fF m (M.dC i.name) s1):=Ys (by rw[HO.o,ho];try rfl);replace HA:=Ys hA;replace HK:=Ys hK;replace HS:=Ys hO;clear hA hK hO hL ho;have y2:=(gW.o.kp HK.o rD).c 2 (.string i.name) rfl;go_wp2_with fail;refine(qQ _ i.name).mono ?_;rintro e w2 ⟨rfl,hE⟩;replace HA:=Ys (HA.o.ext hE);replace HK:=Ys (HK.o.trans hE.any);clear hE;go_wp2_with fail;refine(jq _ _ _ _ _ _ _ _ _ _ _ _ HA.o (M.dC i.name)).mono ?_;rintro e w3 aI;replace aI:=aO.after HK.o HS.o aI;rcases aI with⟨hK,hL,⟨ho,rfl⟩|⟨s3,ho,rfl,WK,vs3,hA,hO⟩⟩
 · exact⟨rfl,aO.behind bW.o ⟨hK,hL,.inl ⟨by rw[HO.o,ho];try rfl,rfl⟩⟩⟩
 replace HO:Zs (M.aQ p k m i s=some s3):=Ys (by rw[HO.o,ho];try rfl);replace HA:=Ys hA;replace HK:=Ys hK;replace HS:=Ys hO;clear hA hK hO hL ho;go_wp2_with fail;((try simp only[Exit.inBlock,Exit.then]);(first|refine bodyPost_ret (results_none rfl _ _ _) rfl ?_|refine bodyPost_end (results_none rfl _ _ _) rfl ?_));exact aO.behind bW.o ⟨HK.o,HA.o.cu,.inr ⟨_,HO.o,rfl,_,_,HA.o,HS.o⟩⟩
theorem NF(w:World)(l:au)(p:M.ai)(B kb:Nat)(k:Int)(m:M.Method)(t:lJ)(at_:Int)(s:M.gB)(vl vs:Value)(h:aD w l p B kb k m t at_ s vl vs)(i:M.Ins)(dL:i.op=10):
    Calls Tryz.prog 88 #[.pointer (some ⟨kb,0,none⟩),.agg #[.int .i64 i.op,.int .i64 i.a,.string i.name,.string i.member]] w (aO w l p B kb k m t at_ vl vs (M.aQ p k m i s)):=by
 have HO:Zs (M.aQ p k m i s=M.gG p k (M.dP m.ret) s):=Ys (by unfold M.aQ;rw[dL];rfl);obtain⟨w0,bN,aM,b3⟩:=nu w #[.int .i64 i.op,.int .i64 i.a,.string i.name,.string i.member] 30;have dS:=Ys bN;have HA:=Ys (h.ext aM);have HK:Zs (Kp (fE l kb vl vs) w0 w0):=Ys (Kp.refl _ _);have HS:=Ys (bu.refl w0.heap.size vl vs);have bW:=Ys aM;have gW:=Ys b3;have zZ:=h.blk.lt;have rD:¬fE l kb vl vs w.heap.size:=aD.gQ h;have y4:=h.blk.c 4 (.int .i64 m.ret.kind) rfl;have y5:=h.blk.c 5 (.string m.ret.name) rfl;clear dL h aM b3 bN;go_enter Tryz.func88,Tryz.ntmps88;go_wp2_with fail;rw[←dS.o];refine(vI _ m.ret).mono ?_;rintro e w1 ⟨rfl,hE⟩;replace HA:=Ys (HA.o.ext hE);replace HK:=Ys (HK.o.trans hE.any);clear hE;go_wp2_with fail;refine(fo _ _ _ _ _ _ _ _ _ _ _ _ HA.o (M.dP m.ret)).mono ?_;rintro e w2 aI;replace aI:=aO.after HK.o HS.o aI;rcases aI with⟨hK,hL,⟨ho,rfl⟩|⟨s2,ho,rfl,I7,vs2,hA,hO⟩⟩
 · exact⟨rfl,aO.behind bW.o ⟨hK,hL,.inl ⟨by rw[HO.o,ho];try rfl,rfl⟩⟩⟩
 replace HO:Zs (M.aQ p k m i s=some s2):=Ys (by rw[HO.o,ho];try rfl);replace HA:=Ys hA;replace HK:=Ys hK;replace HS:=Ys hO;clear hA hK hO hL ho;go_wp2_with fail;((try simp only[Exit.inBlock,Exit.then]);(first|refine bodyPost_ret (results_none rfl _ _ _) rfl ?_|refine bodyPost_end (results_none rfl _ _ _) rfl ?_));exact aO.behind bW.o ⟨HK.o,HA.o.cu,.inr ⟨_,HO.o,rfl,_,_,HA.o,HS.o⟩⟩
theorem NH(w:World)(l:au)(p:M.ai)(B kb:Nat)(k:Int)(m:M.Method)(t:lJ)(at_:Int)(s:M.gB)(vl vs:Value)(h:aD w l p B kb k m t at_ s vl vs)(i:M.Ins)(dL:i.op=2)(ha:0≤i.a∧i.a<m.locals):
    Calls Tryz.prog 80 #[.pointer (some ⟨kb,0,none⟩),.agg #[.int .i64 i.op,.int .i64 i.a,.string i.name,.string i.member]] w (aO w l p B kb k m t at_ vl vs (M.aQ p k m i s)):=by
 have HO:Zs (M.aQ p k m i s=(s.locals[i.a.toNat]?).bind fun t=>if t.kind=0 then none else M.fF m t s):=Ys (by unfold M.aQ;rw[dL];rfl);obtain⟨op,a,nm,mb⟩:=i;dsimp only at dL ha HO;obtain⟨q,rfl⟩:∃q:Nat,a=q:=⟨a.toNat,by omega⟩;have Vj:q<s.locals.length:=by have:=h.NI;omega
 obtain⟨x,hx⟩:=gH s.locals q Vj;replace HO:Zs (M.aQ p k m ⟨op,q,nm,mb⟩ s=if x.kind=0 then none else M.fF m x s):=Ys (by rw[HO.o,Int.toNat_natCast,hx];rfl);obtain⟨w0,bN,aM,b3⟩:=nu w #[.int .i64 op,.int .i64 q,.string nm,.string mb] 30;have hA:=h.ext aM;have lY:=hA.loc;obtain⟨lg,K6,U9,IL,JH,Wt⟩:=aX lY (by omega);subst U9;obtain⟨x0,x1⟩:=(dG (enc:=gZ) (k:=2) (fun _=>rfl) lY hx).two;obtain⟨T,f,dm,HT⟩:=gy.ex (fun W'=>Ext w0 W') _ (Kp.refl _ _);have e11:=fun z=>(hA.blk.ext (HT.aK z)).c 11 (.slice (some ⟨lg,0,none⟩) s.locals.length K6) rfl;have e1:=fun z=>(b3.ext (HT.aK z)).c 1 (.int .i64 q) rfl;have e2:=fun z=>(HT.aK z).aJ x0;have e3:=fun z=>(HT.aK z).aJ x1;have Vh:(q:Int)<s.locals.length:=by omega
 have ou:=h.ou;have hz:=h.blk.lt;have ax:=Ys HT;have dS:=Ys bN;have bW:=Ys aM;have HA:=Ys hA;clear h dL hx bN aM b3 hA lY HT x0 x1 ha;have Bo:(x.kind==0)=true∨(x.kind==0)=false:=by cases (x.kind==0)<;>simp
 go_enter Tryz.func80,Tryz.ntmps80;go_wp2_with fail;rw[←dS.o];(refine dQ ax 9 [([0,1,2,3,4,5,6,7],8)] [] ?_ ?_)
 · exact(Kp.refl _ _).drew
 (refine dn [_,_,_,_,_,_,_,_] rfl rfl fun K hK=>?_);(repeat (go_big_quiet_step (fail)));(refine qn hK fun K2 ag=>?_);clear hK K;go_wp2_with fail;(refine kk ax ag kx ?_);clear ag K2;(refine dD ?_);go_wp2_with fail
 · clear Bo e11 e1 e2 e3;have hx0:(x.kind==0)=true:=by assumption
   replace HO:Zs (M.aQ p k m ⟨op,q,nm,mb⟩ s=none):=Ys (by rw[HO.o,if_pos (by simpa using hx0)]);have KQ:=HA.o.ext (kx:Ext w0 ((w0.alloc (.cells #[.int .i64 x.kind,.string x.name] 112)).drew));refine(dW _ kb at_ (KQ.blk.c 10 _ rfl) ou.1 (by omega)).mono ?_;rintro e w3 ⟨rfl,rfl⟩;exact⟨rfl,aO.behind bW.o ⟨(kx:Ext w0 ((w0.alloc (.cells #[.int .i64 x.kind,.string x.name] 112)).drew)).any,KQ.cu,.inl ⟨HO.o,rfl⟩⟩⟩
 · clear Bo e11 e1 e2 e3;have hx0:(x.kind==0)=false:=by assumption
   replace HO:Zs (M.aQ p k m ⟨op,q,nm,mb⟩ s=M.fF m x s):=Ys (by rw[HO.o,if_neg (by simpa using hx0)]);have iL:Zs (Ext w0 ((w0.alloc (.cells #[.int .i64 x.kind,.string x.name] 112)).drew)):=Ys kx;refine(jq _ _ _ _ _ _ _ _ _ _ _ _ (HA.o.ext iL.o) x).mono ?_;rintro e w2 aI;replace aI:=aO.behind (bW.o.trans iL.o) aI;rw[←HO.o]at aI;have HZ:=Ys aI;rcases aI.2.2 with⟨-,rfl⟩|⟨s', -,rfl, -⟩
   · exact⟨rfl,HZ.o⟩
   · clear aI;go_wp2_with fail;((try simp only[Exit.inBlock,Exit.then]);(first|refine bodyPost_ret (results_none rfl _ _ _) rfl ?_|refine bodyPost_end (results_none rfl _ _ _) rfl ?_));exact HZ.o
theorem Js:∀(ls:List M.Tag) (q:Nat) (x:M.Tag),((ls.flatMap gZ).set (q*2) (.int .i64 x.kind)).set (q*2+1) (.string x.name)=(ls.set q x).flatMap gZ:=by
 intro ls;induction ls with
 |nil=>intro q x;rfl
 | cons y r ih =>
  intro q x;cases q with
  |zero=>simp[gZ]
  |succ q=>
   have:=ih q x;rw[show(q+1)*2=q*2+2 from by omega];simp[gZ,List.flatMap_cons,List.set_cons_succ]at this ⊢;exact this
theorem aD.qL{w:World}{l:au}{p:M.ai}{B kb:Nat}{k:Int}{m:M.Method}{t:lJ}{at_:Int}{s:M.gB}{lg K6:Nat}{vs:Value}(h:aD w l p B kb k m t at_ s (.slice (some ⟨lg,0,none⟩) s.locals.length K6) vs)(q:Nat)(x:M.Tag):
    aD ((w.setCell ⟨lg,q*2,none⟩ (.int .i64 x.kind)).setCell ⟨lg,q*2+1,none⟩ (.string x.name)) l p B kb k m t at_ ⟨s.locals.set q x,s.stack⟩ (.slice (some ⟨lg,0,none⟩) s.locals.length K6) vs∧
    Kp (fE l kb (.slice (some ⟨lg,0,none⟩) s.locals.length K6) vs) w ((w.setCell ⟨lg,q*2,none⟩ (.int .i64 x.kind)).setCell ⟨lg,q*2+1,none⟩ (.string x.name)):=by
 have hk:Kp (·=lg) w ((w.setCell ⟨lg,q*2,none⟩ (.int .i64 x.kind)).setCell ⟨lg,q*2+1,none⟩ (.string x.name)):=
  ((Kp.refl (·=lg) w).setCell (p:=⟨lg,q*2,none⟩) (fun _=>rfl) _).setCell (p:=⟨lg,q*2+1,none⟩) (fun _=>rfl) _
 have hg:=(h.loc.lt lg rfl).1;have hO:=h.cu.ord;have hB:=h.hB;have hn:=h.SG.1;have h2:=(h.loc.stored (q*2) (.int .i64 x.kind)).1.stored (q*2+1) (.string x.name);rw[Js]at h2;refine⟨⟨h.cu.kp hk (fun b hb e=>by omega),h.hB,h.hk,bD.kp aC.stays hk (fun b hb e=>by omega) h.ml,h.mi,h.blk.kp hk (fun e=>hn (by rw[e];rfl)),by simpa using h2.1,aA h.bQ hk (fun g hg _ e=>h.ne lg rfl (by rw[←e];exact hg)),h.ne,h.ou,h.SN,by simpa using h.NI⟩,hk.weak fun b _ e=>.inr (.inr (.inl (by rw[e];rfl)))⟩
theorem QN(w:World)(l:au)(p:M.ai)(B kb:Nat)(k:Int)(m:M.Method)(t:lJ)(at_:Int)(s:M.gB)(vl vs:Value)(h:aD w l p B kb k m t at_ s vl vs)(i:M.Ins)(dL:i.op=3)(ha:0≤i.a∧i.a<m.locals):
    Calls Tryz.prog 81 #[.pointer (some ⟨kb,0,none⟩),.agg #[.int .i64 i.op,.int .i64 i.a,.string i.name,.string i.member]] w (aO w l p B kb k m t at_ vl vs (M.aQ p k m i s)):=by
 have HO:Zs (M.aQ p k m i s=(M.mV s).map fun x=>⟨x.2.locals.set i.a.toNat x.1,x.2.stack⟩):=Ys (by unfold M.aQ;rw[dL];rfl);obtain⟨op,a,nm,mb⟩:=i;dsimp only at dL ha HO;obtain⟨q,rfl⟩:∃q:Nat,a=q:=⟨a.toNat,by omega⟩;have Vj:q<s.locals.length:=by have:=h.NI;omega
 obtain⟨w0,bN,aM,b3⟩:=nu w #[.int .i64 op,.int .i64 q,.string nm,.string mb] 30;have hA:=h.ext aM;have hn:=h.gQ;obtain⟨lg,K6,U9,IL,JH,Wt⟩:=aX hA.loc (by omega);subst U9;obtain⟨T,f,dm,HT⟩:=gy.ex (fun W'=>Kp (fE l kb (.slice (some ⟨lg,0,none⟩) s.locals.length K6) vs) w0 W'∧∃s' vs',aD W' l p B kb k m t at_ s' (.slice (some ⟨lg,0,none⟩) s.locals.length K6) vs') w0 ⟨Kp.refl _ _,_,_,hA⟩;have e11:∀z,(f z).cell? ⟨kb,11,none⟩=some (.slice (some ⟨lg,0,none⟩) s.locals.length K6):=fun z=>by
  obtain⟨_,s',vs',hz⟩:=HT.aK z;exact hz.blk.c 11 _ rfl
 have e1:=fun z=>(b3.kp (HT.aK z).1 hn).c 1 (.int .i64 q) rfl;have Vh:(q:Int)<s.locals.length:=by omega
 have ou:=h.ou;have hz:=h.blk.lt;have ax:=Ys HT;have dS:=Ys bN;have bW:=Ys aM;have HA:=Ys hA;clear h dL bN aM b3 hA HT ha hn;rcases List.eq_nil_or_concat s.stack with hs|⟨st,x,hs⟩
 · replace HO:Zs (M.aQ p k m ⟨op,q,nm,mb⟩ s=none):=Ys (by rw[HO.o];unfold M.mV;rw[hs];rfl);have HS:=Ys hs;clear hs;go_enter Tryz.func81,Tryz.ntmps81;go_wp2_with fail;rw[←dS.o];(refine dQ ax 8 [([0,1,2,3,4,5,6],7)] [] ?_ ?_)
   · exact⟨(Kp.refl _ _).drew,_,_,HA.o.ext (Kp.refl _ _).drew⟩
   (refine dn [_,_,_,_,_,_,_] rfl rfl fun K hK=>?_);(repeat (go_big_quiet_step (fail)));(refine qn hK fun K2 ag=>?_);clear hK K;go_wp2_with fail;refine(oL _ _ _ _ _ _ _ _ _ _ _ _ (HA.o.ext (Kp.refl _ _).drew) HS.o).mono ?_;rintro e w1 ⟨rfl,aZ⟩;have hE:=(bW.o.trans (Kp.refl _ _).drew).trans aZ;exact⟨rfl,hE.any,((HA.o.ext (Kp.refl _ _).drew).ext aZ).cu,.inl ⟨HO.o,rfl⟩⟩
 · rw[List.concat_eq_append]at hs;replace HO:Zs (M.aQ p k m ⟨op,q,nm,mb⟩ s=some ⟨s.locals.set q x,st⟩):=Ys (by rw[HO.o];unfold M.mV;rw[hs];simp);have HS:=Ys hs;clear hs;go_enter Tryz.func81,Tryz.ntmps81;go_wp2_with fail;rw[←dS.o];(refine dQ ax 8 [([0,1,2,3,4,5,6],7)] [] ?_ ?_)
   · exact⟨(Kp.refl _ _).drew,_,_,HA.o.ext (Kp.refl _ _).drew⟩
   (refine dn [_,_,_,_,_,_,_] rfl rfl fun K hK=>?_);(repeat (go_big_quiet_step (fail)));(refine qn hK fun K2 ag=>?_);clear hK K;go_wp2_with fail;refine(qX _ _ _ _ _ _ _ _ _ _ _ _ (HA.o.ext (Kp.refl _ _).drew) st x HS.o).mono ?_;rintro e w1 ⟨rfl,⟨vs1,ng,FB⟩,j3⟩;have BP:Zs (Kp (fE l kb (.slice (some ⟨lg,0,none⟩) s.locals.length K6) vs) w0 w1):=Ys (((Kp.refl _ w0).drew).trans j3);have OC:=Ys FB;have iF:=Ys ng;clear ng FB j3;go_wp2_with fail;(refine kk ax ag ⟨BP.o,_,_,iF.o⟩ ?_);clear ag K2;obtain⟨y,hy⟩:=gH s.locals q Vj;obtain⟨x0,x1⟩:=(dG (enc:=gZ) (k:=2) (fun _=>rfl) iF.o.loc hy).two;have f0:=iF.o.loc.frozenAt (q*2);have f1:=iF.o.loc.frozenAt (q*2+1);have hgz:=(iF.o.loc.lt lg rfl).2;clear e11 e1 hy;(refine dD ?_);go_wp2_with fail;((try simp only[Exit.inBlock,Exit.then]);(first|refine bodyPost_ret (results_none rfl _ _ _) rfl ?_|refine bodyPost_end (results_none rfl _ _ _) rfl ?_));obtain⟨Yq,JB⟩:=iF.o.qL q x;exact aO.behind bW.o ⟨BP.o.look JB OC.o,Yq.cu,.inr ⟨_,HO.o,rfl,_,_,Yq,OC.o⟩⟩
end Go.Proofs.YtohpiobncgafeaaGreatDoor
namespace Go.Proofs.YtohpiobncgafeaaGreatDoor
open Go Go.RowKit
inductive MT where
 |fin (q:List Nat)
 |one (q:List Nat) (i:Nat) (t:MT)
 |two (q:List Nat) (i j:Nat) (ti tj:MT)
def MT.cost:MT→Nat
 | .fin q=>q.length
 | .one q _ t=>q.length+1+t.cost
 | .two q _ _ ti _=>q.length+1+ti.cost
def MT.ok(md:Region.Mode)(ops:Array Oper)(n:Nat):MT→Array Bool→Bool
 | .fin q,listed=>match K7 md ops n q listed with
  |some L=>Region.seqB md ops (ops.size - n) n L
  |none=>false
 | .one q i t,listed=>match K7 md ops n q listed with
  |some L=>decide (Region.ready md ops L=[i])&&decide (i<n)&&t.ok md ops n (L.setIfInBounds i true)
  |none=>false
 | .two q i j ti tj,listed=>match K7 md ops n q listed with
  |some L=>decide (Region.ready md ops L=[i,j])&&decide (i<n)&&decide (j<n)&&decide (tj.cost=ti.cost)&&ti.ok md ops n (L.setIfInBounds i true)&&tj.ok md ops n (L.setIfInBounds j true)
  |none=>false
def Me(ops:Array Oper)(n:Nat)(t:MT):Bool:=
 Region.noSelect ops&&uy .any ops n&&decide (t.cost=n)&&decide (n≤ops.size)&&t.ok .any ops n (Array.replicate ops.size false)
def xO(P:Program)(l:List Oper)(C:World→Prop)(Q:Exit→Act→World→Prop)(fin:Act→World→Prop):MT→Act→World→Prop
 | .fin q,a,w=>wpQuiet P l.toArray C (fun a'=>fin a' w) (q.filterMap (l[·]?)) a
 | .one q i t,a,w=>wpQuiet P l.toArray C (fun a'=>wpList P l.toArray (Exit.then (fun a'' w'=>C w'∧xO P l C Q fin t a'' w') Q) (l[i]?).toList a' w) (q.filterMap (l[·]?)) a
 | .two q i j ti tj,a,w=>wpQuiet P l.toArray C (fun a'=>wpList P l.toArray (Exit.then (fun a'' w'=>C w'∧xO P l C Q fin ti a'' w') Q) (l[i]?).toList a' w∧wpList P l.toArray (Exit.then (fun a'' w'=>C w'∧xO P l C Q fin tj a'' w') Q) (l[j]?).toList a' w) (q.filterMap (l[·]?)) a
section
variable {P:Program} {ops:Array Oper} {md:Region.Mode} {Q:Exit→Act→World→Prop} {C:World→Prop} {n:Nat}
theorem vF{l:List Oper}{L:Array Bool}{j:Nat}{a:Act}{w:World}{K K':Act→World→Prop}(hr:j∈Region.ready md l.toArray L)
    (hk:wpList P l.toArray (Exit.then K Q) (l[j]?).toList a w) (step:∀a'' w',K a'' w'→K' a'' w'):wpOp P l.toArray Q j K' a w:=by
 cases Ay:l[j]? with
 |none=>
  exfalso;obtain⟨_,o,ho,_⟩:=mem_ready.1 hr;simp[Ay]at ho
 |some o=>
  rw[Ay]at hk;simp only[Option.toList,wpList]at hk;unfold wpOp;have yK:l.toArray[j]?=some o:=by simpa using Ay
  simp only[yK];split
  · rename_i hw;rw[if_pos hw]at hk;rcases hk with hk|hk
    · left;exact Oper.wp_mono (fun a'' w' h'=>step a'' w' h') (I8 hk)
    · right;exact hk
  · rename_i hw;rw[if_neg hw]at hk;exact step _ _ hk
theorem oV{l:List Oper}(hs:Region.noSelect l.toArray=true)(ht:uy md l.toArray n=true)(hQ:∀c a d v w,Q (.panic c) (a.put d v) w→Q (.panic c) a w)(hn:n≤l.length):∀(t:MT) (listed:Array Bool) (a:Act) (w:World),C w→
    t.ok md l.toArray n listed=true→xO P l C Q (fun a' w'=>wpList P l.toArray Q (l.drop n) a' w') t a w→mZ P md l.toArray n C Q ((l.length - n)+t.cost) listed a w
 | .fin q',listed,a,w,hC,hB,h=>by
  unfold MT.ok at hB;split at hB
  · rename_i L hL;refine jv hs ht hQ hC _ L (fun a' hk=>?_) q' listed a hL h;have:=su (md:=md) (C:=C) (l:=l) (l.drop n) n L a' w (Nat.le_refl _) (fun j=>by simp[List.getElem?_drop]) (by simpa using hB) hk;simpa using this
  · cases hB
 | .one q i t,listed,a,w,hC,hB,h=>by
  unfold MT.ok at hB;split at hB
  · rename_i L hL;simp only[Bool.and_eq_true,decide_eq_true_eq]at hB;obtain⟨⟨hr,JJ⟩,hB⟩:=hB;have e:l.length - n+(MT.one q i t).cost=((l.length - n+t.cost)+1)+q.length:=by simp[MT.cost];omega
    rw[e];refine jv hs ht hQ hC _ L (fun a' hk=>?_) q listed a hL h;refine⟨fun h1=>(by rw[hr]at h1;cases h1),fun j hj=>?_⟩;have yH:j=i:=by rw[hr]at hj;simpa using hj
    subst yH;exact vF hj hk fun a'' w' h3=>⟨fun _=>h3.1,oV hs ht hQ hn t _ a'' w' h3.1 hB h3.2⟩
  · cases hB
 | .two q i j ti tj,listed,a,w,hC,hB,h=>by
  unfold MT.ok at hB;split at hB
  · rename_i L hL;simp only[Bool.and_eq_true,decide_eq_true_eq]at hB;obtain⟨⟨⟨⟨⟨hr,JJ⟩,Wv⟩,hc⟩,hB1⟩,hB2⟩:=hB;have e:l.length - n+(MT.two q i j ti tj).cost=((l.length - n+ti.cost)+1)+q.length:=by simp[MT.cost];omega
    rw[e];refine jv hs ht hQ hC _ L (fun a' hk=>?_) q listed a hL h;refine⟨fun h1=>(by rw[hr]at h1;cases h1),fun x hx=>?_⟩;have hx':x=i∨x=j:=by rw[hr]at hx;simpa using hx
    rcases hx' with rfl|rfl
    · exact vF hx hk.1 fun a'' w' h3=>⟨fun _=>h3.1,oV hs ht hQ hn ti _ a'' w' h3.1 hB1 h3.2⟩
    · rw[←hc];exact vF hx hk.2 fun a'' w' h3=>⟨fun _=>h3.1,oV hs ht hQ hn tj _ a'' w' h3.1 hB2 h3.2⟩
  · cases hB
end
section
variable {P:Program} {l:List Oper} {C:World→Prop} {Q:Exit→Act→World→Prop} {fin:Act→World→Prop} {q:List Nat} {i j:Nat} {t ti tj:MT} {a:Act} {w:World} {qs os oj:List Oper}
theorem Q3(he:q.filterMap (l[·]?)=qs)(h:∀K:Act→Prop,(∀a',fin a' w→K a')→wpQuiet P l.toArray C K qs a):xO P l C Q fin (.fin q) a w:=by
 subst he;exact h _ fun _ h=>h
theorem Q4(he:q.filterMap (l[·]?)=qs)(ho:(l[i]?).toList=os)
    (h:∀K:Act→Prop,(∀a',(∀K2:Act→World→Prop,(∀a'' w',C w'→xO P l C Q fin t a'' w'→K2 a'' w')→wpList P l.toArray (Exit.then K2 Q) os a' w)→K a')→wpQuiet P l.toArray C K qs a):xO P l C Q fin (.one q i t) a w:=by
 subst he ho;refine h _ fun a' h2=>?_;exact h2 _ fun _ _ h3 h4=>⟨h3,h4⟩
theorem Q5(he:q.filterMap (l[·]?)=qs)(ho:(l[i]?).toList=os)(hj:(l[j]?).toList=oj)
    (h:∀K:Act→Prop,(∀a',(∀K2:Act→World→Prop,(∀a'' w',C w'→xO P l C Q fin ti a'' w'→K2 a'' w')→wpList P l.toArray (Exit.then K2 Q) os a' w)→(∀K2:Act→World→Prop,(∀a'' w',C w'→xO P l C Q fin tj a'' w'→K2 a'' w')→wpList P l.toArray (Exit.then K2 Q) oj a' w)→K a')→wpQuiet P l.toArray C K qs a):xO P l C Q fin (.two q i j ti tj) a w:=by
 subst he ho hj;refine h _ fun a' h2 h5=>?_;exact⟨h2 _ fun _ _ h3 h4=>⟨h3,h4⟩,h5 _ fun _ _ h3 h4=>⟨h3,h4⟩⟩
end
theorem wK{P:Program}{id:Nat}{Q:Exit→Act→World→Prop}{a:Act}{w:World}{l:List Oper}{T:Type}(f:T→World)(n:Nat)(t:MT)(h0:∃s,w.drew=f s)(hm:P.follows .mixedOrders=true)(hB:Me l.toArray n t=true)
    (hQ:∀c a d v w,Q (.panic c) (a.put d v) w→Q (.panic c) a w)
    (h:xO P l (fun w'=>∃s,w'=f s) Q (fun a' w'=>wpList P l.toArray Q (l.drop n) a' w') t a w.drew):(Code.region id l.toArray true).wp P Q a w:=by
 unfold Me at hB;simp only[Bool.and_eq_true,decide_eq_true_eq]at hB;obtain⟨⟨⟨⟨h1,h2⟩,h3⟩,h4⟩,h5⟩:=hB;refine wp_region_any hm (sF (C:=fun w'=>∃s,w'=f s) (n:=n) _ _ _ _ ?_);have:=oV (C:=fun w'=>∃s,w'=f s) (md:=.any) h1 h2 hQ (by simpa using h4) t _ a w.drew h0 h5 h;have e:l.length - n+t.cost=l.toArray.size:=by
  have:n≤l.length:=by simpa using h4
  simp;omega
 rw[e]at this;exact this
section
variable {P:Program} {l:List Oper} {C:World→Prop} {Q:Exit→Act→World→Prop} {fin:Act→World→Prop} {q:List Nat} {i j:Nat} {t ti tj:MT} {a:Act} {w:World} {o o2:Oper}
theorem lu(qs:List Oper)(he:q.filterMap (l[·]?)=qs)(ho:(l[i]?).toList=[o])(h:∀K:Act→Prop,(∀a',(∀K2:Act→World→Prop,(∀a'' w',C w'→xO P l C Q fin t a'' w'→K2 a'' w')→wpList P l.toArray (Exit.then K2 Q) [o] a' w)→K a')→wpQuiet P l.toArray C K qs a):xO P l C Q fin (.one q i t) a w:=Q4 he ho h
theorem bX(ho:(l[i]?).toList=[o])(h:∀K2:Act→World→Prop,(∀a'' w',C w'→xO P l C Q fin t a'' w'→K2 a'' w')→wpList P l.toArray (Exit.then K2 Q) [o] a w):xO P l C Q fin (.one [] i t) a w:=lu [] rfl ho fun _ hK=>qn hK h
theorem zJ(qs:List Oper)(he:q.filterMap (l[·]?)=qs)(h:∀K:Act→Prop,(∀a',fin a' w→K a')→wpQuiet P l.toArray C K qs a):xO P l C Q fin (.fin q) a w:=Q3 he h
theorem dz(h:fin a w):xO P l C Q fin (.fin []) a w:=zJ [] rfl fun _ hK=>qn hK h
theorem two(qs:List Oper)(he:q.filterMap (l[·]?)=qs)(ho:(l[i]?).toList=[o])(hj:(l[j]?).toList=[o2])(h:∀K:Act→Prop,(∀a',(∀K2:Act→World→Prop,(∀a'' w',C w'→xO P l C Q fin ti a'' w'→K2 a'' w')→wpList P l.toArray (Exit.then K2 Q) [o] a' w)→(∀K2:Act→World→Prop,(∀a'' w',C w'→xO P l C Q fin tj a'' w'→K2 a'' w')→wpList P l.toArray (Exit.then K2 Q) [o2] a' w)→K a')→wpQuiet P l.toArray C K qs a):xO P l C Q fin (.two q i j ti tj) a w:=Q5 he ho hj h
theorem zK(ho:(l[i]?).toList=[o])(hj:(l[j]?).toList=[o2])(h:(∀K2:Act→World→Prop,(∀a'' w',C w'→xO P l C Q fin ti a'' w'→K2 a'' w')→wpList P l.toArray (Exit.then K2 Q) [o] a w))(h2:(∀K2:Act→World→Prop,(∀a'' w',C w'→xO P l C Q fin tj a'' w'→K2 a'' w')→wpList P l.toArray (Exit.then K2 Q) [o2] a w)):xO P l C Q fin (.two [] i j ti tj) a w:=two [] rfl ho hj fun _ hK=>Hp hK h h2
end
theorem nM{P:Program}{id:Nat}{Q:Exit→Act→World→Prop}{a:Act}{w:World}{l:List Oper}{C:World→Prop}{T:Type}{f:T→World}(H:Zs (gy C T f))(n:Nat)(t:MT)(h0:C w.drew)
    (h:xO P l (fun w'=>∃s,w'=f s) Q (fun a' w'=>wpList P l.toArray Q (l.drop n) a' w') t a w.drew) (hm:P.follows .mixedOrders=true:=by kernel_rfl) (hB:Me l.toArray n t=true:=by kernel_rfl)
    (hQ:∀c a d v w,Q (.panic c) (a.put d v) w→Q (.panic c) a w:=by exact fun _ _ d _ _ h=>by cases d<;>exact h):(Code.region id l.toArray true).wp P Q a w:=wK f n t (H.o.o _ h0) hm hB hQ h
end Go.Proofs.YtohpiobncgafeaaGreatDoor
