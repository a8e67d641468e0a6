/- Walks. -/
import Derived.Test.YtkmclfpjpajjeaaGreatTnCoreLm
set_option maxRecDepth 100000
set_option maxHeartbeats 4000000
set_option linter.unusedSimpArgs false
set_option linter.unusedVariables false
namespace Go.Proofs.YtkmclfpjpajjeaaGreat
open Go Go.RowKit
theorem fQ(w:World)(l:aH)(p:M.ax)(h:aC w l p)(x:M.kI)(hx:M.bP p x=true):
    Calls Tryz.prog 42 #[.pointer (some ⟨l.L,0,none⟩),.agg #[.int .i64 x.of.keeper,.string x.of.name,.int .i64 x.at_]] w fun e w'=>
     (∃cs,aG w' (· <l.O) (M.method p x) cs∧e=.returned (.agg cs.toArray))∧Ext w w':=by
 obtain⟨_,i,c,m,h1,h2,h3,h4⟩:=M.pq hx;have e:M.method p x=m:=by unfold M.method;rw[h4];rfl
 rw[e,h1];exact J8 w l p h x.of.keeper x.of.name i c m h2 h3
theorem ay.newAt{W:World}{g:Nat}(t:TypeId)(cs:Array Value)(h:W.heap.size=g):ay (W.alloc (.cells cs t)) g t cs:=by
 subst h;exact ay.new W t cs
def zH(x:M.kI):List Value:=[.int .i64 x.of.keeper,.string x.of.name,.int .i64 x.at_]
theorem Kp.qW{D:Nat→Prop}{w:World}{b:Nat}(hD:D b)(v0 v1 v2:Value):Kp D w (((w.setCell ⟨b,0,none⟩ v0).setCell ⟨b,1,none⟩ v1).setCell ⟨b,2,none⟩ v2):=
 (((Kp.refl D w).setCell (p:=⟨b,0,none⟩) (fun _=>hD) v0).setCell (p:=⟨b,1,none⟩) (fun _=>hD) v1).setCell (p:=⟨b,2,none⟩) (fun _=>hD) v2
theorem ay.qW{w:World}{b:Nat}{t:TypeId}{u0 u1 u2:Value}(h:ay w b t #[u0,u1,u2])(v0 v1 v2:Value):ay (((w.setCell ⟨b,0,none⟩ v0).setCell ⟨b,1,none⟩ v1).setCell ⟨b,2,none⟩ v2) b t #[v0,v1,v2]:=
 ((h.bE 0 v0).bE 1 v1).bE 2 v2
theorem uI(w:World)(l:aH)(p:M.ax)(h:aC w l p)(k:Int)(n m:ByteArray):
    Calls Tryz.prog 40 #[.pointer (some ⟨l.L,0,none⟩),.int .i64 k,.string n,.string m] w fun e w'=>
     (∃ev,e=.returned (.tuple #[.agg (zH (M.call p k n m).1).toArray,ev])∧EB w' ev (M.call p k n m).2)∧aC w' l p∧Kp (·=l.D) w w':=by
 have KM:=h.Hl;have CV:=h.lt;have hO:=h.ord;obtain⟨w1,jX⟩:∃w1,w1=w.alloc (.cells #[.int .i64 0,.string ⟨#[]⟩,.int .i64 0] 94):=⟨_,rfl⟩;have aU:Ext w w1:=by rw[jX];exact kx
 have H:=Z3 (h.ext aU);have b8:ay w1 w.heap.size 94 #[.int .i64 0,.string ⟨#[]⟩,.int .i64 0]:=by rw[jX];exact ay.new w _ _
 have Db:w1.heap.size=w.heap.size+1:=by rw[jX];simp
 have⟨bM,BB⟩:=aJ aU jX;have HK:Zs (M.call p k n m=if(M.aS p k n m).2=1 then
  (match M.pick p (M.aS p k n m).1 m with
  |none=>(M.lD,3)
  |some x=>if M.bX p k x.of.keeper (M.method p x)then(x,1)else(M.lD,4))
 else(M.lD,(M.aS p k n m).2)):=Z3 rfl
 clear h aU jX;go_enter Tryz.func40,Tryz.ntmps40;go_wp2_with fail;rw[←BB.o];refine(vF _ _ _ H.o _ _ _).mono ?_;rintro e w2 ⟨⟨ev,rfl,nN⟩,hL2,ag⟩;generalize M.aS p k n m=F at*;obtain⟨⟨rk,rn⟩,code⟩:=F;simp only at*;have S9:=b8.kp ag Wg;have NI:=ag.size;obtain⟨yz,y0,y1,y2, -⟩:=S9.ca;obtain⟨f0,f1,f2, -⟩:=S9.fz;have wE:=Z3 hL2;have yu:Zs (Kp (·=l.D) w w2):=Z3 (bM.o.any.trans ag);have yt:=Z3 S9;clear hL2 ag b8 S9;rcases nN with⟨rfl,rfl⟩|⟨hc,eb,rfl,heb⟩
 · have HN:Zs (M.call p k n m=match M.pick p ⟨rk,rn⟩ m with
    |none=>(M.lD,3)
    |some x=>if M.bX p k x.of.keeper (M.method p x)then(x,1)else(M.lD,4)):=Z3 (by rw[HK.o,if_pos rfl])
   have bZ:Ext w2 (w2.alloc (.cells #[.int .i64 rk,.string rn] 70)):=kx;clear y0 y1 y2 f0 f1 f2 yz;go_wp2_with fail;refine(FV _ _ _ (wE.o.ext bZ) ⟨rk,rn⟩ m).mono ?_;rintro e w3 ⟨rfl,Fu,nL⟩;have KQ:=nL.size;simp only[World.size_alloc]at KQ;have Yd:=(yt.o.ext bZ).kp nL Wg;obtain⟨yz,y0,y1,y2, -⟩:=Yd.ca;obtain⟨f0,f1,f2, -⟩:=Yd.fz;have⟨Xu,SQ⟩:=aJ Yd Fu;have mg:Zs (Kp (·=l.D) w w3):=Z3 ((yu.o.trans bZ.any).trans nL);clear Fu nL bZ Yd;cases hp:M.pick p ⟨rk,rn⟩ m with
   |none=>
    have HR:Zs (M.call p k n m=(M.lD,3)):=Z3 (by rw[HN.o,hp]);clear hp;simp only[Option.getD_none,Option.isSome_none,lD];go_wp2_with fail;have hs:=Kp.qW (D:=(·=w.heap.size)) (w:=w3) rfl (.int .i64 0) (.string ⟨#[]⟩) (.int .i64 0);have hb:=Xu.o.qW (.int .i64 0) (.string ⟨#[]⟩) (.int .i64 0);refine bodyPost_ret (au Ae rfl _ _ w.heap.size rfl (zH M.lD) (((ae.gM hb).ext (Kp.rr.alloc _)).ext (Kp.rr.alloc _)) rfl) rfl ?_;rw[HR.o];exact⟨⟨_,rfl,.inr ⟨by simp,w3.heap.size+1,rfl,ay.newAt _ _ Wf⟩⟩,((SQ.o.kp hs (fun k hk e=>by omega)).ext (Kp.rr.alloc _)).ext (Kp.rr.alloc _),((mg.o.own hs (fun k hk=>by omega)).alloc _).alloc _⟩
   |some x=>
    have HX:=Z3 (M.kW hp);have HR:Zs (M.call p k n m=if M.bX p k x.of.keeper (M.method p x)then(x,1)else(M.lD,4)):=Z3 (by rw[HN.o,hp]);clear hp;simp only[Option.getD_some,Option.isSome_some];obtain⟨W4,LM,dI,b12⟩:=nu w3 #[.int .i64 x.of.keeper,.string x.of.name,.int .i64 x.at_] 94;obtain⟨T,f,dA,HT⟩:=iN.ex (fun W'=>Ext W4 W') _ Kp.rr;obtain⟨-,r0,r1,r2, -⟩:=ay.kY fun s=>(b12.ext (HT.aW s));have⟨aj,EN,iG,aaH,HL4,afx⟩:=qU HT LM dI b12 (SQ.o.ext dI) (Xu.o.ext dI);have zS:Zs (Kp (·=l.D) w W4):=Z3 (mg.o.trans dI.any);clear y0 y1 y2 f0 f1 f2 yz HT LM dI b12;go_wp2_with fail;rw[←EN.o];(refine eO aj 10 [([0,1,2,3,4,5,6],7),([],8)] [9] ?_ ?_)
    · exact Kp.rr.drew
    refine iX ?_;intro K2 ag;go_wp2_with fail;refine(fQ _ _ _ (HL4.o.ext Kp.rr.drew) x HX.o).mono ?_;rintro e w5 ⟨⟨cs,mF,rfl⟩,cZ⟩;have rM:Ext W4 w5:=(Kp.rr.drew:Ext W4 _).trans cZ;have GQ:=Z3 mF;obtain⟨a1,c1,a2,c2,a3,c3,rfl⟩:=mF.form;clear mF cZ;go_wp2_with fail;(refine kk aj ag rM ?_);clear ag K2;(refine gZ rfl fun K2 ag=>?_);go_wp2_with fail;refine(rA _ _ _ (HL4.o.ext rM) k x.of.keeper _ _ _ GQ.o).mono ?_;rintro e w6 ⟨rfl,dC⟩;have Fs:=rM.trans dC;have Ye:=afx.o.ext Fs;obtain⟨yz,y0,y1,y2, -⟩:=Ye.ca;obtain⟨f0,f1,f2, -⟩:=Ye.fz;have ZQ:=aaH.o.ext Fs;obtain⟨-,z0,z1,z2, -⟩:=ZQ.ca;have⟨Xv,HL6⟩:=aJ Ye (HL4.o.ext Fs);have Bg:Zs (Kp (·=l.D) w w6):=Z3 (zS.o.trans Fs.any);have afI:=Z3 Fs;clear dC rM Ye ZQ r0 r1 r2 Fs;go_wp2_with fail;(refine kk aj ag afI.o ?_);clear ag K2;cases Fw:M.bX p k x.of.keeper (M.method p x)
    · have DF:Zs (M.call p k n m=(M.lD,4)):=Z3 (by rw[HR.o,Fw];rfl);clear Fw;refine qa ?_;go_wp2_with fail;have hs:=Kp.qW (D:=(·=w.heap.size)) (w:=w6) rfl (.int .i64 0) (.string ⟨#[]⟩) (.int .i64 0);have hb:=Xv.o.qW (.int .i64 0) (.string ⟨#[]⟩) (.int .i64 0);refine bodyPost_ret (au Ae rfl _ _ w.heap.size rfl (zH M.lD) ((ae.gM hb).ext (Kp.rr.alloc _)) rfl) rfl ?_;rw[DF.o];exact⟨⟨_,rfl,.inr ⟨by simp,w6.heap.size,rfl,ay.newAt _ _ Wf⟩⟩,(HL6.o.kp hs (fun k hk e=>by omega)).ext (Kp.rr.alloc _),(Bg.o.own hs (fun k hk=>by omega)).alloc _⟩
    · have DF:Zs (M.call p k n m=(x,1)):=Z3 (by rw[HR.o,Fw];rfl);clear Fw;refine qa ?_;go_wp2_with fail;have hs:=Kp.qW (D:=(·=w.heap.size)) (w:=w6) rfl (.int .i64 x.of.keeper) (.string x.of.name) (.int .i64 x.at_);have hb:=Xv.o.qW (.int .i64 x.of.keeper) (.string x.of.name) (.int .i64 x.at_);refine bodyPost_ret (au Ae rfl _ _ w.heap.size rfl (zH x) (ae.gM hb) rfl) rfl ?_;rw[DF.o];exact⟨⟨_,rfl,.inl ⟨rfl,rfl⟩⟩,HL6.o.kp hs (fun k hk e=>by omega),Bg.o.own hs (fun k hk=>by omega)⟩
 · have WH:=Z3 heb;have HC:=Z3 hc;clear heb hc;have HN:Zs (M.call p k n m=(M.lD,code)):=Z3 (by rw[HK.o,if_neg HC.o]);have abR:¬eb=w.heap.size:=fun e=>by subst e;exact absurd (ay.inj WH.o yt.o) Wk
   go_wp2_with fail;have hs:=Kp.qW (D:=(·=w.heap.size)) (w:=w2) rfl (.int .i64 0) (.string ⟨#[]⟩) (.int .i64 0);have hb:=yt.o.qW (.int .i64 0) (.string ⟨#[]⟩) (.int .i64 0);refine bodyPost_ret (au Ae rfl _ _ w.heap.size rfl (zH M.lD) ((ae.gM hb).ext (Kp.rr.alloc _)) rfl) rfl ?_;rw[HN.o];exact⟨⟨_,rfl,.inr ⟨HC.o,eb,rfl,(WH.o.kp hs abR).ext (Kp.rr.alloc _)⟩⟩,(wE.o.kp hs (fun k hk e=>by omega)).ext (Kp.rr.alloc _),(yu.o.own hs (fun k hk=>by omega)).alloc _⟩
def zP(n:Int):List PanicEntry:=[{v:=.iface 218 (.agg #[.int .i64 n]),recovered:=false}]
theorem gW(w:World)(kb:Nat)(n:Int)(hc:w.cell? ⟨kb,10,none⟩=some (.int .i64 n))(h0:0≤n)(h1:n≤1000):
    Calls Tryz.prog 167 #[.pointer (some ⟨kb,0,none⟩)] w fun e w'=>e=.panicked (zP (n+1))∧w=w':=by
 go_enter Tryz.func167,Tryz.ntmps167;go_wp2;exact⟨rfl,rfl,rfl⟩
theorem Ce(w:World)(l:aH)(p:M.ax)(h:aC w l p)(k:Int)(a b:M.Tag):
    Calls Tryz.prog 190 #[.pointer (some ⟨l.L,0,none⟩),.int .i64 k,.agg #[.int .i64 a.kind,.string a.name],.agg #[.int .i64 b.kind,.string b.name]] w fun e w'=>
     e=.returned (.bool (M.may p k a b))∧Ext w w':=by
 obtain⟨ak,an⟩:=a;obtain⟨bk,bn⟩:=b;have H:=Z3 h;clear h;by_cases h0:bk=0
 · subst h0;have HV:Zs (M.may p k ⟨ak,an⟩ ⟨0,bn⟩=true):=Z3 (by unfold M.may;rw[if_pos (.inl rfl)]);go_enter Tryz.func190,Tryz.ntmps190;go_wp2;go_ret;exact⟨af HV.o.symm,kx⟩
 by_cases he:ak=bk∧an=bn
 · obtain⟨rfl,rfl⟩:=he;have HV:Zs (M.may p k ⟨ak,an⟩ ⟨ak,an⟩=true):=Z3 (by unfold M.may;rw[if_pos (.inr rfl)]);have X9:(ak==0)=false:=beq_eq_false_iff_ne.2 h0;clear h0;go_enter Tryz.func190,Tryz.ntmps190;go_wp2;go_ret;exact⟨af HV.o.symm,kx⟩
 have HU:Zs (M.may p k ⟨ak,an⟩ ⟨bk,bn⟩=if bk≠2 then false else if ak=3 then true else if ak≠2 then false
  else decide ((M.find p k an).2=1)&&decide ((M.find p k bn).2=1)&&M.under p (M.find p k an).1 (M.find p k bn).1):=Z3 (by
  unfold M.may;rw[if_neg (by
   rintro(h|h)
   · exact h0 h
   · rw[M.Tag.gJ]at h;exact he h)])
 have X9:(bk==0)=false:=beq_eq_false_iff_ne.2 h0;have U1:(ak==bk)=false∨(ak=bk∧(an.toList==bn.toList)=false):=by
  rcases ym ak bk an bn with⟨h1,h2⟩|⟨h1,h2,_⟩|⟨h1,_⟩
  · exact absurd ⟨h1,h2⟩ he
  · exact .inr ⟨h1,h2⟩
  · exact .inl h1
 clear h0 he;by_cases nM:bk=2
 · subst nM;by_cases Xc:ak=3
   · subst Xc;have HV:Zs (M.may p k ⟨3,an⟩ ⟨2,bn⟩=true):=Z3 (by rw[HU.o];rfl);clear U1;go_enter Tryz.func190,Tryz.ntmps190;go_wp2;go_ret;exact⟨af HV.o.symm,kx⟩
   by_cases LP:ak=2
   · subst LP;have Qp:(an.toList==bn.toList)=false:=by
      rcases U1 with h|h
      · exact absurd h Wk
      · exact h.2
     have HV:Zs (M.may p k ⟨2,an⟩ ⟨2,bn⟩=(decide ((M.find p k an).2=1)&&decide ((M.find p k bn).2=1)&&M.under p (M.find p k an).1 (M.find p k bn).1)):=Z3 (by rw[HU.o];rfl);clear U1 Xc;obtain⟨w0,bI⟩:∃w0,w0=(w.alloc (.cells #[.int .i64 2,.string an] 139)).alloc (.cells #[.int .i64 2,.string bn] 139):=⟨_,rfl⟩;have aU:Ext w w0:=by rw[bI];exact kx
     have b7:ay w0 (w.heap.size+1) 139 #[.int .i64 2,.string bn]:=by rw[bI];exact ay.newAt _ _ Wf
     have⟨dO,bM⟩:=aJ bI aU;clear bI aU;go_enter Tryz.func190,Tryz.ntmps190;go_wp2_with fail;rw[←dO.o];refine(jR _ _ _ (H.o.ext bM.o) k an).mono ?_;rintro e w1 ⟨rfl,bH⟩;obtain⟨qz,q0,q1, -⟩:=(b7.ext bH).ca;have eQ:=Z3 (bM.o.trans bH);clear bH b7;generalize M.find p k an=F1 at*;obtain⟨⟨xk,xn⟩,c1⟩:=F1;simp only at*;obtain⟨w2,ny,bZ,b9⟩:=nu w1 #[.int .i64 xk,.string xn] 70;have⟨Bi,gL⟩:=aJ ny (eQ.o.trans bZ);have q0':=bZ.aD q0;have q1':=bZ.aD q1;clear ny bZ;go_wp2_with fail;rw[←Bi.o];clear q0 q1 qz;refine(jR _ _ _ (H.o.ext gL.o) k bn).mono ?_;rintro e w3 ⟨rfl,dK⟩;have b93:=b9.ext dK;obtain⟨sz,s0,s1, -⟩:=b93.ca;have jc:=Z3 (gL.o.trans dK);clear dK b9 b93 q0' q1';generalize M.find p k bn=F2 at*;obtain⟨⟨yk,yn⟩,c2⟩:=F2;simp only at*;by_cases mE:c1=1
     · by_cases yQ:c2=1
       · subst mE yQ;have GU:Zs (M.may p k ⟨2,an⟩ ⟨2,bn⟩=M.under p ⟨xk,xn⟩ ⟨yk,yn⟩):=Z3 (by rw[HV.o];rfl);go_wp2_with fail;refine(rC _ _ _ (H.o.ext (jc.o.trans kx)) ⟨xk,xn⟩ ⟨yk,yn⟩).mono ?_;rintro e w4 ⟨rfl,dI⟩;have iG:Zs (Ext w w4):=Z3 ((jc.o.alloc _).trans dI);clear dI;go_wp2_with fail;go_ret;exact⟨af GU.o.symm,iG.o⟩
       · have ah6:(c2==1)=false:=beq_eq_false_iff_ne.2 yQ;subst mE;have GU:Zs (M.may p k ⟨2,an⟩ ⟨2,bn⟩=false):=Z3 (by rw[HV.o];simp[yQ]);clear yQ;go_wp2_with fail;go_ret;exact⟨af GU.o.symm,jc.o.alloc _⟩
     · have ad1:(c1==1)=false:=beq_eq_false_iff_ne.2 mE;have GU:Zs (M.may p k ⟨2,an⟩ ⟨2,bn⟩=false):=Z3 (by rw[HV.o];simp[mE]);clear mE;go_wp2_with fail;go_ret;exact⟨af GU.o.symm,jc.o.alloc _⟩
   · have ahG:(ak==2)=false:=beq_eq_false_iff_ne.2 LP;have ahX:(ak !=2)=true:=bne_iff_ne.2 LP;have ahY:(ak==3)=false:=beq_eq_false_iff_ne.2 Xc;have HV:Zs (M.may p k ⟨ak,an⟩ ⟨2,bn⟩=false):=Z3 (by rw[HU.o];simp[LP,Xc]);clear U1 LP Xc;go_enter Tryz.func190,Tryz.ntmps190;go_wp2;go_ret;exact⟨af HV.o.symm,kx⟩
 · have ah0:(bk !=2)=true:=bne_iff_ne.2 nM;have HV:Zs (M.may p k ⟨ak,an⟩ ⟨bk,bn⟩=false):=Z3 (by rw[HU.o,if_pos nM]);clear nM;rcases U1 with h1|⟨rfl,h1⟩
   all_goals
    go_enter Tryz.func190,Tryz.ntmps190;go_wp2;go_ret;exact⟨af HV.o.symm,kx⟩
structure qj where
 a1:Option Addr
 c1:Nat
 a2:Option Addr
 c2:Nat
 a3:Option Addr
 c3:Nat
def iC(m:M.Method)(t:qj):List Value:=[.string m.name,.slice t.a1 m.args.length t.c1,.int .i64 m.ret.kind,.string m.ret.name,.int .i64 m.locals,.int .i64 m.stack,.slice t.a2 m.code.length t.c2,.slice t.a3 m.maps.length t.c3]
def OX(L:Nat)(k:Int)(m:M.Method)(t:qj)(at_:Int)(vl vs:Value):Array Value:=
 #[.pointer (some ⟨L,0,none⟩),.int .i64 k,.string m.name,.slice t.a1 m.args.length t.c1,.int .i64 m.ret.kind,.string m.ret.name,.int .i64 m.locals,.int .i64 m.stack,.slice t.a2 m.code.length t.c2,.slice t.a3 m.maps.length t.c3,.int .i64 at_,vl,vs]
structure aQ(w:World)(l:aH)(p:M.ax)(B kb:Nat)(k:Int)(m:M.Method)(t:qj)(at_:Int)(s:M.iY)(vl vs:Value):Prop where
 dN:aC w l p
 hB:l.L<B
 hk:B≤kb
 ml:aG w (· <l.O) m (iC m t)
 mi:M.EO m
 blk:ay w kb 214 (OX l.L k m t at_ vl vs)
 loc:w.ownsRow B 139 2 vl s.locals.length (s.locals.flatMap iD)
 dD:w.ownsRow B 139 2 vs s.stack.length (s.stack.flatMap iD)
 ne:∀g,vl.ownBlock=some g→vs.ownBlock≠some g
 uB:0≤at_∧at_≤100
 ssz:(s.stack.length:Int)≤m.stack
 VS:(s.locals.length:Int)=m.locals
def jf(l:aH)(kb:Nat)(vl vs:Value)(b:Nat):Prop:=b=l.D∨b=kb∨vl.ownBlock=some b∨vs.ownBlock=some b
def bW(n:Nat)(vl vs tJ vs':Value):Prop:=∀g,(tJ.ownBlock=some g∨vs'.ownBlock=some g)→vl.ownBlock=some g∨vs.ownBlock=some g∨n≤g
theorem bW.refl(n:Nat)(vl vs:Value):bW n vl vs vl vs:=fun _ h=>h.elim .inl fun h=>.inr (.inl h)
theorem bW.trans{n n':Nat}{a b c d e f:Value}(h:bW n a b c d)(h':bW n' c d e f)(hn:n≤n'):bW n a b e f:=fun g hg=>by
 rcases h' g hg with h1|h1|h1
 · exact h g (.inl h1)
 · exact h g (.inr h1)
 · exact .inr (.inr Wg)
theorem bW.le{n n':Nat}{a b c d:Value}(h:bW n' a b c d)(hn:n≤n'):bW n a b c d:=fun g hg=>by
 rcases h g hg with h1|h1|h1
 · exact .inl h1
 · exact .inr (.inl h1)
 · exact .inr (.inr Wg)
theorem Kp.look{l:aH}{kb:Nat}{vl vs tJ vs':Value}{w a b:World}(h:Kp (jf l kb vl vs) w a)(hk:Kp (jf l kb tJ vs') a b)(hO:bW w.heap.size vl vs tJ vs'):Kp (jf l kb vl vs) w b:=
 ⟨hk.os.trans h.os,hk.tape.trans h.tape,hk.output.trans h.output,Nat.le_trans h.size hk.size,
  fun k BZ hd=>(hk.block k (Nat.lt_of_lt_of_le BZ h.size) (fun x=>hd (by
   rcases x with x|x|x|x
   · exact .inl x
   · exact .inr (.inl x)
   · rcases hO k (.inl x)with y|y|y
     · exact .inr (.inr (.inl y))
     · exact .inr (.inr (.inr y))
     · exact absurd BZ (Nat.not_lt.2 y)
   · rcases hO k (.inr x)with y|y|y
     · exact .inr (.inr (.inl y))
     · exact .inr (.inr (.inr y))
     · exact absurd BZ (Nat.not_lt.2 y)))).trans (h.block k BZ hd)⟩
theorem Ck{w:World}{base e k n c g:Nat}{xs:List Value}(h:w.ownsRow base e k (.slice (some ⟨g,0,none⟩) n c) n xs){j:Nat}(hj:j≤n):w.ownsRow base e k (.slice (some ⟨g,0,none⟩) j c) j (xs.take (j*k)):=by
 have Yv:j*k≤n*k:=Nat.mul_le_mul_right _ hj;refine⟨by rw[List.length_take,h.1];omega,?_⟩;rcases h.2 with⟨h1,_⟩|⟨g',cap,cur,h1,hg,hb,hle,hm,kv,Xh⟩
 · cases h1
 · cases h1;refine .inr ⟨g,c,cur,rfl,hg,hb,by omega,hm,kv,?_⟩;rw[←Xh,List.take_take,Nat.min_eq_left Yv]
theorem IG{α:Type}{enc:α→List Value}{k:Nat}(Hu:∀x,(enc x).length=k)(st:List α)(x:α)(j:Nat):((st++[x]).flatMap enc)[st.length*k+j]?=(enc x)[j]?:=by
 rw[List.flatMap_append,List.getElem?_append_right (by rw[jl Hu];omega),jl Hu,Nat.add_sub_cancel_left];simp
theorem BN{α:Type}{enc:α→List Value}{k:Nat}(Hu:∀x,(enc x).length=k)(st r:List α):((st++r).flatMap enc).take (st.length*k)=st.flatMap enc:=by
 rw[List.flatMap_append,←jl Hu st,List.take_left]
section
variable {w w':World} {l:aH} {p:M.ax} {B kb:Nat} {k:Int} {m:M.Method} {t:qj} {at_:Int} {s:M.iY} {vl vs:Value}
theorem aQ.neb(h:aQ w l p B kb k m t at_ s vl vs):vl.ownBlock≠some kb∧vs.ownBlock≠some kb:=by
 constructor
 · intro e;rcases h.loc.2 with⟨h1,_⟩|⟨g,cap,cur,h1,hg,hb,_⟩
   · rw[h1]at e;cases e
   · rw[h1]at e;cases e;exact absurd (ay.inj (show ay w g 139 cur from hb) h.blk) Wk
 · intro e;rcases h.dD.2 with⟨h1,_⟩|⟨g,cap,cur,h1,hg,hb,_⟩
   · rw[h1]at e;cases e
   · rw[h1]at e;cases e;exact absurd (ay.inj (show ay w g 139 cur from hb) h.blk) Wk
theorem aQ.kp{D:Nat→Prop}(h:aQ w l p B kb k m t at_ s vl vs)(hk:Kp D w w')(hL:aC w' l p)(hD:∀b,B≤b→b<w.heap.size→¬D b)(hO:∀b,b<l.O→¬D b):aQ w' l p B kb k m t at_ s vl vs:=
 ⟨hL,h.hB,h.hk,bQ.kp aG.stays hk (fun b hb=>hO b hb) h.ml,h.mi,h.blk.kp hk (hD _ h.hk h.blk.lt),aA h.loc hk (fun g hg hb=>hD g hb (h.loc.lt g hg).2),aA h.dD hk (fun g hg hb=>hD g hb (h.dD.lt g hg).2),h.ne,h.uB,h.ssz,h.VS⟩
theorem aQ.ext(h:aQ w l p B kb k m t at_ s vl vs)(hE:Ext w w'):aQ w' l p B kb k m t at_ s vl vs:=
 h.kp hE (h.dN.ext hE) (fun _ _ _ x=>x) (fun _ _ x=>x)
theorem aQ.kp'{D:Nat→Prop}(h:aQ w l p B kb k m t at_ s vl vs)(hk:Kp D w w')(hL:aC w' l p)(h1:¬D kb)(h2:∀g,vl.ownBlock=some g→¬D g)(h3:∀g,vs.ownBlock=some g→¬D g)(hO:∀b,b<l.O→¬D b):aQ w' l p B kb k m t at_ s vl vs:=
 ⟨hL,h.hB,h.hk,bQ.kp aG.stays hk (fun b hb=>hO b hb) h.ml,h.mi,h.blk.kp hk h1,aA h.loc hk (fun g hg _=>h2 g hg),aA h.dD hk (fun g hg _=>h3 g hg),h.ne,h.uB,h.ssz,h.VS⟩
theorem aQ.kM(h:aQ w l p B kb k m t at_ s vl vs)(hk:Kp (·=l.D) w w')(hL:aC w' l p):aQ w' l p B kb k m t at_ s vl vs:=
 h.kp hk hL (fun b hb _ e=>by have:=h.hB;have:=hL.ord;omega) (fun b hb e=>by have:=hL.ord;omega)
theorem aQ.setStack(h:aQ w l p B kb k m t at_ s vl vs){st:List M.Tag}{vs':Value}(hk:Kp (fun b=>b=kb∨vs.ownBlock=some b) w w')
    (hb:ay w' kb 214 (OX l.L k m t at_ vl vs')) (ho:w'.ownsRow B 139 2 vs' st.length (st.flatMap iD)) (hn:∀g,vs'.ownBlock=some g→vs.ownBlock=some g∨w.heap.size≤g) (kv:(st.length:Int)≤m.stack):
    aQ w' l p B kb k m t at_ ⟨s.locals,st⟩ vl vs'∧Kp (jf l kb vl vs) w w'∧bW w.heap.size vl vs vl vs':=by
 have hBk:=h.hk;have hB:=h.hB;have hO:=h.dN.ord;have vR:∀b,b≤l.L→¬(b=kb∨vs.ownBlock=some b):=fun b hbl e=>by
  rcases e with e|e
  · omega
  · have:=(h.dD.lt b e).1;omega
 refine⟨⟨h.dN.kp hk vR,h.hB,h.hk,bQ.kp aG.stays hk (fun b hb=>vR b Wg) h.ml,h.mi,hb,?_,ho,?_,h.uB,kv,h.VS⟩,hk.weak fun b _ e=>?_,fun g hg=>?_⟩
 · refine aA h.loc hk fun g hg _ e=>?_;rcases e with e|e
   · subst e;exact h.neb.1 hg
   · exact h.ne g hg e
 · intro g hg e;rcases hn g e with e|e
   · exact h.ne g hg e
   · have:=(h.loc.lt g hg).2;omega
 · rcases e with e|e
   · exact .inr (.inl e)
   · exact .inr (.inr (.inr e))
 · rcases hg with e|e
   · exact .inl e
   · rcases hn g e with e|e
     · exact .inr (.inl e)
     · exact .inr (.inr e)
end
theorem uK(w:World)(l:aH)(p:M.ax)(B kb:Nat)(k:Int)(m:M.Method)(t:qj)(at_:Int)(s:M.iY)(vl vs:Value)(h:aQ w l p B kb k m t at_ s vl vs)(hs:s.stack=[]):
    Calls Tryz.prog 177 #[.pointer (some ⟨kb,0,none⟩)] w fun e w'=>e=.panicked (zP (at_+1))∧Ext w w':=by
 obtain⟨a,c,rfl⟩:=bO h.dD;have hl:s.stack.length=0:=by rw[hs];rfl
 have c12:=h.blk.c 12 (.slice a 0 c) (by rw[←hl];rfl);obtain⟨hz, -, -, -, -, -, -, -, -, -, -,c10, -⟩:=h.blk.ca;clear hl;have uB:=h.uB;clear h hs;go_enter Tryz.func177,Tryz.ntmps177;go_wp2_with fail;refine(gW _ kb at_ (Kp.aD (Kp.rr.alloc _:Ext w _) c10) uB.1 Wg).mono ?_;rintro e w1 ⟨rfl,rfl⟩;exact⟨rfl,rfl,kx⟩
theorem yg(w:World)(l:aH)(p:M.ax)(B kb:Nat)(k:Int)(m:M.Method)(t:qj)(at_:Int)(s:M.iY)(vl vs:Value)(h:aQ w l p B kb k m t at_ s vl vs)(st:List M.Tag)(x:M.Tag)(hs:s.stack=st++[x]):
    Calls Tryz.prog 177 #[.pointer (some ⟨kb,0,none⟩)] w fun e w'=>e=.returned (.agg #[.int .i64 x.kind,.string x.name])∧(∃vs',aQ w' l p B kb k m t at_ ⟨s.locals,st⟩ vl vs'∧bW w.heap.size vl vs vl vs')∧Kp (jf l kb vl vs) w w':=by
 have hlen:s.stack.length=st.length+1:=by rw[hs];simp
 have dY:=h.dD;rw[hlen]at dY;obtain⟨g,cp,rfl,hg,hgl,hcp⟩:=cB dY Wg;have hcells:=dY.cells (g:=g) rfl;have x0:w.cell? ⟨g,st.length*2,none⟩=some (.int .i64 x.kind):=by
  have:=hcells (st.length*2) (.int .i64 x.kind) (by rw[hs];have:=IG (enc:=iD) (k:=2) (fun _=>rfl) st x 0;rw[Nat.add_zero]at this;rw[this];rfl);simpa [Addr.add_lit]using this
 have x1:w.cell? ⟨g,st.length*2+1,none⟩=some (.string x.name):=by
  have:=hcells (st.length*2+1) (.string x.name) (by rw[hs,IG (enc:=iD) (k:=2) (fun _=>rfl) st x 1];rfl);simpa [Addr.add_lit]using this
 have hss:=h.ssz;have hm5:=h.mi.stack;obtain⟨w0,bI,aU,b2⟩:=nu w #[.int .i64 0,.string ⟨#[]⟩] 139;have hA:=h.ext aU;obtain⟨T,f,dA,HT⟩:=iN.ex (fun W'=>Ext w0 W') _ Kp.rr;have Tu:=fun s=>(hA.blk.ext (HT.aW s)).c 12 (.slice (some ⟨g,0,none⟩) (st.length+1) cp) (by rw[←hlen];rfl);have r0:=fun s=>(aU.trans (HT.aW s)).aD x0;have r1:=fun s=>(aU.trans (HT.aW s)).aD x1;have hw:IntKind.i64.wrap ((st.length:Int)+1 - 1)=(st.length:Int):=by rw[IntWalk.i64_in _ Wg];omega
 have⟨aj,dO,HA,H,bM,mQ,Bz,HS,Zl⟩:=LX HT bI hA h aU b2 hlen hs hcp;have hl5:(st.length:Int)≤5:=by omega
 have c12:=h.blk.c 12 (.slice (some ⟨g,0,none⟩) (st.length+1) cp) (by rw[←hlen];rfl);have hz:=h.blk.lt;clear bI hA h aU b2 hlen hs hcells x0 x1 dY HT hss hm5;go_enter Tryz.func177,Tryz.ntmps177;go_wp2_with fail;rw[←dO.o];(refine eO aj 13 [([0,1,2,3,4,5,6,7,8,9,10,11],12)] [] ?_ ?_)
 · exact Kp.rr.drew
 refine iX ?_;intro K2 ag;go_wp2_with fail;(refine kk aj ag kx ?_);clear ag K2;(refine dW ?_);go_wp2_with fail;obtain⟨w3,jD⟩:∃w3,w3=(w0.alloc (.cells #[.int .i64 x.kind,.string x.name] 139)).drew:=⟨_,rfl⟩;have dK:Ext w0 w3:=by rw[jD];exact kx
 have b3:ay w3 w0.heap.size 139 #[.int .i64 x.kind,.string x.name]:=by rw[jD];exact(ay.new _ _ _).ext Kp.rr.drew
 have Td:=HA.o.ext dK;have KQ:w3.heap.size=w0.heap.size+1:=by rw[jD];simp
 have vU:w0.heap.size=w.heap.size+1:=by rw[dO.o];simp
 have HZ:=Z3 (And.intro KQ vU);rw[←jD];clear jD aj Tu r0 r1;obtain⟨T,f,dA,HT⟩:=iN.ex (fun W'=>Ext w3 W') _ Kp.rr;have Tu:=fun s=>(Td.blk.ext (HT.aW s)).c 12 (.slice (some ⟨g,0,none⟩) (st.length+1) cp) (by rw[←Bz.o];rfl);have aj:=Z3 HT;have aic:(st.length:Int)≤cp:=by have:=Zl.o;omega
 (refine eO aj 12 [] [0,1,2,3,4,5,6,7,8,9,10,11] ?_ ?_)
 · exact Kp.rr.drew
 (refine vI [_,_,_,_,_,_,_,_,_,_,_,_] rfl fun K hK=>?_);(repeat (go_big_quiet_step (fail)));(refine qn hK ?_);clear hK K;have d12:=Td.blk.c 12 (.slice (some ⟨g,0,none⟩) (st.length+1) cp) (by rw[←Bz.o];rfl);have e12:=Td.blk.frozen 12;have z3:=Td.blk.lt;obtain⟨-,u0,u1, -⟩:=b3.ca;have b23:=mQ.o.ext dK;obtain⟨i2,v0,v1, -⟩:=b23.ca;obtain⟨i0,i1, -⟩:=b23.fz;have⟨HA3,jc,gN⟩:=bg Td dK b23;have n1:¬w0.heap.size=kb:=by omega
 have n2:¬w.heap.size=kb:=by omega
 have n3:¬kb=w0.heap.size:=by omega
 have n4:¬kb=w.heap.size:=by omega
 clear Td dK b3 b23 HT Tu c12 vU KQ;go_wp2_with fail;have l8:Kp (fun b=>b=kb∨(Value.slice (some ⟨g,0,none⟩) (st.length+1) cp).ownBlock=some b) w3 (w3.setCell ⟨kb,12,none⟩ (.slice (some ⟨g,0,none⟩) st.length cp)):=(Kp.refl _ w3).setCell (p:=⟨kb,12,none⟩) (fun _=>.inl rfl) _;have L9:=HA3.o.dD;rw[Bz.o,HS.o]at L9;have Xh:=Ck L9 (j:=st.length) Wg;rw[BN (enc:=iD) (k:=2) (fun _=>rfl)]at Xh;have agz:=HA3.o.blk.bE 12 (.slice (some ⟨g,0,none⟩) st.length cp);have oV:=HA3.o.neb;have agu:=HA3.o;obtain⟨hS,ZV,hOS⟩:=agu.setStack (st:=st) (vs':=.slice (some ⟨g,0,none⟩) st.length cp) l8 agz (aA (D:=(·=kb)) Xh ((Kp.refl (·=kb) w3).setCell (p:=⟨kb,12,none⟩) (fun _=>rfl) _) (fun q hq _ e=>by cases hq;subst e;exact oV.2 rfl)) (fun q hq=>.inl hq) (by have:=HA3.o.ssz;rw[Bz.o]at this;omega);generalize w3.setCell ⟨kb,12,none⟩ (.slice (some ⟨g,0,none⟩) st.length cp)=w4 at*;have mU:∀D:Nat→Prop,D w.heap.size→Kp D w4 ((w4.setCell ⟨w.heap.size,0,none⟩ (.int .i64 x.kind)).setCell ⟨w.heap.size,1,none⟩ (.string x.name)).drew:=fun D hD=>
  (((Kp.refl D w4).setCell (p:=⟨w.heap.size,0,none⟩) (fun _=>hD) _).setCell (p:=⟨w.heap.size,1,none⟩) (fun _=>hD) _).drew
 have nM:ay w4 w.heap.size 139 #[.int .i64 0,.string ⟨#[]⟩]:=gN.o.kp l8 (fun e=>by
  rcases e with e|e
  · omega
  · have e':g=w.heap.size:=by simpa [Value.ownBlock]using e
    omega)
 have yQ:=ae.gM ((nM.bE 0 (.int .i64 x.kind)).bE 1 (.string x.name));refine bodyPost_ret (aY pR rfl _ _ w.heap.size rfl (iD x) (yQ.ext Kp.rr.drew) rfl) rfl ?_;have hBk:=H.o.hk;have hBB:=H.o.hB;have hOO:=H.o.dN.ord;have bY:=H.o.blk.lt;refine⟨rfl,⟨_,hS.kp' (mU (·=w.heap.size) rfl) (hS.dN.kp (mU (·=w.heap.size) rfl) (fun b hb e=>by omega)) Wg (fun q hq e=>by have:=(H.o.loc.lt q hq).2;omega) (fun q hq e=>by
  have e':g=q:=by simpa [Value.ownBlock]using hq
  omega) (fun b hb e=>by omega),hOS.le Wg⟩,?_⟩
 exact(((bM.o.trans jc.o).any).trans ZV).own (mU (·=w.heap.size) rfl) (fun q hq=>by omega)
end Go.Proofs.YtkmclfpjpajjeaaGreat
namespace Go.Proofs.YtkmclfpjpajjeaaGreat
open Go Go.RowKit
theorem Ms(w:World)(l:aH)(p:M.ax)(B kb:Nat)(k:Int)(m:M.Method)(t:qj)(at_:Int)(s:M.iY)(vl vs:Value)(h:aQ w l p B kb k m t at_ s vl vs)(x:M.Tag)(hs:m.stack≤s.stack.length):
    Calls Tryz.prog 175 #[.pointer (some ⟨kb,0,none⟩),.agg #[.int .i64 x.kind,.string x.name]] w fun e w'=>e=.panicked (zP (at_+1))∧Ext w w':=by
 obtain⟨a,c,rfl⟩:=bO h.dD;obtain⟨w0,bI⟩:∃w0,w0=w.alloc (.cells #[.int .i64 x.kind,.string x.name] 139):=⟨_,rfl⟩;have aU:Ext w w0:=by rw[bI];exact kx
 have hA:=h.ext aU;obtain⟨T,f,dA,HT⟩:=iN.ex (fun W'=>Ext w0 W') _ Kp.rr;have Tu:=fun s'=>(hA.blk.ext (HT.aW s')).c 12 (.slice a s.stack.length c) rfl;obtain⟨-, -, -, -, -, -, -, -,r7, -, -,r10, -⟩:=ay.kY fun s'=>(hA.blk.ext (HT.aW s'));have⟨aj,dO,bM⟩:=bg HT bI aU;have uB:=h.uB;have hd:decide (m.stack≤(s.stack.length:Int))=true:=decide_eq_true hs;clear h hs HT bI aU hA;go_enter Tryz.func175,Tryz.ntmps175;go_wp2_with fail;rw[←dO.o];(refine Hb aj ?_ ?_);rotate_left;(repeat (go_big_quiet_step ((fail))));(refine wpQuiet_nil ?_);(rintro _ ⟨sW,rfl⟩);rotate_left
 · exact Kp.rr.drew
 go_wp2_with fail;refine(gW _ kb at_ (r10 sW) uB.1 Wg).mono ?_;rintro e w1 ⟨rfl,rfl⟩;exact⟨rfl,rfl,bM.o.trans (aj.o.aW sW)⟩
theorem VO(w:World)(l:aH)(p:M.ax)(B kb:Nat)(k:Int)(m:M.Method)(t:qj)(at_:Int)(s:M.iY)(vl vs:Value)(h:aQ w l p B kb k m t at_ s vl vs)(x:M.Tag)(hs:(s.stack.length:Int)<m.stack):
    Calls Tryz.prog 175 #[.pointer (some ⟨kb,0,none⟩),.agg #[.int .i64 x.kind,.string x.name]] w fun e w'=>e=.returned (.tuple #[])∧(∃vs',aQ w' l p B kb k m t at_ ⟨s.locals,s.stack++[x]⟩ vl vs'∧bW w.heap.size vl vs vl vs')∧Kp (jf l kb vl vs) w w':=by
 obtain⟨a,c,rfl⟩:=bO h.dD;obtain⟨w0,bI,aU,b3⟩:=nu w #[.int .i64 x.kind,.string x.name] 139;have hA:=h.ext aU;obtain⟨T,f,dA,HT⟩:=iN.ex (fun W'=>Ext w0 W') _ Kp.rr;have Tu:=fun s'=>(hA.blk.ext (HT.aW s')).c 12 (.slice a s.stack.length c) rfl;have r7:=fun s'=>(hA.blk.ext (HT.aW s')).c 7 (.int .i64 m.stack) rfl;have⟨aj,dO,bM,HA,gN,H⟩:=qU HT bI aU hA b3 h;have hd:decide (m.stack≤(s.stack.length:Int))=false:=decide_eq_false Wg;clear h HT bI aU hA b3;go_enter Tryz.func175,Tryz.ntmps175;go_wp2_with fail;rw[←dO.o];(refine Hb aj ?_ ?_);rotate_left;(repeat (go_big_quiet_step ((fail))));(refine wpQuiet_nil ?_);(rintro _ ⟨sW,rfl⟩);rotate_left
 · exact Kp.rr.drew
 go_wp2_with fail;have bH:=aj.o.aW sW;generalize f sW=w1 at*;clear aj Tu r7;have rZ:=HA.o.ext bH;have PZ:=gN.o.ext bH;have ahq:=bH.size;have hzw:w.heap.size<w0.heap.size:=by rw[dO.o];simp
 obtain⟨T,f,dA,HT⟩:=iN.ex (fun W'=>Kp (fun b=>(Value.slice a s.stack.length c).ownBlock=some b) w1 W') _ Kp.rr;have hnw:¬(Value.slice a s.stack.length c).ownBlock=some w.heap.size:=fun e=>by have:=(H.o.dD.lt _ e).2;omega
 have Tu:=fun s'=>(rZ.blk.kp (HT.aW s') rZ.neb.2).c 12 (.slice a s.stack.length c) rfl;obtain⟨-,r0,r1, -⟩:=ay.kY fun s'=>(PZ.kp (HT.aW s') hnw);have⟨aj,kX,eQ⟩:=bg HT rZ bH;have hm5:s.stack.length+1≤4294967296:=by have:=rZ.mi.stack;omega
 have hBw:B≤w1.heap.size:=by have:=rZ.blk.lt;have:=rZ.hk;omega
 clear HT rZ PZ bH hnw;(refine eO aj 8 [([0,1,2,3,4,5],6),([],7)] [] ?_ ?_)
 · exact Kp.rr.drew
 refine iX ?_;intro K2 ag;go_wp2_with fail;(refine kk aj ag kx ?_);clear ag K2;(refine gZ rfl fun K2 ag=>?_);refine az sJ rfl (.tmp 21) (.tmp 23) rfl B (.slice a s.stack.length c) s.stack.length _ rfl (aA (D:=fun _=>False) kX.o.dD kx fun _ _ _ x=>x) w1.heap.size 1 (iD x) rfl rfl (ae.RZ _ _ rfl) (uM _) hm5 X2 ?_;intro g2 c2 w2 UR hKp Rl;change K2 _ _;have El:Kp (fun b=>(Value.slice a s.stack.length c).ownBlock=some b) w1 w2:=(kx:Ext w1 _).any.trans hKp;(refine kk aj ag El ?_);clear ag K2;have hB2:=kX.o.blk.kp El kX.o.neb.2;have d0:=hB2.c 12 (.slice a s.stack.length c) rfl;have e0:=hB2.frozen 12;have z1:=hB2.lt;have⟨mQ,tY,Zr,HG2⟩:=gD hB2 UR El Rl;clear UR hKp El hB2 Rl Tu r0 r1;(refine dW ?_);go_wp2_with fail;((try simp only[Exit.inBlock,Exit.then]);(first|refine bodyPost_ret (results_none rfl _ _ _) rfl ?_|refine bodyPost_end (results_none rfl _ _ _) rfl ?_));have dw:∀D:Nat→Prop,D kb→∀v,Kp D w2 (w2.setCell ⟨kb,12,none⟩ v):=fun D hD v=>(Kp.refl D w2).setCell (p:=⟨kb,12,none⟩) (fun _=>hD) v;have hlen:(s.stack++[x]).length=s.stack.length+1:=by simp
 have hgk:g2≠kb:=fun e=>by
  subst e;rcases HG2.o with h|h
  · exact kX.o.neb.2 h
  · have:=kX.o.blk.lt;simp at h;omega
 obtain⟨hS,ZV,hOS⟩:=kX.o.setStack (st:=s.stack++[x]) (vs':=.slice (some ⟨g2,0,none⟩) (s.stack.length+1) c2) ((Zr.o.weak fun b _ h=>.inr h).trans (dw _ (.inl rfl) (.slice (some ⟨g2,0,none⟩) (s.stack.length+1) c2))) (mQ.o.bE 12 _) (by
  have h2:=aA tY.o (dw (·=kb) rfl (.slice (some ⟨g2,0,none⟩) (s.stack.length+1) c2)) (fun q hq _ e=>by cases hq;exact hgk e);rw[hlen];simpa using h2) (fun q hq=>by
   have hgq:g2=q:=by simpa [Value.ownBlock]using hq
   subst hgq;rcases HG2.o with h|h
   · exact .inl h
   · right;simp at h;omega) (by rw[hlen];omega)
 exact⟨rfl,⟨_,hS,hOS.le Wg⟩,((bM.o.trans eQ.o).any).trans ZV⟩
def bG(w:World)(l:aH)(p:M.ax)(B kb:Nat)(k:Int)(m:M.Method)(t:qj)(at_:Int)(vl vs:Value)(o:Option M.iY)(e:Ending)(w':World):Prop:=
 Kp (jf l kb vl vs) w w'∧aC w' l p∧
 ((o=none∧e=.panicked (zP (at_+1)))∨∃s',o=some s'∧e=.returned (.tuple #[])∧∃tJ vs',aQ w' l p B kb k m t at_ s' tJ vs'∧bW w.heap.size vl vs tJ vs')
theorem mJ(w:World)(l:aH)(p:M.ax)(B kb:Nat)(k:Int)(m:M.Method)(t:qj)(at_:Int)(s:M.iY)(vl vs:Value)(h:aQ w l p B kb k m t at_ s vl vs)(x:M.Tag):
    Calls Tryz.prog 175 #[.pointer (some ⟨kb,0,none⟩),.agg #[.int .i64 x.kind,.string x.name]] w (bG w l p B kb k m t at_ vl vs (M.iB m x s)):=by
 by_cases hs:m.stack≤s.stack.length
 · refine(Ms w l p B kb k m t at_ s vl vs h x hs).mono ?_;rintro e w' ⟨rfl,hE⟩;exact⟨hE.any,h.dN.ext hE,.inl ⟨by unfold M.iB;rw[if_pos hs],rfl⟩⟩
 · refine(VO w l p B kb k m t at_ s vl vs h x Wg).mono ?_;rintro e w' ⟨rfl,⟨vs',hS,hO⟩,hK⟩;exact⟨hK,hS.dN,.inr ⟨_,by unfold M.iB;rw[if_neg hs],rfl,_,_,hS,hO⟩⟩
theorem iU(w:World)(l:aH)(p:M.ax)(B kb:Nat)(k:Int)(m:M.Method)(t:qj)(at_:Int)(s:M.iY)(vl vs:Value)(h:aQ w l p B kb k m t at_ s vl vs)(x:M.Tag):
    Calls Tryz.prog 178 #[.pointer (some ⟨kb,0,none⟩),.agg #[.int .i64 x.kind,.string x.name]] w (bG w l p B kb k m t at_ vl vs (M.gK p k x s)):=by
 obtain⟨w0,bI,aU,b3⟩:=nu w #[.int .i64 x.kind,.string x.name] 139;have hA:=h.ext aU;have hOw:=h.dN.ord;have CV:=h.dN.lt;have BZ:=h.blk.lt;have uB:=h.uB;obtain⟨T,f,dA,HT⟩:=iN.ex (fun W'=>ay W' w.heap.size 139 #[.int .i64 x.kind,.string x.name]∧∃s' tJ vs',aQ W' l p B kb k m t at_ s' tJ vs') w0 ⟨b3,_,_,_,hA⟩;have r0:∀q,(f q).cell? ⟨kb,0,none⟩=some (.pointer (some ⟨l.L,0,none⟩)):=fun q=>by
  obtain⟨_,s',tJ,vs',hq⟩:=HT.aW q;exact hq.blk.c 0 _ rfl
 have r1:∀q,(f q).cell? ⟨kb,1,none⟩=some (.int .i64 k):=fun q=>by
  obtain⟨_,s',tJ,vs',hq⟩:=HT.aW q;exact hq.blk.c 1 _ rfl
 obtain⟨-,r3,r4, -⟩:=ay.kY fun q=>(HT.aW q).1;have⟨aj,dO,bM,HA,gN,H⟩:=qU HT bI aU hA b3 h;clear h HT bI aU hA b3;rcases List.eq_nil_or_concat s.stack with hs|⟨st,y,hs⟩
 · have HO:Zs (M.gK p k x s=none):=Z3 (by unfold M.gK M.nD;rw[hs];rfl);have HS:=Z3 hs;clear hs;go_enter Tryz.func178,Tryz.ntmps178;go_wp2_with fail;rw[←dO.o];(refine eO aj 13 [([0,1,2,3,4,5,6,7,8,10],9),([],11)] [12] ?_ ?_)
   · exact⟨gN.o.ext Kp.rr.drew,_,_,_,HA.o.ext Kp.rr.drew⟩
   refine iX ?_;intro K2 ag;go_wp2_with fail;refine(uK _ _ _ _ _ _ _ _ _ _ _ _ (HA.o.ext Kp.rr.drew) HS.o).mono ?_;rintro e w1 ⟨rfl,bH⟩;have hE:Ext w w1:=(bM.o.trans Kp.rr.drew).trans bH;exact⟨rfl,hE.any,H.o.dN.ext hE,.inl ⟨HO.o,rfl⟩⟩
 · rw[List.concat_eq_append]at hs;have HO:Zs (M.gK p k x s=if M.may p k y x then some ⟨s.locals,st⟩else none):=Z3 (by unfold M.gK M.nD;rw[hs];simp);have HS:=Z3 hs;clear hs;go_enter Tryz.func178,Tryz.ntmps178;go_wp2_with fail;rw[←dO.o];(refine eO aj 13 [([0,1,2,3,4,5,6,7,8,10],9),([],11)] [12] ?_ ?_)
   · exact⟨gN.o.ext Kp.rr.drew,_,_,_,HA.o.ext Kp.rr.drew⟩
   refine iX ?_;intro K2 ag;go_wp2_with fail;refine(yg _ _ _ _ _ _ _ _ _ _ _ _ (HA.o.ext Kp.rr.drew) st y HS.o).mono ?_;rintro e w1 ⟨rfl,⟨vs1,rZ,NB⟩,lI⟩;have Ap:Kp (jf l kb vl vs) w w1:=((bM.o.trans Kp.rr.drew).any).trans lI;have vZ:ay w1 w.heap.size 139 #[.int .i64 x.kind,.string x.name]:=(gN.o.ext Kp.rr.drew).kp lI (fun e=>by
    rcases e with e|e|e|e
    · omega
    · omega
    · have:=(H.o.loc.lt _ e).2;omega
    · have:=(H.o.dD.lt _ e).2;omega)
   have⟨kX,tL,HKw⟩:=bg rZ vZ Ap;have Nw:Zs (bW w.heap.size vl vs vl vs1):=Z3 (NB.le (by have:=bM.o.size;exact this));clear rZ NB lI Ap vZ;go_wp2_with fail;(refine kk aj ag ⟨tL.o,_,_,_,kX.o⟩ ?_);clear ag K2;(refine gZ rfl fun K2 ag=>?_);go_wp2_with fail;refine(Ce _ _ _ kX.o.dN k y x).mono ?_;rintro e w2 ⟨rfl,bZ⟩;have zQ:=Z3 (kX.o.ext bZ);have acR:Zs (Kp (jf l kb vl vs) w w2):=Z3 (HKw.o.trans bZ.any);have mQ:=Z3 (tL.o.ext bZ);clear bZ;cases Av:M.may p k y x
   · have tY:Zs (M.gK p k x s=none):=Z3 (by rw[HO.o,Av];rfl);clear Av;go_wp2_with fail;(refine kk aj ag ⟨mQ.o,_,_,_,zQ.o⟩ ?_);clear ag K2;refine qa ?_;go_wp2_with fail;refine(gW _ kb at_ (zQ.o.blk.c 10 _ rfl) uB.1 Wg).mono ?_;rintro e w3 ⟨rfl,rfl⟩;exact⟨rfl,acR.o,zQ.o.dN,.inl ⟨tY.o,rfl⟩⟩
   · have tY:Zs (M.gK p k x s=some ⟨s.locals,st⟩):=Z3 (by rw[HO.o,Av];rfl);clear Av;go_wp2_with fail;(refine kk aj ag ⟨mQ.o,_,_,_,zQ.o⟩ ?_);clear ag K2;refine qa ?_;go_wp2_with fail;((try simp only[Exit.inBlock,Exit.then]);(first|refine bodyPost_ret (results_none rfl _ _ _) rfl ?_|refine bodyPost_end (results_none rfl _ _ _) rfl ?_));exact⟨acR.o,zQ.o.dN,.inr ⟨_,tY.o,rfl,_,_,zQ.o,Nw.o⟩⟩
theorem vH(w:World)(l:aH)(p:M.ax)(B kb:Nat)(k:Int)(m:M.Method)(t:qj)(at_:Int)(s:M.iY)(vl vs:Value)(h:aQ w l p B kb k m t at_ s vl vs):
    Calls Tryz.prog 182 #[.pointer (some ⟨kb,0,none⟩)] w (bG w l p B kb k m t at_ vl vs (M.sZ s)):=by
 have uB:=h.uB;have H:=Z3 h;clear h;rcases List.eq_nil_or_concat s.stack with hs|⟨st,y,hs⟩
 · have HO:Zs (M.sZ s=none):=Z3 (by unfold M.sZ M.nD;rw[hs];rfl);have HS:=Z3 hs;clear hs;go_enter Tryz.func182,Tryz.ntmps182;go_wp2_with fail;refine(uK _ _ _ _ _ _ _ _ _ _ _ _ H.o HS.o).mono ?_;rintro e w1 ⟨rfl,bH⟩;exact⟨rfl,bH.any,H.o.dN.ext bH,.inl ⟨HO.o,rfl⟩⟩
 · rw [List.concat_eq_append] at hs; have HO : Zs (M.sZ s = if y.kind = 2 ∨ y.kind = 3 then some ⟨s.locals, st⟩ else none) := Z3 (by unfold M.sZ M.nD; rw [hs]; simp); have HS := Z3 hs; clear hs; obtain ⟨yk, yn⟩ := y; have IP : (yk = 2 ∨ (yk = 3 ∧ (yk != 2) = true)) ∧ M.sZ s = some ⟨s.locals, st⟩ ∨ ((yk != 2) = true ∧ (yk != 3) = true) ∧ M.sZ s = none := by
    by_cases h2:yk=2
    · exact .inl ⟨.inl h2,by rw[HO.o,if_pos (.inl h2)]⟩
    · by_cases h3:yk=3
      · exact .inl ⟨.inr ⟨h3,bne_iff_ne.2 h2⟩,by rw[HO.o,if_pos (.inr h3)]⟩
      · exact .inr ⟨⟨bne_iff_ne.2 h2,bne_iff_ne.2 h3⟩,by rw[HO.o,if_neg (by simp[h2,h3])]⟩
   rcases IP with⟨h1,h2⟩|⟨⟨h1,h3⟩,h2⟩
   · have tY:=Z3 h2;clear h2;rcases h1 with rfl|⟨rfl,h1⟩
     all_goals
      go_enter Tryz.func182,Tryz.ntmps182;go_wp2_with fail;refine(yg _ _ _ _ _ _ _ _ _ _ _ _ H.o st _ HS.o).mono ?_;rintro e w1 ⟨rfl,⟨vs1,rZ,NB⟩,lI⟩;have⟨kX,Nw,Ab⟩:=bg rZ NB lI;clear rZ NB lI;go_wp2_with fail;((try simp only[Exit.inBlock,Exit.then]);(first|refine bodyPost_ret (results_none rfl _ _ _) rfl ?_|refine bodyPost_end (results_none rfl _ _ _) rfl ?_));exact⟨Ab.o.alloc _,kX.o.dN.ext kx,.inr ⟨_,tY.o,rfl,_,_,kX.o.ext kx,Nw.o⟩⟩
   · have tY:=Z3 h2;clear h2;go_enter Tryz.func182,Tryz.ntmps182;go_wp2_with fail;refine(yg _ _ _ _ _ _ _ _ _ _ _ _ H.o st _ HS.o).mono ?_;rintro e w1 ⟨rfl,⟨vs1,rZ,NB⟩,lI⟩;have⟨kX,Ab⟩:=aJ rZ lI;clear rZ NB lI;go_wp2_with fail;refine(gW _ kb at_ ((kX.o.ext kx).blk.c 10 _ rfl) uB.1 Wg).mono ?_;rintro e w3 ⟨rfl,rfl⟩;exact⟨rfl,Ab.o.alloc _,kX.o.dN.ext kx,.inl ⟨tY.o,rfl⟩⟩
theorem Li:Ea 138 3:=⟨_,Tryz.underlying138,by kernel_rfl⟩
theorem FX(w:World)(l:aH)(p:M.ax)(B kb:Nat)(k:Int)(m:M.Method)(t:qj)(at_:Int)(s:M.iY)(vl vs:Value)(h:aQ w l p B kb k m t at_ s vl vs)(a:Int):
    Calls Tryz.prog 183 #[.pointer (some ⟨kb,0,none⟩),.int .i64 a] w fun e w'=>
     ((M.yV m a=none∧e=.returned (.tuple #[.agg #[.int .i64 0,.slice none 0 0,.slice none 0 0],.bool false]))∨
      ∃f cs,M.yV m a=some f∧f∈m.maps∧gY w' (· <l.O) f cs∧e=.returned (.tuple #[.agg cs.toArray,.bool true]))∧Ext w w':=by
 obtain⟨w0,bI,aU,b4⟩:=nu w #[.int .i64 0,.slice none 0 0,.slice none 0 0] 138;have hOl:l.O<w.heap.size:=by have:=h.dN.ord;have:=h.dN.lt;omega
 obtain⟨hz, -, -, -, -, -, -, -, -, -,c9, -⟩:=h.blk.ca;obtain⟨_,_,vm,mF,_,_,hms⟩:=h.ml;simp only[iC,List.cons.injEq,and_true,true_and]at mF;obtain⟨-, -,rfl⟩:=mF;have⟨HMS,kP,bM,dO⟩:=gD hms b4 aU bI;have hm5:=h.mi.maps;obtain⟨ta1,tc1,ta2,tc2,ta,tc⟩:=t;simp only at*;clear hms b4 aU bI h;go_enter Tryz.func183,Tryz.ntmps183;go_wp2_with fail;rw[←dO.o];go_loopw [14] (fun i wr=>∃q:Nat,q≤m.maps.length∧i=.int .i64 q∧Ext w0 wr∧Zs (M.yV m a=(m.maps.drop q).find? fun f=>f.at_=a)) (fun i _=>m.maps.length - (intOf i).toNat)
 case atStart=>exact⟨0,Nat.zero_le _,rfl,Kp.rr,Z3 rfl⟩
 case round =>
  obtain⟨q,hq,rfl,hE,HA⟩:=hrel;have BQ:=kP.o.ext hE;obtain⟨yz,y0,y1,y2, -⟩:=BQ.ca;obtain⟨f0,f1,f2, -⟩:=BQ.fz;have⟨KU,SL⟩:=aJ BQ (bM.o.trans hE);clear BQ;by_cases bY:q<m.maps.length
  · obtain⟨x,hx⟩:=iT m.maps q bY;obtain⟨b,off,cs,rfl,KN,OT, -,jy⟩:=HMS.o.get hx;have HXL:=Z3 OT;obtain⟨xa1,xc1,xa2,xc2,rfl⟩:=OT.form;obtain⟨g0,g1,g2⟩:=(jy.ext (bM.o.trans hE)).three;have gz:=aF g0;have HX:=Z3 hx;clear OT jy hx;by_cases Qw:x.at_=a
    · have HR:Zs (M.yV m a=some x):=Z3 (by rw[HA.o,jY HX.o,List.find?_cons_of_pos (by simpa using Qw)]);have ahp:(x.at_==a)=true:=by simpa using Qw
      clear Qw;go_wp2_with fail;have hs:=Kp.qW (D:=(·=w.heap.size)) (w:=wr) rfl (.int .i64 x.at_) (.slice xa1 x.locals.length xc1) (.slice xa2 x.stack.length xc2);have hb:=KU.o.qW (.int .i64 x.at_) (.slice xa1 x.locals.length xc1) (.slice xa2 x.stack.length xc2);refine bodyPost_ret (au Li rfl _ _ w.heap.size rfl [.int .i64 x.at_,.slice xa1 x.locals.length xc1,.slice xa2 x.stack.length xc2] ((ae.gM hb).ext (Kp.rr.alloc _)) rfl) rfl ?_;exact⟨.inr ⟨x,_,HR.o,List.mem_of_getElem? HX.o,bQ.ext gY.stays (Kp.rr.alloc _) (bQ.kp gY.stays hs (fun b hb e=>by omega) (bQ.ext gY.stays SL.o HXL.o)),rfl⟩,(SL.o.own hs (fun k hk=>by omega)).alloc _⟩
    · have HR:Zs (M.yV m a=(m.maps.drop (q+1)).find? fun f=>f.at_=a):=Z3 (by rw[HA.o,jY HX.o,List.find?_cons_of_neg (by simpa using Qw)]);have ahp:(x.at_==a)=false:=beq_eq_false_iff_ne.2 Qw;clear Qw;go_wp2_with fail;go_roundw
      case rel=>exact⟨q+1,by omega,by go_num,kx,HR⟩
      case measure=>simp[intOf];omega
  · have HR:Zs (M.yV m a=none):=Z3 (by rw[HA.o,List.drop_eq_nil_of_le Wg];rfl);go_wp2_with fail;have hs:=Kp.qW (D:=(·=w.heap.size)) (w:=wr) rfl (.int .i64 0) (.slice none 0 0) (.slice none 0 0);have hb:=KU.o.qW (.int .i64 0) (.slice none 0 0) (.slice none 0 0);refine bodyPost_ret (au Li rfl _ _ w.heap.size rfl [.int .i64 0,.slice none 0 0,.slice none 0 0] (ae.gM hb) rfl) rfl ?_;exact⟨.inl ⟨HR.o,rfl⟩,SL.o.own hs (fun k hk=>by omega)⟩
theorem X3{α:Type}{enc:α→List Value}{k:Nat}(Hu:∀x,(enc x).length=k):∀(l:List α) (i:Nat) (x:α),l[i]?=some x→∀j u,(enc x)[j]?=some u→(l.flatMap enc)[i*k+j]?=some u:=by
 intro l;induction l with
 |nil=>intro i x h;simp at h
 | cons y r ih =>
  intro i x hx j u hj;rw[List.flatMap_cons];cases i with
  |zero=>
   simp at hx;subst hx;rw[List.getElem?_append_left (by rw[Nat.zero_mul,Nat.zero_add];exact(List.getElem?_eq_some_iff.1 hj).1),Nat.zero_mul,Nat.zero_add];exact hj
  |succ i=>
   rw[List.getElem?_append_right (by rw[Hu,Nat.succ_mul];omega),Hu,show(i+1)*k+j - k=i*k+j from by rw[Nat.succ_mul];omega];exact ih i x (by simpa using hx) j u hj
theorem fC{α:Type}{enc:α→List Value}{k:Nat}(Hu:∀x,(enc x).length=k){w:World}{base e g n c:Nat}{l:List α}(h:w.ownsRow base e k (.slice (some ⟨g,0,none⟩) n c) n (l.flatMap enc)){i:Nat}{x:α}(hx:l[i]?=some x):
    ae w g (i*k) (enc x):=by
 intro j v hj;have:=h.cells (g:=g) rfl _ _ (X3 Hu l i x hx j v hj);unfold Addr.add at this;split at this
 · rename_i h0;rw[h0];exact this
 · simpa using this
theorem Dj{p:M.ax}{k:Int}{a b:List M.Tag}{q:Nat}{x y:M.Tag}(hx:a[q]?=some x)(hy:b[q]?=some y):M.fK p k (a.drop q) (b.drop q)=(M.may p k x y&&M.fK p k (a.drop (q+1)) (b.drop (q+1))):=by
 rw[jY hx,jY hy];rfl
theorem F8{p:M.ax}{k:Int}{a b:List M.Tag}{q:Nat}(h:b.length≤q):M.fK p k (a.drop q) (b.drop q)=true:=by
 have e:b.drop q=[]:=List.drop_eq_nil_of_le h;rw[e];cases a.drop q<;>rfl
theorem yU(w:World)(l:aH)(p:M.ax)(B kb:Nat)(k:Int)(m:M.Method)(t:qj)(at_:Int)(s:M.iY)(vl vs:Value)(h:aQ w l p B kb k m t at_ s vl vs)(fm:M.SMap)(cs:List Value)(hf:gY w (· <l.O) fm cs)(zA:fm.locals.length=s.locals.length):
    Calls Tryz.prog 184 #[.pointer (some ⟨kb,0,none⟩),.agg cs.toArray] w fun e w'=>e=.returned (.bool (M.dS p k s fm))∧Ext w w':=by
 have rY:=Z3 hf;obtain⟨fa1,WR,fa2,P7,rfl⟩:=hf.form;obtain⟨_,_,he,vC,hss⟩:=hf;simp only[List.cons.injEq,and_true,true_and]at he;obtain⟨rfl,rfl⟩:=he;obtain⟨w0,bI,aU,b3⟩:=nu w #[.int .i64 fm.at_,.slice fa1 fm.locals.length WR,.slice fa2 fm.stack.length P7] 138;have hA:=h.ext aU;obtain⟨sa,sc,rfl⟩:=bO h.dD;obtain⟨la,lc,rfl⟩:=bO h.loc;obtain⟨T,f,dA,HT⟩:=iN.ex (fun W'=>Ext w0 W') _ Kp.rr;have Tu:=fun q=>(hA.blk.ext (HT.aW q)).c 12 (.slice sa s.stack.length sc) rfl;have r2:=fun q=>(b3.ext (HT.aW q)).c 2 (.slice fa2 fm.stack.length P7) rfl;have⟨aj,dO,bM,HA,gN,Ad⟩:=qU HT bI aU hA b3 (And.intro vC hss);have hll:fm.locals.length≤6:=by have:=h.VS;have:=h.mi.locals;omega
 have aiu:s.stack.length≤5:=by have:=h.ssz;have:=h.mi.stack;omega
 have XC:=Z3 zA;clear h HT bI aU hA b3 vC hss zA;by_cases dw:fm.stack.length=s.stack.length
 · have HU:Zs (M.dS p k s fm=(M.fK p k s.locals fm.locals&&M.fK p k s.stack fm.stack)):=Z3 (by unfold M.dS;rw[decide_eq_true dw];rfl);have YG:((fm.stack.length:Int) !=(s.stack.length:Int))=false:=by simp[dw]
   have pM:=Z3 dw;clear dw;go_enter Tryz.func184,Tryz.ntmps184;go_wp2_with fail;rw[←dO.o];(refine Hb aj ?_ ?_);rotate_left;(repeat (go_big_quiet_step ((fail))));(refine wpQuiet_nil ?_);(rintro _ ⟨sW,rfl⟩);rotate_left
   · exact Kp.rr.drew
   have bH:=aj.o.aW sW;generalize f sW=w1 at*;clear aj Tu r2 YG;have rZ:=HA.o.ext bH;have hB1:=gN.o.ext bH;obtain⟨-, -,p1,p2, -⟩:=hB1.ca;have⟨kX,tL⟩:=aJ rZ hB1;have eQ:Zs (Ext w w1):=Z3 (bM.o.trans bH);clear rZ hB1 bH;go_wp2_with fail;go_loopw [21] (fun i wr=>∃q:Nat,q≤fm.locals.length∧i=.int .i64 q∧Ext w1 wr∧Zs (M.fK p k s.locals fm.locals=M.fK p k (s.locals.drop q) (fm.locals.drop q))) (fun i _=>fm.locals.length - (intOf i).toNat)
   case atStart=>exact⟨0,Nat.zero_le _,rfl,Kp.rr,Z3 rfl⟩
   case round=>
    obtain⟨q,hq,rfl,hE,TC⟩:=hrel;have Ot:=kX.o.ext hE;have hBr:=tL.o.ext hE;have p2r:=hBr.c 2 (.slice fa2 fm.stack.length P7) rfl;have⟨Ji,SI,SL⟩:=bg hBr Ot hE;by_cases bY:q<fm.locals.length
    · obtain⟨y,hy⟩:=iT fm.locals q bY;obtain⟨x,hx⟩:=iT s.locals q (by rw[←XC.o];exact bY);obtain⟨b,off,cs,rfl,KN,rfl, -,jy⟩:=Ad.o.1.get hy;obtain⟨g0,g1⟩:=(jy.ext (eQ.o.trans hE)).two;have gz:=aF g0;have qN:=Ot.loc;obtain⟨lg,Tq,hlv,KO,Rl,hg3⟩:=cB qN (by rw[←XC.o];omega);cases hlv;obtain⟨x0,x1⟩:=(fC (enc:=iD) (k:=2) (fun _=>rfl) qN hx).two;have HM:Zs (M.fK p k s.locals fm.locals=(M.may p k x y&&M.fK p k (s.locals.drop (q+1)) (fm.locals.drop (q+1)))):=Z3 (by rw[TC.o,Dj hx hy]);obtain⟨W4,LM,dI,b6⟩:=nu wr #[.int .i64 y.kind,.string y.name] 139;obtain⟨T,f,dA,HT⟩:=iN.ex (fun W'=>Ext W4 W') _ Kp.rr;obtain⟨-,e0,e1, -, -, -, -, -, -, -, -, -,e11, -⟩:=ay.kY fun z=>(Ot.blk.ext (dI.trans (HT.aW z)));have e2:=fun z=>(dI.trans (HT.aW z)).aD x0;have e3:=fun z=>(dI.trans (HT.aW z)).aD x1;obtain⟨-,e6,e7, -⟩:=ay.kY fun z=>(b6.ext (HT.aW z));have⟨aj,EN,HL4,iG⟩:=gD HT LM (Ot.dN.ext dI) dI;have hqs:(q:Int)<s.locals.length:=by have:=XC.o;omega
      clear jy hy hx qN x0 x1 LM dI b6 HT Ot hBr;go_wp2_with fail;rw[←EN.o];(refine eO aj 18 [([0,1,2,3,4,5,6,7,8,9,10,11,12,13,14,15],16)] [17] ?_ ?_)
      · exact Kp.rr.drew
      refine iX ?_;intro K2 ag;go_wp2_with fail;refine(Ce _ _ _ (HL4.o.ext Kp.rr.drew) k x y).mono ?_;rintro e w5 ⟨rfl,cZ⟩;have rM:Ext W4 w5:=(Kp.rr.drew:Ext W4 _).trans cZ;have gy:Zs (Ext wr w5):=Z3 (iG.o.trans rM);cases Av:M.may p k x y
      · have HR:Zs (M.dS p k s fm=false):=Z3 (by rw[HU.o,HM.o,Av];rfl);clear Av cZ;go_wp2_with fail;(refine kk aj ag rM ?_);clear ag K2;refine qa ?_;go_wp2_with fail;go_ret;exact⟨af HR.o.symm,eQ.o.trans (SL.o.trans gy.o)⟩
      · have HR:Zs (M.fK p k s.locals fm.locals=M.fK p k (s.locals.drop (q+1)) (fm.locals.drop (q+1))):=Z3 (by rw[HM.o,Av];rfl);clear Av cZ;go_wp2_with fail;(refine kk aj ag rM ?_);clear ag K2;refine qa ?_;go_wp2_with fail;refine⟨⟨q+1,by omega,by go_num,SL.o.trans gy.o,HR⟩,by simp[intOf];omega⟩
    · have HU2:Zs (M.dS p k s fm=M.fK p k s.stack fm.stack):=Z3 (by rw[HU.o,TC.o,F8 Wg];rfl);obtain⟨wo,rfl⟩:∃wo:World,wo=wr:=⟨_,rfl⟩;have HAo:=SI;have HBo:=Ji;have HEo:Zs (Ext w wo):=Z3 (eQ.o.trans hE);have aiv:fm.stack.length≤5:=by have:=pM.o;omega
      clear SI Ji SL Ot hBr hE TC p1 p2;go_wp2_with fail;go_loopw [48] (fun i wr=>∃q:Nat,q≤fm.stack.length∧i=.int .i64 q∧Ext wo wr∧Zs (M.fK p k s.stack fm.stack=M.fK p k (s.stack.drop q) (fm.stack.drop q))) (fun i _=>fm.stack.length - (intOf i).toNat)
      case atStart=>exact⟨0,Nat.zero_le _,rfl,Kp.rr,Z3 rfl⟩
      case round=>
       obtain⟨q,hq,rfl,hE,TC⟩:=hrel;have Ot:=HAo.o.ext hE;have hBr:=HBo.o.ext hE;have⟨Ji,SI,SL⟩:=bg hBr Ot hE;by_cases bY:q<fm.stack.length
       · obtain⟨y,hy⟩:=iT fm.stack q bY;obtain⟨x,hx⟩:=iT s.stack q (by rw[←pM.o];exact bY);obtain⟨b,off,cs,rfl,KN,rfl, -,jy⟩:=Ad.o.2.get hy;obtain⟨g0,g1⟩:=(jy.ext (HEo.o.trans hE)).two;have gz:=aF g0;have qN:=Ot.dD;obtain⟨lg,Tq,hlv,KO,Rl,hg3⟩:=cB qN (by rw[←pM.o];omega);cases hlv;obtain⟨x0,x1⟩:=(fC (enc:=iD) (k:=2) (fun _=>rfl) qN hx).two;have HM:Zs (M.fK p k s.stack fm.stack=(M.may p k x y&&M.fK p k (s.stack.drop (q+1)) (fm.stack.drop (q+1)))):=Z3 (by rw[TC.o,Dj hx hy]);obtain⟨W4,LM,dI,b6⟩:=nu wr #[.int .i64 y.kind,.string y.name] 139;obtain⟨T,f,dA,HT⟩:=iN.ex (fun W'=>Ext W4 W') _ Kp.rr;obtain⟨-,e0,e1, -⟩:=ay.kY fun z=>(Ot.blk.ext (dI.trans (HT.aW z)));have e11:=fun z=>(Ot.blk.ext (dI.trans (HT.aW z))).c 12 (.slice (some ⟨lg,0,none⟩) s.stack.length sc) rfl;have e2:=fun z=>(dI.trans (HT.aW z)).aD x0;have e3:=fun z=>(dI.trans (HT.aW z)).aD x1;obtain⟨-,e6,e7, -⟩:=ay.kY fun z=>(b6.ext (HT.aW z));have⟨aj,EN,HL4,iG⟩:=gD HT LM (Ot.dN.ext dI) dI;have hqs:(q:Int)<s.stack.length:=by have:=pM.o;omega
         clear jy hy hx qN x0 x1 LM dI b6 HT Ot hBr;go_wp2_with fail;rw[←EN.o];(refine eO aj 18 [([0,1,2,3,4,5,6,7,8,9,10,11,12,13,14,15],16)] [17] ?_ ?_)
         · exact Kp.rr.drew
         refine iX ?_;intro K2 ag;go_wp2_with fail;refine(Ce _ _ _ (HL4.o.ext Kp.rr.drew) k x y).mono ?_;rintro e w5 ⟨rfl,cZ⟩;have rM:Ext W4 w5:=(Kp.rr.drew:Ext W4 _).trans cZ;have gy:Zs (Ext wr w5):=Z3 (iG.o.trans rM);cases Av:M.may p k x y
         · have HR:Zs (M.dS p k s fm=false):=Z3 (by rw[HU2.o,HM.o,Av];rfl);clear Av cZ;go_wp2_with fail;(refine kk aj ag rM ?_);clear ag K2;refine qa ?_;go_wp2_with fail;go_ret;exact⟨af HR.o.symm,HEo.o.trans (SL.o.trans gy.o)⟩
         · have HR:Zs (M.fK p k s.stack fm.stack=M.fK p k (s.stack.drop (q+1)) (fm.stack.drop (q+1))):=Z3 (by rw[HM.o,Av];rfl);clear Av cZ;go_wp2_with fail;(refine kk aj ag rM ?_);clear ag K2;refine qa ?_;go_wp2_with fail;refine⟨⟨q+1,by omega,by go_num,SL.o.trans gy.o,HR⟩,by simp[intOf];omega⟩
       · have HR:Zs (M.dS p k s fm=true):=Z3 (by rw[HU2.o,TC.o,F8 Wg]);go_wp2_with fail;go_ret;exact⟨af HR.o.symm,HEo.o.trans hE⟩
 · have HU:Zs (M.dS p k s fm=false):=Z3 (by unfold M.dS;rw[decide_eq_false dw];rfl);have YG:((fm.stack.length:Int) !=(s.stack.length:Int))=true:=bne_iff_ne.2 Wg;clear dw;go_enter Tryz.func184,Tryz.ntmps184;go_wp2_with fail;rw[←dO.o];(refine Hb aj ?_ ?_);rotate_left;(repeat (go_big_quiet_step ((fail))));(refine wpQuiet_nil ?_);(rintro _ ⟨sW,rfl⟩);rotate_left
   · exact Kp.rr.drew
   go_wp2_with fail;go_ret;exact⟨af HU.o.symm,bM.o.trans (aj.o.aW sW)⟩
theorem Cg{m:M.Method}{f:M.SMap}(h:M.rE m f=true):(f.locals.length:Int)=m.locals∧(f.stack.length:Int)≤m.stack:=by
 unfold M.rE at h;simp only[Bool.and_eq_true,decide_eq_true_eq]at h;exact⟨h.1.1.1.2,h.1.1.2⟩
theorem xq(w:World)(l:aH)(p:M.ax)(B kb:Nat)(k:Int)(m:M.Method)(t:qj)(at_:Int)(s:M.iY)(vl vs:Value)(h:aQ w l p B kb k m t at_ s vl vs)(a:Int):
    Calls Tryz.prog 181 #[.pointer (some ⟨kb,0,none⟩),.int .i64 a] w (bG w l p B kb k m t at_ vl vs (M.fZ p k m a s)):=by
 have uB:=h.uB;have ag1:=h.VS;have H:=Z3 h;clear h;go_enter Tryz.func181,Tryz.ntmps181;go_wp2_with fail;refine(FX _ _ _ _ _ _ _ _ _ _ _ _ H.o a).mono ?_;rintro e w1 ⟨(⟨tO,rfl⟩|⟨fm,cs,H8,Hy,hf,rfl⟩),bH⟩
 · have HO:Zs (M.fZ p k m a s=none):=Z3 (by unfold M.fZ;rw[tO];rfl);have⟨kX,eQ⟩:=aJ (H.o.ext bH) bH;clear tO bH;go_wp2_with fail;refine(gW _ kb at_ ((kX.o.ext kx).blk.c 10 _ rfl) uB.1 Wg).mono ?_;rintro e w3 ⟨rfl,rfl⟩;exact⟨rfl,(eQ.o.alloc _).any,kX.o.dN.ext kx,.inl ⟨HO.o,rfl⟩⟩
 · have HO:Zs (M.fZ p k m a s=if M.dS p k s fm then some s else none):=Z3 (by unfold M.fZ;rw[H8];rfl);have hlen:=Cg (H.o.mi.rE fm Hy);have HF:=Z3 hf;obtain⟨fa1,WR,fa2,P7,rfl⟩:=hf.form;have⟨kX,eQ⟩:=aJ (H.o.ext bH) bH;clear H8 bH hf Hy;go_wp2_with fail;refine(yU _ _ _ _ _ _ _ _ _ _ _ _ (kX.o.ext kx) fm _ (bQ.ext gY.stays kx HF.o) Wg).mono ?_;rintro e w2 ⟨rfl,bZ⟩;have gL:Zs (Ext w w2):=Z3 ((eQ.o.alloc _).trans bZ);clear bZ;cases JP:M.dS p k s fm
   · have tY:Zs (M.fZ p k m a s=none):=Z3 (by rw[HO.o,JP];rfl);clear JP;go_wp2_with fail;refine(gW _ kb at_ ((H.o.ext gL.o).blk.c 10 _ rfl) uB.1 Wg).mono ?_;rintro e w3 ⟨rfl,rfl⟩;exact⟨rfl,gL.o.any,H.o.dN.ext gL.o,.inl ⟨tY.o,rfl⟩⟩
   · have tY:Zs (M.fZ p k m a s=some s):=Z3 (by rw[HO.o,JP];rfl);clear JP;go_wp2_with fail;((try simp only[Exit.inBlock,Exit.then]);(first|refine bodyPost_ret (results_none rfl _ _ _) rfl ?_|refine bodyPost_end (results_none rfl _ _ _) rfl ?_));exact⟨gL.o.any,H.o.dN.ext gL.o,.inr ⟨_,tY.o,rfl,_,_,H.o.ext gL.o,bW.refl _ _ _⟩⟩
theorem fI{w:World}{base base':Nat}{e:TypeId}{size:Nat}{v:Value}{n:Nat}{xs:List Value}(h:w.ownsRow base e size v n xs)(hb:base'≤base):w.ownsRow base' e size v n xs:=
 ⟨h.1,h.2.imp id fun⟨g,cap,cur,e1,hg,r⟩=>⟨g,cap,cur,e1,Nat.le_trans hb hg,r⟩⟩
theorem aQ.fresh{w w':World}{l:aH}{p:M.ax}{B kb:Nat}{k:Int}{m:M.Method}{t:qj}{at_:Int}{s s':M.iY}{vl vs v1 v2:Value}(h:aQ w l p B kb k m t at_ s vl vs)
    (hb:ay w' kb 214 (OX l.L k m t at_ v1 v2)) (hk:Kp (·=kb) w w') (o1:w'.ownsRow w.heap.size 139 2 v1 s'.locals.length (s'.locals.flatMap iD)) (o2:w'.ownsRow w.heap.size 139 2 v2 s'.stack.length (s'.stack.flatMap iD))
    (ne:∀g,v1.ownBlock=some g→v2.ownBlock≠some g) (hl:(s'.locals.length:Int)=m.locals) (hs:(s'.stack.length:Int)≤m.stack):
    Kp (jf l kb vl vs) w w'∧aC w' l p∧∃tJ vs',aQ w' l p B kb k m t at_ s' tJ vs'∧bW w.heap.size vl vs tJ vs':=by
 have hBk:=h.hk;have hB:=h.hB;have hO:=h.dN.ord;have hz:=h.blk.lt;have hL:aC w' l p:=h.dN.kp hk (fun b hb e=>by omega);refine⟨hk.weak fun b _ e=>.inr (.inl e),hL,v1,v2,⟨hL,h.hB,h.hk,bQ.kp aG.stays hk (fun b hb e=>by omega) h.ml,h.mi,hb,fI o1 Wg,fI o2 Wg,ne,h.uB,hs,hl⟩,fun g hg=>?_⟩;rcases hg with e|e
 · exact .inr (.inr (o1.lt g e).1)
 · exact .inr (.inr (o2.lt g e).1)
theorem RN(w:World)(l:aH)(p:M.ax)(B kb:Nat)(k:Int)(m:M.Method)(t:qj)(at_:Int)(s:M.iY)(vl vs:Value)(h:aQ w l p B kb k m t at_ s vl vs)(goes:Bool):
    Calls Tryz.prog 165 #[.pointer (some ⟨kb,0,none⟩),.bool goes] w (bG w l p B kb k m t at_ vl vs (M.kC p k m goes at_ s)):=by
 have uB:=h.uB;have ag1:=h.VS;have c10:=h.blk.c 10 (.int .i64 at_) rfl;have Aw:=h.dN.ord;have hBB:=h.hB;have hBk:=h.hk;have H:=Z3 h;clear h;cases goes
 all_goals
  go_enter Tryz.func165,Tryz.ntmps165;go_wp2_with fail;refine(FX _ _ _ _ _ _ _ _ _ _ _ _ H.o at_).mono ?_;rintro e w1 ⟨(⟨tO,rfl⟩|⟨fm,cs,H8,Hy,hf,rfl⟩),bH⟩
 · have HO:Zs (M.kC p k m false at_ s=none):=Z3 (by unfold M.kC;rw[tO];rfl);have⟨kX,eQ⟩:=aJ (H.o.ext bH) bH;clear tO bH;go_wp2_with fail;refine(gW _ kb at_ ((kX.o.ext kx).blk.c 10 _ rfl) uB.1 Wg).mono ?_;rintro e w3 ⟨rfl,rfl⟩;exact⟨rfl,(eQ.o.alloc _).any,kX.o.dN.ext kx,.inl ⟨HO.o,rfl⟩⟩
 · have HO:Zs (M.kC p k m false at_ s=some ⟨fm.locals,fm.stack⟩):=Z3 (by unfold M.kC;rw[H8];rfl);have hlen:=Cg (H.o.mi.rE fm Hy);have agS:=Nat.lt_of_lt_of_le H.o.blk.lt bH.size;have mF:=H.o.mi.locals;have hms:=H.o.mi.stack;have HF:=Z3 hf;obtain⟨fa1,WR,fa2,P7,rfl⟩:=hf.form;obtain⟨wz,Md,hEz,b4⟩:=nu w1 #[.int .i64 fm.at_,.slice fa1 fm.locals.length WR,.slice fa2 fm.stack.length P7] 138;have WI:Zs (Ext w wz):=Z3 (bH.trans hEz);have HFz:=Z3 (bQ.ext gY.stays hEz HF.o);have y1:=b4.c 1 (.slice fa1 fm.locals.length WR) rfl;have kP:=Z3 b4;have hzz:=b4.lt;have HWZ:=Z3 Md;clear H8 bH hf Hy c10 hEz b4 Md;go_wp2_with fail;rw[←HWZ.o];have Ad:Zs (SliceOf 2 eB wz (· <l.O) (.slice fa1 fm.locals.length WR) fm.locals∧SliceOf 2 eB wz (· <l.O) (.slice fa2 fm.stack.length P7) fm.stack):=Z3 (by
    obtain⟨_,_,he,vC,hss⟩:=HFz.o;simp only[List.cons.injEq,and_true,true_and]at he;obtain⟨rfl,rfl⟩:=he;exact⟨vC,hss⟩)
   refine(ql _ _ _ _ (SliceOf.toFlat (R:=eB) (fun _ _ _ _ e=>e) (fun _=>rfl) uM Ad.o.1) Wg).mono ?_;rintro e w3 ⟨⟨v1,rfl,jN⟩,dK⟩;obtain⟨g1,k1,rfl⟩:=bO jN;have Fx:=(H.o.ext (WI.o.trans dK)).blk;have d11:=Fx.c 11 vl rfl;have e11:=Fx.frozen 11;have z11:=Fx.lt;have OC:=kP.o.ext dK;have y2:=OC.c 2 (.slice fa2 fm.stack.length P7) rfl;have n1:¬w1.heap.size=kb:=by omega
   have n2:¬kb=w1.heap.size:=by omega
   have⟨mg,aaL,jc,aa8⟩:=gD Fx OC dK jN;clear Fx OC dK jN;go_wp2_with fail;obtain⟨w4,vT⟩:∃w4,w4=w3.setCell ⟨kb,11,none⟩ (.slice g1 fm.locals.length k1):=⟨_,rfl⟩;have nQ:Kp (·=kb) w3 w4:=by rw[vT];exact(Kp.refl (·=kb) w3).setCell (p:=⟨kb,11,none⟩) (fun _=>rfl) _
   have BQ:ay w4 kb 214 (OX l.L k m t at_ (.slice g1 fm.locals.length k1) vs):=by rw[vT];exact mg.o.bE 11 _
   rw[←vT];have agx:w3.heap.size≤w4.heap.size:=nQ.size;have L8:SliceOf 2 eB w4 (· <l.O) (.slice fa2 fm.stack.length P7) fm.stack:=(Ad.o.2.ext eB.stays jc.o).keep eB.stays (Kp.same nQ (fun b hb e=>by omega)) (fun _ h=>h);refine(ql _ _ _ _ (SliceOf.toFlat (R:=eB) (fun _ _ _ _ e=>e) (fun _=>rfl) uM L8) Wg).mono ?_;rintro e w5 ⟨⟨v2,rfl,sN⟩,cZ⟩;obtain⟨g2,k2,rfl⟩:=bO sN;have wh:=BQ.ext cZ;have d12:=wh.c 12 vs rfl;have e12:=wh.frozen 12;have z12:=wh.lt;have jN:=aa8.o;have zV:Kp (·=kb) w5 (w5.setCell ⟨kb,12,none⟩ (.slice g2 fm.stack.length k2)):=(Kp.refl (·=kb) w5).setCell (p:=⟨kb,12,none⟩) (fun _=>rfl) _;have vU:=WI.o.size;have KQ:=jc.o.size;have hF:=H.o.fresh (s':=⟨fm.locals,fm.stack⟩) (wh.bE 12 _) (((((WI.o.trans jc.o).any (D:=(·=kb))).trans nQ).trans cZ.any).trans zV)
    (fI (aA (aA (aA jN nQ (fun g hg hb e=>by omega)) cZ (fun _ _ _ e=>e)) zV (fun g hg hb e=>by omega)) vU)
    (fI (aA sN zV (fun g hg hb e=>by omega)) Wg)
    (fun g h1 h2=>by have:=(jN.lt g h1).2;have:=(sN.lt g h2).1;omega) hlen.1 hlen.2
   have TL:=Z3 hF;clear hF zV jN sN wh cZ L8 BQ nQ vT;go_wp2_with fail;((try simp only[Exit.inBlock,Exit.then]);(first|refine bodyPost_ret (results_none rfl _ _ _) rfl ?_|refine bodyPost_end (results_none rfl _ _ _) rfl ?_));exact⟨TL.o.1,TL.o.2.1,.inr ⟨_,HO.o,rfl,TL.o.2.2⟩⟩
 · have HO:Zs (M.kC p k m true at_ s=some s):=Z3 (by unfold M.kC;rw[tO];rfl);have⟨kX,eQ⟩:=aJ (H.o.ext bH) bH;clear tO bH;go_wp2_with fail;((try simp only[Exit.inBlock,Exit.then]);(first|refine bodyPost_ret (results_none rfl _ _ _) rfl ?_|refine bodyPost_end (results_none rfl _ _ _) rfl ?_));exact⟨(eQ.o.alloc _).any,kX.o.dN.ext kx,.inr ⟨_,HO.o,rfl,_,_,kX.o.ext kx,bW.refl _ _ _⟩⟩
 · have HO:Zs (M.kC p k m true at_ s=if !M.dS p k s fm then none else some ⟨fm.locals,fm.stack⟩):=Z3 (by unfold M.kC;rw[H8];simp);have hlen:=Cg (H.o.mi.rE fm Hy);have agS:=Nat.lt_of_lt_of_le H.o.blk.lt bH.size;have mF:=H.o.mi.locals;have hms:=H.o.mi.stack;have HF:=Z3 hf;obtain⟨fa1,WR,fa2,P7,rfl⟩:=hf.form;obtain⟨wq,YH,hEq,b4⟩:=nu w1 #[.int .i64 fm.at_,.slice fa1 fm.locals.length WR,.slice fa2 fm.stack.length P7] 138;have bM:Zs (Ext w wq):=Z3 (bH.trans hEq);have⟨HF0,HB0,XK⟩:=bg (bQ.ext gY.stays hEq HF.o) b4 YH;clear H8 bH hf Hy c10 hEq b4 YH;go_wp2_with fail;rw[←XK.o];refine(yU _ _ _ _ _ _ _ _ _ _ _ _ (H.o.ext bM.o) fm _ HF0.o Wg).mono ?_;rintro e wz ⟨rfl,hEy⟩;have BQ:=HB0.o.ext hEy;have y1:=BQ.c 1 (.slice fa1 fm.locals.length WR) rfl;have kP:=Z3 BQ;have hzz:=BQ.lt;have WI:Zs (Ext w wz):=Z3 (bM.o.trans hEy);have HFz:=Z3 (bQ.ext gY.stays hEy HF0.o);clear hEy BQ XK bM;cases JP:M.dS p k s fm
   · have tY:Zs (M.kC p k m true at_ s=none):=Z3 (by rw[HO.o,JP];rfl);clear JP;go_wp2_with fail;refine(gW _ kb at_ ((H.o.ext WI.o).blk.c 10 _ rfl) uB.1 Wg).mono ?_;rintro e w3 ⟨rfl,rfl⟩;exact⟨rfl,WI.o.any,H.o.dN.ext WI.o,.inl ⟨tY.o,rfl⟩⟩
   replace HO:Zs (M.kC p k m true at_ s=some ⟨fm.locals,fm.stack⟩):=Z3 (by rw[HO.o,JP];rfl);clear JP;go_wp2_with fail;have Ad:Zs (SliceOf 2 eB wz (· <l.O) (.slice fa1 fm.locals.length WR) fm.locals∧SliceOf 2 eB wz (· <l.O) (.slice fa2 fm.stack.length P7) fm.stack):=Z3 (by
    obtain⟨_,_,he,vC,hss⟩:=HFz.o;simp only[List.cons.injEq,and_true,true_and]at he;obtain⟨rfl,rfl⟩:=he;exact⟨vC,hss⟩)
   refine(ql _ _ _ _ (SliceOf.toFlat (R:=eB) (fun _ _ _ _ e=>e) (fun _=>rfl) uM Ad.o.1) Wg).mono ?_;rintro e w3 ⟨⟨v1,rfl,jN⟩,dK⟩;obtain⟨g1,k1,rfl⟩:=bO jN;have Fx:=(H.o.ext (WI.o.trans dK)).blk;have d11:=Fx.c 11 vl rfl;have e11:=Fx.frozen 11;have z11:=Fx.lt;have OC:=kP.o.ext dK;have y2:=OC.c 2 (.slice fa2 fm.stack.length P7) rfl;have n1:¬w1.heap.size=kb:=by omega
   have n2:¬kb=w1.heap.size:=by omega
   have⟨mg,aaL,jc,aa8⟩:=gD Fx OC dK jN;clear Fx OC dK jN;go_wp2_with fail;obtain⟨w4,vT⟩:∃w4,w4=w3.setCell ⟨kb,11,none⟩ (.slice g1 fm.locals.length k1):=⟨_,rfl⟩;have nQ:Kp (·=kb) w3 w4:=by rw[vT];exact(Kp.refl (·=kb) w3).setCell (p:=⟨kb,11,none⟩) (fun _=>rfl) _
   have BQ:ay w4 kb 214 (OX l.L k m t at_ (.slice g1 fm.locals.length k1) vs):=by rw[vT];exact mg.o.bE 11 _
   rw[←vT];have agx:w3.heap.size≤w4.heap.size:=nQ.size;have L8:SliceOf 2 eB w4 (· <l.O) (.slice fa2 fm.stack.length P7) fm.stack:=(Ad.o.2.ext eB.stays jc.o).keep eB.stays (Kp.same nQ (fun b hb e=>by omega)) (fun _ h=>h);refine(ql _ _ _ _ (SliceOf.toFlat (R:=eB) (fun _ _ _ _ e=>e) (fun _=>rfl) uM L8) Wg).mono ?_;rintro e w5 ⟨⟨v2,rfl,sN⟩,cZ⟩;obtain⟨g2,k2,rfl⟩:=bO sN;have wh:=BQ.ext cZ;have d12:=wh.c 12 vs rfl;have e12:=wh.frozen 12;have z12:=wh.lt;have jN:=aa8.o;have zV:Kp (·=kb) w5 (w5.setCell ⟨kb,12,none⟩ (.slice g2 fm.stack.length k2)):=(Kp.refl (·=kb) w5).setCell (p:=⟨kb,12,none⟩) (fun _=>rfl) _;have vU:=WI.o.size;have KQ:=jc.o.size;have hF:=H.o.fresh (s':=⟨fm.locals,fm.stack⟩) (wh.bE 12 _) (((((WI.o.trans jc.o).any (D:=(·=kb))).trans nQ).trans cZ.any).trans zV)
    (fI (aA (aA (aA jN nQ (fun g hg hb e=>by omega)) cZ (fun _ _ _ e=>e)) zV (fun g hg hb e=>by omega)) vU)
    (fI (aA sN zV (fun g hg hb e=>by omega)) Wg)
    (fun g h1 h2=>by have:=(jN.lt g h1).2;have:=(sN.lt g h2).1;omega) hlen.1 hlen.2
   have TL:=Z3 hF;clear hF zV jN sN wh cZ L8 BQ nQ vT;go_wp2_with fail;((try simp only[Exit.inBlock,Exit.then]);(first|refine bodyPost_ret (results_none rfl _ _ _) rfl ?_|refine bodyPost_end (results_none rfl _ _ _) rfl ?_));exact⟨TL.o.1,TL.o.2.1,.inr ⟨_,HO.o,rfl,TL.o.2.2⟩⟩
section
variable {w w1 w2:World} {l:aH} {p:M.ax} {B kb:Nat} {k:Int} {m:M.Method} {t:qj} {at_:Int} {vl vs Na vs1:Value} {o:Option M.iY} {e:Ending} {s':M.iY}
theorem bG.after(hK:Kp (jf l kb vl vs) w w1)(hO:bW w.heap.size vl vs Na vs1)(h:bG w1 l p B kb k m t at_ Na vs1 o e w2):bG w l p B kb k m t at_ vl vs o e w2:=
 ⟨hK.look h.1 hO,h.2.1,h.2.2.imp id fun⟨s',h1,h2,a,b,h3,h4⟩=>⟨s',h1,h2,a,b,h3,hO.trans h4 hK.size⟩⟩
theorem bG.behind(hE:Ext w w1)(h:bG w1 l p B kb k m t at_ vl vs o e w2):bG w l p B kb k m t at_ vl vs o e w2:=
 bG.after hE.any (bW.refl _ _ _) h
end
theorem yh(w:World):Calls Tryz.prog 176 #[] w fun e w'=>e=.returned (.agg #[.int .i64 M.iL.kind,.string M.iL.name])∧Ext w w':=by
 go_enter Tryz.func176,Tryz.ntmps176;go_wp2;refine bodyPost_ret (aY pR rfl _ _ w.heap.size rfl [.int .i64 1,.string M.none_] (ae.gM (ay.new _ _ _)) rfl) rfl ?_;exact⟨rfl,kx⟩
theorem xP(w:World)(n:ByteArray):Calls Tryz.prog 129 #[.string n] w fun e w'=>e=.returned (.agg #[.int .i64 (M.eP n).kind,.string (M.eP n).name])∧Ext w w':=by
 go_enter Tryz.func129,Tryz.ntmps129;go_wp2;refine bodyPost_ret (aY pR rfl _ _ w.heap.size rfl [.int .i64 2,.string n] (ae.gM (ay.new _ _ _)) rfl) rfl ?_;exact⟨rfl,kx⟩
theorem ay.set2{w:World}{b:Nat}{t:TypeId}{u0 u1:Value}(h:ay w b t #[u0,u1])(v0 v1:Value):ay ((w.setCell ⟨b,0,none⟩ v0).setCell ⟨b,1,none⟩ v1) b t #[v0,v1]:=
 (h.bE 0 v0).bE 1 v1
theorem Kp.Qz{D:Nat→Prop}{w w1:World}{b:Nat}(h:Kp D w w1)(hb:w.heap.size≤b)(v0 v1:Value):Kp D w ((w1.setCell ⟨b,0,none⟩ v0).setCell ⟨b,1,none⟩ v1):=
 h.own (D':=(·=b)) (((Kp.refl (·=b) w1).setCell (p:=⟨b,0,none⟩) (fun _=>rfl) v0).setCell (p:=⟨b,1,none⟩) (fun _=>rfl) v1) (fun k e=>by omega)
theorem Cu(w:World)(x:M.Kind):Calls Tryz.prog 130 #[.agg #[.int .i64 x.kind,.string x.name]] w fun e w'=>e=.returned (.agg #[.int .i64 (M.fJ x).kind,.string (M.fJ x).name])∧Ext w w':=by
 obtain⟨xk,xn⟩:=x;obtain⟨w0,bI⟩:∃w0,w0=(w.alloc (.cells #[.int .i64 xk,.string xn] 102)).alloc (.cells #[.int .i64 0,.string ⟨#[]⟩] 139):=⟨_,rfl⟩;have aU:Ext w w0:=by rw[bI];exact kx
 have b1:ay w0 w.heap.size 102 #[.int .i64 xk,.string xn]:=by rw[bI];exact(ay.new _ _ _).ext kx
 have b2:ay w0 (w.heap.size+1) 139 #[.int .i64 0,.string ⟨#[]⟩]:=by rw[bI];exact ay.newAt _ _ Wf
 have⟨dO,bM,tL,mQ⟩:=gD bI aU b1 b2;clear bI aU b1 b2;cases hx:M.fe ⟨xk,xn⟩
 · have HT:Zs (M.fJ ⟨xk,xn⟩=M.Cy):=Z3 (by unfold M.fJ;rw[hx];rfl);have HX:=Z3 hx;clear hx;go_enter Tryz.func130,Tryz.ntmps130;go_wp2_with fail;rw[←dO.o];refine(Ca ⟨xk,xn⟩ _).mono ?_;rintro e w1 ⟨rfl,hE⟩;rw[HX.o];have nM:=mQ.o.ext hE;obtain⟨z,x0,x1, -⟩:=nM.ca;obtain⟨f0,f1, -⟩:=nM.fz;have⟨HBB,eQ⟩:=aJ nM (bM.o.trans hE);clear hE nM;go_wp2_with fail;refine bodyPost_ret (aY pR rfl _ _ (w.heap.size+1) rfl [.int .i64 0,.string ⟨#[]⟩] (ae.gM (HBB.o.set2 _ _)) rfl) rfl ?_;exact⟨by rw[HT.o];rfl,eQ.o.Qz Wg _ _⟩
 · have HT:Zs (M.fJ ⟨xk,xn⟩=⟨xk,xn⟩):=Z3 (by unfold M.fJ;rw[hx];rfl);have HX:=Z3 hx;clear hx;go_enter Tryz.func130,Tryz.ntmps130;go_wp2_with fail;rw[←dO.o];refine(Ca ⟨xk,xn⟩ _).mono ?_;rintro e w1 ⟨rfl,hE⟩;rw[HX.o];have nM:=mQ.o.ext hE;have vZ:=tL.o.ext hE;obtain⟨-,y0,y1, -⟩:=vZ.ca;obtain⟨z,x0,x1, -⟩:=nM.ca;obtain⟨f0,f1, -⟩:=nM.fz;have⟨HBB,eQ⟩:=aJ nM (bM.o.trans hE);clear hE nM vZ;go_wp2_with fail;refine bodyPost_ret (aY pR rfl _ _ (w.heap.size+1) rfl [.int .i64 xk,.string xn] (ae.gM (HBB.o.set2 _ _)) rfl) rfl ?_;exact⟨by rw[HT.o],eQ.o.Qz Wg _ _⟩
theorem VM(w:World)(l:aH)(p:M.ax)(B kb:Nat)(k:Int)(m:M.Method)(t:qj)(at_:Int)(s:M.iY)(vl vs:Value)(h:aQ w l p B kb k m t at_ s vl vs)(i:M.Ins)(fF:i.op=1):
    Calls Tryz.prog 150 #[.pointer (some ⟨kb,0,none⟩),.agg #[.int .i64 i.op,.int .i64 i.a,.string i.name,.string i.member]] w (bG w l p B kb k m t at_ vl vs (M.bJ p k m i s)):=by
 have HO:Zs (M.bJ p k m i s=M.iB m M.iL s):=Z3 (by unfold M.bJ;rw[fF];rfl);have H:=Z3 h;clear h fF;go_enter Tryz.func150,Tryz.ntmps150;go_wp2_with fail;refine(yh _).mono ?_;rintro e w1 ⟨rfl,bH⟩;have eQ:Zs (Ext w w1):=Z3 ((kx:Ext w _).trans bH);clear bH;go_wp2_with fail;refine(mJ _ _ _ _ _ _ _ _ _ _ _ _ (H.o.ext eQ.o) M.iL).mono ?_;rintro e w2 aV;rw[←HO.o]at aV;have HZ:=Z3 (bG.behind eQ.o aV);rcases aV.2.2 with⟨-,rfl⟩|⟨s', -,rfl, -⟩
 · exact⟨rfl,HZ.o⟩
 · clear aV;go_wp2_with fail;((try simp only[Exit.inBlock,Exit.then]);(first|refine bodyPost_ret (results_none rfl _ _ _) rfl ?_|refine bodyPost_end (results_none rfl _ _ _) rfl ?_));exact HZ.o
end Go.Proofs.YtkmclfpjpajjeaaGreat
