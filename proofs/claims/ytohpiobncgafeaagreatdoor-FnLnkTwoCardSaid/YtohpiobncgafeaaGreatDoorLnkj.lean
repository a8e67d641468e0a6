/- Walks. -/
import Derived.Test.YtohpiobncgafeaaGreatDoorLnki
set_option maxRecDepth 100000
set_option maxHeartbeats 4000000
set_option linter.unusedSimpArgs false
set_option linter.unusedVariables false
namespace Go.Proofs.YtohpiobncgafeaaGreatDoor
open Go Go.RowKit
section
variable {w w':World} {l:au} {p:M.ai} {own:Own} {B mb:Nat} {lk:Bool} {g:Gh} {r:List GC} {c:GC}
theorem Gh.fr(bE:g.cs=r++[c]):g.st.frames=r.map GC.f++[c.f]:=by unfold Gh.st;rw[bE];simp
theorem Gh.top(bE:g.cs=r++[c]):M.top g.st=c.f:=M.sw (Gh.fr bE)
theorem ay.Aq(h:ay w l p own B mb lk g)(bE:g.cs=r++[c]):M.cZ p c.f g.st.heap.length=true:=h.good.top (Gh.fr bE)
theorem ay.mi(h:ay w l p own B mb lk g)(bE:g.cs=r++[c]):M.xY (M.method p c.f.of):=
 M.ll (M.fH h.cu.ok (M.aF.1 (h.Aq bE)).1).1
theorem ay.setStack(h:ay w l p own B mb lk g)(bE:g.cs=r++[c])(xs:List M.Val)(v':Value)(hb:az w' c.cb 132 ((yh p c).setIfInBounds 13 v'))(ho:w'.ownsRow B 63 2 v' xs.length (xs.flatMap bq))
    (hn:∀q,v'.ownBlock=some q→c.vs.ownBlock=some q∨w.heap.size≤q) (hk:Kp (fun b=>b=c.cb∨c.vs.ownBlock=some b) w w') (hG:M.Good p {g with cs:=r++[{c with f:={c.f with stack:=xs},vs:=v'}]}.st):
    Kp (MO l own) w w'∧∃own',eF w.heap.size own own'∧ay w' l p own' B mb lk {g with cs:=r++[{c with f:={c.f with stack:=xs},vs:=v'}]}:=by
 have hc:=h.at_ bE;have hpo:∀b,(b=c.cb∨c.vs.ownBlock=some b)→PO own (fun q=>q=(4,r.length)∨q=(6,r.length)) b:=fun b hb=>by
  rcases hb with e|e
  · subst e;exact⟨_,hc.role,.inl rfl⟩
  · exact⟨_,hc.bQ.role b e,.inr rfl⟩
 have gD:=hk.weak fun b _ e=>hpo b e;refine⟨hk.weak fun b _ e=>(hpo b e).mo,?_⟩;have⟨own',ha,hd,Z0⟩:∃own',eF w.heap.size own own'∧(∀b,own' b≠none→B≤b∧b<w'.heap.size)∧∀q,v'.ownBlock=some q→own' q=some (6,r.length):=by
  cases e:v'.ownBlock with
  |none=>exact⟨own,eF.refl _ _,h.sV hk.size,fun q hq=>by cases hq⟩
  |some q=>
   refine⟨own.add q (6,r.length),Own.qO ?_,fun b hb=>?_,fun q' hq=>by cases hq;exact Own.add_eq _ _ _⟩
   · rcases hn q e with x|x
     · exact .inl (hc.bQ.role q x)
     · exact .inr x
   · by_cases eb:b=q
     · subst eb;exact ho.lt b e
     · rw[Own.dV _ eb]at hb;exact h.sV hk.size b hb
 have hnr:¬((5,r.length)=((4,r.length):Nat×Nat)∨(5,r.length)=((6,r.length):Nat×Nat)):=by simp
 refine⟨own',ha,h.Dk bE rfl (gD.weak fun b _ ⟨q,e1,e2⟩=>⟨q,e1,e2.elim .inl fun e=>.inr (.inr e)⟩) ha hd ⟨hb,(ha _ hc.blk.lt).trans hc.role,hc.low,bD.kp aC.stays gD (fun b hb=>h.qF b hb) hc.ml,hc.loc.p9 gD ha hnr,⟨ho,Z0⟩⟩ hG⟩
theorem ay.aar(h:ay w l p own B mb lk g)(bE:g.cs=r++[c])(n:Int)(hG:M.Good p {g with cs:=r++[{c with f:={c.f with pc:=n}}]}.st):
    Kp (MO l own) w (w.setCell ⟨c.cb,11,none⟩ (.int .i64 n))∧ay (w.setCell ⟨c.cb,11,none⟩ (.int .i64 n)) l p own B mb lk {g with cs:=r++[{c with f:={c.f with pc:=n}}]}:=by
 have hc:=h.at_ bE;have hk:Kp (·=c.cb) w (w.setCell ⟨c.cb,11,none⟩ (.int .i64 n)):=(Kp.refl (·=c.cb) w).setCell (p:=⟨c.cb,11,none⟩) (fun _=>rfl) _;have gD:Kp (PO own (·=(4,r.length))) w (w.setCell ⟨c.cb,11,none⟩ (.int .i64 n)):=hk.weak fun b _ e=>⟨_,by rw[e];exact hc.role,rfl⟩;have ha:=eF.refl w.heap.size own;refine⟨gD.weak fun b _ e=>e.mo,h.Dk bE rfl (gD.weak fun b _ ⟨q,e1,e2⟩=>⟨q,e1,.inl e2⟩) ha (h.sV hk.size) ⟨hc.blk.bA 11 _,hc.role,hc.low,bD.kp aC.stays gD (fun b hb=>h.qF b hb) hc.ml,hc.loc.p9 gD ha (by simp),hc.bQ.p9 gD ha (by simp)⟩ hG⟩
end
def xZ(n:Nat)(q:Nat×Nat):Prop:=q=(4,n)∨q=(6,n)
theorem Kp.po{own own':Own}{R:Nat×Nat→Prop}{w a b:World}(h:Kp (PO own R) w a)(hk:Kp (PO own' R) a b)(ha:eF w.heap.size own own'):Kp (PO own R) w b:=
 ⟨hk.os.trans h.os,hk.tape.trans h.tape,hk.output.trans h.output,Nat.le_trans h.size hk.size,
  fun k uU hd=>(hk.block k (Nat.lt_of_lt_of_le uU h.size) (fun⟨q,e1,e2⟩=>hd ⟨q,by rw[←ha k uU];exact e1,e2⟩)).trans (h.block k uU hd)⟩
theorem ay.Dl{w w' w'':World}{l:au}{p:M.ai}{own:Own}{B mb:Nat}{lk:Bool}{g:Gh}{r:List GC}{c:GC}(h:ay w l p own B mb lk g)(bE:g.cs=r++[c])(hk:Kp (fun b=>b=c.cb∨c.vs.ownBlock=some b) w' w''):Kp (PO own (xZ r.length)) w' w'':=
 hk.weak fun b _ e=>by
  rcases e with e|e
  · subst e;exact⟨_,(h.at_ bE).role,.inl rfl⟩
  · exact⟨_,(h.at_ bE).bQ.role b e,.inr rfl⟩
theorem di(w:World)(l:au)(p:M.ai)(own:Own)(B mb:Nat)(lk:Bool)(g:Gh)(h:ay w l p own B mb lk g)(r:List GC)(c:GC)(bE:g.cs=r++[c]):
    Calls Tryz.prog 61 #[.pointer (some ⟨mb,0,none⟩)] w fun e w'=>e=.returned (.pointer (some ⟨c.cb,0,none⟩))∧Ext w w':=by
 have hn:g.cs.length=r.length+1:=by rw[bE];simp
 obtain⟨b,cap,hv, -, -,dx⟩:=aX h.calls.row (by omega);have aU:=h.calls.row;rw[hv,hn]at aU;have tK:=(dG (enc:=nL) (k:=1) (fun _=>rfl) (l:=g.cs) aU (i:=r.length) (x:=c) (by rw[bE];simp)).one;rw[Nat.mul_one]at tK;rw[hn]at hv;have hcells:(rY l lk g)[3]?=some (.slice (some ⟨b,0,none⟩) (r.length+1) cap):=by rw[←hv];rfl
 have hle:r.length+1≤8:=by have:=h.good.nf;rw[Gh.fr bE]at this;simpa using this
 have hw:IntKind.i64.wrap ((r.length:Int)+1 - 1)=r.length:=by rw[IntWalk.i64_in _ (by omega)];omega
 obtain⟨T,f,dm,HT⟩:=gy.ex (fun W'=>Ext w W') _ (Kp.refl _ _);have r3:=fun q=>(h.blk.ext (HT.aK q)).c 3 _ hcells;have rt:=fun q=>(HT.aK q).aJ tK;have ax:=Ys HT;have H:=Ys h;clear h HT hcells tK aU hv;go_enter Tryz.func61,Tryz.ntmps61;go_wp2_with fail;(refine O0 ax ?_ ?_);rotate_left;(repeat (go_big_quiet_step ((fail))));(refine wpQuiet_nil ?_);(rintro _ ⟨sW,rfl⟩);rotate_left
 · exact(Kp.refl _ _).drew
 have aZ:=ax.o.aK sW;generalize f sW=w1 at*;clear ax r3 rt;go_wp2_with fail;go_ret;exact⟨rfl,aZ⟩
theorem bG.mk'{w w':World}{l:au}{p:M.ai}{own own':Own}{B mb:Nat}{lk:Bool}{v:Value}{s:M.St}{g':Gh}(hK:Kp (MO l own) w w')(ha:eF w.heap.size own own')(h:ay w' l p own' B mb lk g')(hs:g'.st=s):bG w l p own B mb lk v s (.returned v) w':=
 ⟨rfl,hK,own',g',ha,h,hs⟩
theorem za(w:World)(l:au)(p:M.ai)(own:Own)(B mb:Nat)(lk:Bool)(g:Gh)(h:ay w l p own B mb lk g)(r:List GC)(c:GC)(bE:g.cs=r++[c])(bU:g.status=1)(tt:Int)(h0:0≤tt):
    Calls Tryz.prog 109 #[.pointer (some ⟨mb,0,none⟩),.int .i64 tt] w fun e w'=>bG w l p own B mb lk (.int .i64 (M.jump p tt g.st).1) (M.jump p tt g.st).2 e w'∧Kp (PO own (xZ r.length)) w w':=by
 have H:=Ys h;have HJ:Zs (M.jump p tt g.st=if((M.method p c.f.of).code.length:Int)≤tt then(10,g.st)else(1,{g.st with frames:=r.map GC.f++[{c.f with pc:=tt}]})):=Ys (by
  unfold M.jump;rw[Gh.top bE,M.kU (Gh.fr bE)])
 have HG:=Ys (M.nI h.good (Gh.fr bE) bU h0).2.2.1;have dF:=Ys bE;clear h bE;go_enter Tryz.func109,Tryz.ntmps109;go_wp2_with fail;refine(di _ _ _ _ _ _ _ _ H.o r c dF.o).mono ?_;rintro e w1 ⟨rfl,aZ⟩;have hA:=H.o.ext aZ;have hc:=hA.at_ dF.o;have c9:=hc.blk.c 9 (.slice c.t.a2 (M.method p c.f.of).code.length c.t.c2) rfl;have c11:=hc.blk.c 11 (.int .i64 c.f.pc) rfl;have f11:=hc.blk.frozen 11;have hz:=hc.blk.lt;have HA:=Ys hA;have eP:=Ys aZ;clear hA hc aZ;by_cases hle:((M.method p c.f.of).code.length:Int)≤tt
 · have HV:Zs (M.jump p tt g.st=(10,g.st)):=Ys (by rw[HJ.o,if_pos hle]);have acv:decide (((M.method p c.f.of).code.length:Int)≤tt)=true:=decide_eq_true hle;go_wp2_with fail;go_ret;rw[HV.o];exact⟨bG.mk' eP.o.any (eF.refl _ _) HA.o rfl,eP.o.any⟩
 · have HV:Zs (M.jump p tt g.st=(1,{g.st with frames:=r.map GC.f++[{c.f with pc:=tt}]})):=Ys (by rw[HJ.o,if_neg hle]);have acv:(((M.method p c.f.of).code.length:Int)≤tt)=False:=eq_false hle;clear hle;go_wp2_with fail;go_ret;have hG:=HG.o;rw[HV.o]at hG;rw[HV.o];have hs:(⟨g.status,r++[{c with f:={c.f with pc:=tt}}],g.os,g.outs,g.back,g.vc,g.vh,g.vo⟩:Gh).st={g.st with frames:=r.map GC.f++[{c.f with pc:=tt}]}:=by simp[Gh.st]
   obtain⟨hK,hM⟩:=HA.o.aar dF.o tt (by rw[hs];exact hG);exact⟨bG.mk' (eP.o.any.trans hK) (eF.refl _ _) hM hs,eP.o.any.trans (HA.o.Dl dF.o ((Kp.refl _ w1).setCell (p:=⟨c.cb,11,none⟩) (fun _=>.inl rfl) _))⟩
theorem vw(w:World)(l:au)(p:M.ai)(own:Own)(B mb:Nat)(lk:Bool)(g:Gh)(h:ay w l p own B mb lk g)(r:List GC)(c:GC)(bE:g.cs=r++[c])(bU:g.status=1)(tt:Int)(h0:0≤tt):
    Calls Tryz.prog 109 #[.pointer (some ⟨mb,0,none⟩),.int .i64 tt] w (bG w l p own B mb lk (.int .i64 (M.jump p tt g.st).1) (M.jump p tt g.st).2):=
 (za w l p own B mb lk g h r c bE bU tt h0).mono fun _ _ h=>h.1
end Go.Proofs.YtohpiobncgafeaaGreatDoor
namespace Go.Proofs.YtohpiobncgafeaaGreatDoor
open Go Go.RowKit
theorem zb(w:World)(l:au)(p:M.ai)(own:Own)(B mb:Nat)(lk:Bool)(g:Gh)(h:ay w l p own B mb lk g)(r:List GC)(c:GC)(bE:g.cs=r++[c])(bU:g.status=1):
    Calls Tryz.prog 101 #[.pointer (some ⟨mb,0,none⟩)] w fun e w'=>bG w l p own B mb lk (.int .i64 (M.next p g.st).1) (M.next p g.st).2 e w'∧Kp (PO own (xZ r.length)) w w':=by
 have H:=Ys h;have HJ:Zs (M.next p g.st=M.jump p (c.f.pc+1) g.st):=Ys (by unfold M.next;rw[Gh.top bE]);have je:=M.aF.1 (h.Aq bE);have Qj:=(h.mi bE).code;have WB:=je.2.1;have ZU:=je.2.2.1;have Sk:IntKind.i64.wrap (c.f.pc+1)=c.f.pc+1:=IntWalk.i64_in _ (by omega);have dF:=Ys bE;clear h bE je;go_enter Tryz.func101,Tryz.ntmps101;go_wp2_with fail;refine(di _ _ _ _ _ _ _ _ H.o r c dF.o).mono ?_;rintro e w1 ⟨rfl,aZ⟩;have hA:=H.o.ext aZ;have hc:=hA.at_ dF.o;have c11:=hc.blk.c 11 (.int .i64 c.f.pc) rfl;have HA:=Ys hA;have eP:=Ys aZ;clear hA hc aZ;go_wp2_with fail;refine(za _ _ _ _ _ _ _ _ HA.o r c dF.o bU (c.f.pc+1) (by omega)).mono ?_;rintro e w2 ⟨aI,KV⟩;have Ps:Zs (Kp (PO own (xZ r.length)) w w2):=Ys (eP.o.any.trans KV);clear KV;have HZ:=Ys (bG.behind eP.o aI);obtain⟨rfl, -⟩:=aI;rw[←HJ.o]at HZ ⊢;go_wp2_with fail;go_ret;exact⟨HZ.o,Ps.o⟩
theorem lM(w:World)(l:au)(p:M.ai)(own:Own)(B mb:Nat)(lk:Bool)(g:Gh)(h:ay w l p own B mb lk g)(r:List GC)(c:GC)(bE:g.cs=r++[c])(bU:g.status=1):
    Calls Tryz.prog 101 #[.pointer (some ⟨mb,0,none⟩)] w (bG w l p own B mb lk (.int .i64 (M.next p g.st).1) (M.next p g.st).2):=
 (zb w l p own B mb lk g h r c bE bU).mono fun _ _ h=>h.1
theorem BB(w:World)(l:au)(p:M.ai)(own:Own)(B mb:Nat)(lk:Bool)(g:Gh)(h:ay w l p own B mb lk g)(r:List GC)(c:GC)(bE:g.cs=r++[c])(bU:g.status=1)(v:M.Val)(hv:M.aR v g.os.length=true):
    Calls Tryz.prog 99 #[.pointer (some ⟨mb,0,none⟩),.agg #[.int .i64 v.kind,.int .i64 v.n]] w fun e w'=>bG w l p own B mb lk (.int .i64 (M.push p v g.st).1) (M.push p v g.st).2 e w'∧Kp (PO own (xZ r.length)) w w':=by
 obtain⟨w0,bN,aM,b3⟩:=nu w #[.int .i64 v.kind,.int .i64 v.n] 63;have hA:=h.ext aM;have je:=M.aF.1 (h.Aq bE);have MQ:=(h.mi bE).stack;have oD:=je.2.2.2.2.1;have hc:=h.at_ bE;have RZ:¬(w.heap.size=c.cb∨c.vs.ownBlock=some w.heap.size):=by
  rintro(e|e)
  · have:=hc.blk.lt;omega
  · have:=(hc.bQ.blk e).2;omega
 have HJ:Zs (M.push p v g.st=if(M.method p c.f.of).stack≤(c.f.stack.length:Int)then(10,g.st)else M.next p {g.st with frames:=r.map GC.f++[{c.f with stack:=c.f.stack++[v]}]}):=Ys (by
  unfold M.push;rw[Gh.top bE,M.kU (Gh.fr bE)])
 have hG':(c.f.stack.length:Int)<(M.method p c.f.of).stack→M.Good p {g.st with frames:=r.map GC.f++[{c.f with stack:=c.f.stack++[v]}]}:=fun cK=>by
  refine h.good.turn (Gh.fr bE) (M.aF.2 ⟨je.1,je.2.1,je.2.2.1,je.2.2.2.1,by simp;omega,je.2.2.2.2.2.1,?_⟩);intro u hu;rcases List.mem_append.1 hu with hu|hu
  · exact je.2.2.2.2.2.2 u hu
  · simp only[List.mem_singleton]at hu;subst hu;simpa [Gh.st]using hv
 obtain⟨T,f,dm,HT⟩:=gy.ex (fun W'=>Kp (fun b=>b=c.cb∨c.vs.ownBlock=some b) w0 W') _ (Kp.refl _ _);have r0:=fun z=>(b3.kp (HT.aK z) RZ).c 0 (.int .i64 v.kind) rfl;have r1:=fun z=>(b3.kp (HT.aK z) RZ).c 1 (.int .i64 v.n) rfl;have ax:=Ys HT;have HA:=Ys hA;have bW:=Ys aM;have dS:=Ys bN;have HGG:=Ys hG';have dF:=Ys bE;clear h hA aM bN b3 HT hG' hc bE je;go_enter Tryz.func99,Tryz.ntmps99;go_wp2_with fail;rw[←dS.o];(refine dQ ax 7 [([0,4],1),([2,3],5)] [6] ?_ ?_)
 · exact(Kp.refl _ _).drew
 (refine dn [_,_] rfl rfl fun K hK=>?_);(repeat (go_big_quiet_step (fail)));(refine qn hK fun K2 ag=>?_);clear hK K;go_wp2_with fail;refine(di _ _ _ _ _ _ _ _ (HA.o.ext (Kp.refl _ _).drew) r c dF.o).mono ?_;rintro e w1 ⟨rfl,aZ⟩;have eP:Zs (Ext w0 w1):=Ys (((Kp.refl _ w0).drew:Ext w0 _).trans aZ);clear aZ;go_wp2_with fail;(refine kk ax ag eP.o.any ?_);clear ag K2;(refine dn [_,_] rfl rfl fun K hK=>?_);(repeat (go_big_quiet_step (fail)));(refine qn hK fun K2 ag=>?_);clear hK K;have ng:=HA.o.ext eP.o;have l8:=ng.at_ dF.o;have iF:=Ys ng;have Ag:=Ys l8;clear ng l8;by_cases cK:(c.f.stack.length:Int)<(M.method p c.f.of).stack
 · replace HJ:Zs (M.push p v g.st=M.next p {g.st with frames:=r.map GC.f++[{c.f with stack:=c.f.stack++[v]}]}):=Ys (by rw[HJ.o,if_neg (by omega)]);go_wp2_with fail;refine(Hs w1 c.cb 13 B _ _ _ c.f.stack.length _ (M.method p c.f.of).stack Ag.o.blk rfl rfl v.kind v.n Ag.o.bQ.row (by omega) cK ?_ ?_).mono ?_
   · intro e;have:=Ag.o.bQ.role _ e;rw[Ag.o.role]at this;cases this
   · have:=Ag.o.low;have:=Ag.o.blk.lt;omega
   rintro e w2 ⟨rfl,gg,gc,FC,JH,hB2,JB⟩;have hs:(⟨g.status,r++[{c with f:={c.f with stack:=c.f.stack++[v]},vs:=.slice (some ⟨gg,0,none⟩) (c.f.stack.length+1) gc}],g.os,g.outs,g.back,g.vc,g.vh,g.vo⟩:Gh).st={g.st with frames:=r.map GC.f++[{c.f with stack:=c.f.stack++[v]}]}:=by simp[Gh.st]
   obtain⟨Gy,own',YZ,hM'⟩:=iF.o.setStack dF.o (c.f.stack++[v]) (.slice (some ⟨gg,0,none⟩) (c.f.stack.length+1) gc) hB2 (by
    rw[List.length_append,List.flatMap_append];simpa [bq]using FC) (fun q hq=>by
    have:gg=q:=by simpa [Value.ownBlock]using hq
    subst this;exact JH) JB (by rw[hs];exact HGG.o cK)
   have aby:Zs (Kp (fun b=>b=c.cb∨c.vs.ownBlock=some b) w0 w2):=Ys (eP.o.any.trans JB);have Ps:Zs (Kp (PO own (xZ r.length)) w w2):=Ys ((bW.o.trans eP.o).any.trans (iF.o.Dl dF.o JB));have HKM:Zs (Kp (MO l own) w w2):=Ys ((bW.o.trans eP.o).any.trans Gy);have HM':=Ys hM';have VU:Zs (eF w.heap.size own own'):=Ys (fun b hb=>YZ b (by have:=bW.o.size;have:=eP.o.size;omega));rw[←hs]at HJ;clear FC JH hB2 JB Gy YZ hM' hs r0 r1;go_wp2_with fail;(refine kk ax ag aby.o ?_);clear ag K2;clear ax;(refine fq [_] rfl rfl fun K hK=>?_);(repeat (go_big_quiet_step (fail)));(refine qn hK ?_);clear hK K;go_wp2_with fail;refine(zb _ _ _ _ _ _ _ _ HM'.o r _ rfl bU).mono ?_;rintro e w3 ⟨aI,KV⟩;have abL:Zs (Kp (PO own (xZ r.length)) w w3):=Ys (Ps.o.po KV VU.o);clear KV;have HZ:=Ys (bG.after HKM.o VU.o aI);obtain⟨rfl, -⟩:=aI;rw[←HJ.o]at HZ ⊢;go_wp2_with fail;go_ret;exact⟨HZ.o,abL.o⟩
 · replace HJ:Zs (M.push p v g.st=(10,g.st)):=Ys (by rw[HJ.o,if_pos (by omega)]);go_wp2_with fail;refine(xw w1 c.cb 13 _ _ _ c.f.stack.length (M.method p c.f.of).stack Ag.o.blk rfl rfl Ag.o.bQ.form v.kind v.n (by omega)).mono ?_;rintro e w2 ⟨rfl,bY⟩;have jC:Zs (Ext w0 w2):=Ys (eP.o.trans bY);clear bY r0 r1;go_wp2_with fail;(refine kk ax ag jC.o.any ?_);clear ag K2;clear ax;(refine fq [_] rfl rfl fun K hK=>?_);(repeat (go_big_quiet_step (fail)));(refine qn hK ?_);clear hK K;go_wp2_with fail;go_ret;rw[HJ.o];exact⟨bG.behind bW.o (HA.o.stop jC.o),(bW.o.trans jC.o).any⟩
theorem jI(w:World)(l:au)(p:M.ai)(own:Own)(B mb:Nat)(lk:Bool)(g:Gh)(h:ay w l p own B mb lk g)(r:List GC)(c:GC)(bE:g.cs=r++[c])(bU:g.status=1)(v:M.Val)(hv:M.aR v g.os.length=true):
    Calls Tryz.prog 99 #[.pointer (some ⟨mb,0,none⟩),.agg #[.int .i64 v.kind,.int .i64 v.n]] w (bG w l p own B mb lk (.int .i64 (M.push p v g.st).1) (M.push p v g.st).2):=
 (BB w l p own B mb lk g h r c bE bU v hv).mono fun _ _ h=>h.1
def DT(w:World)(vh:Value)(h:List M.kZ):Prop:=
 ∃a cap,vh=.slice a h.length cap∧∀(n:Nat) (o:M.kZ),h[n]?=some o→∃b off v,a=some ⟨b,off,none⟩∧af w b (off+n*3) [.int .i64 o.of.keeper,.string o.of.name,v]
theorem DT.ext{w w':World}{vh:Value}{h:List M.kZ}(hh:DT w vh h)(hE:Ext w w'):DT w' vh h:=by
 obtain⟨a,cap,e,h1⟩:=hh;exact⟨a,cap,e,fun n o ho=>by
  obtain⟨b,off,v,h2,h3⟩:=h1 n o ho;exact⟨b,off,v,h2,h3.ext hE⟩⟩
theorem ay.MK{w:World}{l:au}{p:M.ai}{own:Own}{B mb:Nat}{lk:Bool}{g:Gh}(h:ay w l p own B mb lk g):DT w g.vh g.st.heap:=by
 obtain⟨a,c,e⟩:=h.heap.form;refine⟨a,c,by rw[e];simp[Gh.st],fun n o ho=>?_⟩;simp only[Gh.st,List.getElem?_map,Option.map_eq_some_iff]at ho;obtain⟨q,hq,rfl⟩:=ho;have aU:=h.heap.row;obtain⟨gg,cc,e2,_⟩:=aX aU (by have:=(List.getElem?_eq_some_iff.1 hq).1;omega);rw[e2]at aU e;cases e;have:=dG (enc:=iD) (k:=3) (fun _=>rfl) aU hq;exact⟨gg,0,q.v,rfl,by simpa [iD]using this⟩
theorem fe(w:World)(cb:Nat)(k:Int)(hc:w.cell? ⟨cb,0,none⟩=some (.int .i64 k)):Calls Tryz.prog 106 #[.pointer (some ⟨cb,0,none⟩)] w fun e w'=>e=.returned (.int .i64 k)∧w=w':=by
 go_enter Tryz.func106,Tryz.ntmps106;go_wp2;go_ret;exact⟨rfl,rfl⟩
theorem uq{h:List M.kZ}{n:Nat}{o:M.kZ}(ho:h[n]?=some o):M.mY h n=o.of:=by simp[M.mY,ho]
theorem mW(w:World)(l:au)(p:M.ai)(h:aj w l p)(k:Int)(vh:Value)(hs:List M.kZ)(hh:DT w vh hs)(v:M.Val)(hv:v.kind=2→0≤v.n∧v.n<hs.length)(t:M.Kind):
    Calls Tryz.prog 108 #[.pointer (some ⟨l.L,0,none⟩),.int .i64 k,vh,.agg #[.int .i64 v.kind,.int .i64 v.n],.agg #[.int .i64 t.kind,.string t.name]] w fun e w'=>e=.returned (.bool (M.hasType p k hs v t))∧Ext w w':=by
 obtain⟨tk,tn⟩:=t;obtain⟨vk,vn⟩:=v;obtain⟨w0,bN⟩:∃w0,w0=(w.alloc (.cells #[.int .i64 vk,.int .i64 vn] 63)).alloc (.cells #[.int .i64 tk,.string tn] 25):=⟨_,rfl⟩;have aM:Ext w w0:=by rw[bN];exact kx
 have b8:az w0 w.heap.size 63 #[.int .i64 vk,.int .i64 vn]:=by rw[bN];exact(az.new _ _ _).ext kx
 have b9:az w0 (w.heap.size+1) 25 #[.int .i64 tk,.string tn]:=by rw[bN];exact az.newAt _ _ (by simp)
 have HH:=Ys (hh.ext aM);have HL:=Ys (h.ext aM);have bW:=Ys aM;have zQ:=Ys b8;have DJ:=Ys b9;have dS:=Ys bN;obtain⟨a,cap,rfl, -⟩:=hh;clear h aM b8 b9 bN;by_cases ht:tk=1
 · subst ht;have HV:Zs (M.hasType p k hs ⟨vk,vn⟩ ⟨1,tn⟩=decide (vk=1)):=Ys (by unfold M.hasType;rw[if_pos rfl]);go_enter Tryz.func108,Tryz.ntmps108;go_wp2_with fail;go_ret;exact⟨ae (by rw[HV.o];rfl),by rw[←dS.o];exact bW.o⟩
 have Ab:(tk==1)=false:=beq_eq_false_iff_ne.2 ht;by_cases M7:vk=3
 · subst M7;have HV:Zs (M.hasType p k hs ⟨3,vn⟩ ⟨tk,tn⟩=true):=Ys (by unfold M.hasType;rw[if_neg ht,if_pos rfl]);go_enter Tryz.func108,Tryz.ntmps108;go_wp2_with fail;go_ret;exact⟨ae HV.o.symm,by rw[←dS.o];exact bW.o⟩
 have acO:(vk==3)=false:=beq_eq_false_iff_ne.2 M7;by_cases Sj:vk=2
 · subst Sj;have HV:Zs (M.hasType p k hs ⟨2,vn⟩ ⟨tk,tn⟩=(decide ((M.find p k tn).2=1)&&M.under p (M.mY hs vn) (M.find p k tn).1)):=Ys (by unfold M.hasType;rw[if_neg ht,if_neg M7];rfl);obtain⟨FH,kP⟩:=hv rfl;simp only at FH kP;obtain⟨n,rfl⟩:∃n:Nat,vn=n:=⟨vn.toNat,by omega⟩;obtain⟨o,ho⟩:∃o,hs[n]?=some o:=⟨hs[n]'(by omega),List.getElem?_eq_getElem _⟩;obtain⟨a',cap',ea,hcells⟩:=HH.o;cases ea;obtain⟨b,off,fv,rfl,gI⟩:=hcells n o ho;replace HV:Zs (M.hasType p k hs ⟨2,n⟩ ⟨tk,tn⟩=(decide ((M.find p k tn).2=1)&&M.under p o.of (M.find p k tn).1)):=Ys (by rw[HV.o,uq ho]);have q1:=DJ.o.c 1 (.string tn) rfl;have qz:=DJ.o.lt;have HC:=Ys gI;clear hcells ho gI;go_enter Tryz.func108,Tryz.ntmps108;go_wp2_with fail;rw[←dS.o];refine(gN _ _ _ HL.o k tn).mono ?_;rintro e w1 ⟨rfl,aZ⟩;generalize M.find p k tn=F1 at*;obtain⟨⟨xk,xn⟩,c1⟩:=F1;simp only at*;obtain⟨w2,jS,bY,b11⟩:=nu w1 #[.int .i64 xk,.string xn] 51;have xX:=Ys jS;have jC:=Ys (aZ.trans bY);obtain⟨T,f,dm,HT⟩:=gy.ex (fun W'=>Ext w2 W') _ (Kp.refl _ _);have r81:=fun z=>((zQ.o.ext jC.o).ext (HT.aK z)).c 1 (.int .i64 n) rfl;have aed:=fun z=>(b11.ext (HT.aK z)).c 0 (.int .i64 xk) rfl;have aee:=fun z=>(b11.ext (HT.aK z)).c 1 (.string xn) rfl;have rh0:=fun z=>(HC.o.ext (jC.o.trans (HT.aK z))).three.1;have rh1:=fun z=>(HC.o.ext (jC.o.trans (HT.aK z))).three.2.1;have ax:=Ys HT;clear jS bY b11 HT aZ q1 qz;by_cases l8:c1=1
   · subst l8;replace HV:Zs (M.hasType p k hs ⟨2,n⟩ ⟨tk,tn⟩=M.under p o.of ⟨xk,xn⟩):=Ys (by rw[HV.o];rfl);go_wp2_with fail;rw[←xX.o];(refine dQ ax 13 [([0,1,2,3,4,5,6,7,8,9,10],11)] [12] ?_ ?_)
     · exact(Kp.refl _ _).drew
     (refine dn [_,_,_,_,_,_,_,_,_,_,_] rfl rfl fun K hK=>?_);(repeat (go_big_quiet_step (fail)));(refine qn hK fun K2 ag=>?_);clear hK K;go_wp2_with fail;refine(mM _ _ _ (HL.o.ext (jC.o.trans (Kp.refl _ _).drew)) o.of ⟨xk,xn⟩).mono ?_;rintro e w4 ⟨rfl,dN⟩;have iM:Zs (Ext w2 w4):=Ys (((Kp.refl _ w2).drew:Ext w2 _).trans dN);clear dN;go_wp2_with fail;(refine kk ax ag iM.o ?_);clear ag K2;(refine qJ [_] rfl fun K hK=>?_);(repeat (go_big_quiet_step (fail)));(refine qn hK ?_);clear hK K;go_wp2_with fail;go_ret;exact⟨ae HV.o.symm,bW.o.trans (jC.o.trans iM.o)⟩
   · have Zd:(c1==1)=false:=beq_eq_false_iff_ne.2 l8;replace HV:Zs (M.hasType p k hs ⟨2,n⟩ ⟨tk,tn⟩=false):=Ys (by rw[HV.o];simp[l8]);clear l8;go_wp2_with fail;rw[←xX.o];(refine dQ ax 13 [([0,1,2,3,4,5,6,7,8,9,10],11)] [12] ?_ ?_)
     · exact(Kp.refl _ _).drew
     (refine dn [_,_,_,_,_,_,_,_,_,_,_] rfl rfl fun K hK=>?_);(repeat (go_big_quiet_step (fail)));(refine qn hK fun K2 ag=>?_);clear hK K;go_wp2_with fail;(refine kk ax ag ((Kp.refl _ w2).drew:Ext w2 _) ?_);clear ag K2;(refine qJ [_] rfl fun K hK=>?_);(repeat (go_big_quiet_step (fail)));(refine qn hK ?_);clear hK K;go_wp2_with fail;go_ret;exact⟨ae HV.o.symm,bW.o.trans (jC.o.drew)⟩
 · have acN:(vk !=2)=true:=bne_iff_ne.2 Sj;have HV:Zs (M.hasType p k hs ⟨vk,vn⟩ ⟨tk,tn⟩=false):=Ys (by unfold M.hasType;rw[if_neg ht,if_neg M7,if_pos Sj]);go_enter Tryz.func108,Tryz.ntmps108;go_wp2_with fail;go_ret;exact⟨ae HV.o.symm,by rw[←dS.o];exact bW.o⟩
theorem qG(w:World)(l:au)(p:M.ai)(own:Own)(B mb:Nat)(lk:Bool)(g:Gh)(h:ay w l p own B mb lk g)(v:M.Val)(hv:M.aR v g.os.length=true)(t:M.Ref):
    Calls Tryz.prog 107 #[.pointer (some ⟨mb,0,none⟩),.agg #[.int .i64 v.kind,.int .i64 v.n],.agg #[.int .i64 t.keeper,.string t.name]] w fun e w'=>e=.returned (.int .i64 (M.object p v t g.st))∧Ext w w':=by
 obtain⟨vk,vn⟩:=v;obtain⟨w0,bN⟩:∃w0,w0=(w.alloc (.cells #[.int .i64 vk,.int .i64 vn] 63)).alloc (.cells #[.int .i64 t.keeper,.string t.name] 51):=⟨_,rfl⟩;have aM:Ext w w0:=by rw[bN];exact kx
 have b4:az w0 w.heap.size 63 #[.int .i64 vk,.int .i64 vn]:=by rw[bN];exact(az.new _ _ _).ext kx
 have b5:az w0 (w.heap.size+1) 51 #[.int .i64 t.keeper,.string t.name]:=by rw[bN];exact az.newAt _ _ (by simp)
 have HA:=Ys (h.ext aM);have bW:=Ys aM;have nQ:=Ys b4;have ru:=Ys b5;have dS:=Ys bN;clear h aM b4 b5 bN;by_cases M7:vk=3
 · subst M7;have HV:Zs (M.object p ⟨3,vn⟩ t g.st=3):=Ys (by unfold M.object;rw[if_pos rfl]);go_enter Tryz.func107,Tryz.ntmps107;go_wp2_with fail;go_ret;exact⟨by rw[HV.o];rfl,by rw[←dS.o];exact bW.o⟩
 have acO:(vk==3)=false:=beq_eq_false_iff_ne.2 M7;obtain⟨T,f,dm,HT⟩:=gy.ex (fun W'=>Ext w0 W') _ (Kp.refl _ _);have rO:=fun z=>(HA.o.ext (HT.aK z)).blk.c 0 (.pointer (some ⟨l.L,0,none⟩)) rfl;obtain⟨ha,dx,mh⟩:=HA.o.heap.form;have QV:=fun z=>(HA.o.ext (HT.aK z)).blk.c 4 (.slice ha g.os.length dx) (by rw[←mh];rfl);have K9:=fun z=>(nQ.o.ext (HT.aK z)).c 0 (.int .i64 vk) rfl;have N7:=fun z=>(nQ.o.ext (HT.aK z)).c 1 (.int .i64 vn) rfl;have r50:=fun z=>(ru.o.ext (HT.aK z)).c 0 (.int .i64 t.keeper) rfl;have WJ:=fun z=>(ru.o.ext (HT.aK z)).c 1 (.string t.name) rfl;by_cases Sj:vk=2
 · subst Sj;obtain⟨FH,kP⟩:=M.kF hv rfl;simp only at FH kP;obtain⟨n,rfl⟩:∃n:Nat,vn=n:=⟨vn.toNat,by omega⟩;obtain⟨o,ho⟩:∃o,g.os[n]?=some o:=⟨g.os[n]'(by omega),List.getElem?_eq_getElem _⟩;have HV:Zs (M.object p ⟨2,n⟩ t g.st=if M.under p o.o.of t then 1 else 10):=Ys (by
    have:M.mY g.st.heap n=o.o.of:=uq (by simp[Gh.st,ho]);unfold M.object;rw[if_neg M7,this];rfl)
   have aU:=HA.o.heap.row;rw[mh]at aU;obtain⟨b,abU,eb, -⟩:=aX aU (by omega);cases eb;have gI:=dG (enc:=iD) (k:=3) (fun _=>rfl) aU ho;have rh0:=fun z=>(af.ext gI (HT.aK z)).three.1;have rh1:=fun z=>(af.ext gI (HT.aK z)).three.2.1;have ax:=Ys HT;have Lv:=Ys mh;clear HT mh aU gI ho hv M7;go_enter Tryz.func107,Tryz.ntmps107;go_wp2_with fail;rw[←dS.o];(refine dQ ax 21 [([0,1,2,3,4,5,6,7,8,9,10,11,12,13,14,15,16,17],18)] [19,20] ?_ ?_)
   · exact(Kp.refl _ _).drew
   (refine dn [_,_,_,_,_,_,_,_,_,_,_,_,_,_,_,_,_,_] rfl rfl fun K hK=>?_);(repeat (go_big_quiet_step (fail)));(refine qn hK fun K2 ag=>?_);clear hK K;go_wp2_with fail;refine(mM _ _ _ (HA.o.cu.ext (Kp.refl _ _).drew) o.o.of t).mono ?_;rintro e w4 ⟨rfl,dN⟩;have iM:Zs (Ext w0 w4):=Ys (((Kp.refl _ w0).drew:Ext w0 _).trans dN);clear dN;cases hu:M.under p o.o.of t
   · replace HV:Zs (M.object p ⟨2,n⟩ t g.st=10):=Ys (by rw[HV.o,hu];rfl);clear hu;go_wp2_with fail;(refine kk ax ag iM.o ?_);clear ag K2;(refine fq [_,_] rfl rfl fun K hK=>?_);(repeat (go_big_quiet_step (fail)));(refine qn hK ?_);clear hK K;go_wp2_with fail;go_ret;exact⟨by rw[HV.o];rfl,bW.o.trans iM.o⟩
   · replace HV:Zs (M.object p ⟨2,n⟩ t g.st=1):=Ys (by rw[HV.o,hu];rfl);clear hu;go_wp2_with fail;(refine kk ax ag iM.o ?_);clear ag K2;(refine fq [_,_] rfl rfl fun K hK=>?_);(repeat (go_big_quiet_step (fail)));(refine qn hK ?_);clear hK K;go_wp2_with fail;go_ret;exact⟨by rw[HV.o];rfl,bW.o.trans iM.o⟩
 · have acN:(vk !=2)=true:=bne_iff_ne.2 Sj;have HV:Zs (M.object p ⟨vk,vn⟩ t g.st=10):=Ys (by unfold M.object;rw[if_neg M7,if_pos Sj]);have ax:=Ys HT;have Lv:=Ys mh;clear HT mh hv M7 Sj;go_enter Tryz.func107,Tryz.ntmps107;go_wp2_with fail;rw[←dS.o];(refine dQ ax 21 [([0,1,2,3,4,5,6,7,8,9,10,11,12,13,14,15,16,17],18)] [19,20] ?_ ?_)
   · exact(Kp.refl _ _).drew
   (refine dn [_,_,_,_,_,_,_,_,_,_,_,_,_,_,_,_,_,_] rfl rfl fun K hK=>?_);(repeat (go_big_quiet_step (fail)));(refine qn hK fun K2 ag=>?_);clear hK K;go_wp2_with fail;(refine kk ax ag ((Kp.refl _ w0).drew:Ext w0 _) ?_);clear ag K2;(refine fq [_,_] rfl rfl fun K hK=>?_);(repeat (go_big_quiet_step (fail)));(refine qn hK ?_);clear hK K;go_wp2_with fail;go_ret;exact⟨by rw[HV.o];rfl,bW.o.drew⟩
theorem EO(w:World)(l:au)(p:M.ai)(own:Own)(B mb:Nat)(lk:Bool)(g:Gh)(h:ay w l p own B mb lk g)(c:Int):
    Calls Tryz.prog 62 #[.pointer (some ⟨mb,0,none⟩),.int .i64 c] w (bG w l p own B mb lk (.tuple #[]) (M.end_ c g.st)):=by
 have c2:=h.blk.c 2 (.int .i64 g.status) rfl;obtain⟨ca,cc,CJ⟩:=h.calls.form;have c3:=h.blk.c 3 (.slice ca g.cs.length cc) (by rw[←CJ];rfl);have f2:=h.blk.frozen 2;have f3:=h.blk.frozen 3;have hz:=h.blk.lt;have H:=Ys h;have FY:=Ys CJ;clear h CJ;by_cases hc:c=1
 · subst hc;have HV:Zs (M.end_ 1 g.st=g.st):=Ys (by unfold M.end_;rw[if_pos rfl]);go_enter Tryz.func62,Tryz.ntmps62;go_wp2_with fail;((try simp only[Exit.inBlock,Exit.then]);(first|refine bodyPost_ret (results_none rfl _ _ _) rfl ?_|refine bodyPost_end (results_none rfl _ _ _) rfl ?_));rw[HV.o];exact H.o.stop (Kp.refl _ _)
 · have sH:(c !=1)=true:=bne_iff_ne.2 hc;have HV:Zs (M.end_ c g.st={g.st with status:=c,frames:=[]}):=Ys (by unfold M.end_;rw[if_neg hc]);clear hc;go_enter Tryz.func62,Tryz.ntmps62;go_wp2_with fail;((try simp only[Exit.inBlock,Exit.then]);(first|refine bodyPost_ret (results_none rfl _ _ _) rfl ?_|refine bodyPost_end (results_none rfl _ _ _) rfl ?_));rw[HV.o];have hK:Kp (·=mb) w ((w.setCell ⟨mb,2,none⟩ (.int .i64 c)).setCell ⟨mb,3,none⟩ (.slice none 0 0)):=
    ((Kp.refl (·=mb) w).setCell (p:=⟨mb,2,none⟩) (fun _=>rfl) _).setCell (p:=⟨mb,3,none⟩) (fun _=>rfl) _
   have hK':Kp (PO own (·=(0,0))) w ((w.setCell ⟨mb,2,none⟩ (.int .i64 c)).setCell ⟨mb,3,none⟩ (.slice none 0 0)):=hK.weak fun b _ e=>⟨_,by rw[e];exact H.o.role,rfl⟩;refine bG.mk' (hK'.weak fun b _ e=>e.mo) (eF.refl _ _) (H.o.Dj {g with status:=c,cs:=[],vc:=.slice none 0 0} hK' ((H.o.blk.bA 2 _).bA 3 _) (.inr ⟨eu.nil _ _ _ _ _ _,g.cs,rfl⟩) ⟨rfl,rfl,rfl,rfl⟩ ?_) (by simp[Gh.st]);exact⟨H.o.good.heap,by simp[Gh.st],by simp[Gh.st],H.o.good.outs,H.o.good.ky,H.o.good.back⟩
theorem LC.set2{l:au}{p:M.ai}{w W:World}{b:Nat}(h:LC l p w W)(hb:w.heap.size≤b)(v0 v1:Value)(hL:l.L<w.heap.size):LC l p w ((W.setCell ⟨b,0,none⟩ v0).setCell ⟨b,1,none⟩ v1):=by
 have hk:Kp (·=b) W ((W.setCell ⟨b,0,none⟩ v0).setCell ⟨b,1,none⟩ v1):=((Kp.refl (·=b) W).setCell (p:=⟨b,0,none⟩) (fun _=>rfl) v0).setCell (p:=⟨b,1,none⟩) (fun _=>rfl) v1;exact⟨h.kp.own hk (fun k e=>by omega),h.at_.kp hk (fun k hk e=>by omega)⟩
theorem y9(w:World)(l:au)(p:M.ai)(own:Own)(B mb:Nat)(lk:Bool)(g:Gh)(h:ay w l p own B mb lk g)(r:List GC)(c:GC)(bE:g.cs=r++[c])(n:ByteArray):
    Calls Tryz.prog 104 #[.pointer (some ⟨mb,0,none⟩),.string n] w fun e w'=>
     e=.returned (.tuple #[.agg #[.int .i64 (M.iO p n g.st).1.keeper,.string (M.iO p n g.st).1.name],.bool (M.iO p n g.st).2])∧LC l p w w':=by
 obtain⟨w0,bN,aM,b4⟩:=nu w #[.int .i64 0,.string ⟨#[]⟩] 51;have vW:l.L<w0.heap.size:=(h.ext aM).cu.lt;have aca:=h.cu.lt;have Fz:=h.cu.Cg;have HM:=Ys h.blk.lt;obtain⟨⟨⟨xk,xn⟩,c1⟩,hF⟩:∃F,M.find p c.f.of.of.keeper n=F:=⟨_,rfl⟩;have HV:Zs (M.iO p n g.st=(⟨xk,xn⟩,decide (c1=1)&&M.bI p ⟨xk,xn⟩)):=Ys (by unfold M.iO;rw[Gh.top bE,hF]);have Bp:∀W,LC l p w0 W→Calls Tryz.prog 64 #[.pointer (some ⟨l.L,0,none⟩),.int .i64 c.f.of.of.keeper,.string n] W fun e w'=>e=.returned (.tuple #[.agg #[.int .i64 xk,.string xn],.int .i64 c1])∧Ext W w':=fun W hW=>by
  have:=gN W l p hW.at_ c.f.of.of.keeper n;rw[hF]at this;exact this
 have DL:=Ys Bp;have HC:Zs (LC l p w0 w0.drew):=Ys (LC.refl (h.ext aM).cu).drew;obtain⟨T,f,dm,HT⟩:=gy.ex (fun W'=>LC l p w0 W') w0 (LC.refl (h.ext aM).cu);have HA:=Ys (h.ext aM);have r0:=fun z=>(HA.o.il (HT.aK z).kp (HT.aK z).at_).blk.c 0 (.pointer (some ⟨l.L,0,none⟩)) rfl;have ax:=Ys HT;have bW:=Ys aM;have nQ:=Ys b4;have dS:=Ys bN;have dF:=Ys bE;have OX:=b4.lt;clear h HT aM b4 bN hF Bp bE;rw[HV.o];go_enter Tryz.func104,Tryz.ntmps104;go_wp2_with fail;rw[←dS.o];rename_i K hK
 have tail : ∀ (b6 : Nat) (w7 : World), LC l p w0 w7 → az w7 b6 51 #[.int .i64 xk, .string xn] → w0.heap.size ≤ b6 → K { tmps := #[.pointer (some ⟨mb, 0, none⟩), .string n, undef, undef, .pointer (some ⟨w.heap.size, 0, none⟩), .bool false, .pointer (some ⟨b6, 0, none⟩), .int .i64 c1, .tuple #[.agg #[.int .i64 xk, .string xn], .int .i64 c1], .pointer (some ⟨mb, 0, none⟩), .pointer (some ⟨mb, 0, none⟩), .pointer (some ⟨mb, 0, none⟩), .pointer (some ⟨l.L, 0, none⟩), .pointer (some ⟨mb, 0, none⟩), .pointer (some ⟨c.cb, 0, none⟩), .int .i64 c.f.of.of.keeper, .string n, .tuple #[.agg #[.int .i64 xk, .string xn], .int .i64 c1], .agg #[.int .i64 xk, .string xn], .int .i64 c1, undef, undef, undef, undef, undef, undef, undef, undef, undef, undef, undef], defers := [] } w7 := by
  intro b6 w7 hC hB kN;refine hK _ _ ?_;clear hK ax r0 HC DL;have JK:¬(w.heap.size=l.D):=by omega
  have adC:w.heap.size<w0.heap.size:=OX;have tF:=nQ.o.kp hC.kp JK;have adQ:¬b6=w.heap.size:=by omega
  have adR:¬w.heap.size=b6:=by omega
  have YC:l.D<l.L:=HA.o.cu.ord.2.2;have x0:=tF.c 0 (.int .i64 0) rfl;obtain⟨T,f,dm,HT⟩:=gy.ex (fun W'=>Kp (fun b=>b=l.D∨b=w.heap.size) w7 W'∧aj W' l p) w7 ⟨Kp.refl _ _,hC.at_⟩;have Y8:¬(b6=l.D∨b6=w.heap.size):=by omega
  have hmD:¬(mb=l.D∨mb=w.heap.size):=by
   have:=HA.o.hB;have:=HA.o.low;have:=HM.o;omega
  have q0:=fun z=>(hB.kp (HT.aK z).1 Y8).c 0 (.int .i64 xk) rfl;have q1:=fun z=>(hB.kp (HT.aK z).1 Y8).c 1 (.string xn) rfl;have qm:=fun z=>((HA.o.il hC.kp hC.at_).blk.kp (HT.aK z).1 hmD).c 0 (.pointer (some ⟨l.L,0,none⟩)) rfl;have ax:=Ys HT;have A8:=Ys hC;have wO:=Ys tF;clear hC hB HT tF x0;have fin:∀W b,Kp (·=l.D) w7 W→aj W l p→W.heap[w.heap.size]?=w7.heap[w.heap.size]?→b=(decide (c1=1)&&M.bI p ⟨xk,xn⟩)→
      Kp (fun b=>b=l.D∨b=w.heap.size) w7 ((W.setCell ⟨w.heap.size,0,none⟩ (.int .i64 xk)).setCell ⟨w.heap.size,1,none⟩ (.string xn))∧aj ((W.setCell ⟨w.heap.size,0,none⟩ (.int .i64 xk)).setCell ⟨w.heap.size,1,none⟩ (.string xn)) l p∧
      LC l p w ((W.setCell ⟨w.heap.size,0,none⟩ (.int .i64 xk)).setCell ⟨w.heap.size,1,none⟩ (.string xn))∧az ((W.setCell ⟨w.heap.size,0,none⟩ (.int .i64 xk)).setCell ⟨w.heap.size,1,none⟩ (.string xn)) w.heap.size 51 #[.int .i64 xk,.string xn]:=fun W b hk hL hb _=>by
   have h4:az W w.heap.size 51 #[.int .i64 0,.string ⟨#[]⟩]:=wO.o.keep hb;have h5:LC l p w W:=(⟨bW.o.any,HA.o.cu⟩:LC l p w w0).trans (A8.o.trans ⟨hk,hL⟩);have h6:=LC.set2 h5 (Nat.le_refl _) (.int .i64 xk) (.string xn) aca;exact⟨(hk.weak fun b _ e=>.inl e).trans (((Kp.refl _ W).setCell (p:=⟨w.heap.size,0,none⟩) (fun _=>.inr rfl) _).setCell (p:=⟨w.heap.size,1,none⟩) (fun _=>.inr rfl) _),h6.at_,h6,h4.set2 _ _⟩
  have gF:=Ys fin;clear fin;by_cases l8:c1=1
  · subst l8;go_wp2_with fail;(refine dQ ax 12 [([0,1,2,3,4,5,6,7,8],9),([10],11)] [] ?_ ?_)
    · exact⟨(Kp.refl _ _).drew,A8.o.at_.ext (Kp.refl _ _).drew⟩
    (refine dn [_,_,_,_,_,_,_,_,_] rfl rfl fun K hK=>?_);(repeat (go_big_quiet_step (fail)));(refine qn hK fun K2 ag=>?_);clear hK K;go_wp2_with fail;refine(eX _ _ _ (A8.o.at_.ext (Kp.refl _ _).drew) ⟨xk,xn⟩).mono ?_;rintro e w9 ⟨rfl,hL9,kH⟩;have ZB:Kp (·=l.D) w7 w9:=((Kp.refl _ w7).drew).trans kH;obtain⟨f1,f2,f3,f4⟩:=gF.o w9 _ ZB hL9 (ZB.block _ (by have:=wO.o.lt;exact this) JK) rfl;have nD:=wO.o.kp ZB JK;have x0:=nD.c 0 (.int .i64 0) rfl;have x1:=nD.c 1 (.string ⟨#[]⟩) rfl;have g0:=nD.frozen 0;have g1:=nD.frozen 1;have gz:=nD.lt;have F1:=Ys f1;have F2:=Ys f2;have F3:=Ys f3;have F4:=Ys f4;have xS:=Ys (And.intro (ZB.weak (D':=fun b=>b=l.D∨b=w.heap.size) fun b _ e=>.inl e) hL9);clear kH hL9 ZB f1 f2 f3 f4 nD;go_wp2_with fail;(refine kk ax ag xS.o ?_);clear ag K2;(refine dn [_] rfl rfl fun K hK=>?_);(repeat (go_big_quiet_step (fail)));(refine qn hK fun K2 ag=>?_);clear hK K;go_wp2_with fail;(refine kk ax ag ⟨F1.o,F2.o⟩ ?_);clear ag K2;(refine dD ?_);go_wp2_with fail;refine bodyPost_ret (bP Ih rfl _ _ w.heap.size rfl [.int .i64 xk,.string xn] (af.iV F4.o) rfl) rfl ?_;exact⟨by simp,F3.o⟩
  · have Zd:(c1==1)=false:=beq_eq_false_iff_ne.2 l8;have hd:(decide (c1=1)&&M.bI p ⟨xk,xn⟩)=false:=by rw[decide_eq_false l8];rfl
    have HD:=Ys hd;obtain⟨f1,f2,f3,f4⟩:=gF.o w7.drew _ (Kp.refl _ _).drew (A8.o.at_.ext (Kp.refl _ _).drew) rfl rfl;have x0:=wO.o.c 0 (.int .i64 0) rfl;have x1:=wO.o.c 1 (.string ⟨#[]⟩) rfl;have g0:=wO.o.frozen 0;have g1:=wO.o.frozen 1;have gz:=wO.o.lt;have F1:=Ys f1;have F2:=Ys f2;have F3:=Ys f3;have F4:=Ys f4;clear f1 f2 f3 f4 l8 hd;go_wp2_with fail;(refine dQ ax 12 [([0,1,2,3,4,5,6,7,8],9),([10],11)] [] ?_ ?_)
    · exact⟨(Kp.refl _ _).drew,A8.o.at_.ext (Kp.refl _ _).drew⟩
    (refine dn [_,_,_,_,_,_,_,_,_] rfl rfl fun K hK=>?_);(repeat (go_big_quiet_step (fail)));(refine qn hK fun K2 ag=>?_);clear hK K;go_wp2_with fail;(refine kk ax ag ⟨(Kp.refl _ _).drew,A8.o.at_.ext (Kp.refl _ _).drew⟩ ?_);clear ag K2;(refine dn [_] rfl rfl fun K hK=>?_);(repeat (go_big_quiet_step (fail)));(refine qn hK fun K2 ag=>?_);clear hK K;go_wp2_with fail;(refine kk ax ag ⟨F1.o,F2.o⟩ ?_);clear ag K2;(refine dD ?_);go_wp2_with fail;refine bodyPost_ret (bP Ih rfl _ _ w.heap.size rfl [.int .i64 xk,.string xn] (af.iV F4.o) rfl) rfl ?_;exact⟨by rw[HD.o];rfl,F3.o⟩
 have TAIL:=Ys tail;clear tail;clear hK;(refine nM ax 14 (.two [0,1,2,3,4,7] 5 12 (.two [] 6 12 (.two [] 8 12 (.one [9,10,11] 12 (.one [] 13 (.fin []))) (.one [] 8 (.one [9,10,11] 13 (.fin [])))) (.one [] 6 (.one [] 8 (.one [9,10,11] 13 (.fin []))))) (.one [] 5 (.one [] 6 (.one [] 8 (.one [9,10,11] 13 (.fin [])))))) ?_ ?_)
 · exact HC.o
 (refine two [_,_,_,_,_,_] rfl rfl rfl fun K hK=>?_);(repeat (go_big_quiet_step (fail)));((refine Hp hK (fun K2 ag=>?_) fun K2 ag=>?_)<;>clear hK K)
 · go_wp2_with fail;refine(di _ _ _ _ _ _ _ _ (HA.o.il HC.o.kp HC.o.at_) r c dF.o).mono ?_;rintro e wc ⟨rfl,rG⟩;replace HC:=Ys (HC.o.ext rG);clear rG;go_wp2_with fail;(refine kk ax ag HC.o ?_);clear ag K2;(refine zK rfl rfl (fun K2 ag=>?_) fun K2 ag=>?_)
   · go_wp2_with fail;refine(fe _ _ c.f.of.of.keeper (((HA.o.il HC.o.kp HC.o.at_).at_ dF.o).blk.c 0 _ rfl)).mono ?_;rintro e we ⟨rfl,rfl⟩;go_wp2_with fail;(refine kk ax ag HC.o ?_);clear ag K2;(refine zK rfl rfl (fun K2 ag=>?_) fun K2 ag=>?_)
     · go_wp2_with fail;refine(DL.o _ HC.o).mono ?_;rintro e wc ⟨rfl,rG⟩;replace HC:=Ys (HC.o.ext rG);clear rG;go_wp2_with fail;(refine kk ax ag HC.o ?_);clear ag K2;(refine lu [_,_,_] rfl rfl fun K hK=>?_);(repeat (go_big_quiet_step (fail)));(refine qn hK fun K2 ag=>?_);clear hK K;go_wp2_with fail;(refine kk ax ag (HC.o.ext ((Kp.refl _ _).alloc _)) ?_);clear ag K2;(refine bX rfl fun K2 ag=>?_);go_wp2_with fail;(refine kk ax ag (HC.o.ext ((Kp.refl _ _).alloc _)) ?_);clear ag K2;have kN:=HC.o.kp.size;have bV:=Ys (az.new (wc) 51 #[.int .i64 xk,.string xn]);replace HC:=Ys (HC.o.ext ((Kp.refl _ _).alloc (.cells #[.int .i64 xk,.string xn] 51)));clear ax r0;(refine dz ?_);go_wp2_with fail;exact TAIL.o _ _ HC.o bV.o kN
     · go_wp2_with fail;(refine kk ax ag (HC.o.ext ((Kp.refl _ _).alloc _)) ?_);clear ag K2;have kN:w0.heap.size≤wc.heap.size:=HC.o.kp.size;have bV:Zs (az (wc.alloc (.cells #[.int .i64 0,.string ⟨#[]⟩] 51)) wc.heap.size 51 #[.int .i64 0,.string ⟨#[]⟩]):=Ys (az.new _ _ _);replace HC:=Ys (HC.o.ext ((Kp.refl _ _).alloc (.cells #[.int .i64 0,.string ⟨#[]⟩] 51)));(refine bX rfl fun K2 ag=>?_);go_wp2_with fail;refine(DL.o _ HC.o).mono ?_;rintro e wc ⟨rfl,rG⟩;replace bV:=Ys (bV.o.ext rG);replace HC:=Ys (HC.o.ext rG);clear rG;go_wp2_with fail;(refine kk ax ag HC.o ?_);clear ag K2;(refine lu [_,_,_] rfl rfl fun K hK=>?_);(repeat (go_big_quiet_step (fail)));(refine qn hK fun K2 ag=>?_);clear hK K;have y0:=bV.o.c 0 (.int .i64 0) rfl;have y1:=bV.o.c 1 (.string ⟨#[]⟩) rfl;have g0:=bV.o.frozen 0;have g1:=bV.o.frozen 1;have z6:=bV.o.lt;go_wp2_with fail;replace HC:=Ys (LC.set2 HC.o kN (.int .i64 xk) (.string xn) vW);replace bV:=Ys (bV.o.set2 (.int .i64 xk) (.string xn));(refine kk ax ag HC.o ?_);clear ag K2;clear y0 y1 g0 g1 z6;clear ax r0;(refine dz ?_);go_wp2_with fail;exact TAIL.o _ _ HC.o bV.o kN
   · go_wp2_with fail;(refine kk ax ag (HC.o.ext ((Kp.refl _ _).alloc _)) ?_);clear ag K2;have kN:w0.heap.size≤wc.heap.size:=HC.o.kp.size;have bV:Zs (az (wc.alloc (.cells #[.int .i64 0,.string ⟨#[]⟩] 51)) wc.heap.size 51 #[.int .i64 0,.string ⟨#[]⟩]):=Ys (az.new _ _ _);replace HC:=Ys (HC.o.ext ((Kp.refl _ _).alloc (.cells #[.int .i64 0,.string ⟨#[]⟩] 51)));(refine bX rfl fun K2 ag=>?_);go_wp2_with fail;refine(fe _ _ c.f.of.of.keeper (((HA.o.il HC.o.kp HC.o.at_).at_ dF.o).blk.c 0 _ rfl)).mono ?_;rintro e we ⟨rfl,rfl⟩;go_wp2_with fail;(refine kk ax ag HC.o ?_);clear ag K2;(refine bX rfl fun K2 ag=>?_);go_wp2_with fail;refine(DL.o _ HC.o).mono ?_;rintro e wc ⟨rfl,rG⟩;replace bV:=Ys (bV.o.ext rG);replace HC:=Ys (HC.o.ext rG);clear rG;go_wp2_with fail;(refine kk ax ag HC.o ?_);clear ag K2;(refine lu [_,_,_] rfl rfl fun K hK=>?_);(repeat (go_big_quiet_step (fail)));(refine qn hK fun K2 ag=>?_);clear hK K;have y0:=bV.o.c 0 (.int .i64 0) rfl;have y1:=bV.o.c 1 (.string ⟨#[]⟩) rfl;have g0:=bV.o.frozen 0;have g1:=bV.o.frozen 1;have z6:=bV.o.lt;go_wp2_with fail;replace HC:=Ys (LC.set2 HC.o kN (.int .i64 xk) (.string xn) vW);replace bV:=Ys (bV.o.set2 (.int .i64 xk) (.string xn));(refine kk ax ag HC.o ?_);clear ag K2;clear y0 y1 g0 g1 z6;clear ax r0;(refine dz ?_);go_wp2_with fail;exact TAIL.o _ _ HC.o bV.o kN
 · go_wp2_with fail;(refine kk ax ag (HC.o.ext ((Kp.refl _ _).alloc _)) ?_);clear ag K2;have kN:w0.heap.size≤w0.heap.size:=HC.o.kp.size;have bV:Zs (az (w0.drew.alloc (.cells #[.int .i64 0,.string ⟨#[]⟩] 51)) w0.heap.size 51 #[.int .i64 0,.string ⟨#[]⟩]):=Ys (az.new _ _ _);replace HC:=Ys (HC.o.ext ((Kp.refl _ _).alloc (.cells #[.int .i64 0,.string ⟨#[]⟩] 51)));(refine bX rfl fun K2 ag=>?_);go_wp2_with fail;refine(di _ _ _ _ _ _ _ _ (HA.o.il HC.o.kp HC.o.at_) r c dF.o).mono ?_;rintro e wc ⟨rfl,rG⟩;replace bV:=Ys (bV.o.ext rG);replace HC:=Ys (HC.o.ext rG);clear rG;go_wp2_with fail;(refine kk ax ag HC.o ?_);clear ag K2;(refine bX rfl fun K2 ag=>?_);go_wp2_with fail;refine(fe _ _ c.f.of.of.keeper (((HA.o.il HC.o.kp HC.o.at_).at_ dF.o).blk.c 0 _ rfl)).mono ?_;rintro e we ⟨rfl,rfl⟩;go_wp2_with fail;(refine kk ax ag HC.o ?_);clear ag K2;(refine bX rfl fun K2 ag=>?_);go_wp2_with fail;refine(DL.o _ HC.o).mono ?_;rintro e wc ⟨rfl,rG⟩;replace bV:=Ys (bV.o.ext rG);replace HC:=Ys (HC.o.ext rG);clear rG;go_wp2_with fail;(refine kk ax ag HC.o ?_);clear ag K2;(refine lu [_,_,_] rfl rfl fun K hK=>?_);(repeat (go_big_quiet_step (fail)));(refine qn hK fun K2 ag=>?_);clear hK K;have y0:=bV.o.c 0 (.int .i64 0) rfl;have y1:=bV.o.c 1 (.string ⟨#[]⟩) rfl;have g0:=bV.o.frozen 0;have g1:=bV.o.frozen 1;have z6:=bV.o.lt;go_wp2_with fail;replace HC:=Ys (LC.set2 HC.o kN (.int .i64 xk) (.string xn) vW);replace bV:=Ys (bV.o.set2 (.int .i64 xk) (.string xn));(refine kk ax ag HC.o ?_);clear ag K2;clear y0 y1 g0 g1 z6;clear ax r0;(refine dz ?_);go_wp2_with fail;exact TAIL.o _ _ HC.o bV.o kN
theorem Ee:Elem 60 174 3:=iJ (z:=.agg #[.int .i64 0,.string ⟨#[]⟩,.slice none 0 0]) (bytes:=48) Tryz.underlying60 (by kernel_rfl) rfl (by decide) (by decide)
theorem eu.relabel{w:World}{own dO:Own}{B:Nat}{r:Nat×Nat}{e k:Nat}{v:Value}{n:Nat}{xs:List Value}(h:eu w own B r e k v n xs)(hs:∀b r,own b=some r→dO b=some r):eu w dO B r e k v n xs:=
 ⟨h.row,fun q hq=>hs q r (h.role q hq)⟩
theorem iN.relabel{w:World}{l:au}{p:M.ai}{own dO:Own}{B i:Nat}{c:GC}(h:iN w l p own B i c)(hs:∀b r,own b=some r→dO b=some r):iN w l p dO B i c:=
 ⟨h.blk,hs _ _ h.role,h.low,h.ml,h.loc.relabel hs,h.bQ.relabel hs⟩
theorem ay.relabel{w:World}{l:au}{p:M.ai}{own dO:Own}{B mb:Nat}{lk:Bool}{g:Gh}(h:ay w l p own B mb lk g)(hs:∀b r,own b=some r→dO b=some r)(hd:∀b,dO b≠none→B≤b∧b<w.heap.size):ay w l p dO B mb lk g:=
 ⟨h.cu,h.hB,h.blk,hs _ _ h.role,h.low,h.calls.relabel hs,fun i c hc=>(h.call i c hc).relabel hs,h.heap.relabel hs,fun j o ho=>(h.obj j o ho).relabel hs,h.outs.relabel hs,hd,h.good⟩
theorem ay.TP{w w':World}{l:au}{p:M.ai}{own:Own}{B mb:Nat}{lk:Bool}{g:Gh}(h:ay w l p own B mb lk g)(o:M.kZ)(fv:Value)(aU:eu w own B (7,g.os.length) 63 2 fv o.fields.length (o.fields.flatMap bq))
    (g' c':Nat) (ho:w'.ownsRow B 174 3 (.slice (some ⟨g',0,none⟩) (g.os.length+1) c') (g.os.length+1) (g.os.flatMap iD++[.int .i64 o.of.keeper,.string o.of.name,fv])) (hk:Kp (fun b=>g.vh.ownBlock=some b) w w') (hg:g.vh.ownBlock=some g'∨w.heap.size≤g')
    (hG:M.Good p ({g with os:=g.os++[⟨o,fv⟩],vh:=.slice (some ⟨g',0,none⟩) (g.os.length+1) c'}:Gh).st):
    Kp (MO l own) w (w'.setCell ⟨mb,4,none⟩ (.slice (some ⟨g',0,none⟩) (g.os.length+1) c'))∧∃own',eF w.heap.size own own'∧ay (w'.setCell ⟨mb,4,none⟩ (.slice (some ⟨g',0,none⟩) (g.os.length+1) c')) l p own' B mb lk {g with os:=g.os++[⟨o,fv⟩],vh:=.slice (some ⟨g',0,none⟩) (g.os.length+1) c'}:=by
 have pq:Kp (·=mb) w' (w'.setCell ⟨mb,4,none⟩ (.slice (some ⟨g',0,none⟩) (g.os.length+1) c')):=(Kp.refl (·=mb) w').setCell (p:=⟨mb,4,none⟩) (fun _=>rfl) _;obtain⟨W,hW⟩:∃W,W=w'.setCell ⟨mb,4,none⟩ (.slice (some ⟨g',0,none⟩) (g.os.length+1) c'):=⟨_,rfl⟩;have Aa:g.vh.ownBlock≠some mb:=fun e=>by have:=h.heap.role _ e;rw[h.role]at this;cases this
 have Za:az W mb 87 (rY l lk {g with os:=g.os++[⟨o,fv⟩],vh:=.slice (some ⟨g',0,none⟩) (g.os.length+1) c'}):=by rw[hW];exact(h.blk.kp hk Aa).bA 4 _
 have Zt:g'≠mb:=fun e=>by
  subst e;rcases hg with x|x
  · exact Aa x
  · have:=h.blk.lt;omega
 have R5:W.ownsRow B 174 3 (.slice (some ⟨g',0,none⟩) (g.os.length+1) c') (g.os.length+1) (g.os.flatMap iD++[.int .i64 o.of.keeper,.string o.of.name,fv]):=by
  rw[hW];exact aA ho pq (fun q hq _ e=>Zt (by cases hq;exact e))
 rw[←hW]at pq ⊢;clear hW;have gD:Kp (PO own fun q=>q=(0,0)∨q=(2,0)) w W:=(hk.weak fun b _ e=>⟨_,h.heap.role b e,.inr rfl⟩).trans (pq.weak fun b _ e=>⟨_,by rw[e];exact h.role,.inl rfl⟩);have ha:eF w.heap.size own (own.add g' (2,0)):=Own.qO (by
  rcases hg with x|x
  · exact .inl (h.heap.role _ x)
  · exact .inr (by omega))
 have hd:∀b,own.add g' (2,0) b≠none→B≤b∧b<W.heap.size:=fun b hb=>by
  by_cases e:b=g'
  · subst e;exact R5.lt b rfl
  · rw[Own.dV _ e]at hb;exact h.sV gD.size b hb
 refine⟨gD.weak fun b _ e=>e.mo,_,ha,h.Bz gD,h.hB,Za,(ha _ h.blk.lt).trans h.role,h.low,h.calls.p9 gD ha (by simp),fun i c hc=>(h.call i c hc).p9 gD ha (by simp) h.qF,⟨?_,fun q hq=>?_⟩,?_,h.outs.p9 gD ha (by simp),hd,hG⟩
 · simpa [iD]using R5
 · cases hq;exact Own.add_eq _ _ _
 · intro j q hq;simp only at hq;rcases Nat.lt_trichotomy j g.os.length with hj|hj|hj
   · rw[List.getElem?_append_left hj]at hq;exact(h.obj j q hq).p9 gD ha (by simp)
   · subst hj;simp at hq;subst hq;exact aU.p9 gD ha (by simp)
   · rw[List.getElem?_eq_none (by simp;omega)]at hq;cases hq
theorem wD (w : World) (l : au) (p : M.ai) (own : Own) (B mb : Nat) (lk : Bool) (g : Gh) (h : ay w l p own B mb lk g) (r : M.Ref) (hr : M.bI p r = true) (hlen : g.os.length < 12) :
    Calls Tryz.prog 66 #[.pointer (some ⟨mb,0,none⟩),.agg #[.int .i64 r.keeper,.string r.name]] w (bG w l p own B mb lk (.agg #[.int .i64 2,.int .i64 g.os.length]) (M.create p r g.st).2):=by
 obtain⟨rk,rn⟩:=r;obtain⟨w0,bN⟩:∃w0,w0=((w.alloc (.cells #[.int .i64 rk,.string rn] 51)).alloc (.cells #[.int .i64 0,.int .i64 0] 63)).alloc (.cells #[.int .i64 rk,.string rn,.slice none 0 0] 174):=⟨_,rfl⟩;have aM:Ext w w0:=by rw[bN];exact kx
 have b3:az w0 w.heap.size 51 #[.int .i64 rk,.string rn]:=by rw[bN];exact(az.new _ _ _).ext kx
 have b4:az w0 (w.heap.size+1) 63 #[.int .i64 0,.int .i64 0]:=by rw[bN];exact(az.newAt (W:=w.alloc (.cells #[.int .i64 rk,.string rn] 51)) (g:=w.heap.size+1) _ _ (by simp)).ext kx
 have b5:az w0 (w.heap.size+2) 174 #[.int .i64 rk,.string rn,.slice none 0 0]:=by rw[bN];exact az.newAt _ _ (by simp)
 have vW:=h.cu.lt;have Fz:=h.cu.Cg;have HA:=Ys (h.ext aM);have bW:=Ys aM;have gW:=Ys b3;have nQ:=Ys b4;have ru:=Ys b5;have dS:=Ys bN;have H:=Ys h;clear h aM b3 b4 b5 bN;go_enter Tryz.func66,Tryz.ntmps66;go_wp2_with fail;rw[←dS.o];obtain⟨T,f,dm,HT⟩:=gy.ex (fun W'=>LC l p w0 W') _ (LC.refl HA.o.cu);have hDD:¬w.heap.size=l.D:=by omega
 have rm:=fun z=>(HA.o.il (HT.aK z).kp (HT.aK z).at_).blk.c 0 (.pointer (some ⟨l.L,0,none⟩)) rfl;have r30:=fun z=>(gW.o.kp (HT.aK z).kp hDD).c 0 (.int .i64 rk) rfl;have SK:=fun z=>(gW.o.kp (HT.aK z).kp hDD).c 1 (.string rn) rfl;have ax:=Ys HT;clear HT;(refine dQ ax 8 [([0,1,2,3,4,7],5)] [6] ?_ ?_)
 · exact(LC.refl HA.o.cu).drew
 (refine dn [_,_,_,_,_,_] rfl rfl fun K hK=>?_);(repeat (go_big_quiet_step (fail)));(refine qn hK fun K2 ag=>?_);clear hK K;go_wp2_with fail;refine(oK _ _ _ (HA.o.cu.ext (Kp.refl _ _).drew) ⟨rk,rn⟩).mono ?_;rintro e w3 ⟨⟨v,rfl,hs⟩,zV,mg⟩;obtain⟨fa,adp,rfl,hn,dx⟩:=hs.form;have FT:Zs (LC l p w0 w3):=Ys ((LC.refl HA.o.cu).drew.step zV mg);have HS:=Ys hs;clear hs zV mg;go_wp2_with fail;(refine kk ax ag FT.o ?_);clear ag K2;clear ax rm r30 SK;(refine fq [_] rfl rfl fun K hK=>?_);(repeat (go_big_quiet_step (fail)));(refine qn hK ?_);clear hK K;have AO:=FT.o.kp.size;have Ez:w.heap.size+3≤w0.heap.size:=by have:=ru.o.lt;omega
 have O5:Zs (az w3 (w.heap.size+2) 174 #[.int .i64 rk,.string rn,.slice none 0 0]):=Ys (ru.o.kp FT.o.kp (by omega));have Xu:Zs (M.fresh p ⟨rk,rn⟩=⟨⟨rk,rn⟩,(M.layout p ⟨rk,rn⟩).map fun f=>if f.kind.kind=1 then M.dY 0 else M.ja⟩):=Ys rfl;have U6:(M.layout p ⟨rk,rn⟩).length≤1000:=by
  have h1:=jH H.o.cu.ok (M.chain p ⟨rk,rn⟩).reverse;have h2:=M.nA p ⟨rk,rn⟩;unfold M.layout;rw[if_pos hr];rw[List.length_reverse]at h1;omega
 obtain⟨fs,KY⟩:∃fs,M.layout p ⟨rk,rn⟩=fs:=⟨_,rfl⟩;rw[KY]at HS Xu U6;simp only[KY];clear KY;go_wp2_with fail;go_loopw [17] (fun i wr=>∃(q:Nat) (fv:Value),q≤fs.length∧i=.int .i64 q∧Kp (·=w.heap.size+2) w3 wr∧az wr (w.heap.size+2) 174 #[.int .i64 rk,.string rn,fv]∧
     wr.ownsRow w3.heap.size 63 2 fv q (((fs.take q).map fun f=>if f.kind.kind=1 then M.dY 0 else M.ja).flatMap bq)) (fun i _=>fs.length - (intOf i).toNat)
 case atStart=>exact⟨0,.slice none 0 0,Nat.zero_le _,rfl,Kp.refl _ _,O5.o,World.ownsRow_nil _ _ _ _⟩
 case round =>
  obtain⟨q,fv,hq,rfl,hK,yC,aU⟩:=hrel;obtain⟨va,vc,rfl⟩:=bJ aU;by_cases cK:q<fs.length
  · obtain⟨⟨⟨xk,xn⟩,xa,kq,kn⟩,hx⟩:=gH fs q cK;obtain⟨b,off,cs,rfl,Dz,rfl, -,gI⟩:=HS.o.get hx;have adw:w0.heap.size≤b:=Dz;have uR:af wr b (off+q*5) _:=fun j v hj=>hK.jF (gI j v hj) (by omega);have g0:=uR 0 (.int .i64 xk) rfl;have g1:=uR 1 (.string xn) rfl;have g2:=uR 2 (.int .i64 xa) rfl;have g3:=uR 3 (.int .i64 kq) rfl;have g4:=uR 4 (.string kn) rfl;rw[Nat.add_zero]at g0;have gz:=aS g0;have Vi:(q:Int)<fs.length:=by omega
    have Sk:IntKind.i64.wrap ((q:Int)+1)=q+1:=IntWalk.i64_in _ (by omega);obtain⟨w4,qR⟩:∃w4,w4=wr.alloc (.cells #[.int .i64 xk,.string xn,.int .i64 xa,.int .i64 kq,.string kn] 187):=⟨_,rfl⟩;have dN:Ext wr w4:=by rw[qR];exact kx
    have FJ:¬(Value.slice va q vc).ownBlock=some (w.heap.size+2):=fun e=>by have:=(aU.lt _ e).1;omega
    obtain⟨T,f,dm,HT⟩:=gy.ex (fun W'=>Kp (fun b=>(Value.slice va q vc).ownBlock=some b) w4 W') _ (Kp.refl _ _);have r2:=fun z=>((yC.ext dN).kp (HT.aK z) FJ).c 2 (.slice va q vc) rfl;have ax:=Ys HT;have BX:=Ys qR;have FP:=Ys (yC.ext dN);have HV5:=Ys FJ;have pU:=Ys (aA (D:=fun _=>False) aU dN fun _ _ _ x=>x);have KJ:Zs (Kp (·=w.heap.size+2) w3 w4):=Ys (hK.trans dN.any);have HX:=Ys hx;have ad9:w3.heap.size≤w4.heap.size:=KJ.o.size;clear HT qR dN yC FJ aU hK hx gI uR Dz;by_cases pg:kq=1
    · subst pg;go_wp2_with fail;rw[←BX.o];(refine dQ ax 5 [([0,1],2),([],3),([],4)] [] ?_ ?_)
      · exact(Kp.refl _ _).drew
      (refine dn [_,_] rfl rfl fun K hK=>?_);(repeat (go_big_quiet_step (fail)));(refine qn hK fun K2 ag=>?_);clear hK K;go_wp2_with fail;refine(xM 0 _).mono ?_;rintro e w5 ⟨rfl,ed⟩;have iG:Zs (Ext w4 w5):=Ys (((Kp.refl _ w4).drew:Ext w4 _).trans ed);clear ed;go_wp2_with fail;(refine kk ax ag iG.o.any ?_);clear ag K2;(refine fG rfl fun K2 ag=>?_);go_wp2_with fail;(refine kk ax ag (iG.o.alloc _).any ?_);clear ag K2;(refine fG rfl fun K2 ag=>?_);refine aV lT rfl (.tmp 26) (.tmp 28) rfl w3.heap.size (.slice va q vc) q _ rfl (aA (D:=fun _=>False) pU.o (iG.o.alloc _) fun _ _ _ x=>x) w5.heap.size 1 (bq (M.dY 0)) rfl rfl (af.zk _ _ rfl) (oN _) (by omega) (by have:=iG.o.size;simp;omega) ?_;intro g9 c9 w9 vX lV nS;change K2 _ _;have j6:Kp (fun b=>(Value.slice va q vc).ownBlock=some b) w4 w9:=(iG.o.alloc _).any.trans lV;(refine kk ax ag j6 ?_);clear ag K2;have jd:=FP.o.kp j6 HV5.o;have x2:=jd.c 2 (.slice va q vc) rfl;have f2:=jd.frozen 2;have hz:=jd.lt;have BU:Zs ((w9.ownsRow w3.heap.size 63 2 (.slice (some ⟨g9,0,none⟩) (q+1) c9) (q+1) (((fs.take (q+1)).map fun f=>if f.kind.kind=1 then M.dY 0 else M.ja).flatMap bq))∧Kp (·=w.heap.size+2) w3 w9∧az w9 (w.heap.size+2) 174 #[.int .i64 rk,.string rn,.slice va q vc]∧g9≠w.heap.size+2):=Ys (by
       refine⟨?_,?_,jd,?_⟩
       · rw[List.take_add_one,HX.o];simpa [M.dY,bq]using vX
       · exact(KJ.o.own j6 (fun b e=>pU.o.lt b e |>.1))
       · rcases nS with e|e
         · have:=(pU.o.lt g9 e).1;omega
         · have:=iG.o.size;simp at e;omega)
      clear ax r2 jd vX lV nS j6;(refine dD ?_);go_wp2_with fail;have bU:Kp (·=w.heap.size+2) w9 (w9.setCell ⟨w.heap.size+2,2,none⟩ (.slice (some ⟨g9,0,none⟩) (q+1) c9)):=(Kp.refl (·=w.heap.size+2) w9).setCell (p:=⟨w.heap.size+2,2,none⟩) (fun _=>rfl) _;obtain⟨q1,q2,q3,q4⟩:=BU.o;exact⟨⟨q+1,.slice (some ⟨g9,0,none⟩) (q+1) c9,by omega,by go_num,q2.trans bU,q3.bA 2 _,aA q1 bU (fun b hb _ e=>q4 (by cases hb;exact e))⟩,by simp[intOf];omega⟩
    · have ZA:(kq==1)=false:=beq_eq_false_iff_ne.2 pg;have HKK:=Ys pg;clear pg;go_wp2_with fail;rw[←BX.o];(refine dQ ax 5 [([0,1],2),([],3),([],4)] [] ?_ ?_)
      · exact(Kp.refl _ _).drew
      (refine dn [_,_] rfl rfl fun K hK=>?_);(repeat (go_big_quiet_step (fail)));(refine qn hK fun K2 ag=>?_);clear hK K;go_wp2_with fail;refine(EY _).mono ?_;rintro e w5 ⟨rfl,ed⟩;have iG:Zs (Ext w4 w5):=Ys (((Kp.refl _ w4).drew:Ext w4 _).trans ed);clear ed;go_wp2_with fail;(refine kk ax ag iG.o.any ?_);clear ag K2;(refine fG rfl fun K2 ag=>?_);go_wp2_with fail;(refine kk ax ag (iG.o.alloc _).any ?_);clear ag K2;(refine fG rfl fun K2 ag=>?_);refine aV lT rfl (.tmp 32) (.tmp 34) rfl w3.heap.size (.slice va q vc) q _ rfl (aA (D:=fun _=>False) pU.o (iG.o.alloc _) fun _ _ _ x=>x) w5.heap.size 1 (bq M.ja) rfl rfl (af.zk _ _ rfl) (oN _) (by omega) (by have:=iG.o.size;simp;omega) ?_;intro g9 c9 w9 vX lV nS;change K2 _ _;have j6:Kp (fun b=>(Value.slice va q vc).ownBlock=some b) w4 w9:=(iG.o.alloc _).any.trans lV;(refine kk ax ag j6 ?_);clear ag K2;have jd:=FP.o.kp j6 HV5.o;have x2:=jd.c 2 (.slice va q vc) rfl;have f2:=jd.frozen 2;have hz:=jd.lt;have BU:Zs ((w9.ownsRow w3.heap.size 63 2 (.slice (some ⟨g9,0,none⟩) (q+1) c9) (q+1) (((fs.take (q+1)).map fun f=>if f.kind.kind=1 then M.dY 0 else M.ja).flatMap bq))∧Kp (·=w.heap.size+2) w3 w9∧az w9 (w.heap.size+2) 174 #[.int .i64 rk,.string rn,.slice va q vc]∧g9≠w.heap.size+2):=Ys (by
       refine⟨?_,?_,jd,?_⟩
       · rw[List.take_add_one,HX.o];simpa [M.ja,bq,HKK.o]using vX
       · exact(KJ.o.own j6 (fun b e=>pU.o.lt b e |>.1))
       · rcases nS with e|e
         · have:=(pU.o.lt g9 e).1;omega
         · have:=iG.o.size;simp at e;omega)
      clear ax r2 jd vX lV nS j6;(refine dD ?_);go_wp2_with fail;have bU:Kp (·=w.heap.size+2) w9 (w9.setCell ⟨w.heap.size+2,2,none⟩ (.slice (some ⟨g9,0,none⟩) (q+1) c9)):=(Kp.refl (·=w.heap.size+2) w9).setCell (p:=⟨w.heap.size+2,2,none⟩) (fun _=>rfl) _;obtain⟨q1,q2,q3,q4⟩:=BU.o;exact⟨⟨q+1,.slice (some ⟨g9,0,none⟩) (q+1) c9,by omega,by go_num,q2.trans bU,q3.bA 2 _,aA q1 bU (fun b hb _ e=>q4 (by cases hb;exact e))⟩,by simp[intOf];omega⟩
  · have CF:q=fs.length:=by omega
    subst CF;rw[List.take_length]at aU;have hFF:(M.fresh p ⟨rk,rn⟩).fields.length=fs.length∧(M.fresh p ⟨rk,rn⟩).of=⟨rk,rn⟩:=by rw[Xu.o];simp
    have Eo:Kp (·=l.D) w wr:=(bW.o.any.trans FT.o.kp).own hK (fun b e=>by omega);have hLr:aj wr l p:=FT.o.at_.kp hK (fun b hb e=>by omega);have hMr:=H.o.il Eo hLr;obtain⟨dO,xJ,MJ,M0,kP⟩:∃dO:Own,(∀b r,own b=some r→dO b=some r)∧(∀b,dO b≠none→B≤b∧b<wr.heap.size)∧(∀b,(Value.slice va fs.length vc).ownBlock=some b→dO b=some (7,g.os.length))∧(∀b,b<w3.heap.size→dO b=own b):=by
     have hB0:B≤w.heap.size:=by have:=(H.o.dom mb (by rw[H.o.role];simp)).2;have:=H.o.low;omega
     cases e:(Value.slice va fs.length vc).ownBlock with
     |none=>exact⟨own,fun _ _ h=>h,hMr.dom,(fun b hb=>by cases hb),fun _ _=>rfl⟩
     | some qb =>
      have hqb:=aU.lt qb e;have hqn:own qb=none:=by
       cases e2:own qb with
       |none=>rfl
       |some r=>have:=(H.o.dom qb (by rw[e2];simp)).2;omega
      refine⟨own.add qb (7,g.os.length),fun b r hb=>?_,fun b hb=>?_,(fun b hb=>by cases hb;exact Own.add_eq _ _ _),fun b hb=>Own.dV _ (by omega)⟩
      · rw[Own.dV _ (fun e3=>by subst e3;rw[hqn]at hb;cases hb)];exact hb
      · by_cases e3:b=qb
        · subst e3;exact⟨by omega,hqb.2⟩
        · rw[Own.dV _ e3]at hb;exact hMr.dom b hb
    have Bl:=hMr.relabel xJ MJ;have hB0:B≤w3.heap.size:=by have:=(H.o.dom mb (by rw[H.o.role];simp)).2;have:=H.o.low;omega
    have R9:eu wr dO B (7,g.os.length) 63 2 (.slice va fs.length vc) (M.fresh p ⟨rk,rn⟩).fields.length ((M.fresh p ⟨rk,rn⟩).fields.flatMap bq):=by
     rw[hFF.1,Xu.o];exact⟨dJ aU hB0,M0⟩
    obtain⟨ha,Es,mh⟩:=Bl.heap.form;have xh:¬g.vh.ownBlock=some mb:=fun e=>by have:=Bl.heap.role _ e;rw[Bl.role]at this;cases this
    have FJ:¬g.vh.ownBlock=some (w.heap.size+2):=fun e=>by have:=(H.o.heap.blk e).2;omega
    obtain⟨T,f,dm,HT⟩:=gy.ex (fun W'=>Kp (fun b=>g.vh.ownBlock=some b) wr W') _ (Kp.refl _ _);have rm:=fun z=>(Bl.blk.kp (HT.aK z) xh).c 4 (.slice ha g.os.length Es) (by rw[←mh];rfl);have r50:=fun z=>(yC.kp (HT.aK z) FJ).c 0 (.int .i64 rk) rfl;have WJ:=fun z=>(yC.kp (HT.aK z) FJ).c 1 (.string rn) rfl;have r52:=fun z=>(yC.kp (HT.aK z) FJ).c 2 (.slice va fs.length vc) rfl;have ax:=Ys HT;have Dw:=Ys Bl;have HR1:=Ys R9;have KN:=Ys kP;have Lv:=Ys mh;have Ri:=Ys Eo;have DI:Zs (az wr (w.heap.size+1) 63 #[.int .i64 0,.int .i64 0]):=Ys ((nQ.o.kp FT.o.kp (by omega)).kp hK (by omega));have Pv:=Ys xh;have HFF:=Ys hFF;have Nb:=hK.size;clear HT Bl R9 kP mh Eo hLr hMr xJ MJ M0 hK yC aU xh FJ hFF;go_wp2_with fail;(refine dQ ax 8 [([0,1,2,3,4,5],6),([],7)] [] ?_ ?_)
    · exact(Kp.refl _ _).drew
    (refine dn [_,_,_,_,_,_] rfl rfl fun K hK=>?_);(repeat (go_big_quiet_step (fail)));(refine qn hK fun K2 ag=>?_);clear hK K;go_wp2_with fail;(refine kk ax ag kx ?_);clear ag K2;(refine fG rfl fun K2 ag=>?_);refine aV Ee rfl (.tmp 42) (.tmp 44) rfl B (.slice ha g.os.length Es) g.os.length (g.os.flatMap iD) rfl (by rw[←Lv.o];exact aA (D:=fun _=>False) Dw.o.heap.row kx fun _ _ _ x=>x) wr.heap.size 1 [.int .i64 rk,.string rn,.slice va fs.length vc] rfl rfl (af.EU _ _ rfl) (by simp[Value.oneCell']) (by omega) (by simp;omega) ?_;intro g9 c9 w9 vX lV nS;change K2 _ _;rw[←Lv.o]at lV nS;have j6:Kp (fun b=>g.vh.ownBlock=some b) wr w9:=(kx:Ext wr _).any.trans lV;(refine kk ax ag j6 ?_);clear ag K2;have Aa:=Dw.o.blk.kp j6 Pv.o;have x4:=Aa.c 4 (.slice ha g.os.length Es) (by rw[←Lv.o];rfl);have f4:=Aa.frozen 4;have hz:=Aa.lt;have hs:({g with os:=g.os++[⟨M.fresh p ⟨rk,rn⟩,.slice va fs.length vc⟩],vh:=.slice (some ⟨g9,0,none⟩) (g.os.length+1) c9}:Gh).st=(M.create p ⟨rk,rn⟩ g.st).2:=by simp[Gh.st,M.create]
    obtain⟨Gy,own',yF,JC⟩:=Dw.o.TP (M.fresh p ⟨rk,rn⟩) (.slice va fs.length vc) HR1.o g9 c9 (by rw[HFF.o.2];exact vX) j6 (by
     rcases nS with e|e
     · exact .inl e
     · right;simp at e;omega) (by rw[hs];exact H.o.good.grow hr (by simpa [Gh.st]using hlen))
    have JK:own' (w.heap.size+1)=none:=by
     rw[yF _ (by omega),KN.o _ (by omega)];cases e:own (w.heap.size+1)with
     |none=>rfl
     |some r=>have:=(H.o.dom _ (by rw[e];simp)).2;omega
    obtain⟨W,hW⟩:∃W,W=w9.setCell ⟨mb,4,none⟩ (.slice (some ⟨g9,0,none⟩) (g.os.length+1) c9):=⟨_,rfl⟩;rw[←hW]at Gy JC;have y4:=JC.blk.c 4 (.slice (some ⟨g9,0,none⟩) (g.os.length+1) c9) rfl;have HW:=Ys hW;have HKM:=Ys Gy;have Aj:=Ys JC;have VU:=Ys yF;have HN4:=Ys JK;have Qs:dO (w.heap.size+1)=none:=by
     rw[KN.o _ (by omega)];cases e:own (w.heap.size+1)with
     |none=>rfl
     |some r=>have:=(H.o.dom _ (by rw[e];simp)).2;omega
    have Yv:=DI.o.kp Gy (fun e=>by
     rcases e with e|e
     · omega
     · exact e Qs)
    have Jy:=DI.o.kp j6 (fun e=>by have:=(H.o.heap.blk e).2;omega);have z0:=Jy.c 0 (.int .i64 0) rfl;have z1:=Jy.c 1 (.int .i64 0) rfl;have zf0:=Jy.frozen 0;have zf1:=Jy.frozen 1;have zz:=Jy.lt;have hmw:=H.o.blk.lt;have Vf:¬mb=w.heap.size+1:=by omega
    have Vg:¬w.heap.size+1=mb:=by omega
    have aaV:=Ys Yv;have HS:=Ys hs;have hwl:IntKind.i64.wrap ((g.os.length:Int)+1 - 1)=g.os.length:=by rw[IntWalk.i64_in _ (by omega)];omega
    clear Gy JC yF JK Qs Yv Jy y4 vX lV nS j6 Aa ax rm r50 WJ r52 hs hW;(refine dD ?_);go_wp2_with fail;rw[←HW.o];have bU:Kp (·=w.heap.size+1) W ((W.setCell ⟨w.heap.size+1,0,none⟩ (.int .i64 2)).setCell ⟨w.heap.size+1,1,none⟩ (.int .i64 g.os.length)):=((Kp.refl (·=w.heap.size+1) W).setCell (p:=⟨w.heap.size+1,0,none⟩) (fun _=>rfl) _).setCell (p:=⟨w.heap.size+1,1,none⟩) (fun _=>rfl) _;refine bodyPost_ret (aP sM rfl _ _ (w.heap.size+1) rfl [.int .i64 2,.int .i64 g.os.length] (af.iV (aaV.o.set2 _ _)) rfl) rfl ?_;have OJ:=Aj.o.cu.kp bU (fun b hb e=>by omega);have tL:=Aj.o.keep bU (eF.refl _ _) (Aj.o.sV bU.size) OJ (fun b hb e=>by subst e;exact hb HN4.o) (fun b hb e=>by have:=Aj.o.cu.ord;omega);refine bG.mk' ?_ (fun b hb=>?_) tL HS.o
    · refine Kp.own (D':=(·=w.heap.size+1)) ?_ bU (fun b e=>by omega);exact(Ri.o.weak fun b _ e=>.inl e).mo (HKM.o) (fun b hb=>KN.o b (by omega))
    · rw[VU.o b (by omega),KN.o b (by omega)]
end Go.Proofs.YtohpiobncgafeaaGreatDoor
namespace Go.Proofs.YtohpiobncgafeaaGreatDoor
open Go Go.RowKit
section
variable {w w':World} {l:au} {p:M.ai} {own:Own} {B mb:Nat} {lk:Bool} {g:Gh} {r:List GC} {c:GC}
theorem ay.fresh(h:ay w l p own B mb lk g){b:Nat}(hb:w.heap.size≤b):¬MO l own b:=by
 rintro(e|e)
 · have:=h.cu.Cg;omega
 · have:=(h.dom b e).2;omega
def Gh.bQ(g:Gh)(r:List GC)(c:GC)(st:List M.Val)(vs:Value):Gh:={g with cs:=r++[{c with f:={c.f with stack:=st},vs:=vs}]}
theorem Gh.VI(st:List M.Val)(vs:Value):(g.bQ r c st vs).st={g.st with frames:=r.map GC.f++[{c.f with stack:=st}]}:=by simp[Gh.bQ,Gh.st]
theorem Gh.gp(bE:g.cs=r++[c]){n:Nat}{st vs:List M.Val}(bU:c.f.stack=st++vs)(hn:vs.length=n)(vs':Value):M.gp n g.st=some (vs,(g.bQ r c st vs').st):=by
 unfold M.gp;have e1:c.f.stack.length - n=st.length:=by rw[bU];simp;omega
 rw[Gh.top bE,M.kU (Gh.fr bE),if_neg (by rw[bU];simp;omega),e1,Gh.VI,bU];simp
theorem Gh.q8(bE:g.cs=r++[c]){n:Nat}(hn:c.f.stack.length<n):M.gp n g.st=none:=by
 unfold M.gp;rw[Gh.top bE,if_pos hn]
theorem Gh.pop(bE:g.cs=r++[c]){st:List M.Val}{v:M.Val}(bU:c.f.stack=st++[v])(vs':Value):M.pop g.st=some (v,(g.bQ r c st vs').st):=by
 unfold M.pop;rw[Gh.gp bE (n:=1) bU rfl vs'];rfl
theorem Gh.si(bE:g.cs=r++[c])(bU:c.f.stack=[]):M.pop g.st=none:=by
 unfold M.pop;rw[Gh.q8 bE (by rw[bU];simp)];rfl
theorem ay.popped(h:ay w l p own B mb lk g)(bE:g.cs=r++[c]){a:Option Addr}{n k:Nat}{st:List M.Val}(hv:c.vs=.slice a (st.length+n) k)(bU:∃vs,c.f.stack=st++vs∧vs.length=n)(hn:0<n)(hb:az w' c.cb 132 ((yh p c).setIfInBounds 13 (.slice a st.length k)))(hk:Kp (·=c.cb) w w'):
    Kp (MO l own) w w'∧ay w' l p own B mb lk (g.bQ r c st (.slice a st.length k)):=by
 obtain⟨vs,bU,Va⟩:=bU;have hc:=h.at_ bE;have hlen:c.f.stack.length=st.length+n:=by rw[bU];simp[Va]
 have aU:=hc.bQ.row;rw[hv,hlen]at aU;obtain⟨q,kq,e, -⟩:=aX aU (by omega);cases e;have nG:=vD aU (j:=st.length) (by omega);rw[bU,uQ (enc:=bq) (k:=2) (fun _=>rfl)]at nG;have Ze:c.vs.ownBlock≠some c.cb:=fun e=>by have:=hc.bQ.role _ e;rw[hc.role]at this;cases this
 have je:=M.aF.1 (h.Aq bE);obtain⟨h1,own',h2,h3⟩:=h.setStack bE st (.slice (some ⟨q,0,none⟩) st.length k) hb (aA nG hk (fun g hg _ e=>Ze (by rw[hv];subst e;exact hg))) (fun x hx=>.inl (by rw[hv];exact hx)) (hk.weak fun b _ e=>.inl e) (by
  rw[show({g with cs:=r++[{c with f:={c.f with stack:=st},vs:=.slice (some ⟨q,0,none⟩) st.length k}]}:Gh).st={g.st with frames:=r.map GC.f++[{c.f with stack:=st}]}from by simp[Gh.st]];refine h.good.turn (Gh.fr bE) (M.aF.2 ⟨je.1,je.2.1,je.2.2.1,je.2.2.2.1,?_,je.2.2.2.2.2.1,fun u hu=>je.2.2.2.2.2.2 u (by rw[bU];simp[hu])⟩);have:=je.2.2.2.2.1;simp only;omega)
 refine⟨h1,?_⟩;have gD:Kp (PO own (·=(4,r.length))) w w':=hk.weak fun b _ e=>⟨_,by rw[e];exact hc.role,rfl⟩;have ha:=eF.refl w.heap.size own;refine h.Dk bE rfl (gD.weak fun b _ ⟨q,e1,e2⟩=>⟨q,e1,.inl e2⟩) ha (h.sV hk.size) ⟨hb,hc.role,hc.low,bD.kp aC.stays gD (fun b hb=>h.qF b hb) hc.ml,hc.loc.p9 gD ha (by simp),⟨?_,fun x hx=>hc.bQ.role x (by rw[hv];exact hx)⟩⟩ h3.good;exact aA nG hk (fun g hg _ e=>Ze (by rw[hv];subst e;exact hg))
end
theorem nJ(w:World)(l:au)(p:M.ai)(own:Own)(B mb:Nat)(lk:Bool)(g:Gh)(h:ay w l p own B mb lk g)(r:List GC)(c:GC)(bE:g.cs=r++[c])(st:List M.Val)(v:M.Val)(bU:c.f.stack=st++[v]):
    Calls Tryz.prog 100 #[.pointer (some ⟨c.cb,13,none⟩)] w fun e w'=>e=.returned (.tuple #[.agg #[.int .i64 v.kind,.int .i64 v.n],.bool true])∧Kp (MO l own) w w'∧∃vs',ay w' l p own B mb lk (g.bQ r c st vs'):=by
 have hc:=h.at_ bE;have je:=M.aF.1 (h.Aq bE);have MQ:=(h.mi bE).stack;have oD:=je.2.2.2.2.1;have hlen:c.f.stack.length=st.length+1:=by rw[bU];simp
 refine(NY w c.cb 13 B _ _ c.vs st.length st v hc.blk rfl (by rw[←bU,←hlen];exact hc.bQ.row) rfl (by omega) (fun e=>by have:=hc.bQ.role _ e;rw[hc.role]at this;cases this)).mono ?_;rintro e w' ⟨rfl,⟨a,k,hv,hb⟩,hK⟩;obtain⟨h1,h2⟩:=h.popped bE hv ⟨[v],bU,rfl⟩ (by omega) hb hK;exact⟨rfl,h1,_,h2⟩
theorem jr(w:World)(l:au)(p:M.ai)(own:Own)(B mb:Nat)(lk:Bool)(g:Gh)(h:ay w l p own B mb lk g)(r:List GC)(c:GC)(bE:g.cs=r++[c])(bU:c.f.stack=[]):
    Calls Tryz.prog 100 #[.pointer (some ⟨c.cb,13,none⟩)] w fun e w'=>e=.returned (.tuple #[.agg #[.int .i64 0,.int .i64 0],.bool false])∧Ext w w':=by
 have hc:=h.at_ bE;obtain⟨a,k,e⟩:=hc.bQ.form;rw[bU]at e;exact NW w c.cb 13 _ _ c.vs hc.blk rfl ⟨a,k,e⟩
theorem wE(w:World)(l:au)(p:M.ai)(own:Own)(B mb:Nat)(lk:Bool)(g:Gh)(h:ay w l p own B mb lk g)(r:List GC)(c:GC)(bE:g.cs=r++[c])(st vs:List M.Val)(n:Nat)(bU:c.f.stack=st++vs)(hn:vs.length=n)(FH:0<n):
    Calls Tryz.prog 102 #[.pointer (some ⟨c.cb,13,none⟩),.int .i64 n] w fun e w'=>∃v',e=.returned (.tuple #[v',.bool true])∧w'.ownsRow w.heap.size 63 2 v' n (vs.flatMap bq)∧Kp (MO l own) w w'∧∃vs',ay w' l p own B mb lk (g.bQ r c st vs'):=by
 have hc:=h.at_ bE;have je:=M.aF.1 (h.Aq bE);have MQ:=(h.mi bE).stack;have oD:=je.2.2.2.2.1;have hlen:c.f.stack.length=st.length+n:=by rw[bU];simp[hn]
 refine(kV w c.cb 13 B _ _ c.vs c.f.stack.length c.f.stack hc.blk rfl hc.bQ.row rfl n (by omega) FH (by omega) (fun e=>by have:=hc.bQ.role _ e;rw[hc.role]at this;cases this)).mono ?_;rintro e w' ⟨v',rfl,aU,⟨a,k,hv,hb⟩,hK⟩;rw[hlen]at hv;rw[hlen,Nat.add_sub_cancel]at hb;have e1:c.f.stack.drop (c.f.stack.length - n)=vs:=by rw[hlen,Nat.add_sub_cancel,bU,List.drop_left]
 rw[e1]at aU;obtain⟨h1,h2⟩:=h.popped bE hv ⟨vs,bU,hn⟩ FH hb hK;exact⟨v',rfl,aU,h1,_,h2⟩
theorem l5(w:World)(l:au)(p:M.ai)(own:Own)(B mb:Nat)(lk:Bool)(g:Gh)(h:ay w l p own B mb lk g)(r:List GC)(c:GC)(bE:g.cs=r++[c])(n:Nat)(hn:c.f.stack.length<n)(uV:n≤1000):
    Calls Tryz.prog 102 #[.pointer (some ⟨c.cb,13,none⟩),.int .i64 n] w fun e w'=>e=.returned (.tuple #[.slice none 0 0,.bool false])∧w=w':=by
 have hc:=h.at_ bE;exact wI w c.cb 13 _ _ c.vs _ hc.blk rfl hc.bQ.form n hn uV
theorem Uc(w:World)(l:au)(p:M.ai)(own:Own)(B mb:Nat)(lk:Bool)(g:Gh)(h:ay w l p own B mb lk g)(r:List GC)(c:GC)(bE:g.cs=r++[c])(bU:g.status=1)(i:M.Ins)(hi:M.fM (M.method p c.f.of) i=true)(dL:i.op=1):
    Calls Tryz.prog 46 #[.pointer (some ⟨mb,0,none⟩),.agg #[.int .i64 i.op,.int .i64 i.a,.string i.name,.string i.member]] w (bG w l p own B mb lk (.int .i64 (M.aB p lk i g.st).1) (M.aB p lk i g.st).2):=by
 have HV:Zs (M.aB p lk i g.st=M.push p (M.dY i.a) g.st):=Ys (by unfold M.aB;rw[if_pos dL]);have ZM:=(M.jm hi).2.2.2.1 dL;have H:=Ys h;have dF:=Ys bE;clear h bE dL;go_enter Tryz.func46,Tryz.ntmps46;go_wp2_with fail;refine(xM i.a _).mono ?_;rintro e w1 ⟨rfl,aZ⟩;have eP:Zs (Ext w w1):=Ys ((kx:Ext w _).trans aZ);clear aZ;go_wp2_with fail;refine(jI _ _ _ _ _ _ _ _ (H.o.ext eP.o) r c dF.o bU (M.dY i.a) (M.gV _ ZM)).mono ?_;rintro e w2 aI;have HZ:=Ys (bG.behind eP.o aI);obtain⟨rfl, -⟩:=aI;rw[←HV.o]at HZ ⊢;go_wp2_with fail;go_ret;exact HZ.o
theorem PQ(w:World)(l:au)(p:M.ai)(own:Own)(B mb:Nat)(lk:Bool)(g:Gh)(h:ay w l p own B mb lk g)(r:List GC)(c:GC)(bE:g.cs=r++[c])(bU:g.status=1)(i:M.Ins)(dL:i.op=5):
    Calls Tryz.prog 50 #[.pointer (some ⟨mb,0,none⟩),.agg #[.int .i64 i.op,.int .i64 i.a,.string i.name,.string i.member]] w (bG w l p own B mb lk (.int .i64 (M.aB p lk i g.st).1) (M.aB p lk i g.st).2):=by
 have HV:Zs (M.aB p lk i g.st=M.push p M.ja g.st):=Ys (by unfold M.aB;rw[dL];rfl);have H:=Ys h;have dF:=Ys bE;clear h bE dL;go_enter Tryz.func50,Tryz.ntmps50;go_wp2_with fail;refine(EY _).mono ?_;rintro e w1 ⟨rfl,aZ⟩;have eP:Zs (Ext w w1):=Ys ((kx:Ext w _).trans aZ);clear aZ;go_wp2_with fail;refine(jI _ _ _ _ _ _ _ _ (H.o.ext eP.o) r c dF.o bU M.ja (M.sD _)).mono ?_;rintro e w2 aI;have HZ:=Ys (bG.behind eP.o aI);obtain⟨rfl, -⟩:=aI;rw[←HV.o]at HZ ⊢;go_wp2_with fail;go_ret;exact HZ.o
theorem X8(w:World)(l:au)(p:M.ai)(own:Own)(B mb:Nat)(lk:Bool)(g:Gh)(h:ay w l p own B mb lk g)(r:List GC)(c:GC)(bE:g.cs=r++[c])(bU:g.status=1)(i:M.Ins)(hi:M.fM (M.method p c.f.of) i=true)(dL:i.op=13):
    Calls Tryz.prog 58 #[.pointer (some ⟨mb,0,none⟩),.agg #[.int .i64 i.op,.int .i64 i.a,.string i.name,.string i.member]] w (bG w l p own B mb lk (.int .i64 (M.aB p lk i g.st).1) (M.aB p lk i g.st).2):=by
 have HV:Zs (M.aB p lk i g.st=M.jump p i.a g.st):=Ys (by unfold M.aB;rw[dL];rfl);have ha:=((M.jm hi).2.2.1 (.inr (.inr dL))).1;have hE:Ext w (w.alloc (.cells #[.int .i64 i.op,.int .i64 i.a,.string i.name,.string i.member] 30)):=kx;have HE:=Ys hE;have H:=Ys h;have dF:=Ys bE;clear h bE dL hE;go_enter Tryz.func58,Tryz.ntmps58;go_wp2_with fail;refine(vw _ _ _ _ _ _ _ _ (H.o.ext HE.o) r c dF.o bU i.a ha).mono ?_;rintro e w2 aI;have HZ:=Ys (bG.behind HE.o aI);obtain⟨rfl, -⟩:=aI;rw[←HV.o]at HZ ⊢;go_wp2_with fail;go_ret;exact HZ.o
end Go.Proofs.YtohpiobncgafeaaGreatDoor
namespace Go.Proofs.YtohpiobncgafeaaGreatDoor
open Go Go.RowKit
theorem PS(w:World)(l:au)(p:M.ai)(own:Own)(B mb:Nat)(lk:Bool)(g:Gh)(h:ay w l p own B mb lk g)(r:List GC)(c:GC)(bE:g.cs=r++[c])(bU:g.status=1)(i:M.Ins)(hi:M.fM (M.method p c.f.of) i=true)(dL:i.op=11):
    Calls Tryz.prog 56 #[.pointer (some ⟨mb,0,none⟩),.agg #[.int .i64 i.op,.int .i64 i.a,.string i.name,.string i.member]] w (bG w l p own B mb lk (.int .i64 (M.aB p lk i g.st).1) (M.aB p lk i g.st).2):=by
 have HI:=Ys (M.jm hi);obtain⟨w0,bN,aM,b3⟩:=nu w #[.int .i64 i.op,.int .i64 i.a,.string i.name,.string i.member] 30;have vM:=Ys (h.fresh (Nat.le_refl _));have HA:=Ys (h.ext aM);have bW:=Ys aM;have gW:=Ys b3;have dS:=Ys bN;have dF:=Ys bE;have Ez:=b3.lt;clear h aM b3 bN bE hi;rcases List.eq_nil_or_concat c.f.stack with hs|⟨st,v,hs⟩
 · have HV:Zs (M.aB p lk i g.st=(10,g.st)):=Ys (by unfold M.aB;rw[dL];simp only[Gh.si dF.o hs];rfl);have HS:=Ys hs;clear hs dL;go_enter Tryz.func56,Tryz.ntmps56;go_wp2_with fail;rw[←dS.o];refine(di _ _ _ _ _ _ _ _ HA.o r c dF.o).mono ?_;rintro e w1 ⟨rfl,aZ⟩;have iF:=Ys (HA.o.ext aZ);have eP:Zs (Ext w w1):=Ys (bW.o.trans aZ);clear aZ;go_wp2_with fail;refine(jr _ _ _ _ _ _ _ _ iF.o r c dF.o HS.o).mono ?_;rintro e w2 ⟨rfl,bY⟩;have xC:=Ys (iF.o.ext bY);have jC:Zs (Ext w w2):=Ys (eP.o.trans bY);clear bY;go_wp2_with fail;go_ret;rw[HV.o];exact bG.mk' (jC.o.alloc _).any (eF.refl _ _) (xC.o.ext kx) rfl
 · rw[List.concat_eq_append]at hs;have qy:=(M.aF.1 (HA.o.Aq dF.o)).2.2.2.2.2.2 v (by rw[hs];simp);have BV:Zs (M.aR v g.os.length=true):=Ys (by simpa [Gh.st]using qy);have HV:Zs (∀vs',M.aB p lk i g.st=if v.kind=1 then(if v.n=0 then M.jump p i.a (g.bQ r c st vs').st else M.next p (g.bQ r c st vs').st)else(10,(g.bQ r c st vs').st)):=Ys (fun vs'=>by unfold M.aB;rw[dL];simp only[Gh.pop dF.o hs vs'];rfl);have HS:=Ys hs;have Ls:=Ys dL;clear hs dL qy;obtain⟨vk,vn⟩:=v;simp only at HV;go_enter Tryz.func56,Tryz.ntmps56;go_wp2_with fail;rw[←dS.o];refine(di _ _ _ _ _ _ _ _ HA.o r c dF.o).mono ?_;rintro e w1 ⟨rfl,aZ⟩;have iF:=Ys (HA.o.ext aZ);have eP:=Ys aZ;clear aZ;go_wp2_with fail;refine(nJ _ _ _ _ _ _ _ _ iF.o r c dF.o st ⟨vk,vn⟩ HS.o).mono ?_;rintro e w2 ⟨rfl,ag,vs',rH⟩;replace HV:=Ys (HV.o vs');obtain⟨w3,hZ,dA,b5⟩:=nu w2 #[.int .i64 vk,.int .i64 vn] 63;have l9:=Ys (rH.ext dA);have jT:Zs (Kp (MO l own) w w3):=Ys (((bW.o.trans eP.o).any.trans ag).trans dA.any);have lh:=(gW.o.ext eP.o).kp ag vM.o;have y1:=lh.c 1 (.int .i64 i.a) rfl;have yz:=lh.lt;have kK:=Ys hZ;have ru:=Ys b5;have Rk:=Ys (rH.fresh (Nat.le_refl _));clear dA b5 ag rH lh hZ;by_cases hk:vk=1
   · subst hk;by_cases hn:vn=0
     · subst hn;replace HV:=Ys (HV.o.trans (if_pos rfl));replace HV:=Ys (HV.o.trans (if_pos rfl));go_wp2_with fail;rw[←kK.o];refine(vw _ _ _ _ _ _ _ _ l9.o r _ rfl bU i.a (HI.o.2.2.1 (.inl Ls.o)).1).mono ?_;rintro e w4 aI;have HZ:=Ys (bG.after jT.o (eF.refl _ _) aI);obtain⟨rfl, -⟩:=aI;rw[←HV.o]at HZ ⊢;go_wp2_with fail;go_ret;exact HZ.o
     · have Va:(vn==0)=false:=beq_eq_false_iff_ne.2 hn;replace HV:=Ys (HV.o.trans (if_pos rfl));replace HV:=Ys (HV.o.trans (if_neg hn));clear hn;go_wp2_with fail;rw[←kK.o];refine(lM _ _ _ _ _ _ _ _ l9.o r _ rfl bU).mono ?_;rintro e w4 aI;have HZ:=Ys (bG.after jT.o (eF.refl _ _) aI);obtain⟨rfl, -⟩:=aI;rw[←HV.o]at HZ ⊢;go_wp2_with fail;go_ret;exact HZ.o
   · have Cz:(vk !=1)=true:=bne_iff_ne.2 hk;replace HV:=Ys (HV.o.trans (if_neg hk));clear hk;go_wp2_with fail;go_ret;rw[HV.o,←kK.o];exact bG.mk' jT.o (eF.refl _ _) l9.o rfl
end Go.Proofs.YtohpiobncgafeaaGreatDoor
