/- Walks. -/
import Derived.Test.YtcepdbbapgfcdaaGreatVmCoren
set_option maxRecDepth 100000
set_option maxHeartbeats 4000000
set_option linter.unusedSimpArgs false
set_option linter.unusedVariables false
namespace Go.Proofs.YtcepdbbapgfcdaaGreat
open Go Go.RowKit
theorem Fs(w:World)(l:aI)(p:M.au)(own:Own)(B mb:Nat)(lk:Bool)(g:Gh)(h:aK w l p own B mb lk g)(r:List GC)(c:GC)(bO:g.cs=r++[c])(bH:g.status=1):
    Calls Tryz.prog 97 #[.pointer (some ⟨mb,0,none⟩)] w fun e w'=>cB w l p own B mb lk (.int .i64 (M.next p g.st).1) (M.next p g.st).2 e w'∧Kp (PO own (Eh r.length)) w w':=by
 have H:=Ys h;have HJ:Zs (M.next p g.st=M.jump p (c.f.pc+1) g.st):=Ys (by unfold M.next;rw[Gh.top bO]);have kQ:=M.aP.1 (h.GL bO);have Wq:=(h.mi bO).code;have hp0:=kQ.2.1;have hp1:=kQ.2.2.1;have YB:IntKind.i64.wrap (c.f.pc+1)=c.f.pc+1:=IntWalk.i64_in _ (by omega);have fw:=Ys bO;clear h bO kQ;go_enter Tryz.func97,Tryz.ntmps97;go_wp2_with fail;refine(eG _ _ _ _ _ _ _ _ H.o r c fw.o).mono ?_;rintro e w1 ⟨rfl,bA⟩;have hA:=H.o.ext bA;have hc:=hA.at_ fw.o;have c11:=hc.blk.c 11 (.int .i64 c.f.pc) rfl;have HA:=Ys hA;have fe:=Ys bA;clear hA hc bA;go_wp2_with fail;refine(Fq _ _ _ _ _ _ _ _ HA.o r c fw.o bH (c.f.pc+1) (by omega)).mono ?_;rintro e w2 ⟨aV,Rl⟩;have VH:Zs (Kp (PO own (Eh r.length)) w w2):=Ys (fe.o.any.trans Rl);clear Rl;have HZ:=Ys (cB.behind fe.o aV);obtain⟨rfl, -⟩:=aV;rw[←HJ.o]at HZ ⊢;go_wp2_with fail;go_ret;exact⟨HZ.o,VH.o⟩
theorem p8(w:World)(l:aI)(p:M.au)(own:Own)(B mb:Nat)(lk:Bool)(g:Gh)(h:aK w l p own B mb lk g)(r:List GC)(c:GC)(bO:g.cs=r++[c])(bH:g.status=1):
    Calls Tryz.prog 97 #[.pointer (some ⟨mb,0,none⟩)] w (cB w l p own B mb lk (.int .i64 (M.next p g.st).1) (M.next p g.st).2):=
 (Fs w l p own B mb lk g h r c bO bH).mono fun _ _ h=>h.1
theorem Ii(w:World)(l:aI)(p:M.au)(own:Own)(B mb:Nat)(lk:Bool)(g:Gh)(h:aK w l p own B mb lk g)(r:List GC)(c:GC)(bO:g.cs=r++[c])(bH:g.status=1)(v:M.Val)(hv:M.bE v g.os.length=true):
    Calls Tryz.prog 95 #[.pointer (some ⟨mb,0,none⟩),.agg #[.int .i64 v.kind,.int .i64 v.n]] w fun e w'=>cB w l p own B mb lk (.int .i64 (M.push p v g.st).1) (M.push p v g.st).2 e w'∧Kp (PO own (Eh r.length)) w w':=by
 obtain⟨w0,bD,aU,b3⟩:=nu w #[.int .i64 v.kind,.int .i64 v.n] 32;have hA:=h.ext aU;have kQ:=M.aP.1 (h.GL bO);have Rp:=(h.mi bO).stack;have uQ:=kQ.2.2.2.2.1;have hc:=h.at_ bO;have Mm:¬(w.heap.size=c.cb∨c.vs.ownBlock=some w.heap.size):=by
  rintro(e|e)
  · have:=hc.blk.lt;omega
  · have:=(hc.dG.blk e).2;omega
 have HJ:Zs (M.push p v g.st=if(M.method p c.f.of).stack≤(c.f.stack.length:Int)then(10,g.st)else M.next p {g.st with frames:=r.map GC.f++[{c.f with stack:=c.f.stack++[v]}]}):=Ys (by
  unfold M.push;rw[Gh.top bO,M.dY (Gh.fr bO)])
 have hG':(c.f.stack.length:Int)<(M.method p c.f.of).stack→M.Good p {g.st with frames:=r.map GC.f++[{c.f with stack:=c.f.stack++[v]}]}:=fun bZ=>by
  refine h.good.turn (Gh.fr bO) (M.aP.2 ⟨kQ.1,kQ.2.1,kQ.2.2.1,kQ.2.2.2.1,by simp;omega,kQ.2.2.2.2.2.1,?_⟩);intro u hu;rcases List.mem_append.1 hu with hu|hu
  · exact kQ.2.2.2.2.2.2 u hu
  · simp only[List.mem_singleton]at hu;subst hu;simpa [Gh.st]using hv
 obtain⟨T,f,dB,HT⟩:=iq.ex (fun W'=>Kp (fun b=>b=c.cb∨c.vs.ownBlock=some b) w0 W') _ (Kp.refl _ _);have r0:=fun z=>(b3.kp (HT.aJ z) Mm).c 0 (.int .i64 v.kind) rfl;have r1:=fun z=>(b3.kp (HT.aJ z) Mm).c 1 (.int .i64 v.n) rfl;have aj:=Ys HT;have HA:=Ys hA;have bJ:=Ys aU;have dQ:=Ys bD;have HGG:=Ys hG';have fw:=Ys bO;clear h hA aU bD b3 HT hG' hc bO kQ;go_enter Tryz.func95,Tryz.ntmps95;go_wp2_with fail;rw[←dQ.o];(refine dZ aj 7 [([0,4],1),([2,3],5)] [6] ?_ ?_)
 · exact(Kp.refl _ _).drew
 (refine di [_,_] rfl rfl fun K hK=>?_);(repeat (go_big_quiet_step (fail)));(refine qn hK fun K2 af=>?_);clear hK K;go_wp2_with fail;refine(eG _ _ _ _ _ _ _ _ (HA.o.ext (Kp.refl _ _).drew) r c fw.o).mono ?_;rintro e w1 ⟨rfl,bA⟩;have fe:Zs (Ext w0 w1):=Ys (((Kp.refl _ w0).drew:Ext w0 _).trans bA);clear bA;go_wp2_with fail;(refine kk aj af fe.o.any ?_);clear af K2;(refine di [_,_] rfl rfl fun K hK=>?_);(repeat (go_big_quiet_step (fail)));(refine qn hK fun K2 af=>?_);clear hK K;have rP:=HA.o.ext fe.o;have lJ:=rP.at_ fw.o;have kG:=Ys rP;have Dv:=Ys lJ;clear rP lJ;by_cases bZ:(c.f.stack.length:Int)<(M.method p c.f.of).stack
 · replace HJ:Zs (M.push p v g.st=M.next p {g.st with frames:=r.map GC.f++[{c.f with stack:=c.f.stack++[v]}]}):=Ys (by rw[HJ.o,if_neg (by omega)]);go_wp2_with fail;refine(N7 w1 c.cb 13 B _ _ _ c.f.stack.length _ (M.method p c.f.of).stack Dv.o.blk rfl rfl v.kind v.n Dv.o.dG.row (by omega) bZ ?_ ?_).mono ?_
   · intro e;have:=Dv.o.dG.role _ e;rw[Dv.o.role]at this;cases this
   · have:=Dv.o.low;have:=Dv.o.blk.lt;omega
   rintro e w2 ⟨rfl,gg,gc,Td,PX,hB2,PN⟩;have hs:(⟨g.status,r++[{c with f:={c.f with stack:=c.f.stack++[v]},vs:=.slice (some ⟨gg,0,none⟩) (c.f.stack.length+1) gc}],g.os,g.outs,g.back,g.vc,g.vh,g.vo⟩:Gh).st={g.st with frames:=r.map GC.f++[{c.f with stack:=c.f.stack++[v]}]}:=by simp[Gh.st]
   obtain⟨Nb,own',ha',Tc⟩:=kG.o.setStack fw.o (c.f.stack++[v]) (.slice (some ⟨gg,0,none⟩) (c.f.stack.length+1) gc) hB2 (by
    rw[List.length_append,List.flatMap_append];simpa [bW]using Td) (fun q hq=>by
    have:gg=q:=by simpa [Value.ownBlock]using hq
    subst this;exact PX) PN (by rw[hs];exact HGG.o bZ)
   have adE:Zs (Kp (fun b=>b=c.cb∨c.vs.ownBlock=some b) w0 w2):=Ys (fe.o.any.trans PN);have VH:Zs (Kp (PO own (Eh r.length)) w w2):=Ys ((bJ.o.trans fe.o).any.trans (kG.o.JS fw.o PN));have HKM:Zs (Kp (MO l own) w w2):=Ys ((bJ.o.trans fe.o).any.trans Nb);have HM':=Ys Tc;have HAG:Zs (gY w.heap.size own own'):=Ys (fun b hb=>ha' b (by have:=bJ.o.size;have:=fe.o.size;omega));rw[←hs]at HJ;clear Td PX hB2 PN Nb ha' Tc hs r0 r1;go_wp2_with fail;(refine kk aj af adE.o ?_);clear af K2;clear aj;(refine dI [_] rfl rfl fun K hK=>?_);(repeat (go_big_quiet_step (fail)));(refine qn hK ?_);clear hK K;go_wp2_with fail;refine(Fs _ _ _ _ _ _ _ _ HM'.o r _ rfl bH).mono ?_;rintro e w3 ⟨aV,Rl⟩;have adR:Zs (Kp (PO own (Eh r.length)) w w3):=Ys (VH.o.po Rl HAG.o);clear Rl;have HZ:=Ys (cB.after HKM.o HAG.o aV);obtain⟨rfl, -⟩:=aV;rw[←HJ.o]at HZ ⊢;go_wp2_with fail;go_ret;exact⟨HZ.o,adR.o⟩
 · replace HJ:Zs (M.push p v g.st=(10,g.st)):=Ys (by rw[HJ.o,if_pos (by omega)]);go_wp2_with fail;refine(Dn w1 c.cb 13 _ _ _ c.f.stack.length (M.method p c.f.of).stack Dv.o.blk rfl rfl Dv.o.dG.form v.kind v.n (by omega)).mono ?_;rintro e w2 ⟨rfl,bP⟩;have fD:Zs (Ext w0 w2):=Ys (fe.o.trans bP);clear bP r0 r1;go_wp2_with fail;(refine kk aj af fD.o.any ?_);clear af K2;clear aj;(refine dI [_] rfl rfl fun K hK=>?_);(repeat (go_big_quiet_step (fail)));(refine qn hK ?_);clear hK K;go_wp2_with fail;go_ret;rw[HJ.o];exact⟨cB.behind bJ.o (HA.o.stop fD.o),(bJ.o.trans fD.o).any⟩
theorem mI(w:World)(l:aI)(p:M.au)(own:Own)(B mb:Nat)(lk:Bool)(g:Gh)(h:aK w l p own B mb lk g)(r:List GC)(c:GC)(bO:g.cs=r++[c])(bH:g.status=1)(v:M.Val)(hv:M.bE v g.os.length=true):
    Calls Tryz.prog 95 #[.pointer (some ⟨mb,0,none⟩),.agg #[.int .i64 v.kind,.int .i64 v.n]] w (cB w l p own B mb lk (.int .i64 (M.push p v g.st).1) (M.push p v g.st).2):=
 (Ii w l p own B mb lk g h r c bO bH v hv).mono fun _ _ h=>h.1
def Kt(w:World)(vh:Value)(h:List M.iC):Prop:=
 ∃a cap,vh=.slice a h.length cap∧∀(n:Nat) (o:M.iC),h[n]?=some o→∃b off v,a=some ⟨b,off,none⟩∧ae w b (off+n*3) [.int .i64 o.of.keeper,.string o.of.name,v]
theorem Kt.ext{w w':World}{vh:Value}{h:List M.iC}(hh:Kt w vh h)(hE:Ext w w'):Kt w' vh h:=by
 obtain⟨a,cap,e,h1⟩:=hh;exact⟨a,cap,e,fun n o ho=>by
  obtain⟨b,off,v,h2,h3⟩:=h1 n o ho;exact⟨b,off,v,h2,h3.ext hE⟩⟩
theorem aK.Tn{w:World}{l:aI}{p:M.au}{own:Own}{B mb:Nat}{lk:Bool}{g:Gh}(h:aK w l p own B mb lk g):Kt w g.vh g.st.heap:=by
 obtain⟨a,c,e⟩:=h.heap.form;refine⟨a,c,by rw[e];simp[Gh.st],fun n o ho=>?_⟩;simp only[Gh.st,List.getElem?_map,Option.map_eq_some_iff]at ho;obtain⟨q,hq,rfl⟩:=ho;have cu:=h.heap.row;obtain⟨gg,cc,e2,_⟩:=cO cu (by have:=(List.getElem?_eq_some_iff.1 hq).1;omega);rw[e2]at cu e;cases e;have:=eZ (enc:=kE) (k:=3) (fun _=>rfl) cu hq;exact⟨gg,0,q.v,rfl,by simpa [kE]using this⟩
theorem iI(w:World)(cb:Nat)(k:Int)(hc:w.cell? ⟨cb,0,none⟩=some (.int .i64 k)):Calls Tryz.prog 101 #[.pointer (some ⟨cb,0,none⟩)] w fun e w'=>e=.returned (.int .i64 k)∧w=w':=by
 go_enter Tryz.func101,Tryz.ntmps101;go_wp2;go_ret;exact⟨rfl,rfl⟩
theorem Ar{h:List M.iC}{n:Nat}{o:M.iC}(ho:h[n]?=some o):M.rM h n=o.of:=by simp[M.rM,ho]
theorem rH(w:World)(l:aI)(p:M.au)(h:aF w l p)(k:Int)(vh:Value)(hs:List M.iC)(hh:Kt w vh hs)(v:M.Val)(hv:v.kind=2→0≤v.n∧v.n<hs.length)(t:M.Kind):
    Calls Tryz.prog 75 #[.pointer (some ⟨l.L,0,none⟩),.int .i64 k,vh,.agg #[.int .i64 v.kind,.int .i64 v.n],.agg #[.int .i64 t.kind,.string t.name]] w fun e w'=>e=.returned (.bool (M.hasType p k hs v t))∧Ext w w':=by
 obtain⟨tk,tn⟩:=t;obtain⟨vk,vn⟩:=v;obtain⟨w0,bD⟩:∃w0,w0=(w.alloc (.cells #[.int .i64 vk,.int .i64 vn] 32)).alloc (.cells #[.int .i64 tk,.string tn] 50):=⟨_,rfl⟩;have aU:Ext w w0:=by rw[bD];exact kx
 have b8:aC w0 w.heap.size 32 #[.int .i64 vk,.int .i64 vn]:=by rw[bD];exact(aC.new _ _ _).ext kx
 have b9:aC w0 (w.heap.size+1) 50 #[.int .i64 tk,.string tn]:=by rw[bD];exact aC.newAt _ _ (by simp)
 have HH:=Ys (hh.ext aU);have HL:=Ys (h.ext aU);have bJ:=Ys aU;have vB:=Ys b8;have p9:=Ys b9;have dQ:=Ys bD;obtain⟨a,cap,rfl, -⟩:=hh;clear h aU b8 b9 bD;by_cases ht:tk=1
 · subst ht;have HV:Zs (M.hasType p k hs ⟨vk,vn⟩ ⟨1,tn⟩=decide (vk=1)):=Ys (by unfold M.hasType;rw[if_pos rfl]);go_enter Tryz.func75,Tryz.ntmps75;go_wp2_with fail;go_ret;exact⟨ag (by rw[HV.o];rfl),by rw[←dQ.o];exact bJ.o⟩
 have Gr:(tk==1)=false:=beq_eq_false_iff_ne.2 ht;by_cases TL:vk=3
 · subst TL;have HV:Zs (M.hasType p k hs ⟨3,vn⟩ ⟨tk,tn⟩=true):=Ys (by unfold M.hasType;rw[if_neg ht,if_pos rfl]);go_enter Tryz.func75,Tryz.ntmps75;go_wp2_with fail;go_ret;exact⟨ag HV.o.symm,by rw[←dQ.o];exact bJ.o⟩
 have aeY:(vk==3)=false:=beq_eq_false_iff_ne.2 TL;by_cases Yz:vk=2
 · subst Yz;have HV:Zs (M.hasType p k hs ⟨2,vn⟩ ⟨tk,tn⟩=(decide ((M.find p k tn).2=1)&&M.under p (M.rM hs vn) (M.find p k tn).1)):=Ys (by unfold M.hasType;rw[if_neg ht,if_neg TL];rfl);obtain⟨H9,mG⟩:=hv rfl;simp only at H9 mG;obtain⟨n,rfl⟩:∃n:Nat,vn=n:=⟨vn.toNat,by omega⟩;obtain⟨o,ho⟩:∃o,hs[n]?=some o:=⟨hs[n]'(by omega),List.getElem?_eq_getElem _⟩;obtain⟨a',cap',ea,hcells⟩:=HH.o;cases ea;obtain⟨b,off,fv,rfl,jh⟩:=hcells n o ho;replace HV:Zs (M.hasType p k hs ⟨2,n⟩ ⟨tk,tn⟩=(decide ((M.find p k tn).2=1)&&M.under p o.of (M.find p k tn).1)):=Ys (by rw[HV.o,Ar ho]);have q1:=p9.o.c 1 (.string tn) rfl;have qz:=p9.o.lt;have HC:=Ys jh;clear hcells ho jh;go_enter Tryz.func75,Tryz.ntmps75;go_wp2_with fail;rw[←dQ.o];refine(jM _ _ _ HL.o k tn).mono ?_;rintro e w1 ⟨rfl,bA⟩;generalize M.find p k tn=F1 at*;obtain⟨⟨xk,xn⟩,c1⟩:=F1;simp only at*;obtain⟨w2,iV,bP,b11⟩:=nu w1 #[.int .i64 xk,.string xn] 40;have sV:=Ys iV;have fD:=Ys (bA.trans bP);obtain⟨T,f,dB,HT⟩:=iq.ex (fun W'=>Ext w2 W') _ (Kp.refl _ _);have r81:=fun z=>((vB.o.ext fD.o).ext (HT.aJ z)).c 1 (.int .i64 n) rfl;have agk:=fun z=>(b11.ext (HT.aJ z)).c 0 (.int .i64 xk) rfl;have agl:=fun z=>(b11.ext (HT.aJ z)).c 1 (.string xn) rfl;have rh0:=fun z=>(HC.o.ext (fD.o.trans (HT.aJ z))).three.1;have rh1:=fun z=>(HC.o.ext (fD.o.trans (HT.aJ z))).three.2.1;have aj:=Ys HT;clear iV bP b11 HT bA q1 qz;by_cases lJ:c1=1
   · subst lJ;replace HV:Zs (M.hasType p k hs ⟨2,n⟩ ⟨tk,tn⟩=M.under p o.of ⟨xk,xn⟩):=Ys (by rw[HV.o];rfl);go_wp2_with fail;rw[←sV.o];(refine dZ aj 13 [([0,1,2,3,4,5,6,7,8,9,10],11)] [12] ?_ ?_)
     · exact(Kp.refl _ _).drew
     (refine di [_,_,_,_,_,_,_,_,_,_,_] rfl rfl fun K hK=>?_);(repeat (go_big_quiet_step (fail)));(refine qn hK fun K2 af=>?_);clear hK K;go_wp2_with fail;refine(q8 _ _ _ (HL.o.ext (fD.o.trans (Kp.refl _ _).drew)) o.of ⟨xk,xn⟩).mono ?_;rintro e w4 ⟨rfl,dA⟩;have gZ:Zs (Ext w2 w4):=Ys (((Kp.refl _ w2).drew:Ext w2 _).trans dA);clear dA;go_wp2_with fail;(refine kk aj af gZ.o ?_);clear af K2;(refine uY [_] rfl fun K hK=>?_);(repeat (go_big_quiet_step (fail)));(refine qn hK ?_);clear hK K;go_wp2_with fail;go_ret;exact⟨ag HV.o.symm,bJ.o.trans (fD.o.trans gZ.o)⟩
   · have abZ:(c1==1)=false:=beq_eq_false_iff_ne.2 lJ;replace HV:Zs (M.hasType p k hs ⟨2,n⟩ ⟨tk,tn⟩=false):=Ys (by rw[HV.o];simp[lJ]);clear lJ;go_wp2_with fail;rw[←sV.o];(refine dZ aj 13 [([0,1,2,3,4,5,6,7,8,9,10],11)] [12] ?_ ?_)
     · exact(Kp.refl _ _).drew
     (refine di [_,_,_,_,_,_,_,_,_,_,_] rfl rfl fun K hK=>?_);(repeat (go_big_quiet_step (fail)));(refine qn hK fun K2 af=>?_);clear hK K;go_wp2_with fail;(refine kk aj af ((Kp.refl _ w2).drew:Ext w2 _) ?_);clear af K2;(refine uY [_] rfl fun K hK=>?_);(repeat (go_big_quiet_step (fail)));(refine qn hK ?_);clear hK K;go_wp2_with fail;go_ret;exact⟨ag HV.o.symm,bJ.o.trans (fD.o.drew)⟩
 · have aeX:(vk !=2)=true:=bne_iff_ne.2 Yz;have HV:Zs (M.hasType p k hs ⟨vk,vn⟩ ⟨tk,tn⟩=false):=Ys (by unfold M.hasType;rw[if_neg ht,if_neg TL,if_pos Yz]);go_enter Tryz.func75,Tryz.ntmps75;go_wp2_with fail;go_ret;exact⟨ag HV.o.symm,by rw[←dQ.o];exact bJ.o⟩
theorem wR(w:World)(l:aI)(p:M.au)(own:Own)(B mb:Nat)(lk:Bool)(g:Gh)(h:aK w l p own B mb lk g)(v:M.Val)(hv:M.bE v g.os.length=true)(t:M.Ref):
    Calls Tryz.prog 102 #[.pointer (some ⟨mb,0,none⟩),.agg #[.int .i64 v.kind,.int .i64 v.n],.agg #[.int .i64 t.keeper,.string t.name]] w fun e w'=>e=.returned (.int .i64 (M.object p v t g.st))∧Ext w w':=by
 obtain⟨vk,vn⟩:=v;obtain⟨w0,bD⟩:∃w0,w0=(w.alloc (.cells #[.int .i64 vk,.int .i64 vn] 32)).alloc (.cells #[.int .i64 t.keeper,.string t.name] 40):=⟨_,rfl⟩;have aU:Ext w w0:=by rw[bD];exact kx
 have b4:aC w0 w.heap.size 32 #[.int .i64 vk,.int .i64 vn]:=by rw[bD];exact(aC.new _ _ _).ext kx
 have b5:aC w0 (w.heap.size+1) 40 #[.int .i64 t.keeper,.string t.name]:=by rw[bD];exact aC.newAt _ _ (by simp)
 have HA:=Ys (h.ext aU);have bJ:=Ys aU;have iB:=Ys b4;have iL:=Ys b5;have dQ:=Ys bD;clear h aU b4 b5 bD;by_cases TL:vk=3
 · subst TL;have HV:Zs (M.object p ⟨3,vn⟩ t g.st=3):=Ys (by unfold M.object;rw[if_pos rfl]);go_enter Tryz.func102,Tryz.ntmps102;go_wp2_with fail;go_ret;exact⟨by rw[HV.o];rfl,by rw[←dQ.o];exact bJ.o⟩
 have aeY:(vk==3)=false:=beq_eq_false_iff_ne.2 TL;obtain⟨T,f,dB,HT⟩:=iq.ex (fun W'=>Ext w0 W') _ (Kp.refl _ _);have yC:=fun z=>(HA.o.ext (HT.aJ z)).blk.c 0 (.pointer (some ⟨l.L,0,none⟩)) rfl;obtain⟨ha,dn,qN⟩:=HA.o.heap.form;have Xm:=fun z=>(HA.o.ext (HT.aJ z)).blk.c 4 (.slice ha g.os.length dn) (by rw[←qN];rfl);have Rx:=fun z=>(iB.o.ext (HT.aJ z)).c 0 (.int .i64 vk) rfl;have UD:=fun z=>(iB.o.ext (HT.aJ z)).c 1 (.int .i64 vn) rfl;have r50:=fun z=>(iL.o.ext (HT.aJ z)).c 0 (.int .i64 t.keeper) rfl;have r51:=fun z=>(iL.o.ext (HT.aJ z)).c 1 (.string t.name) rfl;by_cases Yz:vk=2
 · subst Yz;obtain⟨H9,mG⟩:=M.nS hv rfl;simp only at H9 mG;obtain⟨n,rfl⟩:∃n:Nat,vn=n:=⟨vn.toNat,by omega⟩;obtain⟨o,ho⟩:∃o,g.os[n]?=some o:=⟨g.os[n]'(by omega),List.getElem?_eq_getElem _⟩;have HV:Zs (M.object p ⟨2,n⟩ t g.st=if M.under p o.o.of t then 1 else 10):=Ys (by
    have:M.rM g.st.heap n=o.o.of:=Ar (by simp[Gh.st,ho]);unfold M.object;rw[if_neg TL,this];rfl)
   have cu:=HA.o.heap.row;rw[qN]at cu;obtain⟨b,ad5,eb, -⟩:=cO cu (by omega);cases eb;have jh:=eZ (enc:=kE) (k:=3) (fun _=>rfl) cu ho;have rh0:=fun z=>(ae.ext jh (HT.aJ z)).three.1;have rh1:=fun z=>(ae.ext jh (HT.aJ z)).three.2.1;have aj:=Ys HT;have R8:=Ys qN;clear HT qN cu jh ho hv TL;go_enter Tryz.func102,Tryz.ntmps102;go_wp2_with fail;rw[←dQ.o];(refine dZ aj 21 [([0,1,2,3,4,5,6,7,8,9,10,11,12,13,14,15,16,17],18)] [19,20] ?_ ?_)
   · exact(Kp.refl _ _).drew
   (refine di [_,_,_,_,_,_,_,_,_,_,_,_,_,_,_,_,_,_] rfl rfl fun K hK=>?_);(repeat (go_big_quiet_step (fail)));(refine qn hK fun K2 af=>?_);clear hK K;go_wp2_with fail;refine(q8 _ _ _ (HA.o.dP.ext (Kp.refl _ _).drew) o.o.of t).mono ?_;rintro e w4 ⟨rfl,dA⟩;have gZ:Zs (Ext w0 w4):=Ys (((Kp.refl _ w0).drew:Ext w0 _).trans dA);clear dA;cases hu:M.under p o.o.of t
   · replace HV:Zs (M.object p ⟨2,n⟩ t g.st=10):=Ys (by rw[HV.o,hu];rfl);clear hu;go_wp2_with fail;(refine kk aj af gZ.o ?_);clear af K2;(refine dI [_,_] rfl rfl fun K hK=>?_);(repeat (go_big_quiet_step (fail)));(refine qn hK ?_);clear hK K;go_wp2_with fail;go_ret;exact⟨by rw[HV.o];rfl,bJ.o.trans gZ.o⟩
   · replace HV:Zs (M.object p ⟨2,n⟩ t g.st=1):=Ys (by rw[HV.o,hu];rfl);clear hu;go_wp2_with fail;(refine kk aj af gZ.o ?_);clear af K2;(refine dI [_,_] rfl rfl fun K hK=>?_);(repeat (go_big_quiet_step (fail)));(refine qn hK ?_);clear hK K;go_wp2_with fail;go_ret;exact⟨by rw[HV.o];rfl,bJ.o.trans gZ.o⟩
 · have aeX:(vk !=2)=true:=bne_iff_ne.2 Yz;have HV:Zs (M.object p ⟨vk,vn⟩ t g.st=10):=Ys (by unfold M.object;rw[if_neg TL,if_pos Yz]);have aj:=Ys HT;have R8:=Ys qN;clear HT qN hv TL Yz;go_enter Tryz.func102,Tryz.ntmps102;go_wp2_with fail;rw[←dQ.o];(refine dZ aj 21 [([0,1,2,3,4,5,6,7,8,9,10,11,12,13,14,15,16,17],18)] [19,20] ?_ ?_)
   · exact(Kp.refl _ _).drew
   (refine di [_,_,_,_,_,_,_,_,_,_,_,_,_,_,_,_,_,_] rfl rfl fun K hK=>?_);(repeat (go_big_quiet_step (fail)));(refine qn hK fun K2 af=>?_);clear hK K;go_wp2_with fail;(refine kk aj af ((Kp.refl _ w0).drew:Ext w0 _) ?_);clear af K2;(refine dI [_,_] rfl rfl fun K hK=>?_);(repeat (go_big_quiet_step (fail)));(refine qn hK ?_);clear hK K;go_wp2_with fail;go_ret;exact⟨by rw[HV.o];rfl,bJ.o.drew⟩
theorem Lm(w:World)(l:aI)(p:M.au)(own:Own)(B mb:Nat)(lk:Bool)(g:Gh)(h:aK w l p own B mb lk g)(c:Int):
    Calls Tryz.prog 51 #[.pointer (some ⟨mb,0,none⟩),.int .i64 c] w (cB w l p own B mb lk (.tuple #[]) (M.end_ c g.st)):=by
 have c2:=h.blk.c 2 (.int .i64 g.status) rfl;obtain⟨ca,cc,yT⟩:=h.calls.form;have c3:=h.blk.c 3 (.slice ca g.cs.length cc) (by rw[←yT];rfl);have f2:=h.blk.frozen 2;have f3:=h.blk.frozen 3;have hz:=h.blk.lt;have H:=Ys h;have MK:=Ys yT;clear h yT;by_cases hc:c=1
 · subst hc;have HV:Zs (M.end_ 1 g.st=g.st):=Ys (by unfold M.end_;rw[if_pos rfl]);go_enter Tryz.func51,Tryz.ntmps51;go_wp2_with fail;((try simp only[Exit.inBlock,Exit.then]);(first|refine bodyPost_ret (results_none rfl _ _ _) rfl ?_|refine bodyPost_end (results_none rfl _ _ _) rfl ?_));rw[HV.o];exact H.o.stop (Kp.refl _ _)
 · have zW:(c !=1)=true:=bne_iff_ne.2 hc;have HV:Zs (M.end_ c g.st={g.st with status:=c,frames:=[]}):=Ys (by unfold M.end_;rw[if_neg hc]);clear hc;go_enter Tryz.func51,Tryz.ntmps51;go_wp2_with fail;((try simp only[Exit.inBlock,Exit.then]);(first|refine bodyPost_ret (results_none rfl _ _ _) rfl ?_|refine bodyPost_end (results_none rfl _ _ _) rfl ?_));rw[HV.o];have hK:Kp (·=mb) w ((w.setCell ⟨mb,2,none⟩ (.int .i64 c)).setCell ⟨mb,3,none⟩ (.slice none 0 0)):=
    ((Kp.refl (·=mb) w).setCell (p:=⟨mb,2,none⟩) (fun _=>rfl) _).setCell (p:=⟨mb,3,none⟩) (fun _=>rfl) _
   have hK':Kp (PO own (·=(0,0))) w ((w.setCell ⟨mb,2,none⟩ (.int .i64 c)).setCell ⟨mb,3,none⟩ (.slice none 0 0)):=hK.weak fun b _ e=>⟨_,by rw[e];exact H.o.role,rfl⟩;refine cB.mk' (hK'.weak fun b _ e=>e.mo) (gY.refl _ _) (H.o.JN {g with status:=c,cs:=[],vc:=.slice none 0 0} hK' ((H.o.blk.bI 2 _).bI 3 _) (.inr ⟨gP.nil _ _ _ _ _ _,g.cs,rfl⟩) ⟨rfl,rfl,rfl,rfl⟩ ?_) (by simp[Gh.st]);exact⟨H.o.good.heap,by simp[Gh.st],by simp[Gh.st],H.o.good.outs,H.o.good.nP,H.o.good.back⟩
theorem LC.set2{l:aI}{p:M.au}{w W:World}{b:Nat}(h:LC l p w W)(hb:w.heap.size≤b)(v0 v1:Value)(hL:l.L<w.heap.size):LC l p w ((W.setCell ⟨b,0,none⟩ v0).setCell ⟨b,1,none⟩ v1):=by
 have hk:Kp (·=b) W ((W.setCell ⟨b,0,none⟩ v0).setCell ⟨b,1,none⟩ v1):=((Kp.refl (·=b) W).setCell (p:=⟨b,0,none⟩) (fun _=>rfl) v0).setCell (p:=⟨b,1,none⟩) (fun _=>rfl) v1;exact⟨h.kp.own hk (fun k e=>by omega),h.at_.kp hk (fun k hk e=>by omega)⟩
theorem Fp(w:World)(l:aI)(p:M.au)(own:Own)(B mb:Nat)(lk:Bool)(g:Gh)(h:aK w l p own B mb lk g)(r:List GC)(c:GC)(bO:g.cs=r++[c])(n:ByteArray):
    Calls Tryz.prog 99 #[.pointer (some ⟨mb,0,none⟩),.string n] w fun e w'=>
     e=.returned (.tuple #[.agg #[.int .i64 (M.jA p n g.st).1.keeper,.string (M.jA p n g.st).1.name],.bool (M.jA p n g.st).2])∧LC l p w w':=by
 obtain⟨w0,bD,aU,b4⟩:=nu w #[.int .i64 0,.string ⟨#[]⟩] 40;have Cu:l.L<w0.heap.size:=(h.ext aU).dP.lt;have ad9:=h.dP.lt;have Mi:=h.dP.IW;have HM:=Ys h.blk.lt;obtain⟨⟨⟨xk,xn⟩,c1⟩,hF⟩:∃F,M.find p c.f.of.of.keeper n=F:=⟨_,rfl⟩;have HV:Zs (M.jA p n g.st=(⟨xk,xn⟩,decide (c1=1)&&M.cZ p ⟨xk,xn⟩)):=Ys (by unfold M.jA;rw[Gh.top bO,hF]);have H7:∀W,LC l p w0 W→Calls Tryz.prog 44 #[.pointer (some ⟨l.L,0,none⟩),.int .i64 c.f.of.of.keeper,.string n] W fun e w'=>e=.returned (.tuple #[.agg #[.int .i64 xk,.string xn],.int .i64 c1])∧Ext W w':=fun W hW=>by
  have:=jM W l p hW.at_ c.f.of.of.keeper n;rw[hF]at this;exact this
 have Kg:=Ys H7;have HC:Zs (LC l p w0 w0.drew):=Ys (LC.refl (h.ext aU).dP).drew;obtain⟨T,f,dB,HT⟩:=iq.ex (fun W'=>LC l p w0 W') w0 (LC.refl (h.ext aU).dP);have HA:=Ys (h.ext aU);have r0:=fun z=>(HA.o.kg (HT.aJ z).kp (HT.aJ z).at_).blk.c 0 (.pointer (some ⟨l.L,0,none⟩)) rfl;have aj:=Ys HT;have bJ:=Ys aU;have iB:=Ys b4;have dQ:=Ys bD;have fw:=Ys bO;have Vp:=b4.lt;clear h HT aU b4 bD hF H7 bO;rw[HV.o];go_enter Tryz.func99,Tryz.ntmps99;go_wp2_with fail;rw[←dQ.o];rename_i K hK
 have tail : ∀ (b6 : Nat) (w7 : World), LC l p w0 w7 → aC w7 b6 40 #[.int .i64 xk, .string xn] → w0.heap.size ≤ b6 → K { tmps := #[.pointer (some ⟨mb, 0, none⟩), .string n, undef, undef, .pointer (some ⟨w.heap.size, 0, none⟩), .bool false, .pointer (some ⟨b6, 0, none⟩), .int .i64 c1, .tuple #[.agg #[.int .i64 xk, .string xn], .int .i64 c1], .pointer (some ⟨mb, 0, none⟩), .pointer (some ⟨mb, 0, none⟩), .pointer (some ⟨mb, 0, none⟩), .pointer (some ⟨l.L, 0, none⟩), .pointer (some ⟨mb, 0, none⟩), .pointer (some ⟨c.cb, 0, none⟩), .int .i64 c.f.of.of.keeper, .string n, .tuple #[.agg #[.int .i64 xk, .string xn], .int .i64 c1], .agg #[.int .i64 xk, .string xn], .int .i64 c1, undef, undef, undef, undef, undef, undef, undef, undef, undef, undef, undef], defers := [] } w7 := by
  intro b6 w7 hC hB rQ;refine hK _ _ ?_;clear hK aj r0 HC Kg;have P5:¬(w.heap.size=l.D):=by omega
  have afA:w.heap.size<w0.heap.size:=Vp;have yg:=iB.o.kp hC.kp P5;have afU:¬b6=w.heap.size:=by omega
  have afV:¬w.heap.size=b6:=by omega
  have hDL:l.D<l.L:=HA.o.dP.ord.2.2;have x0:=yg.c 0 (.int .i64 0) rfl;obtain⟨T,f,dB,HT⟩:=iq.ex (fun W'=>Kp (fun b=>b=l.D∨b=w.heap.size) w7 W'∧aF W' l p) w7 ⟨Kp.refl _ _,hC.at_⟩;have abW:¬(b6=l.D∨b6=w.heap.size):=by omega
  have hmD:¬(mb=l.D∨mb=w.heap.size):=by
   have:=HA.o.hB;have:=HA.o.low;have:=HM.o;omega
  have q0:=fun z=>(hB.kp (HT.aJ z).1 abW).c 0 (.int .i64 xk) rfl;have q1:=fun z=>(hB.kp (HT.aJ z).1 abW).c 1 (.string xn) rfl;have qm:=fun z=>((HA.o.kg hC.kp hC.at_).blk.kp (HT.aJ z).1 hmD).c 0 (.pointer (some ⟨l.L,0,none⟩)) rfl;have aj:=Ys HT;have l9:=Ys hC;have pg:=Ys yg;clear hC hB HT yg x0;have fin:∀W b,Kp (·=l.D) w7 W→aF W l p→W.heap[w.heap.size]?=w7.heap[w.heap.size]?→b=(decide (c1=1)&&M.cZ p ⟨xk,xn⟩)→
      Kp (fun b=>b=l.D∨b=w.heap.size) w7 ((W.setCell ⟨w.heap.size,0,none⟩ (.int .i64 xk)).setCell ⟨w.heap.size,1,none⟩ (.string xn))∧aF ((W.setCell ⟨w.heap.size,0,none⟩ (.int .i64 xk)).setCell ⟨w.heap.size,1,none⟩ (.string xn)) l p∧
      LC l p w ((W.setCell ⟨w.heap.size,0,none⟩ (.int .i64 xk)).setCell ⟨w.heap.size,1,none⟩ (.string xn))∧aC ((W.setCell ⟨w.heap.size,0,none⟩ (.int .i64 xk)).setCell ⟨w.heap.size,1,none⟩ (.string xn)) w.heap.size 40 #[.int .i64 xk,.string xn]:=fun W b hk hL hb _=>by
   have h4:aC W w.heap.size 40 #[.int .i64 0,.string ⟨#[]⟩]:=pg.o.keep hb;have h5:LC l p w W:=(⟨bJ.o.any,HA.o.dP⟩:LC l p w w0).trans (l9.o.trans ⟨hk,hL⟩);have h6:=LC.set2 h5 (Nat.le_refl _) (.int .i64 xk) (.string xn) ad9;exact⟨(hk.weak fun b _ e=>.inl e).trans (((Kp.refl _ W).setCell (p:=⟨w.heap.size,0,none⟩) (fun _=>.inr rfl) _).setCell (p:=⟨w.heap.size,1,none⟩) (fun _=>.inr rfl) _),h6.at_,h6,h4.set2 _ _⟩
  have jE:=Ys fin;clear fin;by_cases lJ:c1=1
  · subst lJ;go_wp2_with fail;(refine dZ aj 12 [([0,1,2,3,4,5,6,7,8],9),([10],11)] [] ?_ ?_)
    · exact⟨(Kp.refl _ _).drew,l9.o.at_.ext (Kp.refl _ _).drew⟩
    (refine di [_,_,_,_,_,_,_,_,_] rfl rfl fun K hK=>?_);(repeat (go_big_quiet_step (fail)));(refine qn hK fun K2 af=>?_);clear hK K;go_wp2_with fail;refine(iG _ _ _ (l9.o.at_.ext (Kp.refl _ _).drew) ⟨xk,xn⟩).mono ?_;rintro e w9 ⟨rfl,hL9,fE⟩;have Ww:Kp (·=l.D) w7 w9:=((Kp.refl _ w7).drew).trans fE;obtain⟨f1,f2,f3,f4⟩:=jE.o w9 _ Ww hL9 (Ww.block _ (by have:=pg.o.lt;exact this) P5) rfl;have mU:=pg.o.kp Ww P5;have x0:=mU.c 0 (.int .i64 0) rfl;have x1:=mU.c 1 (.string ⟨#[]⟩) rfl;have g0:=mU.frozen 0;have g1:=mU.frozen 1;have gz:=mU.lt;have F1:=Ys f1;have F2:=Ys f2;have F3:=Ys f3;have F4:=Ys f4;have vD:=Ys (And.intro (Ww.weak (D':=fun b=>b=l.D∨b=w.heap.size) fun b _ e=>.inl e) hL9);clear fE hL9 Ww f1 f2 f3 f4 mU;go_wp2_with fail;(refine kk aj af vD.o ?_);clear af K2;(refine di [_] rfl rfl fun K hK=>?_);(repeat (go_big_quiet_step (fail)));(refine qn hK fun K2 af=>?_);clear hK K;go_wp2_with fail;(refine kk aj af ⟨F1.o,F2.o⟩ ?_);clear af K2;(refine dW ?_);go_wp2_with fail;refine bodyPost_ret (ai OA rfl _ _ w.heap.size rfl [.int .i64 xk,.string xn] (ae.gX F4.o) rfl) rfl ?_;exact⟨by simp,F3.o⟩
  · have abZ:(c1==1)=false:=beq_eq_false_iff_ne.2 lJ;have hd:(decide (c1=1)&&M.cZ p ⟨xk,xn⟩)=false:=by rw[decide_eq_false lJ];rfl
    have HD:=Ys hd;obtain⟨f1,f2,f3,f4⟩:=jE.o w7.drew _ (Kp.refl _ _).drew (l9.o.at_.ext (Kp.refl _ _).drew) rfl rfl;have x0:=pg.o.c 0 (.int .i64 0) rfl;have x1:=pg.o.c 1 (.string ⟨#[]⟩) rfl;have g0:=pg.o.frozen 0;have g1:=pg.o.frozen 1;have gz:=pg.o.lt;have F1:=Ys f1;have F2:=Ys f2;have F3:=Ys f3;have F4:=Ys f4;clear f1 f2 f3 f4 lJ hd;go_wp2_with fail;(refine dZ aj 12 [([0,1,2,3,4,5,6,7,8],9),([10],11)] [] ?_ ?_)
    · exact⟨(Kp.refl _ _).drew,l9.o.at_.ext (Kp.refl _ _).drew⟩
    (refine di [_,_,_,_,_,_,_,_,_] rfl rfl fun K hK=>?_);(repeat (go_big_quiet_step (fail)));(refine qn hK fun K2 af=>?_);clear hK K;go_wp2_with fail;(refine kk aj af ⟨(Kp.refl _ _).drew,l9.o.at_.ext (Kp.refl _ _).drew⟩ ?_);clear af K2;(refine di [_] rfl rfl fun K hK=>?_);(repeat (go_big_quiet_step (fail)));(refine qn hK fun K2 af=>?_);clear hK K;go_wp2_with fail;(refine kk aj af ⟨F1.o,F2.o⟩ ?_);clear af K2;(refine dW ?_);go_wp2_with fail;refine bodyPost_ret (ai OA rfl _ _ w.heap.size rfl [.int .i64 xk,.string xn] (ae.gX F4.o) rfl) rfl ?_;exact⟨by rw[HD.o];rfl,F3.o⟩
 have TAIL:=Ys tail;clear tail;clear hK;(refine l5 aj 14 (.two [0,1,2,3,4,7] 5 12 (.two [] 6 12 (.two [] 8 12 (.one [9,10,11] 12 (.one [] 13 (.fin []))) (.one [] 8 (.one [9,10,11] 13 (.fin [])))) (.one [] 6 (.one [] 8 (.one [9,10,11] 13 (.fin []))))) (.one [] 5 (.one [] 6 (.one [] 8 (.one [9,10,11] 13 (.fin [])))))) ?_ ?_)
 · exact HC.o
 (refine two [_,_,_,_,_,_] rfl rfl rfl fun K hK=>?_);(repeat (go_big_quiet_step (fail)));((refine Gu hK (fun K2 af=>?_) fun K2 af=>?_)<;>clear hK K)
 · go_wp2_with fail;refine(eG _ _ _ _ _ _ _ _ (HA.o.kg HC.o.kp HC.o.at_) r c fw.o).mono ?_;rintro e wc ⟨rfl,GQ⟩;replace HC:=Ys (HC.o.ext GQ);clear GQ;go_wp2_with fail;(refine kk aj af HC.o ?_);clear af K2;(refine ze rfl rfl (fun K2 af=>?_) fun K2 af=>?_)
   · go_wp2_with fail;refine(iI _ _ c.f.of.of.keeper (((HA.o.kg HC.o.kp HC.o.at_).at_ fw.o).blk.c 0 _ rfl)).mono ?_;rintro e we ⟨rfl,rfl⟩;go_wp2_with fail;(refine kk aj af HC.o ?_);clear af K2;(refine ze rfl rfl (fun K2 af=>?_) fun K2 af=>?_)
     · go_wp2_with fail;refine(Kg.o _ HC.o).mono ?_;rintro e wc ⟨rfl,GQ⟩;replace HC:=Ys (HC.o.ext GQ);clear GQ;go_wp2_with fail;(refine kk aj af HC.o ?_);clear af K2;(refine pJ [_,_,_] rfl rfl fun K hK=>?_);(repeat (go_big_quiet_step (fail)));(refine qn hK fun K2 af=>?_);clear hK K;go_wp2_with fail;(refine kk aj af (HC.o.ext ((Kp.refl _ _).alloc _)) ?_);clear af K2;(refine aZ rfl fun K2 af=>?_);go_wp2_with fail;(refine kk aj af (HC.o.ext ((Kp.refl _ _).alloc _)) ?_);clear af K2;have rQ:=HC.o.kp.size;have bg:=Ys (aC.new (wc) 40 #[.int .i64 xk,.string xn]);replace HC:=Ys (HC.o.ext ((Kp.refl _ _).alloc (.cells #[.int .i64 xk,.string xn] 40)));clear aj r0;(refine bY ?_);go_wp2_with fail;exact TAIL.o _ _ HC.o bg.o rQ
     · go_wp2_with fail;(refine kk aj af (HC.o.ext ((Kp.refl _ _).alloc _)) ?_);clear af K2;have rQ:w0.heap.size≤wc.heap.size:=HC.o.kp.size;have bg:Zs (aC (wc.alloc (.cells #[.int .i64 0,.string ⟨#[]⟩] 40)) wc.heap.size 40 #[.int .i64 0,.string ⟨#[]⟩]):=Ys (aC.new _ _ _);replace HC:=Ys (HC.o.ext ((Kp.refl _ _).alloc (.cells #[.int .i64 0,.string ⟨#[]⟩] 40)));(refine aZ rfl fun K2 af=>?_);go_wp2_with fail;refine(Kg.o _ HC.o).mono ?_;rintro e wc ⟨rfl,GQ⟩;replace bg:=Ys (bg.o.ext GQ);replace HC:=Ys (HC.o.ext GQ);clear GQ;go_wp2_with fail;(refine kk aj af HC.o ?_);clear af K2;(refine pJ [_,_,_] rfl rfl fun K hK=>?_);(repeat (go_big_quiet_step (fail)));(refine qn hK fun K2 af=>?_);clear hK K;have y0:=bg.o.c 0 (.int .i64 0) rfl;have y1:=bg.o.c 1 (.string ⟨#[]⟩) rfl;have g0:=bg.o.frozen 0;have g1:=bg.o.frozen 1;have z6:=bg.o.lt;go_wp2_with fail;replace HC:=Ys (LC.set2 HC.o rQ (.int .i64 xk) (.string xn) Cu);replace bg:=Ys (bg.o.set2 (.int .i64 xk) (.string xn));(refine kk aj af HC.o ?_);clear af K2;clear y0 y1 g0 g1 z6;clear aj r0;(refine bY ?_);go_wp2_with fail;exact TAIL.o _ _ HC.o bg.o rQ
   · go_wp2_with fail;(refine kk aj af (HC.o.ext ((Kp.refl _ _).alloc _)) ?_);clear af K2;have rQ:w0.heap.size≤wc.heap.size:=HC.o.kp.size;have bg:Zs (aC (wc.alloc (.cells #[.int .i64 0,.string ⟨#[]⟩] 40)) wc.heap.size 40 #[.int .i64 0,.string ⟨#[]⟩]):=Ys (aC.new _ _ _);replace HC:=Ys (HC.o.ext ((Kp.refl _ _).alloc (.cells #[.int .i64 0,.string ⟨#[]⟩] 40)));(refine aZ rfl fun K2 af=>?_);go_wp2_with fail;refine(iI _ _ c.f.of.of.keeper (((HA.o.kg HC.o.kp HC.o.at_).at_ fw.o).blk.c 0 _ rfl)).mono ?_;rintro e we ⟨rfl,rfl⟩;go_wp2_with fail;(refine kk aj af HC.o ?_);clear af K2;(refine aZ rfl fun K2 af=>?_);go_wp2_with fail;refine(Kg.o _ HC.o).mono ?_;rintro e wc ⟨rfl,GQ⟩;replace bg:=Ys (bg.o.ext GQ);replace HC:=Ys (HC.o.ext GQ);clear GQ;go_wp2_with fail;(refine kk aj af HC.o ?_);clear af K2;(refine pJ [_,_,_] rfl rfl fun K hK=>?_);(repeat (go_big_quiet_step (fail)));(refine qn hK fun K2 af=>?_);clear hK K;have y0:=bg.o.c 0 (.int .i64 0) rfl;have y1:=bg.o.c 1 (.string ⟨#[]⟩) rfl;have g0:=bg.o.frozen 0;have g1:=bg.o.frozen 1;have z6:=bg.o.lt;go_wp2_with fail;replace HC:=Ys (LC.set2 HC.o rQ (.int .i64 xk) (.string xn) Cu);replace bg:=Ys (bg.o.set2 (.int .i64 xk) (.string xn));(refine kk aj af HC.o ?_);clear af K2;clear y0 y1 g0 g1 z6;clear aj r0;(refine bY ?_);go_wp2_with fail;exact TAIL.o _ _ HC.o bg.o rQ
 · go_wp2_with fail;(refine kk aj af (HC.o.ext ((Kp.refl _ _).alloc _)) ?_);clear af K2;have rQ:w0.heap.size≤w0.heap.size:=HC.o.kp.size;have bg:Zs (aC (w0.drew.alloc (.cells #[.int .i64 0,.string ⟨#[]⟩] 40)) w0.heap.size 40 #[.int .i64 0,.string ⟨#[]⟩]):=Ys (aC.new _ _ _);replace HC:=Ys (HC.o.ext ((Kp.refl _ _).alloc (.cells #[.int .i64 0,.string ⟨#[]⟩] 40)));(refine aZ rfl fun K2 af=>?_);go_wp2_with fail;refine(eG _ _ _ _ _ _ _ _ (HA.o.kg HC.o.kp HC.o.at_) r c fw.o).mono ?_;rintro e wc ⟨rfl,GQ⟩;replace bg:=Ys (bg.o.ext GQ);replace HC:=Ys (HC.o.ext GQ);clear GQ;go_wp2_with fail;(refine kk aj af HC.o ?_);clear af K2;(refine aZ rfl fun K2 af=>?_);go_wp2_with fail;refine(iI _ _ c.f.of.of.keeper (((HA.o.kg HC.o.kp HC.o.at_).at_ fw.o).blk.c 0 _ rfl)).mono ?_;rintro e we ⟨rfl,rfl⟩;go_wp2_with fail;(refine kk aj af HC.o ?_);clear af K2;(refine aZ rfl fun K2 af=>?_);go_wp2_with fail;refine(Kg.o _ HC.o).mono ?_;rintro e wc ⟨rfl,GQ⟩;replace bg:=Ys (bg.o.ext GQ);replace HC:=Ys (HC.o.ext GQ);clear GQ;go_wp2_with fail;(refine kk aj af HC.o ?_);clear af K2;(refine pJ [_,_,_] rfl rfl fun K hK=>?_);(repeat (go_big_quiet_step (fail)));(refine qn hK fun K2 af=>?_);clear hK K;have y0:=bg.o.c 0 (.int .i64 0) rfl;have y1:=bg.o.c 1 (.string ⟨#[]⟩) rfl;have g0:=bg.o.frozen 0;have g1:=bg.o.frozen 1;have z6:=bg.o.lt;go_wp2_with fail;replace HC:=Ys (LC.set2 HC.o rQ (.int .i64 xk) (.string xn) Cu);replace bg:=Ys (bg.o.set2 (.int .i64 xk) (.string xn));(refine kk aj af HC.o ?_);clear af K2;clear y0 y1 g0 g1 z6;clear aj r0;(refine bY ?_);go_wp2_with fail;exact TAIL.o _ _ HC.o bg.o rQ
theorem KH:Elem 30 62 3:=iF (z:=.agg #[.int .i64 0,.string ⟨#[]⟩,.slice none 0 0]) (bytes:=48) Tryz.underlying30 (by kernel_rfl) rfl (by decide) (by decide)
theorem gP.relabel{w:World}{own fQ:Own}{B:Nat}{r:Nat×Nat}{e k:Nat}{v:Value}{n:Nat}{xs:List Value}(h:gP w own B r e k v n xs)(hs:∀b r,own b=some r→fQ b=some r):gP w fQ B r e k v n xs:=
 ⟨h.row,fun q hq=>hs q r (h.role q hq)⟩
theorem kM.relabel{w:World}{l:aI}{p:M.au}{own fQ:Own}{B i:Nat}{c:GC}(h:kM w l p own B i c)(hs:∀b r,own b=some r→fQ b=some r):kM w l p fQ B i c:=
 ⟨h.blk,hs _ _ h.role,h.low,h.ml,h.loc.relabel hs,h.dG.relabel hs⟩
theorem aK.relabel{w:World}{l:aI}{p:M.au}{own fQ:Own}{B mb:Nat}{lk:Bool}{g:Gh}(h:aK w l p own B mb lk g)(hs:∀b r,own b=some r→fQ b=some r)(hd:∀b,fQ b≠none→B≤b∧b<w.heap.size):aK w l p fQ B mb lk g:=
 ⟨h.dP,h.hB,h.blk,hs _ _ h.role,h.low,h.calls.relabel hs,fun i c hc=>(h.call i c hc).relabel hs,h.heap.relabel hs,fun j o ho=>(h.obj j o ho).relabel hs,h.outs.relabel hs,hd,h.good⟩
theorem aK.ZF{w w':World}{l:aI}{p:M.au}{own:Own}{B mb:Nat}{lk:Bool}{g:Gh}(h:aK w l p own B mb lk g)(o:M.iC)(fv:Value)(cu:gP w own B (7,g.os.length) 32 2 fv o.fields.length (o.fields.flatMap bW))
    (g' c':Nat) (ho:w'.ownsRow B 62 3 (.slice (some ⟨g',0,none⟩) (g.os.length+1) c') (g.os.length+1) (g.os.flatMap kE++[.int .i64 o.of.keeper,.string o.of.name,fv])) (hk:Kp (fun b=>g.vh.ownBlock=some b) w w') (hg:g.vh.ownBlock=some g'∨w.heap.size≤g')
    (hG:M.Good p ({g with os:=g.os++[⟨o,fv⟩],vh:=.slice (some ⟨g',0,none⟩) (g.os.length+1) c'}:Gh).st):
    Kp (MO l own) w (w'.setCell ⟨mb,4,none⟩ (.slice (some ⟨g',0,none⟩) (g.os.length+1) c'))∧∃own',gY w.heap.size own own'∧aK (w'.setCell ⟨mb,4,none⟩ (.slice (some ⟨g',0,none⟩) (g.os.length+1) c')) l p own' B mb lk {g with os:=g.os++[⟨o,fv⟩],vh:=.slice (some ⟨g',0,none⟩) (g.os.length+1) c'}:=by
 have qJ:Kp (·=mb) w' (w'.setCell ⟨mb,4,none⟩ (.slice (some ⟨g',0,none⟩) (g.os.length+1) c')):=(Kp.refl (·=mb) w').setCell (p:=⟨mb,4,none⟩) (fun _=>rfl) _;obtain⟨W,hW⟩:∃W,W=w'.setCell ⟨mb,4,none⟩ (.slice (some ⟨g',0,none⟩) (g.os.length+1) c'):=⟨_,rfl⟩;have GV:g.vh.ownBlock≠some mb:=fun e=>by have:=h.heap.role _ e;rw[h.role]at this;cases this
 have hbW:aC W mb 88 (yU l lk {g with os:=g.os++[⟨o,fv⟩],vh:=.slice (some ⟨g',0,none⟩) (g.os.length+1) c'}):=by rw[hW];exact(h.blk.kp hk GV).bI 4 _
 have hgm:g'≠mb:=fun e=>by
  subst e;rcases hg with x|x
  · exact GV x
  · have:=h.blk.lt;omega
 have Yq:W.ownsRow B 62 3 (.slice (some ⟨g',0,none⟩) (g.os.length+1) c') (g.os.length+1) (g.os.flatMap kE++[.int .i64 o.of.keeper,.string o.of.name,fv]):=by
  rw[hW];exact aD ho qJ (fun q hq _ e=>hgm (by cases hq;exact e))
 rw[←hW]at qJ ⊢;clear hW;have jD:Kp (PO own fun q=>q=(0,0)∨q=(2,0)) w W:=(hk.weak fun b _ e=>⟨_,h.heap.role b e,.inr rfl⟩).trans (qJ.weak fun b _ e=>⟨_,by rw[e];exact h.role,.inl rfl⟩);have ha:gY w.heap.size own (own.add g' (2,0)):=Own.xm (by
  rcases hg with x|x
  · exact .inl (h.heap.role _ x)
  · exact .inr (by omega))
 have hd:∀b,own.add g' (2,0) b≠none→B≤b∧b<W.heap.size:=fun b hb=>by
  by_cases e:b=g'
  · subst e;exact Yq.lt b rfl
  · rw[Own.gB _ e]at hb;exact h.zM jD.size b hb
 refine⟨jD.weak fun b _ e=>e.mo,_,ha,h.Ig jD,h.hB,hbW,(ha _ h.blk.lt).trans h.role,h.low,h.calls.vN jD ha (by simp),fun i c hc=>(h.call i c hc).vN jD ha (by simp) h.wQ,⟨?_,fun q hq=>?_⟩,?_,h.outs.vN jD ha (by simp),hd,hG⟩
 · simpa [kE]using Yq
 · cases hq;exact Own.add_eq _ _ _
 · intro j q hq;simp only at hq;rcases Nat.lt_trichotomy j g.os.length with hj|hj|hj
   · rw[List.getElem?_append_left hj]at hq;exact(h.obj j q hq).vN jD ha (by simp)
   · subst hj;simp at hq;subst hq;exact cu.vN jD ha (by simp)
   · rw[List.getElem?_eq_none (by simp;omega)]at hq;cases hq
theorem CG (w : World) (l : aI) (p : M.au) (own : Own) (B mb : Nat) (lk : Bool) (g : Gh) (h : aK w l p own B mb lk g) (r : M.Ref) (hr : M.cZ p r = true) (hlen : g.os.length < 12) :
    Calls Tryz.prog 49 #[.pointer (some ⟨mb,0,none⟩),.agg #[.int .i64 r.keeper,.string r.name]] w (cB w l p own B mb lk (.agg #[.int .i64 2,.int .i64 g.os.length]) (M.create p r g.st).2):=by
 obtain⟨rk,rn⟩:=r;obtain⟨w0,bD⟩:∃w0,w0=((w.alloc (.cells #[.int .i64 rk,.string rn] 40)).alloc (.cells #[.int .i64 0,.int .i64 0] 32)).alloc (.cells #[.int .i64 rk,.string rn,.slice none 0 0] 62):=⟨_,rfl⟩;have aU:Ext w w0:=by rw[bD];exact kx
 have b3:aC w0 w.heap.size 40 #[.int .i64 rk,.string rn]:=by rw[bD];exact(aC.new _ _ _).ext kx
 have b4:aC w0 (w.heap.size+1) 32 #[.int .i64 0,.int .i64 0]:=by rw[bD];exact(aC.newAt (W:=w.alloc (.cells #[.int .i64 rk,.string rn] 40)) (g:=w.heap.size+1) _ _ (by simp)).ext kx
 have b5:aC w0 (w.heap.size+2) 62 #[.int .i64 rk,.string rn,.slice none 0 0]:=by rw[bD];exact aC.newAt _ _ (by simp)
 have Cu:=h.dP.lt;have Mi:=h.dP.IW;have HA:=Ys (h.ext aU);have bJ:=Ys aU;have fM:=Ys b3;have iB:=Ys b4;have iL:=Ys b5;have dQ:=Ys bD;have H:=Ys h;clear h aU b3 b4 b5 bD;go_enter Tryz.func49,Tryz.ntmps49;go_wp2_with fail;rw[←dQ.o];obtain⟨T,f,dB,HT⟩:=iq.ex (fun W'=>LC l p w0 W') _ (LC.refl HA.o.dP);have hDD:¬w.heap.size=l.D:=by omega
 have rm:=fun z=>(HA.o.kg (HT.aJ z).kp (HT.aJ z).at_).blk.c 0 (.pointer (some ⟨l.L,0,none⟩)) rfl;have r30:=fun z=>(fM.o.kp (HT.aJ z).kp hDD).c 0 (.int .i64 rk) rfl;have YF:=fun z=>(fM.o.kp (HT.aJ z).kp hDD).c 1 (.string rn) rfl;have aj:=Ys HT;clear HT;(refine dZ aj 8 [([0,1,2,3,4,7],5)] [6] ?_ ?_)
 · exact(LC.refl HA.o.dP).drew
 (refine di [_,_,_,_,_,_] rfl rfl fun K hK=>?_);(repeat (go_big_quiet_step (fail)));(refine qn hK fun K2 af=>?_);clear hK K;go_wp2_with fail;refine(uq _ _ _ (HA.o.dP.ext (Kp.refl _ _).drew) ⟨rk,rn⟩).mono ?_;rintro e w3 ⟨⟨v,rfl,hs⟩,Hy,nX⟩;obtain⟨fa,aft,rfl,hn,dn⟩:=hs.form;have vQ:Zs (LC l p w0 w3):=Ys ((LC.refl HA.o.dP).drew.step Hy nX);have HS:=Ys hs;clear hs Hy nX;go_wp2_with fail;(refine kk aj af vQ.o ?_);clear af K2;clear aj rm r30 YF;(refine dI [_] rfl rfl fun K hK=>?_);(repeat (go_big_quiet_step (fail)));(refine qn hK ?_);clear hK K;have K7:=vQ.o.kp.size;have EW:w.heap.size+3≤w0.heap.size:=by have:=iL.o.lt;omega
 have Vu:Zs (aC w3 (w.heap.size+2) 62 #[.int .i64 rk,.string rn,.slice none 0 0]):=Ys (iL.o.kp vQ.o.kp (by omega));have HFR:Zs (M.fresh p ⟨rk,rn⟩=⟨⟨rk,rn⟩,(M.layout p ⟨rk,rn⟩).map fun f=>if f.kind.kind=1 then M.gJ 0 else M.lv⟩):=Ys rfl;have aao:(M.layout p ⟨rk,rn⟩).length≤1000:=by
  have h1:=mH H.o.dP.ok (M.chain p ⟨rk,rn⟩).reverse;have h2:=M.rW p ⟨rk,rn⟩;unfold M.layout;rw[if_pos hr];rw[List.length_reverse]at h1;omega
 obtain⟨fs,Wu⟩:∃fs,M.layout p ⟨rk,rn⟩=fs:=⟨_,rfl⟩;rw[Wu]at HS HFR aao;simp only[Wu];clear Wu;go_wp2_with fail;go_loopw [17] (fun i wr=>∃(q:Nat) (fv:Value),q≤fs.length∧i=.int .i64 q∧Kp (·=w.heap.size+2) w3 wr∧aC wr (w.heap.size+2) 62 #[.int .i64 rk,.string rn,fv]∧
     wr.ownsRow w3.heap.size 32 2 fv q (((fs.take q).map fun f=>if f.kind.kind=1 then M.gJ 0 else M.lv).flatMap bW)) (fun i _=>fs.length - (intOf i).toNat)
 case atStart=>exact⟨0,.slice none 0 0,Nat.zero_le _,rfl,Kp.refl _ _,Vu.o,World.ownsRow_nil _ _ _ _⟩
 case round =>
  obtain⟨q,fv,hq,rfl,hK,ED,cu⟩:=hrel;obtain⟨va,vc,rfl⟩:=bV cu;by_cases bZ:q<fs.length
  · obtain⟨⟨⟨xk,xn⟩,xa,kq,kn⟩,hx⟩:=jo fs q bZ;obtain⟨b,off,cs,rfl,J6,rfl, -,jh⟩:=HS.o.get hx;have afu:w0.heap.size≤b:=J6;have Bo:ae wr b (off+q*5) _:=fun j v hj=>hK.iX (jh j v hj) (by omega);have g0:=Bo 0 (.int .i64 xk) rfl;have g1:=Bo 1 (.string xn) rfl;have g2:=Bo 2 (.int .i64 xa) rfl;have g3:=Bo 3 (.int .i64 kq) rfl;have g4:=Bo 4 (.string kn) rfl;rw[Nat.add_zero]at g0;have gz:=aG g0;have Jj:(q:Int)<fs.length:=by omega
    have YB:IntKind.i64.wrap ((q:Int)+1)=q+1:=IntWalk.i64_in _ (by omega);obtain⟨w4,o6⟩:∃w4,w4=wr.alloc (.cells #[.int .i64 xk,.string xn,.int .i64 xa,.int .i64 kq,.string kn] 166):=⟨_,rfl⟩;have dA:Ext wr w4:=by rw[o6];exact kx
    have Mt:¬(Value.slice va q vc).ownBlock=some (w.heap.size+2):=fun e=>by have:=(cu.lt _ e).1;omega
    obtain⟨T,f,dB,HT⟩:=iq.ex (fun W'=>Kp (fun b=>(Value.slice va q vc).ownBlock=some b) w4 W') _ (Kp.refl _ _);have r2:=fun z=>((ED.ext dA).kp (HT.aJ z) Mt).c 2 (.slice va q vc) rfl;have aj:=Ys HT;have zD:=Ys o6;have pq:=Ys (ED.ext dA);have HV5:=Ys Mt;have yI:=Ys (aD (D:=fun _=>False) cu dA fun _ _ _ x=>x);have zk:Zs (Kp (·=w.heap.size+2) w3 w4):=Ys (hK.trans dA.any);have HX:=Ys hx;have agf:w3.heap.size≤w4.heap.size:=zk.o.size;clear HT o6 dA ED Mt cu hK hx jh Bo J6;by_cases tY:kq=1
    · subst tY;go_wp2_with fail;rw[←zD.o];(refine dZ aj 5 [([0,1],2),([],3),([],4)] [] ?_ ?_)
      · exact(Kp.refl _ _).drew
      (refine di [_,_] rfl rfl fun K hK=>?_);(repeat (go_big_quiet_step (fail)));(refine qn hK fun K2 af=>?_);clear hK K;go_wp2_with fail;refine(DL 0 _).mono ?_;rintro e w5 ⟨rfl,dC⟩;have gm:Zs (Ext w4 w5):=Ys (((Kp.refl _ w4).drew:Ext w4 _).trans dC);clear dC;go_wp2_with fail;(refine kk aj af gm.o.any ?_);clear af K2;(refine ic rfl fun K2 af=>?_);go_wp2_with fail;(refine kk aj af (gm.o.alloc _).any ?_);clear af K2;(refine ic rfl fun K2 af=>?_);refine aB qh rfl (.tmp 26) (.tmp 28) rfl w3.heap.size (.slice va q vc) q _ rfl (aD (D:=fun _=>False) yI.o (gm.o.alloc _) fun _ _ _ x=>x) w5.heap.size 1 (bW (M.gJ 0)) rfl rfl (ae.fB _ _ rfl) (uy _) (by omega) (by have:=gm.o.size;simp;omega) ?_;intro g9 c9 w9 qW qw wE;change K2 _ _;have nH:Kp (fun b=>(Value.slice va q vc).ownBlock=some b) w4 w9:=(gm.o.alloc _).any.trans qw;(refine kk aj af nH ?_);clear af K2;have lI:=pq.o.kp nH HV5.o;have x2:=lI.c 2 (.slice va q vc) rfl;have f2:=lI.frozen 2;have hz:=lI.lt;have IG:Zs ((w9.ownsRow w3.heap.size 32 2 (.slice (some ⟨g9,0,none⟩) (q+1) c9) (q+1) (((fs.take (q+1)).map fun f=>if f.kind.kind=1 then M.gJ 0 else M.lv).flatMap bW))∧Kp (·=w.heap.size+2) w3 w9∧aC w9 (w.heap.size+2) 62 #[.int .i64 rk,.string rn,.slice va q vc]∧g9≠w.heap.size+2):=Ys (by
       refine⟨?_,?_,lI,?_⟩
       · rw[List.take_add_one,HX.o];simpa [M.gJ,bW]using qW
       · exact(zk.o.own nH (fun b e=>yI.o.lt b e |>.1))
       · rcases wE with e|e
         · have:=(yI.o.lt g9 e).1;omega
         · have:=gm.o.size;simp at e;omega)
      clear aj r2 lI qW qw wE nH;(refine dW ?_);go_wp2_with fail;have bH:Kp (·=w.heap.size+2) w9 (w9.setCell ⟨w.heap.size+2,2,none⟩ (.slice (some ⟨g9,0,none⟩) (q+1) c9)):=(Kp.refl (·=w.heap.size+2) w9).setCell (p:=⟨w.heap.size+2,2,none⟩) (fun _=>rfl) _;obtain⟨q1,q2,q3,q4⟩:=IG.o;exact⟨⟨q+1,.slice (some ⟨g9,0,none⟩) (q+1) c9,by omega,by go_num,q2.trans bH,q3.bI 2 _,aD q1 bH (fun b hb _ e=>q4 (by cases hb;exact e))⟩,by simp[intOf];omega⟩
    · have acd:(kq==1)=false:=beq_eq_false_iff_ne.2 tY;have HKK:=Ys tY;clear tY;go_wp2_with fail;rw[←zD.o];(refine dZ aj 5 [([0,1],2),([],3),([],4)] [] ?_ ?_)
      · exact(Kp.refl _ _).drew
      (refine di [_,_] rfl rfl fun K hK=>?_);(repeat (go_big_quiet_step (fail)));(refine qn hK fun K2 af=>?_);clear hK K;go_wp2_with fail;refine(Lx _).mono ?_;rintro e w5 ⟨rfl,dC⟩;have gm:Zs (Ext w4 w5):=Ys (((Kp.refl _ w4).drew:Ext w4 _).trans dC);clear dC;go_wp2_with fail;(refine kk aj af gm.o.any ?_);clear af K2;(refine ic rfl fun K2 af=>?_);go_wp2_with fail;(refine kk aj af (gm.o.alloc _).any ?_);clear af K2;(refine ic rfl fun K2 af=>?_);refine aB qh rfl (.tmp 32) (.tmp 34) rfl w3.heap.size (.slice va q vc) q _ rfl (aD (D:=fun _=>False) yI.o (gm.o.alloc _) fun _ _ _ x=>x) w5.heap.size 1 (bW M.lv) rfl rfl (ae.fB _ _ rfl) (uy _) (by omega) (by have:=gm.o.size;simp;omega) ?_;intro g9 c9 w9 qW qw wE;change K2 _ _;have nH:Kp (fun b=>(Value.slice va q vc).ownBlock=some b) w4 w9:=(gm.o.alloc _).any.trans qw;(refine kk aj af nH ?_);clear af K2;have lI:=pq.o.kp nH HV5.o;have x2:=lI.c 2 (.slice va q vc) rfl;have f2:=lI.frozen 2;have hz:=lI.lt;have IG:Zs ((w9.ownsRow w3.heap.size 32 2 (.slice (some ⟨g9,0,none⟩) (q+1) c9) (q+1) (((fs.take (q+1)).map fun f=>if f.kind.kind=1 then M.gJ 0 else M.lv).flatMap bW))∧Kp (·=w.heap.size+2) w3 w9∧aC w9 (w.heap.size+2) 62 #[.int .i64 rk,.string rn,.slice va q vc]∧g9≠w.heap.size+2):=Ys (by
       refine⟨?_,?_,lI,?_⟩
       · rw[List.take_add_one,HX.o];simpa [M.lv,bW,HKK.o]using qW
       · exact(zk.o.own nH (fun b e=>yI.o.lt b e |>.1))
       · rcases wE with e|e
         · have:=(yI.o.lt g9 e).1;omega
         · have:=gm.o.size;simp at e;omega)
      clear aj r2 lI qW qw wE nH;(refine dW ?_);go_wp2_with fail;have bH:Kp (·=w.heap.size+2) w9 (w9.setCell ⟨w.heap.size+2,2,none⟩ (.slice (some ⟨g9,0,none⟩) (q+1) c9)):=(Kp.refl (·=w.heap.size+2) w9).setCell (p:=⟨w.heap.size+2,2,none⟩) (fun _=>rfl) _;obtain⟨q1,q2,q3,q4⟩:=IG.o;exact⟨⟨q+1,.slice (some ⟨g9,0,none⟩) (q+1) c9,by omega,by go_num,q2.trans bH,q3.bI 2 _,aD q1 bH (fun b hb _ e=>q4 (by cases hb;exact e))⟩,by simp[intOf];omega⟩
  · have Jk:q=fs.length:=by omega
    subst Jk;rw[List.take_length]at cu;have hFF:(M.fresh p ⟨rk,rn⟩).fields.length=fs.length∧(M.fresh p ⟨rk,rn⟩).of=⟨rk,rn⟩:=by rw[HFR.o];simp
    have zV:Kp (·=l.D) w wr:=(bJ.o.any.trans vQ.o.kp).own hK (fun b e=>by omega);have hLr:aF wr l p:=vQ.o.at_.kp hK (fun b hb e=>by omega);have hMr:=H.o.kg zV hLr;obtain⟨fQ,yu,OT,TC,mG⟩:∃fQ:Own,(∀b r,own b=some r→fQ b=some r)∧(∀b,fQ b≠none→B≤b∧b<wr.heap.size)∧(∀b,(Value.slice va fs.length vc).ownBlock=some b→fQ b=some (7,g.os.length))∧(∀b,b<w3.heap.size→fQ b=own b):=by
     have hB0:B≤w.heap.size:=by have:=(H.o.dom mb (by rw[H.o.role];simp)).2;have:=H.o.low;omega
     cases e:(Value.slice va fs.length vc).ownBlock with
     |none=>exact⟨own,fun _ _ h=>h,hMr.dom,(fun b hb=>by cases hb),fun _ _=>rfl⟩
     | some qb =>
      have hqb:=cu.lt qb e;have hqn:own qb=none:=by
       cases e2:own qb with
       |none=>rfl
       |some r=>have:=(H.o.dom qb (by rw[e2];simp)).2;omega
      refine⟨own.add qb (7,g.os.length),fun b r hb=>?_,fun b hb=>?_,(fun b hb=>by cases hb;exact Own.add_eq _ _ _),fun b hb=>Own.gB _ (by omega)⟩
      · rw[Own.gB _ (fun e3=>by subst e3;rw[hqn]at hb;cases hb)];exact hb
      · by_cases e3:b=qb
        · subst e3;exact⟨by omega,hqb.2⟩
        · rw[Own.gB _ e3]at hb;exact hMr.dom b hb
    have bT:=hMr.relabel yu OT;have hB0:B≤w3.heap.size:=by have:=(H.o.dom mb (by rw[H.o.role];simp)).2;have:=H.o.low;omega
    have Yv:gP wr fQ B (7,g.os.length) 32 2 (.slice va fs.length vc) (M.fresh p ⟨rk,rn⟩).fields.length ((M.fresh p ⟨rk,rn⟩).fields.flatMap bW):=by
     rw[hFF.1,HFR.o];exact⟨fF cu hB0,TC⟩
    obtain⟨ha,KT,qN⟩:=bT.heap.form;have Di:¬g.vh.ownBlock=some mb:=fun e=>by have:=bT.heap.role _ e;rw[bT.role]at this;cases this
    have Mt:¬g.vh.ownBlock=some (w.heap.size+2):=fun e=>by have:=(H.o.heap.blk e).2;omega
    obtain⟨T,f,dB,HT⟩:=iq.ex (fun W'=>Kp (fun b=>g.vh.ownBlock=some b) wr W') _ (Kp.refl _ _);have rm:=fun z=>(bT.blk.kp (HT.aJ z) Di).c 4 (.slice ha g.os.length KT) (by rw[←qN];rfl);have r50:=fun z=>(ED.kp (HT.aJ z) Mt).c 0 (.int .i64 rk) rfl;have r51:=fun z=>(ED.kp (HT.aJ z) Mt).c 1 (.string rn) rfl;have r52:=fun z=>(ED.kp (HT.aJ z) Mt).c 2 (.slice va fs.length vc) rfl;have aj:=Ys HT;have J3:=Ys bT;have HR1:=Ys Yv;have J4:=Ys mG;have R8:=Ys qN;have XG:=Ys zV;have Kc:Zs (aC wr (w.heap.size+1) 32 #[.int .i64 0,.int .i64 0]):=Ys ((iB.o.kp vQ.o.kp (by omega)).kp hK (by omega));have VK:=Ys Di;have HFF:=Ys hFF;have TQ:=hK.size;clear HT bT Yv mG qN zV hLr hMr yu OT TC hK ED cu Di Mt hFF;go_wp2_with fail;(refine dZ aj 8 [([0,1,2,3,4,5],6),([],7)] [] ?_ ?_)
    · exact(Kp.refl _ _).drew
    (refine di [_,_,_,_,_,_] rfl rfl fun K hK=>?_);(repeat (go_big_quiet_step (fail)));(refine qn hK fun K2 af=>?_);clear hK K;go_wp2_with fail;(refine kk aj af kx ?_);clear af K2;(refine ic rfl fun K2 af=>?_);refine aB KH rfl (.tmp 42) (.tmp 44) rfl B (.slice ha g.os.length KT) g.os.length (g.os.flatMap kE) rfl (by rw[←R8.o];exact aD (D:=fun _=>False) J3.o.heap.row kx fun _ _ _ x=>x) wr.heap.size 1 [.int .i64 rk,.string rn,.slice va fs.length vc] rfl rfl (ae.Qy _ _ rfl) (by simp[Value.oneCell']) (by omega) (by simp;omega) ?_;intro g9 c9 w9 qW qw wE;change K2 _ _;rw[←R8.o]at qw wE;have nH:Kp (fun b=>g.vh.ownBlock=some b) wr w9:=(kx:Ext wr _).any.trans qw;(refine kk aj af nH ?_);clear af K2;have GV:=J3.o.blk.kp nH VK.o;have x4:=GV.c 4 (.slice ha g.os.length KT) (by rw[←R8.o];rfl);have f4:=GV.frozen 4;have hz:=GV.lt;have hs:({g with os:=g.os++[⟨M.fresh p ⟨rk,rn⟩,.slice va fs.length vc⟩],vh:=.slice (some ⟨g9,0,none⟩) (g.os.length+1) c9}:Gh).st=(M.create p ⟨rk,rn⟩ g.st).2:=by simp[Gh.st,M.create]
    obtain⟨Nb,own',EH,PQ⟩:=J3.o.ZF (M.fresh p ⟨rk,rn⟩) (.slice va fs.length vc) HR1.o g9 c9 (by rw[HFF.o.2];exact qW) nH (by
     rcases wE with e|e
     · exact .inl e
     · right;simp at e;omega) (by rw[hs];exact H.o.good.grow hr (by simpa [Gh.st]using hlen))
    have P5:own' (w.heap.size+1)=none:=by
     rw[EH _ (by omega),J4.o _ (by omega)];cases e:own (w.heap.size+1)with
     |none=>rfl
     |some r=>have:=(H.o.dom _ (by rw[e];simp)).2;omega
    obtain⟨W,hW⟩:∃W,W=w9.setCell ⟨mb,4,none⟩ (.slice (some ⟨g9,0,none⟩) (g.os.length+1) c9):=⟨_,rfl⟩;rw[←hW]at Nb PQ;have y4:=PQ.blk.c 4 (.slice (some ⟨g9,0,none⟩) (g.os.length+1) c9) rfl;have HW:=Ys hW;have HKM:=Ys Nb;have AQ:=Ys PQ;have HAG:=Ys EH;have HN4:=Ys P5;have WC:fQ (w.heap.size+1)=none:=by
     rw[J4.o _ (by omega)];cases e:own (w.heap.size+1)with
     |none=>rfl
     |some r=>have:=(H.o.dom _ (by rw[e];simp)).2;omega
    have abC:=Kc.o.kp Nb (fun e=>by
     rcases e with e|e
     · omega
     · exact e WC)
    have PK:=Kc.o.kp nH (fun e=>by have:=(H.o.heap.blk e).2;omega);have z0:=PK.c 0 (.int .i64 0) rfl;have z1:=PK.c 1 (.int .i64 0) rfl;have Ph:=PK.frozen 0;have Pj:=PK.frozen 1;have zz:=PK.lt;have hmw:=H.o.blk.lt;have aeI:¬mb=w.heap.size+1:=by omega
    have aeJ:¬w.heap.size+1=mb:=by omega
    have ac8:=Ys abC;have HS:=Ys hs;have sF:IntKind.i64.wrap ((g.os.length:Int)+1 - 1)=g.os.length:=by rw[IntWalk.i64_in _ (by omega)];omega
    clear Nb PQ EH P5 WC abC PK y4 qW qw wE nH GV aj rm r50 r51 r52 hs hW;(refine dW ?_);go_wp2_with fail;rw[←HW.o];have bH:Kp (·=w.heap.size+1) W ((W.setCell ⟨w.heap.size+1,0,none⟩ (.int .i64 2)).setCell ⟨w.heap.size+1,1,none⟩ (.int .i64 g.os.length)):=((Kp.refl (·=w.heap.size+1) W).setCell (p:=⟨w.heap.size+1,0,none⟩) (fun _=>rfl) _).setCell (p:=⟨w.heap.size+1,1,none⟩) (fun _=>rfl) _;refine bodyPost_ret (aT zH rfl _ _ (w.heap.size+1) rfl [.int .i64 2,.int .i64 g.os.length] (ae.gX (ac8.o.set2 _ _)) rfl) rfl ?_;have Vf:=AQ.o.dP.kp bH (fun b hb e=>by omega);have zZ:=AQ.o.keep bH (gY.refl _ _) (AQ.o.zM bH.size) Vf (fun b hb e=>by subst e;exact hb HN4.o) (fun b hb e=>by have:=AQ.o.dP.ord;omega);refine cB.mk' ?_ (fun b hb=>?_) zZ HS.o
    · refine Kp.own (D':=(·=w.heap.size+1)) ?_ bH (fun b e=>by omega);exact(XG.o.weak fun b _ e=>.inl e).mo (HKM.o) (fun b hb=>J4.o b (by omega))
    · rw[HAG.o b (by omega),J4.o b (by omega)]
end Go.Proofs.YtcepdbbapgfcdaaGreat
namespace Go.Proofs.YtcepdbbapgfcdaaGreat
open Go Go.RowKit
section
variable {w w':World} {l:aI} {p:M.au} {own:Own} {B mb:Nat} {lk:Bool} {g:Gh} {r:List GC} {c:GC}
theorem aK.fresh(h:aK w l p own B mb lk g){b:Nat}(hb:w.heap.size≤b):¬MO l own b:=by
 rintro(e|e)
 · have:=h.dP.IW;omega
 · have:=(h.dom b e).2;omega
def Gh.dG(g:Gh)(r:List GC)(c:GC)(st:List M.Val)(vs:Value):Gh:={g with cs:=r++[{c with f:={c.f with stack:=st},vs:=vs}]}
theorem Gh.aaD(st:List M.Val)(vs:Value):(g.dG r c st vs).st={g.st with frames:=r.map GC.f++[{c.f with stack:=st}]}:=by simp[Gh.dG,Gh.st]
theorem Gh.dE(bO:g.cs=r++[c]){n:Nat}{st vs:List M.Val}(bH:c.f.stack=st++vs)(hn:vs.length=n)(vs':Value):M.dE n g.st=some (vs,(g.dG r c st vs').st):=by
 unfold M.dE;have e1:c.f.stack.length - n=st.length:=by rw[bH];simp;omega
 rw[Gh.top bO,M.dY (Gh.fr bO),if_neg (by rw[bH];simp;omega),e1,Gh.aaD,bH];simp
theorem Gh.xI(bO:g.cs=r++[c]){n:Nat}(hn:c.f.stack.length<n):M.dE n g.st=none:=by
 unfold M.dE;rw[Gh.top bO,if_pos hn]
theorem Gh.pop(bO:g.cs=r++[c]){st:List M.Val}{v:M.Val}(bH:c.f.stack=st++[v])(vs':Value):M.pop g.st=some (v,(g.dG r c st vs').st):=by
 unfold M.pop;rw[Gh.dE bO (n:=1) bH rfl vs'];rfl
theorem Gh.yZ(bO:g.cs=r++[c])(bH:c.f.stack=[]):M.pop g.st=none:=by
 unfold M.pop;rw[Gh.xI bO (by rw[bH];simp)];rfl
theorem aK.popped(h:aK w l p own B mb lk g)(bO:g.cs=r++[c]){a:Option Addr}{n k:Nat}{st:List M.Val}(hv:c.vs=.slice a (st.length+n) k)(bH:∃vs,c.f.stack=st++vs∧vs.length=n)(hn:0<n)(hb:aC w' c.cb 128 ((Eo p c).setIfInBounds 13 (.slice a st.length k)))(hk:Kp (·=c.cb) w w'):
    Kp (MO l own) w w'∧aK w' l p own B mb lk (g.dG r c st (.slice a st.length k)):=by
 obtain⟨vs,bH,hn'⟩:=bH;have hc:=h.at_ bO;have hlen:c.f.stack.length=st.length+n:=by rw[bH];simp[hn']
 have cu:=hc.dG.row;rw[hv,hlen]at cu;obtain⟨q,kq,e, -⟩:=cO cu (by omega);cases e;have sw:=BJ cu (j:=st.length) (by omega);rw[bH,Bg (enc:=bW) (k:=2) (fun _=>rfl)]at sw;have ab1:c.vs.ownBlock≠some c.cb:=fun e=>by have:=hc.dG.role _ e;rw[hc.role]at this;cases this
 have kQ:=M.aP.1 (h.GL bO);obtain⟨h1,own',h2,h3⟩:=h.setStack bO st (.slice (some ⟨q,0,none⟩) st.length k) hb (aD sw hk (fun g hg _ e=>ab1 (by rw[hv];subst e;exact hg))) (fun x hx=>.inl (by rw[hv];exact hx)) (hk.weak fun b _ e=>.inl e) (by
  rw[show({g with cs:=r++[{c with f:={c.f with stack:=st},vs:=.slice (some ⟨q,0,none⟩) st.length k}]}:Gh).st={g.st with frames:=r.map GC.f++[{c.f with stack:=st}]}from by simp[Gh.st]];refine h.good.turn (Gh.fr bO) (M.aP.2 ⟨kQ.1,kQ.2.1,kQ.2.2.1,kQ.2.2.2.1,?_,kQ.2.2.2.2.2.1,fun u hu=>kQ.2.2.2.2.2.2 u (by rw[bH];simp[hu])⟩);have:=kQ.2.2.2.2.1;simp only;omega)
 refine⟨h1,?_⟩;have jD:Kp (PO own (·=(4,r.length))) w w':=hk.weak fun b _ e=>⟨_,by rw[e];exact hc.role,rfl⟩;have ha:=gY.refl w.heap.size own;refine h.JO bO rfl (jD.weak fun b _ ⟨q,e1,e2⟩=>⟨q,e1,.inl e2⟩) ha (h.zM hk.size) ⟨hb,hc.role,hc.low,bQ.kp aH.stays jD (fun b hb=>h.wQ b hb) hc.ml,hc.loc.vN jD ha (by simp),⟨?_,fun x hx=>hc.dG.role x (by rw[hv];exact hx)⟩⟩ h3.good;exact aD sw hk (fun g hg _ e=>ab1 (by rw[hv];subst e;exact hg))
end
theorem sM(w:World)(l:aI)(p:M.au)(own:Own)(B mb:Nat)(lk:Bool)(g:Gh)(h:aK w l p own B mb lk g)(r:List GC)(c:GC)(bO:g.cs=r++[c])(st:List M.Val)(v:M.Val)(bH:c.f.stack=st++[v]):
    Calls Tryz.prog 96 #[.pointer (some ⟨c.cb,13,none⟩)] w fun e w'=>e=.returned (.tuple #[.agg #[.int .i64 v.kind,.int .i64 v.n],.bool true])∧Kp (MO l own) w w'∧∃vs',aK w' l p own B mb lk (g.dG r c st vs'):=by
 have hc:=h.at_ bO;have kQ:=M.aP.1 (h.GL bO);have Rp:=(h.mi bO).stack;have uQ:=kQ.2.2.2.2.1;have hlen:c.f.stack.length=st.length+1:=by rw[bH];simp
 refine(UC w c.cb 13 B _ _ c.vs st.length st v hc.blk rfl (by rw[←bH,←hlen];exact hc.dG.row) rfl (by omega) (fun e=>by have:=hc.dG.role _ e;rw[hc.role]at this;cases this)).mono ?_;rintro e w' ⟨rfl,⟨a,k,hv,hb⟩,hK⟩;obtain⟨h1,h2⟩:=h.popped bO hv ⟨[v],bH,rfl⟩ (by omega) hb hK;exact⟨rfl,h1,_,h2⟩
theorem lY(w:World)(l:aI)(p:M.au)(own:Own)(B mb:Nat)(lk:Bool)(g:Gh)(h:aK w l p own B mb lk g)(r:List GC)(c:GC)(bO:g.cs=r++[c])(bH:c.f.stack=[]):
    Calls Tryz.prog 96 #[.pointer (some ⟨c.cb,13,none⟩)] w fun e w'=>e=.returned (.tuple #[.agg #[.int .i64 0,.int .i64 0],.bool false])∧Ext w w':=by
 have hc:=h.at_ bO;obtain⟨a,k,e⟩:=hc.dG.form;rw[bH]at e;exact UB w c.cb 13 _ _ c.vs hc.blk rfl ⟨a,k,e⟩
theorem CJ(w:World)(l:aI)(p:M.au)(own:Own)(B mb:Nat)(lk:Bool)(g:Gh)(h:aK w l p own B mb lk g)(r:List GC)(c:GC)(bO:g.cs=r++[c])(st vs:List M.Val)(n:Nat)(bH:c.f.stack=st++vs)(hn:vs.length=n)(H9:0<n):
    Calls Tryz.prog 98 #[.pointer (some ⟨c.cb,13,none⟩),.int .i64 n] w fun e w'=>∃v',e=.returned (.tuple #[v',.bool true])∧w'.ownsRow w.heap.size 32 2 v' n (vs.flatMap bW)∧Kp (MO l own) w w'∧∃vs',aK w' l p own B mb lk (g.dG r c st vs'):=by
 have hc:=h.at_ bO;have kQ:=M.aP.1 (h.GL bO);have Rp:=(h.mi bO).stack;have uQ:=kQ.2.2.2.2.1;have hlen:c.f.stack.length=st.length+n:=by rw[bH];simp[hn]
 refine(dN w c.cb 13 B _ _ c.vs c.f.stack.length c.f.stack hc.blk rfl hc.dG.row rfl n (by omega) H9 (by omega) (fun e=>by have:=hc.dG.role _ e;rw[hc.role]at this;cases this)).mono ?_;rintro e w' ⟨v',rfl,cu,⟨a,k,hv,hb⟩,hK⟩;rw[hlen]at hv;rw[hlen,Nat.add_sub_cancel]at hb;have e1:c.f.stack.drop (c.f.stack.length - n)=vs:=by rw[hlen,Nat.add_sub_cancel,bH,List.drop_left]
 rw[e1]at cu;obtain⟨h1,h2⟩:=h.popped bO hv ⟨vs,bH,hn⟩ H9 hb hK;exact⟨v',rfl,cu,h1,_,h2⟩
theorem qD(w:World)(l:aI)(p:M.au)(own:Own)(B mb:Nat)(lk:Bool)(g:Gh)(h:aK w l p own B mb lk g)(r:List GC)(c:GC)(bO:g.cs=r++[c])(n:Nat)(hn:c.f.stack.length<n)(xR:n≤1000):
    Calls Tryz.prog 98 #[.pointer (some ⟨c.cb,13,none⟩),.int .i64 n] w fun e w'=>e=.returned (.tuple #[.slice none 0 0,.bool false])∧w=w':=by
 have hc:=h.at_ bO;exact CQ w c.cb 13 _ _ c.vs _ hc.blk rfl hc.dG.form n hn xR
theorem ZU(w:World)(l:aI)(p:M.au)(own:Own)(B mb:Nat)(lk:Bool)(g:Gh)(h:aK w l p own B mb lk g)(r:List GC)(c:GC)(bO:g.cs=r++[c])(bH:g.status=1)(i:M.Ins)(hi:M.jC (M.method p c.f.of) i=true)(fC:i.op=1):
    Calls Tryz.prog 57 #[.pointer (some ⟨mb,0,none⟩),.agg #[.int .i64 i.op,.int .i64 i.a,.string i.name,.string i.member]] w (cB w l p own B mb lk (.int .i64 (M.aM p lk i g.st).1) (M.aM p lk i g.st).2):=by
 have HV:Zs (M.aM p lk i g.st=M.push p (M.gJ i.a) g.st):=Ys (by unfold M.aM;rw[if_pos fC]);have hna:=(M.ku hi).2.2.2.1 fC;have H:=Ys h;have fw:=Ys bO;clear h bO fC;go_enter Tryz.func57,Tryz.ntmps57;go_wp2_with fail;refine(DL i.a _).mono ?_;rintro e w1 ⟨rfl,bA⟩;have fe:Zs (Ext w w1):=Ys ((kx:Ext w _).trans bA);clear bA;go_wp2_with fail;refine(mI _ _ _ _ _ _ _ _ (H.o.ext fe.o) r c fw.o bH (M.gJ i.a) (M.gV _ hna)).mono ?_;rintro e w2 aV;have HZ:=Ys (cB.behind fe.o aV);obtain⟨rfl, -⟩:=aV;rw[←HV.o]at HZ ⊢;go_wp2_with fail;go_ret;exact HZ.o
theorem VY(w:World)(l:aI)(p:M.au)(own:Own)(B mb:Nat)(lk:Bool)(g:Gh)(h:aK w l p own B mb lk g)(r:List GC)(c:GC)(bO:g.cs=r++[c])(bH:g.status=1)(i:M.Ins)(fC:i.op=5):
    Calls Tryz.prog 61 #[.pointer (some ⟨mb,0,none⟩),.agg #[.int .i64 i.op,.int .i64 i.a,.string i.name,.string i.member]] w (cB w l p own B mb lk (.int .i64 (M.aM p lk i g.st).1) (M.aM p lk i g.st).2):=by
 have HV:Zs (M.aM p lk i g.st=M.push p M.lv g.st):=Ys (by unfold M.aM;rw[fC];rfl);have H:=Ys h;have fw:=Ys bO;clear h bO fC;go_enter Tryz.func61,Tryz.ntmps61;go_wp2_with fail;refine(Lx _).mono ?_;rintro e w1 ⟨rfl,bA⟩;have fe:Zs (Ext w w1):=Ys ((kx:Ext w _).trans bA);clear bA;go_wp2_with fail;refine(mI _ _ _ _ _ _ _ _ (H.o.ext fe.o) r c fw.o bH M.lv (M.zg _)).mono ?_;rintro e w2 aV;have HZ:=Ys (cB.behind fe.o aV);obtain⟨rfl, -⟩:=aV;rw[←HV.o]at HZ ⊢;go_wp2_with fail;go_ret;exact HZ.o
theorem abx(w:World)(l:aI)(p:M.au)(own:Own)(B mb:Nat)(lk:Bool)(g:Gh)(h:aK w l p own B mb lk g)(r:List GC)(c:GC)(bO:g.cs=r++[c])(bH:g.status=1)(i:M.Ins)(hi:M.jC (M.method p c.f.of) i=true)(fC:i.op=13):
    Calls Tryz.prog 69 #[.pointer (some ⟨mb,0,none⟩),.agg #[.int .i64 i.op,.int .i64 i.a,.string i.name,.string i.member]] w (cB w l p own B mb lk (.int .i64 (M.aM p lk i g.st).1) (M.aM p lk i g.st).2):=by
 have HV:Zs (M.aM p lk i g.st=M.jump p i.a g.st):=Ys (by unfold M.aM;rw[fC];rfl);have ha:=((M.ku hi).2.2.1 (.inr (.inr fC))).1;have hE:Ext w (w.alloc (.cells #[.int .i64 i.op,.int .i64 i.a,.string i.name,.string i.member] 47)):=kx;have HE:=Ys hE;have H:=Ys h;have fw:=Ys bO;clear h bO fC hE;go_enter Tryz.func69,Tryz.ntmps69;go_wp2_with fail;refine(BD _ _ _ _ _ _ _ _ (H.o.ext HE.o) r c fw.o bH i.a ha).mono ?_;rintro e w2 aV;have HZ:=Ys (cB.behind HE.o aV);obtain⟨rfl, -⟩:=aV;rw[←HV.o]at HZ ⊢;go_wp2_with fail;go_ret;exact HZ.o
end Go.Proofs.YtcepdbbapgfcdaaGreat
namespace Go.Proofs.YtcepdbbapgfcdaaGreat
open Go Go.RowKit
theorem V3(w:World)(l:aI)(p:M.au)(own:Own)(B mb:Nat)(lk:Bool)(g:Gh)(h:aK w l p own B mb lk g)(r:List GC)(c:GC)(bO:g.cs=r++[c])(bH:g.status=1)(i:M.Ins)(hi:M.jC (M.method p c.f.of) i=true)(fC:i.op=11):
    Calls Tryz.prog 67 #[.pointer (some ⟨mb,0,none⟩),.agg #[.int .i64 i.op,.int .i64 i.a,.string i.name,.string i.member]] w (cB w l p own B mb lk (.int .i64 (M.aM p lk i g.st).1) (M.aM p lk i g.st).2):=by
 have HI:=Ys (M.ku hi);obtain⟨w0,bD,aU,b3⟩:=nu w #[.int .i64 i.op,.int .i64 i.a,.string i.name,.string i.member] 47;have Cf:=Ys (h.fresh (Nat.le_refl _));have HA:=Ys (h.ext aU);have bJ:=Ys aU;have fM:=Ys b3;have dQ:=Ys bD;have fw:=Ys bO;have EW:=b3.lt;clear h aU b3 bD bO hi;rcases List.eq_nil_or_concat c.f.stack with hs|⟨st,v,hs⟩
 · have HV:Zs (M.aM p lk i g.st=(10,g.st)):=Ys (by unfold M.aM;rw[fC];simp only[Gh.yZ fw.o hs];rfl);have HS:=Ys hs;clear hs fC;go_enter Tryz.func67,Tryz.ntmps67;go_wp2_with fail;rw[←dQ.o];refine(eG _ _ _ _ _ _ _ _ HA.o r c fw.o).mono ?_;rintro e w1 ⟨rfl,bA⟩;have kG:=Ys (HA.o.ext bA);have fe:Zs (Ext w w1):=Ys (bJ.o.trans bA);clear bA;go_wp2_with fail;refine(lY _ _ _ _ _ _ _ _ kG.o r c fw.o HS.o).mono ?_;rintro e w2 ⟨rfl,bP⟩;have AP:=Ys (kG.o.ext bP);have fD:Zs (Ext w w2):=Ys (fe.o.trans bP);clear bP;go_wp2_with fail;go_ret;rw[HV.o];exact cB.mk' (fD.o.alloc _).any (gY.refl _ _) (AP.o.ext kx) rfl
 · rw[List.concat_eq_append]at hs;have wF:=(M.aP.1 (HA.o.GL fw.o)).2.2.2.2.2.2 v (by rw[hs];simp);have II:Zs (M.bE v g.os.length=true):=Ys (by simpa [Gh.st]using wF);have HV:Zs (∀vs',M.aM p lk i g.st=if v.kind=1 then(if v.n=0 then M.jump p i.a (g.dG r c st vs').st else M.next p (g.dG r c st vs').st)else(10,(g.dG r c st vs').st)):=Ys (fun vs'=>by unfold M.aM;rw[fC];simp only[Gh.pop fw.o hs vs'];rfl);have HS:=Ys hs;have Ot:=Ys fC;clear hs fC wF;obtain⟨vk,vn⟩:=v;simp only at HV;go_enter Tryz.func67,Tryz.ntmps67;go_wp2_with fail;rw[←dQ.o];refine(eG _ _ _ _ _ _ _ _ HA.o r c fw.o).mono ?_;rintro e w1 ⟨rfl,bA⟩;have kG:=Ys (HA.o.ext bA);have fe:=Ys bA;clear bA;go_wp2_with fail;refine(sM _ _ _ _ _ _ _ _ kG.o r c fw.o st ⟨vk,vn⟩ HS.o).mono ?_;rintro e w2 ⟨rfl,af,vs',vL⟩;replace HV:=Ys (HV.o vs');obtain⟨w3,jw,dm,b5⟩:=nu w2 #[.int .i64 vk,.int .i64 vn] 32;have qL:=Ys (vL.ext dm);have lN:Zs (Kp (MO l own) w w3):=Ys (((bJ.o.trans fe.o).any.trans af).trans dm.any);have oL:=(fM.o.ext fe.o).kp af Cf.o;have y1:=oL.c 1 (.int .i64 i.a) rfl;have yz:=oL.lt;have mq:=Ys jw;have iL:=Ys b5;have R3:=Ys (vL.fresh (Nat.le_refl _));clear dm b5 af vL oL jw;by_cases hk:vk=1
   · subst hk;by_cases hn:vn=0
     · subst hn;replace HV:=Ys (HV.o.trans (if_pos rfl));replace HV:=Ys (HV.o.trans (if_pos rfl));go_wp2_with fail;rw[←mq.o];refine(BD _ _ _ _ _ _ _ _ qL.o r _ rfl bH i.a (HI.o.2.2.1 (.inl Ot.o)).1).mono ?_;rintro e w4 aV;have HZ:=Ys (cB.after lN.o (gY.refl _ _) aV);obtain⟨rfl, -⟩:=aV;rw[←HV.o]at HZ ⊢;go_wp2_with fail;go_ret;exact HZ.o
     · have hn':(vn==0)=false:=beq_eq_false_iff_ne.2 hn;replace HV:=Ys (HV.o.trans (if_pos rfl));replace HV:=Ys (HV.o.trans (if_neg hn));clear hn;go_wp2_with fail;rw[←mq.o];refine(p8 _ _ _ _ _ _ _ _ qL.o r _ rfl bH).mono ?_;rintro e w4 aV;have HZ:=Ys (cB.after lN.o (gY.refl _ _) aV);obtain⟨rfl, -⟩:=aV;rw[←HV.o]at HZ ⊢;go_wp2_with fail;go_ret;exact HZ.o
   · have Jh:(vk !=1)=true:=bne_iff_ne.2 hk;replace HV:=Ys (HV.o.trans (if_neg hk));clear hk;go_wp2_with fail;go_ret;rw[HV.o,←mq.o];exact cB.mk' lN.o (gY.refl _ _) qL.o rfl
theorem aK.ZG{w w':World}{l:aI}{p:M.au}{own:Own}{B mb:Nat}{lk:Bool}{g:Gh}(h:aK w l p own B mb lk g)(n:Int)
    (g' c':Nat) (ho:w'.ownsRow B 3 1 (.slice (some ⟨g',0,none⟩) (g.outs.length+1) c') (g.outs.length+1) (g.outs.flatMap sJ++[.int .i64 n])) (hk:Kp (fun b=>g.vo.ownBlock=some b) w w') (hg:g.vo.ownBlock=some g'∨w.heap.size≤g')
    (hG:M.Good p ({g with outs:=g.outs++[n],vo:=.slice (some ⟨g',0,none⟩) (g.outs.length+1) c'}:Gh).st):
    Kp (MO l own) w (w'.setCell ⟨mb,5,none⟩ (.slice (some ⟨g',0,none⟩) (g.outs.length+1) c'))∧∃own',gY w.heap.size own own'∧aK (w'.setCell ⟨mb,5,none⟩ (.slice (some ⟨g',0,none⟩) (g.outs.length+1) c')) l p own' B mb lk {g with outs:=g.outs++[n],vo:=.slice (some ⟨g',0,none⟩) (g.outs.length+1) c'}:=by
 have qJ:Kp (·=mb) w' (w'.setCell ⟨mb,5,none⟩ (.slice (some ⟨g',0,none⟩) (g.outs.length+1) c')):=(Kp.refl (·=mb) w').setCell (p:=⟨mb,5,none⟩) (fun _=>rfl) _;obtain⟨W,hW⟩:∃W,W=w'.setCell ⟨mb,5,none⟩ (.slice (some ⟨g',0,none⟩) (g.outs.length+1) c'):=⟨_,rfl⟩;have GV:g.vo.ownBlock≠some mb:=fun e=>by have:=h.outs.role _ e;rw[h.role]at this;cases this
 have hbW:aC W mb 88 (yU l lk {g with outs:=g.outs++[n],vo:=.slice (some ⟨g',0,none⟩) (g.outs.length+1) c'}):=by rw[hW];exact(h.blk.kp hk GV).bI 5 _
 have hgm:g'≠mb:=fun e=>by
  subst e;rcases hg with x|x
  · exact GV x
  · have:=h.blk.lt;omega
 have Yq:W.ownsRow B 3 1 (.slice (some ⟨g',0,none⟩) (g.outs.length+1) c') (g.outs.length+1) (g.outs.flatMap sJ++[.int .i64 n]):=by
  rw[hW];exact aD ho qJ (fun q hq _ e=>hgm (by cases hq;exact e))
 rw[←hW]at qJ ⊢;clear hW;have jD:Kp (PO own fun q=>q=(0,0)∨q=(3,0)) w W:=(hk.weak fun b _ e=>⟨_,h.outs.role b e,.inr rfl⟩).trans (qJ.weak fun b _ e=>⟨_,by rw[e];exact h.role,.inl rfl⟩);have ha:gY w.heap.size own (own.add g' (3,0)):=Own.xm (by
  rcases hg with x|x
  · exact .inl (h.outs.role _ x)
  · exact .inr (by omega))
 have hd:∀b,own.add g' (3,0) b≠none→B≤b∧b<W.heap.size:=fun b hb=>by
  by_cases e:b=g'
  · subst e;exact Yq.lt b rfl
  · rw[Own.gB _ e]at hb;exact h.zM jD.size b hb
 refine⟨jD.weak fun b _ e=>e.mo,_,ha,h.Ig jD,h.hB,hbW,(ha _ h.blk.lt).trans h.role,h.low,h.calls.vN jD ha (by simp),fun i c hc=>(h.call i c hc).vN jD ha (by simp) h.wQ,h.heap.vN jD ha (by simp),fun j o ho=>(h.obj j o ho).vN jD ha (by simp),⟨?_,fun q hq=>?_⟩,hd,hG⟩
 · simpa [sJ]using Yq
 · cases hq;exact Own.add_eq _ _ _
theorem ZV (w : World) (l : aI) (p : M.au) (own : Own) (B mb : Nat) (lk : Bool) (g : Gh) (h : aK w l p own B mb lk g) (r : List GC) (c : GC) (bO : g.cs = r ++ [c]) (bH : g.status = 1) (i : M.Ins) (hi : M.jC (M.method p c.f.of) i = true) (fC : i.op = 14) :
    Calls Tryz.prog 70 #[.pointer (some ⟨mb,0,none⟩),.agg #[.int .i64 i.op,.int .i64 i.a,.string i.name,.string i.member]] w (cB w l p own B mb lk (.int .i64 (M.aM p lk i g.st).1) (M.aM p lk i g.st).2):=by
 have HI:=Ys (M.ku hi);obtain⟨w0,bD,aU,b3⟩:=nu w #[.int .i64 i.op,.int .i64 i.a,.string i.name,.string i.member] 47;have Cf:=Ys (h.fresh (Nat.le_refl _));have HA:=Ys (h.ext aU);have bJ:=Ys aU;have fM:=Ys b3;have dQ:=Ys bD;have fw:=Ys bO;have EW:=b3.lt;clear h aU b3 bD bO hi;rcases List.eq_nil_or_concat c.f.stack with hs|⟨st,v,hs⟩
 · have HV:Zs (M.aM p lk i g.st=(10,g.st)):=Ys (by unfold M.aM;rw[fC];simp only[Gh.yZ fw.o hs];rfl);have HS:=Ys hs;clear hs fC;go_enter Tryz.func70,Tryz.ntmps70;go_wp2_with fail;rw[←dQ.o];refine(eG _ _ _ _ _ _ _ _ HA.o r c fw.o).mono ?_;rintro e w1 ⟨rfl,bA⟩;have kG:=Ys (HA.o.ext bA);have fe:Zs (Ext w w1):=Ys (bJ.o.trans bA);clear bA;go_wp2_with fail;refine(lY _ _ _ _ _ _ _ _ kG.o r c fw.o HS.o).mono ?_;rintro e w2 ⟨rfl,bP⟩;have AP:=Ys (kG.o.ext bP);have fD:Zs (Ext w w2):=Ys (fe.o.trans bP);clear bP;go_wp2_with fail;go_ret;rw[HV.o];exact cB.mk' (fD.o.alloc _).any (gY.refl _ _) (AP.o.ext kx) rfl
 · rw [List.concat_eq_append] at hs; have wF := (M.aP.1 (HA.o.GL fw.o)).2.2.2.2.2.2 v (by rw [hs]; simp); have II : Zs (M.bE v g.os.length = true) := Ys (by simpa [Gh.st] using wF); have HV : Zs (∀ vs', M.aM p lk i g.st = if v.kind = 1 then M.next p (if (g.dG r c st vs').st.outs.length < 40 then { (g.dG r c st vs').st with outs := (g.dG r c st vs').st.outs ++ [v.n] } else (g.dG r c st vs').st) else (10, (g.dG r c st vs').st)) := Ys (fun vs' => by unfold M.aM; rw [fC]; simp only [Gh.pop fw.o hs vs']; rfl); have HS := Ys hs; have Ot := Ys fC; clear hs fC wF; obtain ⟨vk, vn⟩ := v; simp only at HV; go_enter Tryz.func70, Tryz.ntmps70; go_wp2_with fail; rw [← dQ.o]; refine (eG _ _ _ _ _ _ _ _ HA.o r c fw.o).mono ?_; rintro e w1 ⟨rfl, bA⟩; have kG := Ys (HA.o.ext bA); have fe := Ys bA; clear bA; go_wp2_with fail; refine (sM _ _ _ _ _ _ _ _ kG.o r c fw.o st ⟨vk, vn⟩ HS.o).mono ?_; rintro e w2 ⟨rfl, af, vs', vL⟩; replace HV := Ys (HV.o vs'); obtain ⟨w3, jw, dm, b5⟩ := nu w2 #[.int .i64 vk, .int .i64 vn] 32; have qL := Ys (vL.ext dm); have lN : Zs (Kp (MO l own) w w3) := Ys (((bJ.o.trans fe.o).any.trans af).trans dm.any); have oL := (fM.o.ext fe.o).kp af Cf.o; have y1 := oL.c 1 (.int .i64 i.a) rfl; have yz := oL.lt; have mq := Ys jw; have iL := Ys b5; have R3 := Ys (vL.fresh (Nat.le_refl _)); obtain ⟨oa, oc, pY⟩ := vL.outs.form; have m5 := vL.blk.c 5 (.slice oa g.outs.length oc) (by rw [show (Value.slice oa g.outs.length oc) = g.vo from pY.symm]; rfl); have mz := vL.blk.lt; have Pt : Zs (g.vo = .slice oa g.outs.length oc) := Ys pY; clear dm b5 af vL oL jw pY; by_cases hk : vk = 1
   · subst hk;replace HV:=Ys (HV.o.trans (if_pos rfl));have hna:=M.xL II.o rfl;simp only at hna;by_cases hl:g.outs.length<40
     · have Tt:(g.outs.length:Int)<40:=by omega
       replace HV:Zs (M.aM p lk i g.st=M.next p {(g.dG r c st vs').st with outs:=(g.dG r c st vs').st.outs++[vn]}):=Ys (HV.o.trans (by rw[if_pos (show(g.dG r c st vs').st.outs.length<40 from hl)]));have Di:¬g.vo.ownBlock=some mb:=fun e=>by have:=qL.o.outs.role _ e;rw[qL.o.role]at this;cases this
       have Mt:¬g.vo.ownBlock=some w2.heap.size:=fun e=>R3.o (.inr (by rw[qL.o.outs.role _ e];simp));obtain⟨T,f,dB,HT⟩:=iq.ex (fun W'=>Kp (fun b=>g.vo.ownBlock=some b) w3 W') _ (Kp.refl _ _);have rm:=fun z=>(qL.o.blk.kp (HT.aJ z) Di).c 5 (.slice oa g.outs.length oc) (by rw[←Pt.o];rfl);have r51:=fun z=>(iL.o.kp (HT.aJ z) Mt).c 1 (.int .i64 vn) rfl;have aj:=Ys HT;have VK:=Ys Di;have hmB:=qL.o.low;have hmz:=qL.o.blk.lt;clear HT Di Mt hl;go_wp2_with fail;rw[←mq.o];(refine dZ aj 9 [([0,1,2,3,4,5,6],7),([],8)] [] ?_ ?_)
       · exact(Kp.refl _ _).drew
       (refine di [_,_,_,_,_,_,_] rfl rfl fun K hK=>?_);(repeat (go_big_quiet_step (fail)));(refine qn hK fun K2 af=>?_);clear hK K;go_wp2_with fail;(refine kk aj af kx ?_);clear af K2;(refine ic rfl fun K2 af=>?_);refine aB Et rfl (.tmp 32) (.tmp 35) rfl B (.slice oa g.outs.length oc) g.outs.length (g.outs.flatMap sJ) rfl (by rw[←Pt.o];exact aD (D:=fun _=>False) qL.o.outs.row kx fun _ _ _ x=>x) w3.heap.size 1 [.int .i64 vn] rfl rfl (ae.Qy _ _ rfl) (by simp[Value.oneCell']) (by omega) (by simp;omega) ?_;intro g9 c9 w9 qW qw wE;change K2 _ _;rw[←Pt.o]at qw wE;have nH:Kp (fun b=>g.vo.ownBlock=some b) w3 w9:=(kx:Ext w3 _).any.trans qw;(refine kk aj af nH ?_);clear af K2;have GV:=qL.o.blk.kp nH VK.o;have x5:=GV.c 5 (.slice oa g.outs.length oc) (by rw[←Pt.o];rfl);have f5:=GV.frozen 5;have hz:=GV.lt;have hG3:=qL.o.good;obtain⟨Nb,own',EH,PQ⟩:=qL.o.ZG vn g9 c9 qW nH (by
        rcases wE with e|e
        · exact .inl e
        · right;simp at e;omega) ⟨hG3.heap,hG3.frames,hG3.nf,by simp[Gh.st,Gh.dG];omega,(fun n hn=>by
          simp only[Gh.st,Gh.dG,List.mem_append,List.mem_singleton]at hn;rcases hn with hn|rfl
          · exact hG3.nP n hn
          · unfold M.fT;simp;omega),hG3.back⟩
       obtain⟨W,hW⟩:∃W,W=w9.setCell ⟨mb,5,none⟩ (.slice (some ⟨g9,0,none⟩) (g.outs.length+1) c9):=⟨_,rfl⟩;have HX:Zs (Kp (MO l own) w W∧gY w.heap.size own own'):=Ys (by
        rw[hW];exact⟨lN.o.mo Nb (gY.refl _ _),fun b hb=>EH b (by have:=lN.o.size;omega)⟩)
       have HW:=Ys hW;have AQ:Zs (aK W l p own' B mb lk {(g.dG r c st vs')with outs:=g.outs++[vn],vo:=.slice (some ⟨g9,0,none⟩) (g.outs.length+1) c9}):=Ys (by rw[hW];exact PQ);clear Nb EH PQ hW qW qw wE nH GV aj rm r51 hG3 m5 mz;(refine dW ?_);go_wp2_with fail;rw[←HW.o];refine(p8 _ _ _ _ _ _ _ _ AQ.o r _ rfl bH).mono ?_;rintro e w4 aV;have HZ:=Ys (cB.after HX.o.1 HX.o.2 aV);obtain⟨rfl, -⟩:=aV;replace HZ:Zs (cB w l p own B mb lk (.int .i64 (M.aM p lk i g.st).1) (M.aM p lk i g.st).2 _ w4):=Ys (by rw[HV.o];exact HZ.o);clear x5 f5 hz;go_wp2_with fail;go_ret;have hz:=HZ.o;rw[HV.o]at hz ⊢;exact hz
     · have Tt:¬(g.outs.length:Int)<40:=by omega
       replace HV:Zs (M.aM p lk i g.st=M.next p (g.dG r c st vs').st):=Ys (HV.o.trans (by rw[if_neg (show¬(g.dG r c st vs').st.outs.length<40 from hl)]));clear hl;go_wp2_with fail;rw[←mq.o];refine(p8 _ _ _ _ _ _ _ _ qL.o r _ rfl bH).mono ?_;rintro e w4 aV;have HZ:=Ys (cB.after lN.o (gY.refl _ _) aV);obtain⟨rfl, -⟩:=aV;rw[←HV.o]at HZ ⊢;go_wp2_with fail;go_ret;exact HZ.o
   · have Jh:(vk !=1)=true:=bne_iff_ne.2 hk;replace HV:=Ys (HV.o.trans (if_neg hk));clear hk;go_wp2_with fail;go_ret;rw[HV.o,←mq.o];exact cB.mk' lN.o (gY.refl _ _) qL.o rfl
end Go.Proofs.YtcepdbbapgfcdaaGreat
