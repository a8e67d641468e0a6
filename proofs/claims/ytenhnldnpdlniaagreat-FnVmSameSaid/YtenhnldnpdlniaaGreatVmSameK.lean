/- FnVmSame: for every input the program returns true, and the input reads as it did. No condition. -/
import Derived.Test.YtenhnldnpdlniaaGreatSmCoreLt
import Derived.Test.YtenhnldnpdlniaaGreatRows
import Derived.ProofKit
import Derived.Carry
set_option maxRecDepth 100000
set_option maxHeartbeats 4000000
set_option linter.all false
namespace Go.Proofs.YtenhnldnpdlniaaGreat
open Go Go.RowKit M
variable {a p: List MemPlace}{c f: Type}{v: Value}{W: World}
theorem OZ:R9 4:=by
 intro bz bE I l;by_cases hl:I.length<=1048576;rotate_left
 . obtain⟨va,vc,rfl⟩:=l.form;have bI:decide ((1048576:Int)<I.length)=true:=Tw Zm;have bC:(1048576:Int)<I.length:=Zm
   clear l hl;go_enter Tryz.func4,Tryz.ntmps4;go_wp2;go_ret;exact⟨rfl,Kp.rr⟩
 have HD:=Zy (Lb bz bE I l);obtain⟨va,vc,rfl⟩:=l.form;have bC:((1048576:Int)<I.length)=False:=Wj Zm;clear l hl;go_enter Tryz.func4,Tryz.ntmps4;go_wp2_with fail;refine HD.mono ?_;rintro i w1 ⟨⟨h,x,y,n,m,ga,gc,args,rfl,hp,ha,-⟩,aG⟩;obtain⟨U,aR,D,v⟩:=nu w1 #[.slice x h.length y] 25;have B:Zz (∀a,Ext U a->SliceOf 2 jo a (fun d=>d<a) (.slice x h.length y) h):=Zy fun a f=>((hp.ext jo.stays D).ext jo.stays f).keep jo.stays (fun _ _ _ _ c=>c) (fun d l=>Tg l.2 D.size f.size);have aV:Zz (∀a,Ext U a->SliceOf 1 qx a (fun d=>d<a) (.slice ga args.length gc) args):=Zy fun a f=>(((ha.ext qx.stays D).ext qx.stays f).inside (fun _ _ _ _ c=>c) Zm).keep qx.stays (fun _ _ _ _ c=>c) (fun d l=>l.2);have ay:Zz (∀a R,Ext U a->Calls Tryz.prog 8 #[.agg #[.slice x h.length y],.bool R,Tj,n,m,.slice ga args.length gc] a fun i w'=>(∃w,i=.returned (.agg w.toArray)/\lJ w' (fun d=>a.heap.size<=d) (nK h R 0 n m args) w)/\Ext a w'):=Zy fun a R f=>
  RP a (fun d=>d<a) (.slice x h.length y) h (B a f) (fun _ c=>c) R 0 n m args ga gc (aV a f)
 have⟨z,bn,X,Z⟩:=kD v aR (aG.trans D) (fun a f=>KU a h (B a f) (fun _ c=>c));obtain⟨V,hB⟩:∃V,ni h=V:=⟨_,rfl⟩;rw[hB]at Z;have HB:=Zy hB;obtain⟨t,s,-⟩:=v.ca;clear hp ha aG aR D v hB;go_upto_region 4 with(fail);rw[<-bn.o];go_wp2_with fail;refine(Z U Kp.rr).mono ?_;rintro i G ⟨rfl,aL⟩;have q:=Zy aL;clear aL s t;cases V
 . go_upto_region 5 with(fail);obtain⟨bu,bA,bD,j⟩:=lL G;have p0:=fun u=>(z.ext (q.trans (j.jC u))).c 0 (.slice x h.length y) rfl;have o:=Zy j;clear j;refine lq o 8 [([0,2],1),([],3),([4,5],6)] [7] ?_ ?_
   . exact jA
   have p:Ext G G.drew:=jA;generalize G.drew=wd at p |-;refine nE ?_;intro k g;go_wp2_with fail;refine(Z wd (q.trans p)).mono ?_;rintro i H ⟨rfl,N⟩;have r:=p.trans N;go_wp2_with fail;refine kk o g r ?_;clear g k;refine mF rfl fun k g=>?_;go_wp2_with fail;refine(Il H (fun _ c=>c) h (B H (q.trans r))).mono ?_;rintro i wb ⟨rfl,bB⟩;rw[HB.o];have af:=r.trans bB;go_wp2_with fail;refine kk o g af ?_;clear g k;refine nE ?_;intro k g;go_wp2_with (first|(go_at_call 7;refine(Q6).mono ?_;rintro i w8 ⟨rfl,rfl⟩)|fail);refine kk o g af ?_;clear g k;refine qX [_] rfl fun ae E=>?_;(repeat (go_big_quiet_step (fail)));refine qn E ?_;clear E ae;go_wp2;go_ret;exact⟨rfl,X.trans (q.trans af)⟩
 have aa:=Zy (PL HB (k:=0) (n:=n) (m:=m) (args:=args));obtain⟨t,s,-⟩:=(z.ext q).ca;go_wp2_with fail;refine(ay G true q).mono ?_;rintro i bF ⟨⟨w,rfl,O⟩,aH⟩;obtain⟨b,aN⟩:∃b,nK h true 0 n m args=b:=⟨_,rfl⟩;rw[aN]at O aa;obtain⟨i1,c1,i2,c2,i3,c3,rfl,-,-,-⟩:=O.form;obtain⟨aU,aO,ag,aB⟩:=nu bF #[.int .i64 b.status,.slice i1 b.frames.length c1,.slice i2 b.heap.length c2,.slice i3 b.outs.length c3,.int .i64 b.back.kind,.int .i64 b.back.n] 44;have az:Zz (∀a,Ext aU a->lJ a (fun d=>d<a) b [.int .i64 b.status,.slice i1 b.frames.length c1,.slice i2 b.heap.length c2,.slice i3 b.outs.length c3,.int .i64 b.back.kind,.int .i64 b.back.n]):=Zy fun a f=>lJ.inside (lJ.stays _ _ _ _ _ _ (Ext.same (ag.trans f)) (fun _ c=>c) O);have⟨aW,W,aZ⟩:=jI aB (q.trans (aH.trans ag)) aO;clear O aN aH ag aO aB s t;obtain⟨t,s,-⟩:=(z.ext W).ca;go_upto_region 7 with(fail);rw[<-aZ.o];go_wp2_with fail;refine(ay aU false W).mono ?_;rintro i bG ⟨⟨w,rfl,P⟩,aI⟩;rw[aa.o.1]at P;obtain⟨e1,h1,e2,h2,e3,h3,rfl,-,-,-⟩:=P.form;obtain⟨S,aP,ah,aC⟩:=nu bG #[.int .i64 b.status,.slice e1 b.frames.length h1,.slice e2 b.heap.length h2,.slice e3 b.outs.length h3,.int .i64 b.back.kind,.int .i64 b.back.n] 44;have L:=aI.trans ah;have aA:Zz (∀a,Ext S a->lJ a (fun d=>d<a) b [.int .i64 b.status,.slice e1 b.frames.length h1,.slice e2 b.heap.length h2,.slice e3 b.outs.length h3,.int .i64 b.back.kind,.int .i64 b.back.n]):=Zy fun a f=>lJ.inside (lJ.stays _ _ _ _ _ _ (Ext.same (ah.trans f)) (fun _ c=>c) P);have⟨ak,au,av,aY,bf⟩:=nC aC (aW.ext L) L (W.trans L) aP;clear P aI ah L aP aC s t;obtain⟨sz,s0,s1,s2,s3,s4,s5,-⟩:=(au).ca;obtain⟨tz,t0,t1,t2,t3,t4,t5,-⟩:=(ak).ca;go_upto_region 8 with(fail);rw[<-bf.o];go_wp2_with fail;refine(O3 S b (az S av) (aA S Kp.rr)).mono ?_;rintro i T ⟨rfl,aJ⟩;have A:=Zy aJ;clear aJ s0 s1 s2 s3 s4 s5 sz t0 t1 t2 t3 t4 t5 tz;have J:=Zy (aY.trans A);obtain⟨sz,s0,s1,s2,s3,s4,s5,-⟩:=(au.ext A).ca;obtain⟨t,s,-⟩:=(z.ext J).ca;by_cases C:b.status=0
 . have aT:(b.status==0)=true:=Ue.2 C;clear C;go_wp2_with (first|(go_at_call 7;refine(Q6).mono ?_;rintro i w8 ⟨rfl,rfl⟩)|fail);go_ret;exact⟨rfl,X.trans J⟩
 have aT:(b.status==0)=false:=SK.2 C;have K:=Zy (aa.2 C);clear C;go_wp2_with fail;refine(P7 T (fun d=>d<T) (B T J) (fun _ c=>c) true b (az T (av.trans A)) 400).mono ?_;rintro i bH ⟨⟨w,rfl,Q⟩,aK⟩;obtain⟨e,aS⟩:∃e,rT h true b 400=e:=⟨_,rfl⟩;rw[aS]at Q K;obtain⟨b1,d1,v,d2,b3,d3,rfl,-,-,-⟩:=Q.form;obtain⟨F,aQ,ai,aD⟩:=nu bH #[.int .i64 e.status,.slice b1 e.frames.length d1,.slice v e.heap.length d2,.slice b3 e.outs.length d3,.int .i64 e.back.kind,.int .i64 e.back.n] 44;have bq:Zz (∀a,Ext F a->lJ a (fun d=>d<a) e [.int .i64 e.status,.slice b1 e.frames.length d1,.slice v e.heap.length d2,.slice b3 e.outs.length d3,.int .i64 e.back.kind,.int .i64 e.back.n]):=Zy fun a f=>lJ.inside (lJ.stays _ _ _ _ _ _ (Ext.same (ai.trans f)) (fun _ c=>c) Q);have aX:=Zy aD;have aj:=aK.trans ai;have⟨ax,Y,bg⟩:=jI aj (J.trans aj) aQ;clear Q aS aK ai aj aQ aD s t s0 s1 s2 s3 s4 s5 sz aT;go_upto_region 13 with(fail);rw[<-bg.o];obtain⟨bu,bA,bD,j⟩:=lL F;have p0:=fun u=>(z.ext (Y.trans (j.jC u))).c 0 (.slice x h.length y) rfl;obtain⟨-,t0,t1,t2,t3,t4,t5,-⟩:=jq.pq fun u=>(ak.ext (A.trans (ax.trans (j.jC u))));obtain⟨xz,x0,x1,x2,x3,x4,x5,-⟩:=jq.pq fun u=>(aX.ext (j.jC u));have o:=Zy j;clear j;refine lq o 15 [([0,1,2],3),([],4)] [5,6,7,8,9,10,11,12,13,14] ?_ ?_
 . exact jA
 have p:Ext F F.drew:=jA;generalize F.drew=wd at p |-;refine nE ?_;intro k g;go_wp2_with fail;refine(P7 wd (fun d=>d<wd) (B wd (Y.trans p)) (fun _ c=>c) false b (aA wd (A.trans (ax.trans p))) 400).mono ?_;rintro i H ⟨⟨w,rfl,hy⟩,N⟩;rw[K.o.1]at hy;have HY:=Zy hy;have r:=p.trans N;clear hy N;obtain⟨u1,bK,u2,bL,u3,bM,rfl,-,-,-⟩:=HY.form;go_wp2_with fail;refine kk o g r ?_;clear g k;refine mF rfl fun k g=>?_;go_wp2_with fail;refine(O3 H e (bq H r) HY).mono ?_;rintro i we ⟨rfl,aM⟩;have aF:=r.trans aM;clear aM;have k5:(e.status !=5)=true:=by simpa using K.o.2.1
 have bJ:(e.status !=10)=true:=by simpa using K.o.2.2
 go_wp2_with fail;refine kk o g aF ?_;clear g k;refine qX [_,_,_,_,_,_,_,_,_,_] rfl fun ae E=>?_;(repeat (go_big_quiet_step (fail)));refine qn E ?_;clear E ae;go_wp2;go_ret;exact⟨rfl,X.trans (Y.trans aF)⟩
open Go Go.ChangeShapes Go.WideShapes Go.ChangeAt Go.RowKit M
theorem Tryz.own:ownKnob Tryz.prog.godebug=none:=by kernel_rfl
theorem Tryz.laidOut:laidOutB Tryz.prog=true:=by kernel_rfl
theorem Ko:Tryz.prog.cellsOf 5=1:=by kernel_rfl
theorem bytes_at{enc:TypeId×Value->f}{g:DataW f}(l:∃b d c,v=.slice b d c)(h0:DataW.Trod enc Tryz.prog W 0 (fun _=>true) true 22 v g p):∃e,BytesAt W v e:=by
 obtain⟨s,d,c,rfl⟩:=l;obtain⟨u,i⟩:=h0;rcases open_ints Tryz.underlying22 Tryz.underlying5 Ko i with⟨a,n⟩|⟨b,y,t,e,a,_,w,x,o,n,h,m⟩
 . simp[Value.cells]at a;obtain⟨rfl,rfl,rfl⟩:=a;exact⟨[],.inl ⟨rfl,rfl⟩⟩
 . simp[Value.cells]at a;obtain⟨rfl,rfl,rfl⟩:=a;simp only[Uy]at o;refine⟨e.take d,.inr ⟨b,c,by rw[TN,UN Zm],by rw[TN];omega,fun q j=>?_,fun r k=>?_⟩⟩
   . rw[TN]at j;have:=h q Zm;rw[this];congr 2;simp only[List.getD,Ub];rw[Ty Zm]
   . have:=m r (Uo k);simp[Lit.wf,IntKind.min,IntKind.max,IntKind.bits,IntKind.signed]at this;omega
theorem OY{enc:TypeId×Value->c}{fn:Func}{s:ChangeSpec}{f: World}{b:DataW c}(l:fn.params=#[22])(m:fn.resultTypes=#[4])(n:s.vars=[])
    (d:s.fn c ([b]++[])={results:=[.lit (.bool true)],args:=[b]}) (h:DataW.Whole enc Tryz.prog fn.params.toList s.vars false W [v] [b] [] a)
    (h0:DataW.Trod enc Tryz.prog W 0 (fun _=>true) true 22 v b a) (j:Ext W f):s.post enc Tryz.prog fn false true false false W #[v] (.bool true) f:=by
 have k:∀e∈a,e.block<W:=fun e o=>by simpa using h.lt e o
 have g:=Ext.PZ j;refine⟨[b],[],a,[],a,[],h,?_,?_,?_,g.frame _,fun i=>by cases i⟩
 . rw[d,m];exact trodAll_mk1 (shut_bool Tryz.underlying4 true)
 . rw[d,l];exact trodAll_mk1 (Below.trod Tryz.laidOut Zo (U0 Zo) h0 g k)
 . rw[d,n];exact(rfl:([]:List MemPlace)=[])
end Go.Proofs.YtenhnldnpdlniaaGreat
namespace Go.Proofs.YtenhnldnpdlniaaGreat
open Go Go.ChangeShapes Go.WideShapes Go.ChangeAt Go.RowKit M
theorem Dc(i:Os)(v:i.Started)(m:Type)(enc:TypeId×Value->m):ReturnsInHanded {} Tryz.checked i 4 .any (Rows.fnVmSameSpec.pre6 enc Tryz.prog Tryz.f4 Rows.fnVmSameRow.domain false) (Rows.fnVmSameSpec.post enc Tryz.prog Tryz.f4 false true false false):=by
 refine returnsInHanded_of_change (C:=Tryz.checked) Tryz.own v Zo Tryz.func4
  (ChangeSpec.witness6 (enc:=enc) (C:=Tryz.checked) false ⟨#[],#[()],[]⟩ 8 Zo Zo Zo Zo) ?_
 intro a n b o B y t e C _;have g:∀(h:Nat) j k,Tryz.f4.params[h]?=some j->b[h]?=some k->Value.okWide Tryz.prog a .any n j k:=t;have f:=e;obtain⟨u,F,p,q,rfl,D,E⟩:=e;have d:DataW.TrodAll enc Tryz.prog a 0 (fun _=>true) true Tryz.f4.params.toList b.toList o u:=p;rw[Tryz.params4]at d g;obtain⟨l,z,rfl,rfl,c⟩:=trodAll_one d;obtain⟨rfl,rfl⟩:=trodVars_none q;simp only[List.append_nil]at f;obtain⟨w,r⟩:=bytes_at (okWide_slice Tryz.underlying22 (g 0 22 l rfl rfl)) c;refine(OZ a l w r).mono fun A x ⟨s,hE⟩=>?_;subst s;exact⟨_,rfl,OY (fn:=Tryz.f4) Tryz.params4 rfl rfl rfl f c hE⟩
theorem I8:Tryz.prog.inPlace 4=Rows.fnVmSameRow.inPlace:=by kernel_rfl
theorem Cx:Tryz.prog.unfollowed 4=true:=by kernel_rfl
theorem I9:Tryz.prog.varsNamed 4=Rows.fnVmSameRow.named:=by kernel_rfl
theorem Ja:Tryz.prog.recurses 4=true:=by unfold Program.recurses;rw[Cx];rfl
theorem Jb:joinedFacts Tryz.prog 4 Tryz.f4 Rows.fnVmSameSpec Rows.fnVmSameRow=true:=by
 unfold joinedFacts;rw[I8,Cx,I9,Ja];kernel_rfl
theorem fnVmSame_holds:Rows.FnVmSameSaid:=
 OpenClaim.holds_of_wide 4 Tryz.f4 rfl rfl rfl rfl rfl rfl rfl ⟨rfl,rfl,rfl,rfl,rfl⟩ rfl rfl rfl rfl rfl Zo Tryz.func4 Jb
  (U0 Zo) (by unfold Func.isWrapper;rw[T9 (by decide+kernel)];exact⟨rfl,rfl⟩)
  (fun c d a b _=>Dc c d a b)
#print axioms fnVmSame_holds
end Go.Proofs.YtenhnldnpdlniaaGreat
