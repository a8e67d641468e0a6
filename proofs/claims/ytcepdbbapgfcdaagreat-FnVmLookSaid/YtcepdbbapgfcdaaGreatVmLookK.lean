/- FnVmLook: for every input the program returns true, and the input reads as it did. No condition. -/
import Derived.Test.YtcepdbbapgfcdaaGreatVmCoreLc
import Derived.Test.YtcepdbbapgfcdaaGreatVmCoret
import Derived.Test.YtcepdbbapgfcdaaGreatRows
import Derived.ProofKit
import Derived.Carry
set_option maxRecDepth 100000
set_option maxHeartbeats 4000000
set_option linter.all false
namespace Go.Proofs.YtcepdbbapgfcdaaGreat.M
theorem eH.link{p:au}:eH p dD:=⟨⟨by simp[dD,ib],by simp[dD],by simp[dD],by simp[dD],by simp[dD],by simp[dD,bE,ek]⟩,by simp[dD],by simp[dD]⟩
theorem Good.one{p:au}{q:Ref}(hq:cZ p q=true):Good p ⟨1,[],[fresh p q],[],ek⟩:=by
 have h0:Good p ⟨1,[],[],[],ek⟩:=⟨by simp[ib],by simp,by simp,by simp,by simp,by simp[bE,ek]⟩;exact h0.grow hq (by simp)
theorem lM{p:au}(gp:bU p=true){lk:Bool}{k:Int}{n m:ByteArray}{args:List Int}(ha:args.all fT=true):eH p (start p lk k n m args):=by
 unfold start;split
 · rename_i hf;split
   · rename_i hc;obtain⟨rr,Mr⟩:=jI hc.1;have hx:=jW Mr;have hlen:(method p (call p k n m).1).args.length=args.length:=by
      have:=hc.2;unfold iK at this;simp only[Bool.and_eq_true,decide_eq_true_eq]at this;exact this.1
     refine jR.runs (nE gp (Good.one hf.2) rfl hx ?_ ?_)
     · intro v hv;rcases List.mem_cons.1 hv with rfl|hv
       · exact qG _ (by omega) (by simp)
       · obtain⟨x,hx,rfl⟩:=List.mem_map.1 hv;exact gV _ (List.all_eq_true.1 ha x hx)
     · have:=(lL (gI gp hx).1).args;simp;omega
   · exact eH.link
 · exact eH.link
theorem qH{p:au}{lk:Bool}{s:St}{f:Nat}(gp:bU p=true)(hs:eH p s)(hf:f≤400):eQ p lk s f=steps p lk f s:=by
 unfold eQ;rw[decide_eq_true (by omega),gp,sP.2 hs];rfl
end Go.Proofs.YtcepdbbapgfcdaaGreat.M
namespace Go.Proofs.YtcepdbbapgfcdaaGreat.M
open Go
section
variable {p:au} {s s1:St} {r:List Fr} {t t1:Fr} {op:Int}
end
theorem agq(p:au)(x:kT)(vs:List Val)(s:St):enter p true x vs s=enter p false x vs s∨(enter p true x vs s).1=5:=by
 unfold enter;split
 · exact .inl rfl
 · cases right p x
   · exact .inr rfl
   · exact .inl rfl
theorem ags(p:au)(i:Ins)(s:St):aM p true i s=aM p false i s∨(aM p true i s).1=5:=by
 unfold aM;by_cases h9:i.op=9
 · simp only[h9,show¬((9:Int)=1) by decide,show¬((9:Int)=2) by decide,show¬((9:Int)=3) by decide,show¬((9:Int)=4) by decide,show¬((9:Int)=5) by decide,show¬((9:Int)=6) by decide,show¬((9:Int)=7) by decide,show¬((9:Int)=8) by decide,if_false,if_true];split
   · split
     · split
       · split
         · exact agq _ _ _ _
         · exact .inl rfl
       · exact .inl rfl
     · exact .inl rfl
   · exact .inl rfl
 · exact .inl (by simp only[if_neg h9])
theorem agv{p:au}(gp:bU p=true){s:St}(hR:eH p s):step p true s=step p false s∨(step p true s).status=5:=by
 by_cases hs:s.status=1
 · obtain⟨r,t,i,h1,h2,h3,h4⟩:=xe gp hR hs;have e:∀lk,step p lk s=end_ (aM p lk i s).1 (aM p lk i s).2:=fun lk=>by
    unfold step stepped;rw[if_pos hs,qF h1,h3];rfl
   rw[e,e];rcases ags p i s with h|h
   · rw[h];exact .inl rfl
   · right;rw[h];rfl
 · left;unfold step;rw[if_neg hs,if_neg hs]
theorem agr{p:au}(gp:bU p=true):∀(f:Nat) {s:St},eH p s→steps p true f s=steps p false f s∨(steps p true f s).status=5
 |0,_,_=>.inl rfl
 |f+1,s,hR=>by
  unfold steps;by_cases hs:s.status=1
  · rw[if_pos hs,if_pos hs];rcases agv gp hR with h|h
    · rw[h];exact agr gp f (sQ gp hR false)
    · right;cases f with
      |zero=>exact h
      |succ f=>unfold steps;rw[if_neg (by omega)];exact h
  · rw[if_neg hs,if_neg hs];exact .inl rfl
theorem agu(p:au)(k:Int)(n m:ByteArray)(args:List Int):start p true k n m args=start p false k n m args∨(start p true k n m args).status=5:=by
 unfold start;split
 · split
   · rcases agq p (call p k n m).1 (⟨2,0⟩::args.map gJ) ⟨1,[],[fresh p (find p k n).1],[],ek⟩with h|h
     · rw[h];exact .inl rfl
     · right;rw[h];rfl
   · exact .inl rfl
 · exact .inl rfl
theorem kF{p:au}{k:Int}{n m:ByteArray}{args:List Int}:(∀lk,fG p lk k n m args=Gw)∨(bU p=true∧∀lk,fG p lk k n m args=start p lk k n m args∧eH p (fG p lk k n m args)):=by
 unfold fG;by_cases h:(bU p&&has p k&&aY n&&aY m&&args.all fT)=true
 · right;simp only[Bool.and_eq_true]at h;refine⟨h.1.1.1.1,fun lk=>?_⟩;rw[h.1.1.1.1,h.1.1.1.2,h.1.1.2,h.1.2,h.2];exact⟨rfl,lM h.1.1.1.1 h.2⟩
 · left;intro lk;rw[if_neg h]
end Go.Proofs.YtcepdbbapgfcdaaGreat.M
namespace Go.Proofs.YtcepdbbapgfcdaaGreat
open Go Go.RowKit
theorem aN.inside{w:World}{I:Nat→Prop}{s:M.St}{cs:List Value}(h:aN w I s cs):aN w (fun b=>b<w.heap.size) s cs:=by
 obtain⟨vf,vh,vo,e,h1,h2,h3⟩:=h;have hI:∀b,I b∧b<w.heap.size→b<w.heap.size:=fun b h=>h.2;have keep:∀{α:Type} {k:Nat} {R:fP α} (hS:bQ R) {v:Value} {xs:List α},SliceOf k R w (fun b=>I b∧b<w.heap.size) v xs→SliceOf k R w (fun b=>b<w.heap.size) v xs:=fun hS _ _ h=>h.keep hS (fun _ _ _ _ h=>h) hI;refine⟨vf,vh,vo,e,keep JZ.stays (h1.inside (fun w I x cs h=>?_) (by omega)),keep rA.stays (h2.inside (fun w I x cs h=>?_) (by omega)),keep iZ.stays (h3.inside (fun _ _ _ _ h=>h) (by omega))⟩
 · obtain⟨vl,vs,e,a,b⟩:=h;exact⟨vl,vs,e,a.inside (fun _ _ _ _ h=>h) (by omega),b.inside (fun _ _ _ _ h=>h) (by omega)⟩
 · obtain⟨vf,e,a⟩:=h;exact⟨vf,e,a.inside (fun _ _ _ _ h=>h) (by omega)⟩
theorem SliceOf.cap{α:Type}{k:Nat}{R:fP α}{w:World}{I:Nat→Prop}{a:Option Addr}{n c:Nat}{xs:List α}(h:SliceOf k R w I (.slice a n c) xs):xs.length≤c:=by
 obtain⟨_,_,e,h1, -⟩:=h;cases e;exact h1
theorem wK(w:World):Calls Tryz.prog 12 #[] w fun e w'=>e=.returned (.bool true)∧w'=w:=by
 have hn:M.aY ⟨#[97]⟩=true:=by decide+kernel
 have HN:=Ys (fZ ⟨#[97]⟩ w);rw[hn]at HN;go_enter Tryz.func12,Tryz.ntmps12;go_wp2_with fail;refine HN.o.mono ?_;rintro e w1 ⟨rfl,rfl⟩;go_wp2_with fail;go_ret;exact⟨rfl,rfl⟩
theorem Xb(w:World)(I J:Nat→Prop)(va vb:Value)(l:List M.Val)(ha:SliceOf 2 jy w I va l)(hb:SliceOf 2 jy w J vb l):
    Calls Tryz.prog 15 #[va,vb] w fun e w'=>e=.returned (.bool true)∧Ext w w':=by
 obtain⟨a1,c1,rfl, -,hla⟩:=ha.form;obtain⟨a2,c2,rfl, -, -⟩:=hb.form;have HA:=Ys ha;have HB:=Ys hb;clear ha hb;go_enter Tryz.func15,Tryz.ntmps15;go_wp2_with fail;go_loopw [5] (fun i wr=>∃q:Nat,q≤l.length∧i=.int .i64 q∧Ext w wr) (fun i _=>l.length - (intOf i).toNat)
 case atStart=>exact⟨0,Nat.zero_le _,rfl,Kp.refl _ _⟩
 case round=>
  obtain⟨k,hk,rfl,hE⟩:=hrel;have HE:=Ys hE;by_cases bZ:k<l.length
  · have dk:(k:Int)<l.length:=by omega
    have dk0:(0:Int)≤k:=by omega
    obtain⟨⟨xk,xn⟩,hx⟩:∃x,l[k]?=some x:=⟨l[k]'bZ,List.getElem?_eq_getElem bZ⟩;obtain⟨b1,o1,cs1,rfl, -,rfl, -,lJ⟩:=HA.o.get hx;obtain⟨b2,o2,cs2,rfl, -,rfl, -,Gl⟩:=HB.o.get hx;have g0:w.cell? ⟨b1,o1+k*2,none⟩=some (.int .i64 xk):=by simpa using lJ 0 (.int .i64 xk) rfl
    have g1:=lJ 1 (.int .i64 xn) rfl;have k0:w.cell? ⟨b2,o2+k*2,none⟩=some (.int .i64 xk):=by simpa using Gl 0 (.int .i64 xk) rfl
    have k1:=Gl 1 (.int .i64 xn) rfl;obtain⟨T,f,dB,HT⟩:=iq.ex (fun W'=>Ext wr W') wr (Kp.refl _ _);have x0:=fun z=>(hE.trans (HT.aJ z)).aA g0;have x1:=fun z=>(hE.trans (HT.aJ z)).aA g1;have y0:=fun z=>(hE.trans (HT.aJ z)).aA k0;have y1:=fun z=>(hE.trans (HT.aJ z)).aA k1;have aj:=Ys HT;clear HT lJ Gl hx g0 g1 k0 k1 hE;go_upto_region 6 with(fail);(refine dZ aj 9 [] [0,1,2,3,4,5,6,7,8] ?_ ?_)
    · exact(Kp.refl _ _).drew
    (refine dI [_,_,_,_,_,_,_,_,_] rfl rfl fun K hK=>?_);(repeat (go_big_quiet_step (fail)));(refine qn hK ?_);clear hK K;go_wp2_with fail;go_round
    case rel=>exact⟨k+1,by omega,by go_num,HE.o.trans (Kp.refl _ _).drew⟩
    case measure=>simp[intOf];omega
  · have dk:¬(k:Int)<l.length:=by omega
    clear hE;go_wp2_with fail;go_ret;exact⟨rfl,HE.o⟩
end Go.Proofs.YtcepdbbapgfcdaaGreat
namespace Go.Proofs.YtcepdbbapgfcdaaGreat
open Go Go.RowKit
namespace M
end M
theorem Xa(w:World)(I J:Nat→Prop)(va vb:Value)(a b:List Int)(ha:SliceOf 1 iZ w I va a)(hb:SliceOf 1 iZ w J vb b):
    Calls Tryz.prog 14 #[va,vb] w fun e w'=>e=.returned (.bool (decide (a=b)))∧Ext w w':=by
 obtain⟨a1,c1,rfl, -,hla⟩:=ha.form;obtain⟨a2,c2,rfl, -,hlb⟩:=hb.form;by_cases hl:a.length=b.length;rotate_left
 · have e1:((a.length:Int) !=b.length)=true:=bne_iff_ne.2 (by omega);have HV:Zs (decide (a=b)=false):=Ys (decide_eq_false fun e=>hl (by rw[e]));clear hl;go_enter Tryz.func14,Tryz.ntmps14;go_wp2_with fail;go_ret;exact⟨ag HV.o.symm,kx⟩
 have e1:((a.length:Int) !=b.length)=false:=by simp[hl]
 have HLL:=Ys hl;clear hl;go_enter Tryz.func14,Tryz.ntmps14;go_wp2_with fail;go_loopw [5] (fun i wr=>∃q:Nat,q≤a.length∧i=.int .i64 q∧Ext w wr∧Zs (a.take q=b.take q)) (fun i _=>a.length - (intOf i).toNat)
 case atStart=>exact⟨0,Nat.zero_le _,rfl,Kp.refl _ _,Ys (by simp)⟩
 case round =>
  obtain⟨q,hq,rfl,hE,HQ⟩:=hrel;by_cases bZ:q<a.length
  · have aeE:q<b.length:=by have:=HLL.o;omega
    obtain⟨x,hx⟩:=jo a q bZ;obtain⟨y,hy⟩:=jo b q aeE;obtain⟨b1,o1,cs1,rfl, -,rfl, -,lJ⟩:=(ha.ext iZ.stays hE).get hx;obtain⟨b2,o2,cs2,rfl, -,rfl, -,Gl⟩:=(hb.ext iZ.stays hE).get hy;rw[Nat.mul_one]at lJ Gl;have g1:=fun d=>((Kp.refl _ wr).drewN d:Ext wr _).aA lJ.one;have g2:=fun d=>((Kp.refl _ wr).drewN d:Ext wr _).aA Gl.one;have HX:=Ys hx;have HY:=Ys hy;have HE:=Ys hE;have Jj:(q:Int)<a.length:=by omega
    have hq3:(q:Int)<b.length:=by omega
    clear hx hy lJ Gl hE;by_cases hxy:x=y
    · subst hxy;go_wp2_with fail;go_quiet (fail);go_wp2_with fail;refine⟨⟨q+1,by omega,by go_num,HE.o.trans kx,Ys ?_⟩,by simp[intOf];omega⟩;rw[List.take_add_one,List.take_add_one,HQ.o,HX.o,HY.o]
    · have e2:((x:Int) !=y)=true:=bne_iff_ne.2 hxy;have HV:Zs (decide (a=b)=false):=Ys (decide_eq_false fun e=>hxy (by
       have h1:=HX.o;rw[e,HY.o]at h1;cases h1;rfl))
      clear hxy;go_wp2_with fail;go_quiet (fail);go_wp2_with fail;go_ret;exact⟨ag HV.o.symm,HE.o.trans kx⟩
  · have HV:Zs (decide (a=b)=true):=Ys (decide_eq_true (by
     have h1:=HQ.o;have h2:=HLL.o;rwa[List.take_of_length_le (by omega),List.take_of_length_le (by omega)]at h1))
    have HE:=Ys hE;clear hE;go_wp2_with fail;go_ret;exact⟨ag HV.o.symm,HE.o⟩
end Go.Proofs.YtcepdbbapgfcdaaGreat
namespace Go.Proofs.YtcepdbbapgfcdaaGreat
open Go Go.RowKit
theorem agA(w:World)(I J:Nat→Prop)(s:M.St)(ca cb:List Value)(ha:aN w I s ca)(hb:aN w J s cb):
    Calls Tryz.prog 19 #[.agg ca.toArray,.agg cb.toArray] w fun e w'=>e=.returned (.bool true)∧Ext w w':=by
 obtain⟨a1,c1,a2,c2,a3,c3,rfl,haf,hah,hao⟩:=ha.form;obtain⟨b1,d1,b2,d2,b3,d3,rfl,hbf,hbh,Ye⟩:=hb.form;obtain⟨_,_, -, -,hlf⟩:=haf.form;obtain⟨_,_, -, -,hlh⟩:=hah.form;obtain⟨w0,bD⟩:∃w0,w0=(w.alloc (.cells #[.int .i64 s.status,.slice a1 s.frames.length c1,.slice a2 s.heap.length c2,.slice a3 s.outs.length c3,.int .i64 s.back.kind,.int .i64 s.back.n] 34)).alloc (.cells #[.int .i64 s.status,.slice b1 s.frames.length d1,.slice b2 s.heap.length d2,.slice b3 s.outs.length d3,.int .i64 s.back.kind,.int .i64 s.back.n] 34):=⟨_,rfl⟩;have aU:Ext w w0:=by rw[bD];exact(by repeat (first|with_reducible exact Kp.refl _ _|with_reducible assumption|with_reducible refine Kp.alloc ?_ _|with_reducible refine Kp.drew ?_|with_reducible refine Kp.drewN ?_ _|with_reducible refine Kp.setCell ?_ (fun h=>absurd h (by simp<;>omega)) _|with_reducible refine Kp.trans ?_ (by with_reducible assumption)|exact Kp.refl _ _|assumption|refine Kp.alloc ?_ _|refine Kp.drew ?_|refine Kp.drewN ?_ _|(refine Kp.setCell ?_ (fun h=>absurd h (by simp;done)) _)|(refine Kp.setCell ?_ (fun h=>absurd h (by simp;omega)) _)|refine Kp.trans ?_ (by assumption)))
 have e2:aC w0 w.heap.size 34 #[.int .i64 s.status,.slice a1 s.frames.length c1,.slice a2 s.heap.length c2,.slice a3 s.outs.length c3,.int .i64 s.back.kind,.int .i64 s.back.n]:=by rw[bD];exact(aC.new _ _ _).ext ((Kp.refl _ _).alloc _)
 have e3:aC w0 (w.heap.size+1) 34 #[.int .i64 s.status,.slice b1 s.frames.length d1,.slice b2 s.heap.length d2,.slice b3 s.outs.length d3,.int .i64 s.back.kind,.int .i64 s.back.n]:=by rw[bD];exact aC.newAt _ _ (by simp)
 have HAF:=Ys (haf.ext JZ.stays aU);have HAH:=Ys (hah.ext rA.stays aU);have HBF:=Ys (hbf.ext JZ.stays aU);have HBH:=Ys (hbh.ext rA.stays aU);have HLI:Zs (∀W,Ext w0 W→Calls Tryz.prog 14 #[.slice a3 s.outs.length c3,.slice b3 s.outs.length d3] W fun e w'=>e=.returned (.bool true)∧Ext W w'):=Ys fun W hW=>by
  have:=Xa W _ _ _ _ s.outs s.outs ((hao.ext iZ.stays aU).ext iZ.stays hW) ((Ye.ext iZ.stays aU).ext iZ.stays hW);rwa[decide_eq_true rfl]at this
 have bJ:=Ys aU;have fD:=Ys e2;have iH:=Ys e3;have dQ:=Ys bD;have p0:=(e2).c 0 (.int .i64 s.status) rfl;have p1:=(e2).c 1 (.slice a1 s.frames.length c1) rfl;have p2:=(e2).c 2 (.slice a2 s.heap.length c2) rfl;have p3:=(e2).c 3 (.slice a3 s.outs.length c3) rfl;have p4:=(e2).c 4 (.int .i64 s.back.kind) rfl;have p5:=(e2).c 5 (.int .i64 s.back.n) rfl;have pz:=(e2).lt;have q0:=(e3).c 0 (.int .i64 s.status) rfl;have q1:=(e3).c 1 (.slice b1 s.frames.length d1) rfl;have q2:=(e3).c 2 (.slice b2 s.heap.length d2) rfl;have q3:=(e3).c 3 (.slice b3 s.outs.length d3) rfl;have q4:=(e3).c 4 (.int .i64 s.back.kind) rfl;have q5:=(e3).c 5 (.int .i64 s.back.n) rfl;have qz:=(e3).lt;clear ha hb haf hah hao hbf hbh Ye aU e2 e3 bD;go_enter Tryz.func19,Tryz.ntmps19;go_upto_region 1 with(fail);rw[←dQ.o];go_wp2_with fail;refine(HLI.o w0 (Kp.refl _ _)).mono ?_;rintro e w1 ⟨rfl,bA⟩;have fe:=Ys bA;clear p0 q0 p1 q1 p2 q2 p3 q3 p4 q4 p5 q5 pz qz;have p0:=(fD.o.ext bA).c 0 (.int .i64 s.status) rfl;have p1:=(fD.o.ext bA).c 1 (.slice a1 s.frames.length c1) rfl;have p2:=(fD.o.ext bA).c 2 (.slice a2 s.heap.length c2) rfl;have p3:=(fD.o.ext bA).c 3 (.slice a3 s.outs.length c3) rfl;have p4:=(fD.o.ext bA).c 4 (.int .i64 s.back.kind) rfl;have p5:=(fD.o.ext bA).c 5 (.int .i64 s.back.n) rfl;have pz:=(fD.o.ext bA).lt;have q0:=(iH.o.ext bA).c 0 (.int .i64 s.status) rfl;have q1:=(iH.o.ext bA).c 1 (.slice b1 s.frames.length d1) rfl;have q2:=(iH.o.ext bA).c 2 (.slice b2 s.heap.length d2) rfl;have q3:=(iH.o.ext bA).c 3 (.slice b3 s.outs.length d3) rfl;have q4:=(iH.o.ext bA).c 4 (.int .i64 s.back.kind) rfl;have q5:=(iH.o.ext bA).c 5 (.int .i64 s.back.n) rfl;have qz:=(iH.o.ext bA).lt;clear bA;go_wp2_with fail;go_loopw [5] (fun i wr=>∃k:Nat,k≤s.frames.length∧i=.int .i64 k∧Ext w0 wr) (fun i _=>s.frames.length - (intOf i).toNat)
 case atStart=>exact⟨0,Nat.zero_le _,rfl,fe.o⟩
 case round=>
  obtain⟨k,hk,rfl,zo⟩:=hrel;have AV:=Ys zo;clear p0 q0 p1 q1 p2 q2 p3 q3 p4 q4 p5 q5 pz qz;by_cases bZ:k<s.frames.length
  · have dk:(k:Int)<s.frames.length:=by omega
    have uP:(0:Int)≤k:=by omega
    obtain⟨t,ht⟩:∃t,s.frames[k]?=some t:=⟨s.frames[k]'bZ,List.getElem?_eq_getElem bZ⟩;obtain⟨ba,fa,csa,rfl, -,⟨v1,v2,rfl,hv1,Yz⟩, -,hca⟩:=HAF.o.get ht;obtain⟨x1,x2,rfl, -, -⟩:=hv1.form;obtain⟨y1,y2,rfl, -, -⟩:=Yz.form;obtain⟨bb,fb,csb,rfl, -,⟨v3,v4,rfl,TL,hv4⟩, -,hcb⟩:=HBF.o.get ht;obtain⟨u1,u2,rfl, -, -⟩:=TL.form;obtain⟨z1,z2,rfl, -, -⟩:=hv4.form;have p1:=(fD.o.ext zo).c 1 (.slice (some ⟨ba,fa,none⟩) s.frames.length c1) rfl;have pz:=(fD.o.ext zo).lt;have q1:=(iH.o.ext zo).c 1 (.slice (some ⟨bb,fb,none⟩) s.frames.length d1) rfl;have qz:=(iH.o.ext zo).lt;have m0:wr.cell? ⟨ba,fa+k*6,none⟩=some (.int .i64 t.of.of.keeper):=zo.aA (by simpa using hca 0 (.int .i64 t.of.of.keeper) rfl);have n0:wr.cell? ⟨bb,fb+k*6,none⟩=some (.int .i64 t.of.of.keeper):=zo.aA (by simpa using hcb 0 (.int .i64 t.of.of.keeper) rfl);have m1:=zo.aA (hca 1 (.string t.of.of.name) rfl);have m2:=zo.aA (hca 2 (.int .i64 t.of.at_) rfl);have m3:=zo.aA (hca 3 (.int .i64 t.pc) rfl);have m4:=zo.aA (hca 4 (.slice x1 t.locals.length x2) rfl);have m5:=zo.aA (hca 5 (.slice y1 t.stack.length y2) rfl);have n1:=zo.aA (hcb 1 (.string t.of.of.name) rfl);have n2:=zo.aA (hcb 2 (.int .i64 t.of.at_) rfl);have n3:=zo.aA (hcb 3 (.int .i64 t.pc) rfl);have n4:=zo.aA (hcb 4 (.slice u1 t.locals.length u2) rfl);have n5:=zo.aA (hcb 5 (.slice z1 t.stack.length z2) rfl);have mz:=aG m0;have nz:=aG n0;obtain⟨w4,o6⟩:∃w4,w4=(wr.alloc (.cells #[.int .i64 t.of.of.keeper,.string t.of.of.name,.int .i64 t.of.at_,.int .i64 t.pc,.slice x1 t.locals.length x2,.slice y1 t.stack.length y2] 45)).alloc (.cells #[.int .i64 t.of.of.keeper,.string t.of.of.name,.int .i64 t.of.at_,.int .i64 t.pc,.slice u1 t.locals.length u2,.slice z1 t.stack.length z2] 45):=⟨_,rfl⟩
    have dA:Ext wr w4:=by rw[o6];exact(by repeat (first|with_reducible exact Kp.refl _ _|with_reducible assumption|with_reducible refine Kp.alloc ?_ _|with_reducible refine Kp.drew ?_|with_reducible refine Kp.drewN ?_ _|with_reducible refine Kp.setCell ?_ (fun h=>absurd h (by simp<;>omega)) _|with_reducible refine Kp.trans ?_ (by with_reducible assumption)|exact Kp.refl _ _|assumption|refine Kp.alloc ?_ _|refine Kp.drew ?_|refine Kp.drewN ?_ _|(refine Kp.setCell ?_ (fun h=>absurd h (by simp;done)) _)|(refine Kp.setCell ?_ (fun h=>absurd h (by simp;omega)) _)|refine Kp.trans ?_ (by assumption)))
    have k4:aC w4 wr.heap.size 45 #[.int .i64 t.of.of.keeper,.string t.of.of.name,.int .i64 t.of.at_,.int .i64 t.pc,.slice x1 t.locals.length x2,.slice y1 t.stack.length y2]:=by rw[o6];exact(aC.new _ _ _).ext ((Kp.refl _ _).alloc _)
    have k5:aC w4 (wr.heap.size+1) 45 #[.int .i64 t.of.of.keeper,.string t.of.of.name,.int .i64 t.of.at_,.int .i64 t.pc,.slice u1 t.locals.length u2,.slice z1 t.stack.length z2]:=by rw[o6];exact aC.newAt _ _ (by simp)
    have agw:=zo.trans dA;have J2:Zs (∀W,Ext w4 W→Calls Tryz.prog 15 #[.slice x1 t.locals.length x2,.slice u1 t.locals.length u2] W fun e w'=>e=.returned (.bool true)∧Ext W w'):=Ys fun W hW=>Xb W _ _ _ _ t.locals ((hv1.ext jy.stays agw).ext jy.stays hW) ((TL.ext jy.stays agw).ext jy.stays hW);have zA:Zs (∀W,Ext w4 W→Calls Tryz.prog 15 #[.slice y1 t.stack.length y2,.slice z1 t.stack.length z2] W fun e w'=>e=.returned (.bool true)∧Ext W w'):=Ys fun W hW=>Xb W _ _ _ _ t.stack ((Yz.ext jy.stays agw).ext jy.stays hW) ((hv4.ext jy.stays agw).ext jy.stays hW);have gZ:=Ys dA;have zD:=Ys o6;have K4:=Ys k4;have K5:=Ys k5;clear dA agw o6 k4 k5 hv1 Yz TL hv4 hca hcb ht zo;go_upto_region 8 with(fail);rw[←zD.o];clear m0 n0 m1 n1 m2 n2 m3 n3 m4 n4 m5 n5 mz nz p1 q1 pz qz;have m0:=(K4.o).c 0 (.int .i64 t.of.of.keeper) rfl;have m1:=(K4.o).c 1 (.string t.of.of.name) rfl;have m2:=(K4.o).c 2 (.int .i64 t.of.at_) rfl;have m3:=(K4.o).c 3 (.int .i64 t.pc) rfl;have m4:=(K4.o).c 4 (.slice x1 t.locals.length x2) rfl;have m5:=(K4.o).c 5 (.slice y1 t.stack.length y2) rfl;have mz:=(K4.o).lt;have n0:=(K5.o).c 0 (.int .i64 t.of.of.keeper) rfl;have n1:=(K5.o).c 1 (.string t.of.of.name) rfl;have n2:=(K5.o).c 2 (.int .i64 t.of.at_) rfl;have n3:=(K5.o).c 3 (.int .i64 t.pc) rfl;have n4:=(K5.o).c 4 (.slice u1 t.locals.length u2) rfl;have n5:=(K5.o).c 5 (.slice z1 t.stack.length z2) rfl;have nz:=(K5.o).lt;go_wp2_with fail;refine(J2.o w4 (Kp.refl _ _)).mono ?_;rintro e w5 ⟨rfl,dC⟩;have gm:=Ys dC;clear m0 n0 m1 n1 m2 n2 m3 n3 m4 n4 m5 n5 mz nz;have m0:=(K4.o.ext dC).c 0 (.int .i64 t.of.of.keeper) rfl;have m1:=(K4.o.ext dC).c 1 (.string t.of.of.name) rfl;have m2:=(K4.o.ext dC).c 2 (.int .i64 t.of.at_) rfl;have m3:=(K4.o.ext dC).c 3 (.int .i64 t.pc) rfl;have m4:=(K4.o.ext dC).c 4 (.slice x1 t.locals.length x2) rfl;have m5:=(K4.o.ext dC).c 5 (.slice y1 t.stack.length y2) rfl;have mz:=(K4.o.ext dC).lt;have n0:=(K5.o.ext dC).c 0 (.int .i64 t.of.of.keeper) rfl;have n1:=(K5.o.ext dC).c 1 (.string t.of.of.name) rfl;have n2:=(K5.o.ext dC).c 2 (.int .i64 t.of.at_) rfl;have n3:=(K5.o.ext dC).c 3 (.int .i64 t.pc) rfl;have n4:=(K5.o.ext dC).c 4 (.slice u1 t.locals.length u2) rfl;have n5:=(K5.o.ext dC).c 5 (.slice z1 t.stack.length z2) rfl;have nz:=(K5.o.ext dC).lt;clear dC;go_wp2_with fail;refine(zA.o w5 gm.o).mono ?_;rintro e w6 ⟨rfl,dK⟩
    have jX:=Ys (AV.o.trans ((gZ.o.trans gm.o).trans dK));clear m0 n0 m1 n1 m2 n2 m3 n3 m4 n4 m5 n5 mz nz dK;go_wp2_with fail;go_round
    case rel=>exact⟨k+1,by omega,by go_num,jX.o⟩
    case measure=>simp[intOf];omega
  · have dk:¬(k:Int)<s.frames.length:=by omega
    have p1:=(fD.o.ext zo).c 1 (.slice a1 s.frames.length c1) rfl;have pz:=(fD.o.ext zo).lt;clear zo;go_wp2_with fail;obtain⟨wo,rfl⟩:∃wo:World,wo=wr:=⟨_,rfl⟩;obtain⟨k8,rfl⟩:∃k8:Nat,k8=k:=⟨_,rfl⟩;go_loopw [8] (fun i wr=>∃k:Nat,k≤s.heap.length∧i=.int .i64 k∧Ext w0 wr) (fun i _=>s.heap.length - (intOf i).toNat)
    case atStart=>exact⟨0,Nat.zero_le _,rfl,AV.o⟩
    case round=>
     obtain⟨k,hk,rfl,zo⟩:=hrel;have Dw:=Ys zo;clear p1 pz dk;by_cases bZ:k<s.heap.length
     · have dk:(k:Int)<s.heap.length:=by omega
       have uP:(0:Int)≤k:=by omega
       obtain⟨t,ht⟩:∃t,s.heap[k]?=some t:=⟨s.heap[k]'bZ,List.getElem?_eq_getElem bZ⟩;obtain⟨ba,fa,csa,rfl, -,⟨v1,rfl,hv1⟩, -,hca⟩:=HAH.o.get ht;obtain⟨x1,x2,rfl, -, -⟩:=hv1.form;obtain⟨bb,fb,csb,rfl, -,⟨v3,rfl,TL⟩, -,hcb⟩:=HBH.o.get ht;obtain⟨u1,u2,rfl, -, -⟩:=TL.form;have p2:=(fD.o.ext zo).c 2 (.slice (some ⟨ba,fa,none⟩) s.heap.length c2) rfl;have pz:=(fD.o.ext zo).lt;have hm0:w0.cell? ⟨ba,fa+k*3,none⟩=some (.int .i64 t.of.keeper):=by simpa using hca 0 (.int .i64 t.of.keeper) rfl
       have H9:w0.cell? ⟨bb,fb+k*3,none⟩=some (.int .i64 t.of.keeper):=by simpa using hcb 0 (.int .i64 t.of.keeper) rfl
       obtain⟨T,f,dB,HT⟩:=iq.ex (fun W'=>Ext wr W') wr (Kp.refl _ _);have P2:=fun z=>(fD.o.ext (Dw.o.trans (HT.aJ z))).c 2 (.slice (some ⟨ba,fa,none⟩) s.heap.length c2) rfl;have Q2:=fun z=>(iH.o.ext (Dw.o.trans (HT.aJ z))).c 2 (.slice (some ⟨bb,fb,none⟩) s.heap.length d2) rfl;have m0:=fun z=>(Dw.o.trans (HT.aJ z)).aA hm0;have n0:=fun z=>(Dw.o.trans (HT.aJ z)).aA H9;have m1:=fun z=>(Dw.o.trans (HT.aJ z)).aA (hca 1 (.string t.of.name) rfl);have n1:=fun z=>(Dw.o.trans (HT.aJ z)).aA (hcb 1 (.string t.of.name) rfl);have m2:=fun z=>(Dw.o.trans (HT.aJ z)).aA (hca 2 (.slice x1 t.fields.length x2) rfl);have n2:=fun z=>(Dw.o.trans (HT.aJ z)).aA (hcb 2 (.slice u1 t.fields.length u2) rfl);have HV1:=Ys hv1;have HV3:=Ys TL;have aj:=Ys HT;clear HT hca hcb hv1 TL ht zo hm0 H9;go_upto_region 13 with(fail);(refine dZ aj 29 [([0,1,2,3,4,5,6,7,8,9,10,11,12,13,14,15,16,17,18,19,20,21,22,23,24,25],26)] [27,28] ?_ ?_)
       · exact(Kp.refl _ _).drew
       (refine di [_,_,_,_,_,_,_,_,_,_,_,_,_,_,_,_,_,_,_,_,_,_,_,_,_,_] rfl rfl fun K hK=>?_);(repeat (go_big_quiet_step (fail)));(refine qn hK fun K2 af=>?_);clear hK K;go_wp2_with fail;have jQ:Ext w0 wr.drew:=Dw.o.trans (Kp.refl _ _).drew;refine(Xb wr.drew _ _ _ _ t.fields (HV1.o.ext jy.stays jQ) (HV3.o.ext jy.stays jQ)).mono ?_;rintro e w7 ⟨rfl,rE⟩;have e7:=((Kp.refl _ _).drew:Ext wr wr.drew).trans rE;go_wp2_with fail;(refine kk aj af e7 ?_);clear af K2;(refine dI [_,_] rfl rfl fun K hK=>?_);(repeat (go_big_quiet_step (fail)));(refine qn hK ?_);clear hK K;go_wp2_with fail;go_round
       case rel=>exact⟨k+1,by omega,by go_num,Dw.o.trans e7⟩
       case measure=>simp[intOf];omega
     · have dk:¬(k:Int)<s.heap.length:=by omega
       have p2:=(fD.o.ext zo).c 2 (.slice a2 s.heap.length c2) rfl;have pz:=(fD.o.ext zo).lt;clear zo;go_wp2_with fail;go_ret;exact⟨rfl,bJ.o.trans Dw.o⟩
end Go.Proofs.YtcepdbbapgfcdaaGreat
namespace Go.Proofs.YtcepdbbapgfcdaaGreat.M
theorem agt{p:au}{k:Int}{n m:ByteArray}{args:List Int}{s t:St}(h1:fG p true k n m args=s)(h2:fG p false k n m args=t):
    (s.status=0∧t.status=0)∨s.status=5∨(s.status≠0∧s.status≠5∧t=s∧((eQ p true s 400).status=5∨(eQ p true s 400).status≠5∧eQ p false s 400=eQ p true s 400)):=by
 rcases kF (p:=p) (k:=k) (n:=n) (m:=m) (args:=args)with h|⟨gp,h⟩
 · left;rw[←h1,←h2,h,h];exact⟨rfl,rfl⟩
 · right;by_cases h5:s.status=5
   · exact .inl h5
   · right;obtain⟨e1,r1⟩:=h true;obtain⟨e2,r2⟩:=h false;have bH:t=s:=by
      rcases agu p k n m args with e|e
      · rw[←h1,←h2,e1,e2,e]
      · exact absurd (by rw[←h1,e1];exact e) h5
     rw[h1]at r1;refine⟨by have:=r1.st.1;omega,h5,bH,?_⟩;have q1:eQ p true s ((400:Nat):Int)=_:=qH gp r1 (by omega);have q2:eQ p false s ((400:Nat):Int)=_:=qH gp r1 (by omega);have q1':eQ p true s 400=steps p true 400 s:=q1;have q2':eQ p false s 400=steps p false 400 s:=q2;rw[q1',q2'];by_cases h6:(steps p true 400 s).status=5
     · exact .inl h6
     · exact .inr ⟨h6,((agr gp 400 r1).resolve_right h6).symm⟩
end Go.Proofs.YtcepdbbapgfcdaaGreat.M
namespace Go.Proofs.YtcepdbbapgfcdaaGreat
open Go Go.RowKit
theorem Aw:nD:=fun w l p h x hx=>CF w l p h x hx
theorem agB(w:World)(I:Nat→Prop)(v:Value)(p:M.au)(hp:SliceOf 2 az w I v p)(hI:∀b,I b→b<w.heap.size)(lk:Bool)(k:Int)(n m:ByteArray)(args:List Int)(va:Option Addr)(ac:Nat)(yh:SliceOf 1 iZ w I (.slice va args.length ac) args):
    Calls Tryz.prog 10 #[.agg #[v],.bool lk,.int .i64 k,.string n,.string m,.slice va args.length ac] w fun e w'=>
     (∃cs,e=.returned (.agg cs.toArray)∧aN w' (fun b=>w.heap.size≤b) (M.fG p lk k n m args) cs)∧Ext w w':=DU w I v p hp hI lk (Ys fun _=>Aw) k n m args va ac yh
theorem agy(w:World)(I:Nat→Prop)(v:Value)(p:M.au)(hp:SliceOf 2 az w I v p)(hI:∀b,I b→b<w.heap.size)(lk:Bool)(s:M.St)(cs:List Value)(hs:aN w I s cs)(fuel:Int):
    Calls Tryz.prog 16 #[.agg #[v],.bool lk,.agg cs.toArray,.int .i64 fuel] w fun e w'=>
     (∃cs',e=.returned (.agg cs'.toArray)∧aN w' (fun b=>w.heap.size≤b) (M.eQ p lk s fuel) cs')∧Ext w w':=DV w I v p hp hI lk (Ys fun _=>Aw) s cs hs fuel
theorem agx:Ox 8:=by
 intro W v zs hb;by_cases hl:zs.length≤1048576;rotate_left
 · obtain⟨va,vc,rfl⟩:=hb.form;have Tt:decide ((1048576:Int)<zs.length)=true:=decide_eq_true (by omega);have Bu:(1048576:Int)<zs.length:=by omega
   clear hb hl;go_enter Tryz.func8,Tryz.ntmps8;go_wp2_with fail;go_ret;exact⟨rfl,Kp.refl _ _⟩
 have HD:=Ys (uD W v zs hb);obtain⟨va,vc,rfl⟩:=hb.form;have Bu:((1048576:Int)<zs.length)=False:=eq_false (by omega);clear hb hl;go_enter Tryz.func8,Tryz.ntmps8;go_wp2_with fail;refine HD.o.mono ?_;rintro e w1 ⟨⟨p,pa,pc,n,m,ga,gc,args,rfl,hp,ha⟩,bA⟩;obtain⟨w2,iV,bP,b2⟩:=nu w1 #[.slice pa p.length pc] 25;have C9:Zs (∀W',Ext w2 W'→SliceOf 2 az W' (fun b=>b<W'.heap.size) (.slice pa p.length pc) p):=Ys fun W' Bn=>((hp.ext az.stays bP).ext az.stays Bn).keep az.stays (fun _ _ _ _ h=>h) (fun b hb=>by have:=hb.2;have:=bP.size;have:=Bn.size;omega);have AP:Zs (∀W',Ext w2 W'→SliceOf 1 iZ W' (fun b=>b<W'.heap.size) (.slice ga args.length gc) args):=Ys fun W' Bn=>(((ha.ext iZ.stays bP).ext iZ.stays Bn).inside (fun _ _ _ _ h=>h) (by omega)).keep iZ.stays (fun _ _ _ _ h=>h) (fun b hb=>hb.2);have D5:Zs (∀W' lk,Ext w2 W'→Calls Tryz.prog 10 #[.agg #[.slice pa p.length pc],.bool lk,.int .i64 0,.string n,.string m,.slice ga args.length gc] W' fun e w'=>(∃cs,e=.returned (.agg cs.toArray)∧aN w' (fun b=>W'.heap.size≤b) (M.fG p lk 0 n m args) cs)∧Ext W' w'):=Ys fun W' lk Bn=>
  agB W' (fun b=>b<W'.heap.size) (.slice pa p.length pc) p (C9.o W' Bn) (fun _ h=>h) lk 0 n m args ga gc (AP.o W' Bn)
 have lD:=Ys b2;have sV:=Ys iV;have fD:=Ys (bA.trans bP);have y0:=b2.c 0 (.slice pa p.length pc) rfl;have yz:=b2.lt;clear hp ha bA iV bP b2;go_wp2_with fail;rw[←sV.o];refine(D5.o w2 true (Kp.refl _ _)).mono ?_;rintro e w3 ⟨⟨cs,rfl,hs⟩,dm⟩;obtain⟨s,Ms⟩:∃s,M.fG p true 0 n m args=s:=⟨_,rfl⟩;rw[Ms]at hs;obtain⟨a1,c1,a2,c2,a3,c3,rfl, -, -, -⟩:=hs.form;obtain⟨w4,o6,dA,b4⟩:=nu w3 #[.int .i64 s.status,.slice a1 s.frames.length c1,.slice a2 s.heap.length c2,.slice a3 s.outs.length c3,.int .i64 s.back.kind,.int .i64 s.back.n] 34;have HSN:=Ys Ms;have Wi:=dm.trans dA;have R5:Zs (∀W',Ext w4 W'→aN W' (fun b=>b<W'.heap.size) s [.int .i64 s.status,.slice a1 s.frames.length c1,.slice a2 s.heap.length c2,.slice a3 s.outs.length c3,.int .i64 s.back.kind,.int .i64 s.back.n]):=Ys fun W' Bn=>aN.inside (aN.stays _ _ _ _ _ _ (Ext.same (dA.trans Bn)) (fun _ h=>h) hs);have iB:=Ys b4;have gZ:=Ys Wi;have zD:=Ys o6;have Gz:=Ys (lD.o.ext Wi);clear hs Ms dm dA Wi o6 b4 y0 yz;have y0:=Gz.o.c 0 (.slice pa p.length pc) rfl;have yz:=Gz.o.lt;go_upto_region 5 with(fail);rw[←zD.o];go_wp2_with fail;refine(D5.o w4 false gZ.o).mono ?_;rintro e w5 ⟨⟨cs,rfl,ht⟩,dC⟩;obtain⟨t,htn⟩:∃t,M.fG p false 0 n m args=t:=⟨_,rfl⟩;rw[htn]at ht;have HLC:=Ys (M.agt HSN.o htn);obtain⟨e1,g1,e2,g2,e3,g3,rfl, -, -, -⟩:=ht.form;obtain⟨w6,nk,dK,b6⟩:=nu w5 #[.int .i64 t.status,.slice e1 t.frames.length g1,.slice e2 t.heap.length g2,.slice e3 t.outs.length g3,.int .i64 t.back.kind,.int .i64 t.back.n] 34;have PL:=dC.trans dK;have HT6:Zs (∀W',Ext w6 W'→aN W' (fun b=>b<W'.heap.size) t [.int .i64 t.status,.slice e1 t.frames.length g1,.slice e2 t.heap.length g2,.slice e3 t.outs.length g3,.int .i64 t.back.kind,.int .i64 t.back.n]):=Ys fun W' Bn=>aN.inside (aN.stays _ _ _ _ _ _ (Ext.same (dK.trans Bn)) (fun _ h=>h) ht);have bg:=Ys b6;have ac7:=Ys (iB.o.ext PL);have jX:=Ys PL;have adq:=Ys (gZ.o.trans PL);have Ch:=Ys nk;clear ht htn dC dK PL nk b6 y0 yz;have s0:=(ac7.o).c 0 (.int .i64 s.status) rfl;have s1:=(ac7.o).c 1 (.slice a1 s.frames.length c1) rfl;have s2:=(ac7.o).c 2 (.slice a2 s.heap.length c2) rfl;have s3:=(ac7.o).c 3 (.slice a3 s.outs.length c3) rfl;have s4:=(ac7.o).c 4 (.int .i64 s.back.kind) rfl;have s5:=(ac7.o).c 5 (.int .i64 s.back.n) rfl;have sz:=(ac7.o).lt
 have t0:=(bg.o).c 0 (.int .i64 t.status) rfl;have t1:=(bg.o).c 1 (.slice e1 t.frames.length g1) rfl;have t2:=(bg.o).c 2 (.slice e2 t.heap.length g2) rfl;have t3:=(bg.o).c 3 (.slice e3 t.outs.length g3) rfl;have t4:=(bg.o).c 4 (.int .i64 t.back.kind) rfl;have t5:=(bg.o).c 5 (.int .i64 t.back.n) rfl;have tz:=(bg.o).lt;have y0:=(Gz.o.ext jX.o).c 0 (.slice pa p.length pc) rfl;have yz:=(Gz.o.ext jX.o).lt;go_upto_region 6 with(fail);rw[←Ch.o];have hEW:=fD.o.trans adq.o;have HEW:=Ys hEW;clear hEW;rcases HLC.o with⟨q1,q2⟩|q1|⟨q1,q2,q3,q4⟩
 · have k1:(s.status==0)=true:=beq_iff_eq.2 q1;have k2:(s.status==5)=false:=by rw[q1];rfl
   have k3:(t.status==0)=true:=beq_iff_eq.2 q2;clear q1 q2;go_wp2_with (first|(go_at_call 12;refine(wK _).mono ?_;rintro e w8 ⟨rfl,rfl⟩)|fail);go_ret;exact⟨rfl,HEW.o⟩
 · have k1:(s.status==0)=false:=by rw[q1];rfl
   have k2:(s.status==5)=true:=beq_iff_eq.2 q1;clear q1;go_wp2_with (first|(go_at_call 12;refine(wK _).mono ?_;rintro e w8 ⟨rfl,rfl⟩)|fail);go_ret;exact⟨rfl,HEW.o⟩
 · have k1:(s.status==0)=false:=beq_eq_false_iff_ne.2 q1;have k2:(s.status==5)=false:=beq_eq_false_iff_ne.2 q2;have HQ4:=Ys q4;have HQ3:=Ys q3;clear q1 q2 q3 q4;go_wp2_with fail;refine(agy w6 (fun b=>b<w6.heap.size) (.slice pa p.length pc) p (C9.o w6 adq.o) (fun _ h=>h) true s _ (R5.o w6 jX.o) 400).mono ?_;rintro e w7 ⟨⟨cs,rfl,hx⟩,rE⟩;obtain⟨x,hxn⟩:∃x,M.eQ p true s 400=x:=⟨_,rfl⟩;rw[hxn]at hx;have hq:=HQ4.o;rw[hxn]at hq;obtain⟨b1,d1,b2,d2,b3,d3,rfl, -, -, -⟩:=hx.form;obtain⟨w8,TM,mY,b8⟩:=nu w7 #[.int .i64 x.status,.slice b1 x.frames.length d1,.slice b2 x.heap.length d2,.slice b3 x.outs.length d3,.int .i64 x.back.kind,.int .i64 x.back.n] 34;have agz:=rE.trans mY;have HX8:Zs (∀W',Ext w8 W'→aN W' (fun b=>w6.heap.size≤b) x [.int .i64 x.status,.slice b1 x.frames.length d1,.slice b2 x.heap.length d2,.slice b3 x.outs.length d3,.int .i64 x.back.kind,.int .i64 x.back.n]):=Ys fun W' Bn=>aN.stays _ _ _ _ _ _ (Ext.same (mY.trans Bn)) (fun _ h=>h) hx;have vB:=Ys b8;have Y2:=Ys (bg.o.ext agz);have agC:=Ys ((Gz.o.ext jX.o).ext agz);have mW:=Ys agz;have HW8:=Ys TM;clear hx rE mY agz TM b8 y0 yz k1 k2 s0 t0 s1 t1 s2 t2 s3 t3 s4 t4 s5 t5 sz tz;have u0:=(vB.o).c 0 (.int .i64 x.status) rfl;have u1:=(vB.o).c 1 (.slice b1 x.frames.length d1) rfl;have u2:=(vB.o).c 2 (.slice b2 x.heap.length d2) rfl;have u3:=(vB.o).c 3 (.slice b3 x.outs.length d3) rfl;have u4:=(vB.o).c 4 (.int .i64 x.back.kind) rfl;have u5:=(vB.o).c 5 (.int .i64 x.back.n) rfl;have uz:=(vB.o).lt;go_upto_region 9 with(fail);rw[←HW8.o];rcases hq with q5|⟨q5,q6⟩
   · have k5:(x.status==5)=true:=beq_iff_eq.2 q5;clear q5 hxn;go_wp2_with fail;go_ret;exact⟨rfl,HEW.o.trans mW.o⟩
   · have k5:(x.status==5)=false:=beq_eq_false_iff_ne.2 q5;have hts:=HQ3.o;subst hts;have Q9:=Ys q6;clear q5 q6 hxn;obtain⟨T,f,dB,HT⟩:=iq.ex (fun W'=>Ext w8 W') w8 (Kp.refl _ _);have P0:=fun z=>(agC.o.ext (HT.aJ z)).c 0 (.slice pa p.length pc) rfl;have t0:=fun z=>(Y2.o.ext (HT.aJ z)).c 0 (.int .i64 t.status) rfl;have t1:=fun z=>(Y2.o.ext (HT.aJ z)).c 1 (.slice e1 t.frames.length g1) rfl;have t2:=fun z=>(Y2.o.ext (HT.aJ z)).c 2 (.slice e2 t.heap.length g2) rfl;have t3:=fun z=>(Y2.o.ext (HT.aJ z)).c 3 (.slice e3 t.outs.length g3) rfl;have t4:=fun z=>(Y2.o.ext (HT.aJ z)).c 4 (.int .i64 t.back.kind) rfl;have t5:=fun z=>(Y2.o.ext (HT.aJ z)).c 5 (.int .i64 t.back.n) rfl;have x0:=fun z=>(vB.o.ext (HT.aJ z)).c 0 (.int .i64 x.status) rfl;have x1:=fun z=>(vB.o.ext (HT.aJ z)).c 1 (.slice b1 x.frames.length d1) rfl;have x2:=fun z=>(vB.o.ext (HT.aJ z)).c 2 (.slice b2 x.heap.length d2) rfl;have x3:=fun z=>(vB.o.ext (HT.aJ z)).c 3 (.slice b3 x.outs.length d3) rfl;have x4:=fun z=>(vB.o.ext (HT.aJ z)).c 4 (.int .i64 x.back.kind) rfl;have x5:=fun z=>(vB.o.ext (HT.aJ z)).c 5 (.int .i64 x.back.n) rfl;have aj:=Ys HT;clear HT;go_upto_region 11 with(fail);(refine dZ aj 5 [([0,1,2],3),([],4)] [] ?_ ?_)
     · exact(Kp.refl _ _).drew
     have jQ:Ext w8 w8.drew:=(Kp.refl _ _).drew;generalize w8.drew=wd at jQ ⊢;(refine di [_,_,_] rfl rfl fun K hK=>?_);(repeat (go_big_quiet_step (fail)));(refine qn hK fun K2 af=>?_);clear hK K;go_wp2_with fail;have xU:=agy wd (fun b=>b<wd.heap.size) (.slice pa p.length pc) p (C9.o wd ((adq.o.trans mW.o).trans jQ)) (fun _ h=>h) false t _ (HT6.o wd (mW.o.trans jQ)) 400;rw[Q9.o]at xU;refine xU.mono ?_;rintro e w9 ⟨⟨cs,rfl,hy⟩,oZ⟩;have e9:=jQ.trans oZ;obtain⟨i1,j1,i2,j2,i3,j3,rfl, -, -, -⟩:=hy.form;have HLR:=Ys (agA w9 _ _ x _ _ (HX8.o w9 e9) hy);clear hy oZ xU;go_wp2_with fail;(refine kk aj af e9 ?_);clear af K2;(refine ic rfl fun K2 af=>?_);go_wp2_with fail;refine HLR.o.mono ?_;rintro e gN ⟨rfl,kV⟩;have e10:=e9.trans kV;go_wp2_with fail;(refine kk aj af e10 ?_);clear af K2;(refine dW ?_);go_wp2_with fail;go_ret;exact⟨rfl,(HEW.o.trans mW.o).trans e10⟩
end Go.Proofs.YtcepdbbapgfcdaaGreat
namespace Go.Proofs.YtcepdbbapgfcdaaGreat
open Go Go.ChangeShapes Go.WideShapes Go.ChangeAt Go.RowKit
theorem Tryz.own:ownKnob Tryz.prog.godebug=none:=by kernel_rfl
theorem Tryz.laidOut:laidOutB Tryz.prog=true:=by kernel_rfl
theorem lF:Tryz.prog.cellsOf 5=1:=by kernel_rfl
theorem bytes_at{H:Type}{enc:TypeId×Value→H}{W:World}{v:Value}{d:DataW H}{p:List MemPlace}(hv:∃a len cap,v=.slice a len cap)(h0:DataW.Trod enc Tryz.prog W 0 (fun _=>true) true 22 v d p):∃zs,BytesAt W v zs:=by
 obtain⟨a0,len,cap,rfl⟩:=hv;obtain⟨fuel,hf⟩:=h0;rcases open_ints Tryz.underlying22 Tryz.underlying5 lF hf with⟨bO,hx⟩|⟨a,len',cap',zs,bO,_,hl,hm,hz,hx,ou,EW⟩
 · simp[Value.cells]at bO;obtain⟨rfl,rfl,rfl⟩:=bO;exact⟨[],.inl ⟨rfl,rfl⟩⟩
 · simp[Value.cells]at bO;obtain⟨rfl,rfl,rfl⟩:=bO;simp only[if_true]at hz;refine⟨zs.take len,.inr ⟨a,cap,by rw[List.length_take,Nat.min_eq_left (by omega)],by rw[List.length_take];omega,fun i hi=>?_,fun n hn=>?_⟩⟩
   · rw[List.length_take]at hi;have:=ou i (by omega);rw[this];congr 2;simp only[List.getD,List.getElem?_take];rw[if_pos (by omega)]
   · have:=EW n (List.mem_of_mem_take hn);simp[Lit.wf,IntKind.min,IntKind.max,IntKind.bits,IntKind.signed]at this;omega
theorem qC{H:Type}{enc:TypeId×Value→H}{fn:Func}{s:ChangeSpec}{W W':World}{v:Value}{d:DataW H}{before:List MemPlace}(hp:fn.params=#[22])(hr:fn.resultTypes=#[4])(hv:s.vars=[])
    (hs:s.fn H ([d]++[])={results:=[.lit (.bool true)],args:=[d]}) (hW:DataW.Whole enc Tryz.prog fn.params.toList s.vars false W [v] [d] [] before)
    (h0:DataW.Trod enc Tryz.prog W 0 (fun _=>true) true 22 v d before) (hE:Ext W W'):s.post enc Tryz.prog fn false true false false W #[v] (.bool true) W':=by
 have bZ:∀x∈before,x.block<W.heap.size:=fun x hx=>by simpa using hW.lt x hx
 have Sk:=Ext.AB hE;refine⟨[d],[],before,[],before,[],hW,?_,?_,?_,Sk.frame _,fun h=>by cases h⟩
 · rw[hs,hr];exact trodAll_mk1 (shut_bool Tryz.underlying4 true)
 · rw[hs,hp];exact trodAll_mk1 (Below.trod Tryz.laidOut (by kernel_rfl) (of_decide_eq_true (by kernel_rfl)) h0 Sk bZ)
 · rw[hs,hv];exact(rfl:([]:List MemPlace)=[])
end Go.Proofs.YtcepdbbapgfcdaaGreat
namespace Go.Proofs.YtcepdbbapgfcdaaGreat
open Go Go.ChangeShapes Go.WideShapes Go.ChangeAt Go.RowKit
theorem agp(os:Os)(started:os.Started)(H:Type)(enc:TypeId×Value→H):
    ReturnsInHanded {} Tryz.checked os 8 .any (Rows.fnVmLookSpec.pre6 enc Tryz.prog Tryz.f8 Rows.fnVmLookRow.domain false) (Rows.fnVmLookSpec.post enc Tryz.prog Tryz.f8 false true false false):=by
 refine returnsInHanded_of_change (C:=Tryz.checked) Tryz.own started (by kernel_rfl) Tryz.func8
  (ChangeSpec.witness6 (enc:=enc) (C:=Tryz.checked) false ⟨#[],#[.slice none 0 0],[]⟩ 8 (by kernel_rfl) (by kernel_rfl) (by kernel_rfl) (by kernel_rfl)) ?_
 intro W base args ds gs before EU hW hcnd _;have ET:∀(j:Nat) t v,Tryz.f8.params[j]?=some t→args[j]?=some v→Value.okWide Tryz.prog W .any base t v:=EU;have Bn:=hW;obtain⟨p,q,Z5,hV,rfl,hfz,EL⟩:=hW;have hA:DataW.TrodAll enc Tryz.prog W 0 (fun _=>true) true Tryz.f8.params.toList args.toList ds p:=Z5;rw[Tryz.params8]at hA ET;obtain⟨v0,d0,rfl,rfl,h0⟩:=trodAll_one hA;obtain⟨rfl,rfl⟩:=trodVars_none hV;simp only[List.append_nil]at Bn;obtain⟨zs,hb⟩:=bytes_at (okWide_slice Tryz.underlying22 (ET 0 22 v0 rfl rfl)) h0;refine(agx W v0 zs hb).mono fun e W' ⟨he,hE⟩=>?_;subst he;exact⟨_,rfl,qC (fn:=Tryz.f8) Tryz.params8 rfl rfl rfl Bn h0 hE⟩
theorem fnVmLook_holds:Rows.FnVmLookSaid:=
 OpenClaim.holds_of_wide 8 Tryz.f8 rfl rfl rfl rfl rfl rfl rfl ⟨rfl,rfl,rfl,rfl,rfl⟩ rfl rfl rfl rfl rfl (by kernel_rfl) Tryz.func8 (by kernel_rfl)
  (of_decide_eq_true (by kernel_rfl)) (by unfold Func.isWrapper;rw[if_neg (by decide+kernel)];exact⟨rfl,rfl⟩)
  (fun os started H enc _=>agp os started H enc)
#print axioms fnVmLook_holds
end Go.Proofs.YtcepdbbapgfcdaaGreat
