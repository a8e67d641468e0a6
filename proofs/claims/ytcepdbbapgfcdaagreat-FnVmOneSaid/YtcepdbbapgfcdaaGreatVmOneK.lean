/- FnVmOne: for every input the program returns true, and the input reads as it did. No condition. -/
import Derived.Test.YtcepdbbapgfcdaaGreatVmCoreLc
import Derived.Test.YtcepdbbapgfcdaaGreatVmCoret
import Derived.Test.YtcepdbbapgfcdaaGreatRows
import Derived.ProofKit
import Derived.Carry
set_option maxRecDepth 100000
set_option maxHeartbeats 4000000
set_option linter.unusedSimpArgs false
set_option linter.unusedVariables false
namespace Go.Proofs.YtcepdbbapgfcdaaGreat.M
theorem eH.link{p:au}:eH p dD:=⟨⟨by simp[dD,ib],by simp[dD],by simp[dD],by simp[dD],by simp[dD],by simp[dD,bE,ek]⟩,by simp[dD],by simp[dD]⟩
theorem Good.one{p:au}{q:Ref}(hq:cZ p q=true):Good p ⟨1,[],[fresh p q],[],ek⟩:=by
 have h0:Good p ⟨1,[],[],[],ek⟩:=⟨by simp[ib],by simp,by simp,by simp,by simp,by simp[bE,ek]⟩;exact h0.grow hq (by simp)
theorem lM{p:au}(gp:bU p=true){lk:Bool}{k:Int}{n m:ByteArray}{args:List Int}(ha:args.all fT=true):eH p (start p lk k n m args):=by
 unfold start;split
 · rename_i hf;split
   · rename_i hc;obtain⟨rr,Mr⟩:=jI hc.1;have hx:=jW Mr;have hlen:(method p (call p k n m).1).args.length=args.length:=by
      have:=hc.2;unfold iK at this;simp only[Bool.and_eq_true,decide_eq_true_eq]at this;exact this.1
     refine jR.runs (nE gp (Good.one hf.2) rfl hx ?_ ?_)
     · intro v hv;rcases List.mem_cons.1 hv with rfl|hv
       · exact qG _ (by omega) (by simp)
       · obtain⟨x,hx,rfl⟩:=List.mem_map.1 hv;exact gV _ (List.all_eq_true.1 ha x hx)
     · have:=(lL (gI gp hx).1).args;simp;omega
   · exact eH.link
 · exact eH.link
theorem qH{p:au}{lk:Bool}{s:St}{f:Nat}(gp:bU p=true)(hs:eH p s)(hf:f≤400):eQ p lk s f=steps p lk f s:=by
 unfold eQ;rw[decide_eq_true (by omega),gp,sP.2 hs];rfl
end Go.Proofs.YtcepdbbapgfcdaaGreat.M
namespace Go.Proofs.YtcepdbbapgfcdaaGreat.M
open Go
def dw(h h':List iC):Prop:=h.length≤h'.length∧h'.length≤h.length+1∧∀(k:Nat) (o:iC),h[k]?=some o→∃o',h'[k]?=some o'∧o'.of=o.of∧o'.fields.length=o.fields.length
def ky(o o':List Int):Prop:=o'=o∨∃k,o'=o++[k]
def iE(f f':List Fr):Prop:=∃r t,f=r++[t]∧((∃t',f'=r++[t'])∨(∃t' x,f'=r++[t',x])∨(∃r0 c c',r=r0++[c]∧f'=r0++[c']))
structure bG(op:Int)(s:St)(x:Int×St):Prop where
 heap:dw s.heap x.2.heap
 outs:ky s.outs x.2.outs
 frames:x.1=1→iE s.frames x.2.frames
 deep:x.1=7→8≤s.frames.length
 room:x.1=8→12≤s.heap.length
 null:x.1=3→op=7∨op=8∨op=9
 link:x.1=4→op=6∨op=7∨op=8∨op=9∨op=15
 cast:x.1=6→op=15
 big:x.1=9→op=4
 done:x.1=2→op=10
theorem bG.of{op:Int}{s s1:St}{n:Int}(hd:dw s.heap s1.heap)(ho:ky s.outs s1.outs)(h1:n=1→iE s.frames s1.frames)(h7:n=7→8≤s.frames.length)(h8:n=8→12≤s.heap.length)(h3:n=3→op=7∨op=8∨op=9)
    (h4:n=4→op=6∨op=7∨op=8∨op=9∨op=15) (h6:n=6→op=15) (h9:n=9→op=4) (h2:n=2→op=10):bG op s (n,s1):=⟨hd,ho,h1,h7,h8,h3,h4,h6,h9,h2⟩
theorem dw.refl(h:List iC):dw h h:=⟨Nat.le_refl _,Nat.le_succ _,fun _ o ho=>⟨o,ho,rfl,rfl⟩⟩
theorem dw.snoc(h:List iC)(x:iC):dw h (h++[x]):=⟨by simp,by simp,fun k o ho=>⟨o,by rw[List.getElem?_append_left (List.getElem?_eq_some_iff.1 ho).1];exact ho,rfl,rfl⟩⟩
theorem dw.set(h:List iC)(n a:Int)(v:Val):dw h (dF h n a v):=by
 refine⟨by simp[dF],by simp[dF],fun k o ho=>?_⟩;unfold dF;rw[List.getElem?_modify,ho];by_cases e:n.toNat=k
 · exact⟨{o with fields:=o.fields.set a.toNat v},by simp[e],rfl,by simp⟩
 · exact⟨o,by simp[e],rfl,rfl⟩
section
variable {p:au} {s s1:St} {r:List Fr} {t t1:Fr} {op:Int}
structure Mid(s s1:St)(r:List Fr):Prop where
 fr:∃t,s.frames=r++[t]
 vG:∃t,s1.frames=r++[t]
 heap:dw s.heap s1.heap
 outs:ky s.outs s1.outs
theorem Mid.refl(h:s.frames=r++[t]):Mid s s r:=⟨⟨_,h⟩,⟨_,h⟩,dw.refl _,.inl rfl⟩
theorem Mid.bad(h:Mid s s1 r)(hd:dw s.heap s1.heap){n:Int}(h1:n≠1)(h7:n≠7)(h8:n=8→12≤s.heap.length)(h3:n=3→op=7∨op=8∨op=9)(h4:n=4→op=6∨op=7∨op=8∨op=9∨op=15)
    (h6:n=6→op=15) (h9:n=9→op=4) (h2:n=2→op=10):bG op s (n,s1):=
 bG.of hd h.outs (fun e=>absurd e h1) (fun e=>absurd e h7) h8 h3 h4 h6 h9 h2
theorem Mid.ten(h:Mid s s1 r):bG op s (10,s1):=
 bG.of h.heap h.outs (fun e=>absurd e (by decide)) (fun e=>absurd e (by decide)) (fun e=>absurd e (by decide)) (fun e=>absurd e (by decide)) (fun e=>absurd e (by decide)) (fun e=>absurd e (by decide)) (fun e=>absurd e (by decide)) (fun e=>absurd e (by decide))
theorem Mid.one{s2:St}(h1:dw s.heap s2.heap)(h2:ky s.outs s2.outs)(h3:iE s.frames s2.frames):bG op s (1,s2):=
 bG.of h1 h2 (fun _=>h3) (fun e=>absurd e (by decide)) (fun e=>absurd e (by decide)) (fun e=>absurd e (by decide)) (fun e=>absurd e (by decide)) (fun e=>absurd e (by decide)) (fun e=>absurd e (by decide)) (fun e=>absurd e (by decide))
theorem Mid.jump(h:Mid s s1 r)(k:Int):bG op s (jump p k s1):=by
 unfold M.jump;split
 · exact h.ten
 · obtain⟨t,ht⟩:=h.fr;obtain⟨t1,ni⟩:=h.vG;rw[dY ni];exact Mid.one h.heap h.outs ⟨r,t,ht,.inl ⟨_,rfl⟩⟩
theorem Mid.next(h:Mid s s1 r):bG op s (next p s1):=h.jump _
theorem Mid.turn(h:Mid s s1 r)(f:Fr→Fr):Mid s (yB s1 f) r:=by
 obtain⟨t1,ni⟩:=h.vG;rw[dY ni];exact⟨h.fr,⟨_,rfl⟩,h.heap,h.outs⟩
theorem Mid.push(h:Mid s s1 r)(v:Val):bG op s (push p v s1):=by
 unfold M.push;split
 · exact h.ten
 · exact(h.turn _).next
theorem Mid.dE{c:Nat}{vs:List Val}{s2:St}(h:Mid s s1 r)(hp:dE c s1=some (vs,s2)):Mid s s2 r:=by
 obtain⟨t1,ni⟩:=h.vG;obtain⟨-, -, -,rfl⟩:=dN ni hp;exact⟨h.fr,⟨_,rfl⟩,h.heap,h.outs⟩
theorem Mid.pop{v:Val}{s2:St}(h:Mid s s1 r)(hp:pop s1=some (v,s2)):Mid s s2 r:=by
 unfold M.pop at hp;rw[Option.map_eq_some_iff]at hp;obtain⟨⟨vs,s3⟩,h1,h2⟩:=hp;cases h2;exact h.dE h1
theorem Mid.enter(h:Mid s s1 r)(hl:s1.frames.length=s.frames.length){lk:Bool}{x:kT}{vs:List Val}:bG op s (enter p lk x vs s1):=by
 unfold M.enter;split
 · rename_i hd;exact bG.of h.heap h.outs (fun e=>absurd e (by decide)) (fun _=>by omega) (fun e=>absurd e (by decide)) (fun e=>absurd e (by decide)) (fun e=>absurd e (by decide)) (fun e=>absurd e (by decide)) (fun e=>absurd e (by decide)) (fun e=>absurd e (by decide))
 · split
   · exact bG.of h.heap h.outs (fun e=>absurd e (by decide)) (fun e=>absurd e (by decide)) (fun e=>absurd e (by decide)) (fun e=>absurd e (by decide)) (fun e=>absurd e (by decide)) (fun e=>absurd e (by decide)) (fun e=>absurd e (by decide)) (fun e=>absurd e (by decide))
   · split
     · obtain⟨t,ht⟩:=h.fr;obtain⟨t1,ni⟩:=h.vG;exact Mid.one h.heap h.outs ⟨r,t,ht,.inr (.inl ⟨t1,_,by rw[ni,List.append_assoc];rfl⟩)⟩
     · exact h.ten
theorem Mid.len(h:Mid s s1 r):s1.frames.length=s.frames.length:=by
 obtain⟨t,ht⟩:=h.fr;obtain⟨t1,ni⟩:=h.vG;rw[ht,ni];simp
theorem Mid.obj(h:Mid s s1 r){v:Val}{q:Ref}(hn:object p v q s1≠1)(ho:op=7∨op=8∨op=9):bG op s (object p v q s1,s1):=by
 have : object p v q s1 = 3 ∨ object p v q s1 = 10 ∨ object p v q s1 = 1 := by
  unfold object;split
  · exact .inl rfl
  · split
    · exact .inr (.inl rfl)
    · split
      · exact .inr (.inr rfl)
      · exact .inr (.inl rfl)
 rcases this with e|e|e
 · rw[e];exact h.bad h.heap (by decide) (by decide) (fun e=>absurd e (by decide)) (fun _=>ho) (fun e=>absurd e (by decide)) (fun e=>absurd e (by decide)) (fun e=>absurd e (by decide)) (fun e=>absurd e (by decide))
 · rw[e];exact h.ten
 · exact absurd e hn
theorem Mid.four(h:Mid s s1 r)(ho:op=6∨op=7∨op=8∨op=9∨op=15):bG op s (4,s1):=
 h.bad h.heap (by decide) (by decide) (fun e=>absurd e (by decide)) (fun e=>absurd e (by decide)) (fun _=>ho) (fun e=>absurd e (by decide)) (fun e=>absurd e (by decide)) (fun e=>absurd e (by decide))
theorem tQ(h:s.frames=r++[t]){lk:Bool}{i:Ins}(h15:i.op≤15)(h1:1≤i.op):bG i.op s (aM p lk i s):=by
 have hM:Mid s s r:=Mid.refl h;unfold aM;by_cases e1:i.op=1
 · rw[if_pos e1];exact hM.push _
 rw[if_neg e1];by_cases e2:i.op=2
 · rw[if_pos e2];split
   · exact hM.ten
   · exact hM.push _
 rw[if_neg e2];by_cases e3:i.op=3
 · rw[if_pos e3];split
   · exact hM.ten
   · rename_i hp;exact((hM.pop hp).turn _).next
 rw[if_neg e3];by_cases e4:i.op=4
 · rw [if_pos e4]; have h4 := e4; split
   · rename_i hp;have bT:=hM.dE hp;split
     · split
       · exact bT.push _
       · exact bT.bad bT.heap (by decide) (by decide) (fun e=>absurd e (by decide)) (fun e=>absurd e (by decide)) (fun e=>absurd e (by decide)) (fun e=>absurd e (by decide)) (fun _=>h4) (fun e=>absurd e (by decide))
     · exact bT.ten
   · exact hM.ten
 rw[if_neg e4];by_cases e5:i.op=5
 · rw[if_pos e5];exact hM.push _
 rw[if_neg e5];by_cases e6:i.op=6
 · rw[if_pos e6];have h6:=e6;split
   · split
     · rename_i hr;exact hM.bad hM.heap (by decide) (by decide) (fun _=>hr) (fun e=>absurd e (by decide)) (fun e=>absurd e (by decide)) (fun e=>absurd e (by decide)) (fun e=>absurd e (by decide)) (fun e=>absurd e (by decide))
     · have bT:Mid s (create p (jA p i.name s).1 s).2 r:=⟨⟨_,h⟩,⟨_,h⟩,dw.snoc _ _,.inl rfl⟩;exact bT.push _
   · exact hM.four (.inl h6)
 rw[if_neg e6];by_cases e7:i.op=7
 · rw [if_pos e7]; have h7 := e7; split
   · split
     · exact hM.ten
     · rename_i hp;have bT:=hM.pop hp;split
       · exact bT.push _
       · rename_i ho;exact bT.obj ho (.inl h7)
   · exact hM.four (.inr (.inl h7))
 rw[if_neg e7];by_cases e8:i.op=8
 · rw [if_pos e8]; have h8 := e8; split
   · split
     · rename_i hp;have bT:=hM.dE hp;split
       · split
         · have vL:Mid s {s with frames:=s.frames} r:=hM;refine Mid.next (r:=r) ⟨bT.fr,bT.vG,?_,bT.outs⟩;obtain⟨-, -, -,e⟩:=dN h hp;rw[e];exact dw.set _ _ _ _
         · rename_i ho;exact bT.obj ho (.inr (.inl h8))
       · exact bT.ten
     · exact hM.ten
   · exact hM.four (.inr (.inr (.inl h8)))
 rw[if_neg e8];by_cases e9:i.op=9
 · rw [if_pos e9]; have h9 := e9; split
   · split
     · rename_i hp;have bT:=hM.dE hp;split
       · split
         · exact bT.enter bT.len
         · exact bT.ten
       · rename_i ho;exact bT.obj ho (.inr (.inr h9))
     · exact hM.ten
   · exact hM.four (.inr (.inr (.inr (.inl h9))))
 rw[if_neg e9];by_cases e10:i.op=10
 · rw [if_pos e10]; have KM := e10; split
   · exact hM.ten
   · rename_i v s1 hp;have bT:=hM.pop hp;split
     · split
       · exact bG.of (n:=2) bT.heap bT.outs (fun e=>absurd e (by decide)) (fun e=>absurd e (by decide)) (fun e=>absurd e (by decide)) (fun e=>absurd e (by decide)) (fun e=>absurd e (by decide)) (fun e=>absurd e (by decide)) (fun e=>absurd e (by decide)) (fun _=>KM)
       · rename_i hl;obtain⟨t1,ni⟩:=bT.vG;have hr:r≠[]:=by
          intro e;rw[ni,e]at hl;exact hl rfl
         obtain⟨r0,c,rfl⟩:∃r0 c,r=r0++[c]:=⟨r.dropLast,r.getLast hr,(List.dropLast_concat_getLast hr).symm⟩;have hd:s1.frames.dropLast=r0++[c]:=by rw[ni];simp
         unfold push;split
         · exact bG.of bT.heap bT.outs (fun e=>absurd e (by decide)) (fun e=>absurd e (by decide)) (fun e=>absurd e (by decide)) (fun e=>absurd e (by decide)) (fun e=>absurd e (by decide)) (fun e=>absurd e (by decide)) (fun e=>absurd e (by decide)) (fun e=>absurd e (by decide))
         · rw[dY (s:={s1 with frames:=s1.frames.dropLast}) hd];unfold next jump
           split
           · exact bG.of bT.heap bT.outs (fun e=>absurd e (by decide)) (fun e=>absurd e (by decide)) (fun e=>absurd e (by decide)) (fun e=>absurd e (by decide)) (fun e=>absurd e (by decide)) (fun e=>absurd e (by decide)) (fun e=>absurd e (by decide)) (fun e=>absurd e (by decide))
           · rw[dY (r:=r0) rfl];exact Mid.one bT.heap bT.outs ⟨r0++[c],t,h,.inr (.inr ⟨r0,c,_,rfl,rfl⟩)⟩
     · exact bT.ten
 rw[if_neg e10];by_cases e11:i.op=11
 · rw [if_pos e11]; split
   · exact hM.ten
   · rename_i hp;have bT:=hM.pop hp;split
     · split
       · exact bT.jump _
       · exact bT.next
     · exact bT.ten
 rw[if_neg e11];by_cases e12:i.op=12
 · rw [if_pos e12]; split
   · exact hM.ten
   · rename_i hp;have bT:=hM.pop hp;split
     · split
       · exact bT.jump _
       · exact bT.next
     · exact bT.ten
 rw[if_neg e12];by_cases e13:i.op=13
 · rw[if_pos e13];exact hM.jump _
 rw[if_neg e13];by_cases e14:i.op=14
 · rw [if_pos e14]; split
   · exact hM.ten
   · rename_i v s1 hp;have bT:=hM.pop hp;have yu:s1.outs=s.outs:=by
      unfold pop at hp;rw[Option.map_eq_some_iff]at hp;obtain⟨⟨vs,s3⟩,h1,h2⟩:=hp;cases h2;obtain⟨-, -, -,e⟩:=dN h h1;rw[e]
     split
     · refine Mid.next (r:=r) ?_;split
       · exact⟨bT.fr,bT.vG,bT.heap,.inr ⟨v.n,by simp[yu]⟩⟩
       · exact bT
     · exact bT.ten
 rw[if_neg e14];have EB:i.op=15:=by omega
 split
 · exact hM.ten
 · rename_i hp;have bT:=hM.pop hp;split
   · split
     · exact bT.push _
     · split
       · split
         · exact bT.push _
         · exact bT.bad bT.heap (by decide) (by decide) (fun e=>absurd e (by decide)) (fun e=>absurd e (by decide)) (fun e=>absurd e (by decide)) (fun _=>EB) (fun e=>absurd e (by decide)) (fun e=>absurd e (by decide))
       · exact bT.four (.inr (.inr (.inr (.inr EB))))
   · exact bT.ten
end
theorem za{p:au}(gp:bU p=true){s:St}(hR:eH p s)(hs:s.status=1)(lk:Bool):
    ∃r t i x,s.frames=r++[t]∧dL p t s.heap.length=true∧(method p t.of).code[t.pc.toNat]?=some i∧step p lk s=end_ x.1 x.2∧bG i.op s x∧jR p x∧x=aM p lk i s:=by
 obtain⟨r,t,i,h1,h2,h3,h4⟩:=xe gp hR hs;obtain⟨-, -, -, -,⟨h5,h6⟩, -⟩:=ku h4;refine⟨r,t,i,aM p lk i s,h1,h2,h3,?_,tQ h1 h6 h5,qg gp hR.good h1 hs h4,rfl⟩;unfold step stepped;rw[if_pos hs,qF h1,h3];rfl
theorem lH{c:Int}{s:St}(h:s.status=1):(end_ c s).status=c:=by
 unfold end_;split
 · rename_i e;rw[h,e]
 · rfl
theorem lG{c:Int}{s:St}(h:c=1):(end_ c s).frames=s.frames:=by unfold end_;rw[if_pos h]
theorem qi(c:Int)(s:St):(end_ c s).heap=s.heap:=by unfold end_;split<;>rfl
theorem qj(c:Int)(s:St):(end_ c s).outs=s.outs:=by unfold end_;split<;>rfl
theorem kF{p:au}{k:Int}{n m:ByteArray}{args:List Int}:(∀lk,fG p lk k n m args=Gw)∨(bU p=true∧∀lk,fG p lk k n m args=start p lk k n m args∧eH p (fG p lk k n m args)):=by
 unfold fG;by_cases h:(bU p&&has p k&&aY n&&aY m&&args.all fT)=true
 · right;simp only[Bool.and_eq_true]at h;refine⟨h.1.1.1.1,fun lk=>?_⟩;rw[h.1.1.1.1,h.1.1.1.2,h.1.1.2,h.1.2,h.2];exact⟨rfl,lM h.1.1.1.1 h.2⟩
 · left;intro lk;rw[if_neg h]
end Go.Proofs.YtcepdbbapgfcdaaGreat.M
namespace Go.Proofs.YtcepdbbapgfcdaaGreat
open Go Go.RowKit
theorem aN.inside{w:World}{I:Nat→Prop}{s:M.St}{cs:List Value}(h:aN w I s cs):aN w (fun b=>b<w.heap.size) s cs:=by
 obtain⟨vf,vh,vo,e,h1,h2,h3⟩:=h;have hI:∀b,I b∧b<w.heap.size→b<w.heap.size:=fun b h=>h.2;have keep:∀{α:Type} {k:Nat} {R:fP α} (hS:bQ R) {v:Value} {xs:List α},SliceOf k R w (fun b=>I b∧b<w.heap.size) v xs→SliceOf k R w (fun b=>b<w.heap.size) v xs:=fun hS _ _ h=>h.keep hS (fun _ _ _ _ h=>h) hI;refine⟨vf,vh,vo,e,keep JZ.stays (h1.inside (fun w I x cs h=>?_) (by omega)),keep rA.stays (h2.inside (fun w I x cs h=>?_) (by omega)),keep iZ.stays (h3.inside (fun _ _ _ _ h=>h) (by omega))⟩
 · obtain⟨vl,vs,e,a,b⟩:=h;exact⟨vl,vs,e,a.inside (fun _ _ _ _ h=>h) (by omega),b.inside (fun _ _ _ _ h=>h) (by omega)⟩
 · obtain⟨vf,e,a⟩:=h;exact⟨vf,e,a.inside (fun _ _ _ _ h=>h) (by omega)⟩
theorem aN.parts{w:World}{I:Nat→Prop}{s:M.St}{c0 v1 v2 v3 c4 c5:Value}(h:aN w I s [c0,v1,v2,v3,c4,c5]):SliceOf 6 JZ w I v1 s.frames∧SliceOf 3 rA w I v2 s.heap∧SliceOf 1 iZ w I v3 s.outs:=by
 obtain⟨_,_,_,e,h1,h2,h3⟩:=h;cases e;exact⟨h1,h2,h3⟩
theorem wK(w:World):Calls Tryz.prog 12 #[] w fun e w'=>e=.returned (.bool true)∧w'=w:=by
 have hn:M.aY ⟨#[97]⟩=true:=by decide+kernel
 have HN:=Ys (fZ ⟨#[97]⟩ w);rw[hn]at HN;go_enter Tryz.func12,Tryz.ntmps12;go_wp2_with fail;refine HN.o.mono ?_;rintro e w1 ⟨rfl,rfl⟩;go_wp2_with fail;go_ret;exact⟨rfl,rfl⟩
theorem qI(w:World)(I:Nat→Prop)(v:Value)(p:M.au)(hp:SliceOf 2 az w I v p)(hI:∀b,I b→b<w.heap.size)(lk:Bool)(Cg:Zs (lk=true→nD))(s:M.St)(cs:List Value)(hs:aN w I s cs):
    Calls Tryz.prog 11 #[.agg #[v],.bool lk,.agg cs.toArray] w fun e w'=>
     (∃cs',e=.returned (.agg cs'.toArray)∧aN w' (fun b=>w.heap.size≤b) (M.eQ p lk s 1) cs')∧Ext w w':=by
 obtain⟨a,cap,rfl,hn,dn⟩:=hp.form;obtain⟨a1,c1,a2,c2,a3,c3,rfl, -, -, -⟩:=hs.form;obtain⟨w2,iV⟩:∃w2,w2=((w.alloc (.cells #[.slice a p.length cap] 25)).alloc (.cells #[.int .i64 s.status,.slice a1 s.frames.length c1,.slice a2 s.heap.length c2,.slice a3 s.outs.length c3,.int .i64 s.back.kind,.int .i64 s.back.n] 34)).alloc (.cells #[.int .i64 0,.slice none 0 0,.slice none 0 0,.slice none 0 0,.int .i64 0,.int .i64 0] 34):=⟨_,rfl⟩;have bP:Ext w w2:=by rw[iV];exact kx
 have b8:aC w2 (w.heap.size+2) 34 #[.int .i64 0,.slice none 0 0,.slice none 0 0,.slice none 0 0,.int .i64 0,.int .i64 0]:=by rw[iV];exact aC.newAt _ _ (by simp)
 have EX:w2.heap.size=w.heap.size+3:=by rw[iV];simp
 have xU:=DV w2 I (.slice a p.length cap) p (hp.ext az.stays bP) (fun b hb=>by have:=hI b hb;omega) lk Cg s _ (aN.stays _ _ _ _ _ _ (Ext.same bP) (fun _ h=>h) hs) 1;have U7:=Ys xU;have fD:=Ys bP;have vB:=Ys b8;have sV:=Ys iV;have jY:=Ys EX;clear bP b8 iV xU hp hs hI;go_enter Tryz.func11,Tryz.ntmps11;go_wp2_with fail;rw[←sV.o];refine U7.o.mono ?_;rintro e w3 ⟨⟨cs',rfl,xV⟩,dm⟩;obtain⟨b1,d1,b2,d2,b3,d3,rfl, -, -, -⟩:=xV.form;have aW:=vB.o.ext dm;have xN:=Ys aW;have Dy:=Ys xV;have iH:=Ys (fD.o.trans dm);have y0:=aW.c 0 (.int .i64 0) rfl;have f0:=aW.frozen 0;have y1:=aW.c 1 (.slice none 0 0) rfl;have f1:=aW.frozen 1;have y2:=aW.c 2 (.slice none 0 0) rfl;have f2:=aW.frozen 2;have y3:=aW.c 3 (.slice none 0 0) rfl;have f3:=aW.frozen 3;have y4:=aW.c 4 (.int .i64 0) rfl;have f4:=aW.frozen 4;have y5:=aW.c 5 (.int .i64 0) rfl;have f5:=aW.frozen 5;have yz:=aW.lt;obtain⟨x,hx⟩:∃x,M.eQ p lk s 1=x:=⟨_,rfl⟩;rw[hx]at Dy ⊢;have HX:=Ys hx;clear dm aW xV hx;go_wp2_with fail;obtain⟨w9,fu⟩:∃w9,w9=(((((w3.setCell ⟨w.heap.size+2,0,none⟩ (.int .i64 x.status)).setCell ⟨w.heap.size+2,1,none⟩ (.slice b1 x.frames.length d1)).setCell ⟨w.heap.size+2,2,none⟩ (.slice b2 x.heap.length d2)).setCell ⟨w.heap.size+2,3,none⟩ (.slice b3 x.outs.length d3)).setCell ⟨w.heap.size+2,4,none⟩ (.int .i64 x.back.kind)).setCell ⟨w.heap.size+2,5,none⟩ (.int .i64 x.back.n):=⟨_,rfl⟩;have fE:Kp (·=w.heap.size+2) w3 w9:=by rw[fu];exact Kp.gK (D:=(·=w.heap.size+2)) rfl _ _ _ _ _ _
 have mU:aC w9 (w.heap.size+2) 34 #[.int .i64 x.status,.slice b1 x.frames.length d1,.slice b2 x.heap.length d2,.slice b3 x.outs.length d3,.int .i64 x.back.kind,.int .i64 x.back.n]:=by rw[fu];exact xN.o.gK _ _ _ _ _ _
 rw[←fu];refine bodyPost_ret (aT dV rfl _ _ (w.heap.size+2) rfl [.int .i64 x.status,.slice b1 x.frames.length d1,.slice b2 x.heap.length d2,.slice b3 x.outs.length d3,.int .i64 x.back.kind,.int .i64 x.back.n] (ae.gX mU) rfl) rfl ?_;rw[HX.o];exact⟨⟨_,rfl,aN.stays _ _ _ _ _ _ (fE.same fun b (hb:w2.heap.size≤b) e=>by have:=jY.o;omega) (fun b (hb:w2.heap.size≤b)=>by have:=jY.o;omega) Dy.o⟩,iH.o.own fE (fun b e=>by omega)⟩
end Go.Proofs.YtcepdbbapgfcdaaGreat
namespace Go.Proofs.YtcepdbbapgfcdaaGreat.M
theorem nT{p:au}{lk:Bool}{s:St}(gp:bU p=true)(hR:eH p s)(hs:s.status=1):eQ p lk s 1=step p lk s:=by
 have h1:eQ p lk s ((1:Nat):Int)=_:=qH gp hR (by omega);refine h1.trans ?_;show(if s.status=1 then steps p lk 0 (step p lk s)else s)=_
 rw[if_pos hs];rfl
structure Ck(op:Int)(s x:St):Prop where
 heap:dw s.heap x.heap
 outs:ky s.outs x.outs
 frames:x.status=1→iE s.frames x.frames
 deep:x.status=7→8≤s.frames.length
 room:x.status=8→12≤s.heap.length
 null:x.status=3→op=7∨op=8∨op=9
 link:x.status=4→op=6∨op=7∨op=8∨op=9∨op=15
 cast:x.status=6→op=15
 big:x.status=9→op=4
 done:x.status=2→op=10
theorem zb{p:au}{lk:Bool}{s:St}(gp:bU p=true)(hR:eH p s)(hs:s.status=1){x:St}(hx:eQ p lk s 1=x):
    ∃r t i,s.frames=r++[t]∧cK p t.of=true∧0≤t.pc∧(method p t.of).code[t.pc.toNat]?=some i∧eH p x∧Ck i.op s x:=by
 rw[nT gp hR hs]at hx;have h1:=sQ gp hR lk;rw[hx]at h1;obtain⟨r,t,i,y,e1,e2,e3,h2,h3,h4, -⟩:=za gp hR hs lk;obtain⟨m1,m2, -⟩:=aP.1 e2;rw[h2]at hx;have bH:x.status=y.1:=by rw[←hx];exact lH h4.2.2.2.2
 refine⟨r,t,i,e1,m1,m2,e3,h1,?_⟩;subst hx;exact⟨by rw[qi];exact h3.heap,by rw[qj];exact h3.outs,fun e=>by rw[lG (bH▸e)];exact h3.frames (bH▸e),fun e=>h3.deep (bH▸e),fun e=>h3.room (bH▸e),fun e=>h3.null (bH▸e),fun e=>h3.link (bH▸e),fun e=>h3.cast (bH▸e),fun e=>h3.big (bH▸e),fun e=>h3.done (bH▸e)⟩
theorem UN{p:au}{lk:Bool}{s:St}(gp:bU p=true)(hR:eH p s)(hs:s.status=1){x:St}(hx:eQ p lk s 1=x):
    eH p x∧s.frames.length≤8∧x.frames.length≤8∧(x.status=1→x.frames.length≤s.frames.length+1∧s.frames.length≤x.frames.length+1∧1≤x.frames.length∧
     ∀(k:Nat) (t:Fr),k+2<s.frames.length→k+2<x.frames.length→s.frames[k]?=some t→x.frames[k]?=some t):=by
 obtain⟨_,_,_, -, -, -, -,h1,h2⟩:=zb gp hR hs hx;refine⟨h1,hR.good.nf,h1.good.nf,fun e=>?_⟩;obtain⟨r,t,e1,h3⟩:=h2.frames e;rw[e1];rcases h3 with⟨t',e2⟩|⟨t',y,e2⟩|⟨r0,c,c',rfl,e2⟩
 · rw[e2];refine⟨by simp,by simp,by simp,fun k u h4 h5 h6=>?_⟩;simp at h4 h5;rw[List.getElem?_append_left (by omega)]at h6 ⊢;exact h6
 · rw[e2];refine⟨by simp,by simp,by simp,fun k u h4 h5 h6=>?_⟩;simp at h4 h5;rw[List.getElem?_append_left (by omega)]at h6 ⊢;exact h6
 · rw[e2];refine⟨by simp,by simp,by simp,fun k u h4 h5 h6=>?_⟩;simp at h4 h5;rw[List.append_assoc,List.getElem?_append_left (by omega)]at h6;rw[List.getElem?_append_left (by omega)];exact h6
end Go.Proofs.YtcepdbbapgfcdaaGreat.M
namespace Go.Proofs.YtcepdbbapgfcdaaGreat
open Go Go.RowKit
theorem Aw:nD:=fun w l p h x hx=>CF w l p h x hx
theorem Xb(w:World)(I J:Nat→Prop)(va vb:Value)(l:List M.Val)(ha:SliceOf 2 jy w I va l)(hb:SliceOf 2 jy w J vb l):
    Calls Tryz.prog 15 #[va,vb] w fun e w'=>e=.returned (.bool true)∧Ext w w':=by
 obtain⟨a1,c1,rfl, -,hla⟩:=ha.form;obtain⟨a2,c2,rfl, -, -⟩:=hb.form;have HA:=Ys ha;have HB:=Ys hb;clear ha hb;go_enter Tryz.func15,Tryz.ntmps15;go_wp2_with fail;go_loopw [5] (fun i wr=>∃q:Nat,q≤l.length∧i=.int .i64 q∧Ext w wr) (fun i _=>l.length - (intOf i).toNat)
 case atStart=>exact⟨0,Nat.zero_le _,rfl,Kp.refl _ _⟩
 case round=>
  obtain⟨k,hk,rfl,hE⟩:=hrel;have HE:=Ys hE;by_cases bZ:k<l.length
  · have dk:(k:Int)<l.length:=by omega
    have dk0:(0:Int)≤k:=by omega
    obtain⟨⟨xk,xn⟩,hx⟩:∃x,l[k]?=some x:=⟨l[k]'bZ,List.getElem?_eq_getElem bZ⟩;obtain⟨b1,o1,cs1,rfl, -,rfl, -,lJ⟩:=HA.o.get hx;obtain⟨b2,o2,cs2,rfl, -,rfl, -,Gl⟩:=HB.o.get hx;have g0:w.cell? ⟨b1,o1+k*2,none⟩=some (.int .i64 xk):=by simpa using lJ 0 (.int .i64 xk) rfl
    have g1:=lJ 1 (.int .i64 xn) rfl;have k0:w.cell? ⟨b2,o2+k*2,none⟩=some (.int .i64 xk):=by simpa using Gl 0 (.int .i64 xk) rfl
    have k1:=Gl 1 (.int .i64 xn) rfl;obtain⟨T,f,dB,HT⟩:=iq.ex (fun W'=>Ext wr W') wr (Kp.refl _ _);have x0:=fun z=>(hE.trans (HT.aJ z)).aA g0;have x1:=fun z=>(hE.trans (HT.aJ z)).aA g1;have y0:=fun z=>(hE.trans (HT.aJ z)).aA k0;have y1:=fun z=>(hE.trans (HT.aJ z)).aA k1;have aj:=Ys HT;clear HT lJ Gl hx g0 g1 k0 k1 hE;go_upto_region 6 with(fail);refine dZ aj 9 [] [0,1,2,3,4,5,6,7,8] ?_ ?_
    · exact(Kp.refl _ _).drew
    refine dI [_,_,_,_,_,_,_,_,_] rfl rfl fun K hK=>?_;(repeat (go_big_quiet_step (fail)));refine qn hK ?_;clear hK K;go_wp2_with fail;go_round
    case rel=>exact⟨k+1,by omega,by go_num,HE.o.trans (Kp.refl _ _).drew⟩
    case measure=>simp[intOf];omega
  · have dk:¬(k:Int)<l.length:=by omega
    clear hE;go_wp2_with fail;go_ret;exact⟨rfl,HE.o⟩
theorem WY : Ox 6 := by
 intro W v zs hb;by_cases hl:zs.length≤1048576;rotate_left
 · obtain⟨va,vc,rfl⟩:=hb.form;have Tt:decide ((1048576:Int)<zs.length)=true:=decide_eq_true (by omega);have Bu:(1048576:Int)<zs.length:=by omega
   clear hb hl;go_enter Tryz.func6,Tryz.ntmps6;go_wp2_with fail;go_ret;exact⟨rfl,Kp.refl _ _⟩
 have HD:=Ys (uD W v zs hb);obtain⟨va,vc,rfl⟩:=hb.form;have Bu:((1048576:Int)<zs.length)=False:=eq_false (by omega);clear hb hl;go_enter Tryz.func6,Tryz.ntmps6;go_wp2_with fail;refine HD.o.mono ?_;rintro e w1 ⟨⟨p,pa,pc,n,m,ga,gc,args,rfl,hp,ha⟩,bA⟩;obtain⟨w2,iV,bP,b2⟩:=nu w1 #[.slice pa p.length pc] 25;have jY:Zs (w2.heap.size=w1.heap.size+1):=Ys (by rw[iV];simp);have C9:=Ys (hp.ext az.stays bP);have D5:=Ys (DU w2 (fun b=>b<w2.heap.size) (.slice pa p.length pc) p (C9.o.keep az.stays (fun _ _ _ _ h=>h) (fun b hb=>by have:=hb.2;have:=jY.o;omega)) (fun _ h=>h) true (Ys fun _=>Aw) 0 n m args ga gc (((ha.ext iZ.stays bP).inside (fun _ _ _ _ h=>h) (by omega)).keep iZ.stays (fun _ _ _ _ h=>h) (fun b hb=>hb.2)));have lD:=Ys b2;have sV:=Ys iV;have fD:=Ys (bA.trans bP);have y0:=b2.c 0 (.slice pa p.length pc) rfl;have yz:=b2.lt;clear hp ha bA iV bP b2;go_wp2_with fail;rw[←sV.o];refine D5.o.mono ?_;rintro e w3 ⟨⟨cs,rfl,hs⟩,dm⟩;have yT:=M.kF (p:=p) (k:=0) (n:=n) (m:=m) (args:=args);have Nf:(M.fG p true 0 n m args).status=1→M.bU p=true∧M.eH p (M.fG p true 0 n m args):=fun h1=>by
  rcases yT with h|⟨h2,h3⟩
  · rw[h]at h1;cases h1
  · exact⟨h2,(h3 true).2⟩
 obtain⟨s,Ms⟩:∃s,M.fG p true 0 n m args=s:=⟨_,rfl⟩;rw[Ms]at Nf hs;obtain⟨a1,c1,a2,c2,a3,c3,rfl, -, -, -⟩:=hs.form;obtain⟨w4,o6,dA,b4⟩:=nu w3 #[.int .i64 s.status,.slice a1 s.frames.length c1,.slice a2 s.heap.length c2,.slice a3 s.outs.length c3,.int .i64 s.back.kind,.int .i64 s.back.n] 34;have MN:Zs (w4.heap.size=w3.heap.size+1):=Ys (by rw[o6];simp);have R5:Zs (aN w4 (fun b=>b≠w3.heap.size) s [.int .i64 s.status,.slice a1 s.frames.length c1,.slice a2 s.heap.length c2,.slice a3 s.outs.length c3,.int .i64 s.back.kind,.int .i64 s.back.n]):=Ys (aN.stays _ _ _ _ _ _ (Ext.same dA) (fun b (hb:b<w3.heap.size)=>by omega) (aN.inside hs));have iB:=Ys b4;have Gz:=Ys ((lD.o.ext dm).ext dA);have MI:=Ys ((C9.o.ext az.stays dm).ext az.stays dA);have gZ:=Ys ((fD.o.trans dm).trans dA);have Zo:=Ys Nf;have zF:Zs (w1.heap.size<w3.heap.size):=Ys (by have:=dm.size;have:=jY.o;omega);have zD:=Ys o6;clear hs dm dA o6 b4 yT Nf Ms y0 yz D5;go_upto_region 5 with(fail);rw[←zD.o];go_wp2_with fail;go_loopw [8] (fun i wr=>∃(k:Nat) (s:M.St) (a1:Option Addr) (c1:Nat) (a2:Option Addr) (c2:Nat) (a3:Option Addr) (c3:Nat),k≤60∧i=.int .i64 k∧aC wr w3.heap.size 34 #[.int .i64 s.status,.slice a1 s.frames.length c1,.slice a2 s.heap.length c2,.slice a3 s.outs.length c3,.int .i64 s.back.kind,.int .i64 s.back.n]∧aN wr (fun b=>b≠w3.heap.size) s [.int .i64 s.status,.slice a1 s.frames.length c1,.slice a2 s.heap.length c2,.slice a3 s.outs.length c3,.int .i64 s.back.kind,.int .i64 s.back.n]∧(s.status=1→M.bU p=true∧M.eH p s)∧Kp (·=w3.heap.size) w4 wr) (fun i _=>60 - (intOf i).toNat)
 case atStart=>exact⟨0,s,a1,c1,a2,c2,a3,c3,Nat.zero_le _,rfl,iB.o,R5.o,Zo.o,Kp.refl _ _⟩
 case round =>
  obtain⟨k,s,a1,c1,a2,c2,a3,c3,hk,rfl,hb,hs,TF,hK⟩:=hrel;have HB:=Ys hb;have HS:=Ys hs;have Zp:=Ys TF;have HK:=Ys hK;have AV:Zs (Ext W wr):=Ys (gZ.o.own hK fun b e=>by have:=gZ.o.size;have:=MN.o;have:=zF.o;have:=fD.o.size;have:=jY.o;omega);have mg:=Ys (Gz.o.kp hK (by have:=zF.o;omega));have XM:Zs (SliceOf 2 az wr (fun b=>W.heap.size≤b∧b<w1.heap.size) (.slice pa p.length pc) p):=Ys (MI.o.keep az.stays (hK.same fun b hb e=>by have:=hb.2;have:=zF.o;omega) (fun _ h=>h));have MM:Zs (w1.heap.size<wr.heap.size∧w3.heap.size<wr.heap.size):=Ys ⟨by have:=hb.lt;have:=zF.o;omega,hb.lt⟩;clear hs TF hK;have t0:=hb.c 0 (.int .i64 s.status) rfl;have Ry:=hb.frozen 0;have t1:=hb.c 1 (.slice a1 s.frames.length c1) rfl;have Rz:=hb.frozen 1;have t2:=hb.c 2 (.slice a2 s.heap.length c2) rfl;have RA:=hb.frozen 2;have t3:=hb.c 3 (.slice a3 s.outs.length c3) rfl;have RB:=hb.frozen 3;have t4:=hb.c 4 (.int .i64 s.back.kind) rfl;have RD:=hb.frozen 4;have t5:=hb.c 5 (.int .i64 s.back.n) rfl;have RF:=hb.frozen 5;have tz:=hb.lt;clear hb;by_cases bH:s.status=1∧(k:Int)<60
  · obtain⟨bH,Ww⟩:=bH;have Nz:(s.status==1)=true:=beq_iff_eq.2 bH;have y0:=mg.o.c 0 (.slice pa p.length pc) rfl;have yz:=mg.o.lt;have qM:=Ys bH;obtain⟨gp,TG⟩:=Zp.o bH;clear bH;have oU:=Ys (qI wr (fun b=>b<wr.heap.size) (.slice pa p.length pc) p (XM.o.keep az.stays (fun _ _ _ _ h=>h) (fun b hb=>by have:=hb.2;have:=MM.o;omega)) (fun _ h=>h) true (Ys fun _=>Aw) s _ (aN.inside HS.o));obtain⟨x,hx⟩:∃x,M.eQ p true s 1=x:=⟨_,rfl⟩;rw[hx]at oU;have HXF:=Ys (M.UN gp TG qM.o hx);clear hx TG;go_wp2_with fail;refine oU.o.mono ?_;rintro e w5 ⟨⟨cs,rfl,Gq⟩,dC⟩;obtain⟨b1,d1,b2,d2,b3,d3,rfl, -, -, -⟩:=Gq.form;obtain⟨w6,nk,dK,b6⟩:=nu w5 #[.int .i64 x.status,.slice b1 x.frames.length d1,.slice b2 x.heap.length d2,.slice b3 x.outs.length d3,.int .i64 x.back.kind,.int .i64 x.back.n] 34;have nG:=dC.trans dK;have bg:=Ys b6;have mR:=Ys (HB.o.ext nG);have aaX:=Ys (mg.o.ext nG);have R6:Zs (aN w6 (fun b=>wr.heap.size≤b) x [.int .i64 x.status,.slice b1 x.frames.length d1,.slice b2 x.heap.length d2,.slice b3 x.outs.length d3,.int .i64 x.back.kind,.int .i64 x.back.n]):=Ys (aN.stays _ _ _ _ _ _ (Ext.same dK) (fun _ h=>h) Gq);have HS0:Zs (aN w6 (fun b=>b≠w3.heap.size) s [.int .i64 s.status,.slice a1 s.frames.length c1,.slice a2 s.heap.length c2,.slice a3 s.outs.length c3,.int .i64 s.back.kind,.int .i64 s.back.n]):=Ys (aN.stays _ _ _ _ _ _ (Ext.same nG) (fun _ h=>h) HS.o);have jX:=Ys nG;have XR:Zs (wr.heap.size≤w5.heap.size):=Ys dC.size;have Ch:=Ys nk;clear dC dK nG Gq nk b6 oU y0 yz t0 Ry t1 Rz t2 RA t3 RB t4 RD t5 RF tz;obtain⟨TH,f1,f2,f3⟩:=HXF.o;have Zx:=Ys (And.intro gp TH)
    have FIN:Zs (∀W',Ext w6 W'→∀w9,w9=(((((W'.setCell ⟨w3.heap.size,0,none⟩ (.int .i64 x.status)).setCell ⟨w3.heap.size,1,none⟩ (.slice b1 x.frames.length d1)).setCell ⟨w3.heap.size,2,none⟩ (.slice b2 x.heap.length d2)).setCell ⟨w3.heap.size,3,none⟩ (.slice b3 x.outs.length d3)).setCell ⟨w3.heap.size,4,none⟩ (.int .i64 x.back.kind)).setCell ⟨w3.heap.size,5,none⟩ (.int .i64 x.back.n)→∃(k':Nat) (s:M.St) (a1:Option Addr) (c1:Nat) (a2:Option Addr) (c2:Nat) (a3:Option Addr) (c3:Nat),k'≤60∧Value.int .i64 ((k:Int)+1)=.int .i64 k'∧aC w9 w3.heap.size 34 #[.int .i64 s.status,.slice a1 s.frames.length c1,.slice a2 s.heap.length c2,.slice a3 s.outs.length c3,.int .i64 s.back.kind,.int .i64 s.back.n]∧aN w9 (fun b=>b≠w3.heap.size) s [.int .i64 s.status,.slice a1 s.frames.length c1,.slice a2 s.heap.length c2,.slice a3 s.outs.length c3,.int .i64 s.back.kind,.int .i64 s.back.n]∧(s.status=1→M.bU p=true∧M.eH p s)∧Kp (·=w3.heap.size) w4 w9):=Ys fun W' Bn w9 fu=>by
     have hP:Kp (·=w3.heap.size) W' w9:=by rw[fu];exact Kp.gK (D:=(·=w3.heap.size)) rfl _ _ _ _ _ _
     have mU:aC w9 w3.heap.size 34 #[.int .i64 x.status,.slice b1 x.frames.length d1,.slice b2 x.heap.length d2,.slice b3 x.outs.length d3,.int .i64 x.back.kind,.int .i64 x.back.n]:=by rw[fu];exact(mR.o.ext Bn).gK _ _ _ _ _ _
     exact⟨k+1,x,b1,d1,b2,d2,b3,d3,by omega,rfl,mU,aN.stays _ _ _ _ _ _ (hP.same fun b (hb:wr.heap.size≤b) e=>by have:=MM.o;omega) (fun b (hb:wr.heap.size≤b)=>by have:=MM.o;omega) (aN.stays _ _ _ _ _ _ (Ext.same Bn) (fun _ h=>h) R6.o),fun _=>Zx.o,(HK.o.trans (jX.o.trans Bn).any).trans hP⟩
    obtain⟨hxh, -, -⟩:=aN.parts R6.o;obtain⟨hsh, -, -⟩:=aN.parts HS0.o;have HHX:=Ys hxh;have HHS:=Ys hsh;have HF3:=Ys f3;clear hxh hsh f3 TH gp;have u0:=bg.o.c 0 (.int .i64 x.status) rfl;have uf0:=bg.o.frozen 0;have u1:=bg.o.c 1 (.slice b1 x.frames.length d1) rfl;have uf1:=bg.o.frozen 1;have u2:=bg.o.c 2 (.slice b2 x.heap.length d2) rfl;have uf2:=bg.o.frozen 2;have u3:=bg.o.c 3 (.slice b3 x.outs.length d3) rfl;have uf3:=bg.o.frozen 3;have u4:=bg.o.c 4 (.int .i64 x.back.kind) rfl;have uf4:=bg.o.frozen 4;have u5:=bg.o.c 5 (.int .i64 x.back.n) rfl;have uf5:=bg.o.frozen 5;have uz:=bg.o.lt;have t0:=mR.o.c 0 (.int .i64 s.status) rfl;have Ry:=mR.o.frozen 0;have t1:=mR.o.c 1 (.slice a1 s.frames.length c1) rfl;have Rz:=mR.o.frozen 1;have t2:=mR.o.c 2 (.slice a2 s.heap.length c2) rfl;have RA:=mR.o.frozen 2;have t3:=mR.o.c 3 (.slice a3 s.outs.length c3) rfl;have RB:=mR.o.frozen 3;have t4:=mR.o.c 4 (.int .i64 s.back.kind) rfl;have RD:=mR.o.frozen 4;have t5:=mR.o.c 5 (.int .i64 s.back.n) rfl;have RF:=mR.o.frozen 5;have tz:=mR.o.lt;go_upto_region 9 with(fail);rw[←Ch.o];by_cases zt:x.status=1;rotate_left
    · have hxb:(x.status==1)=false:=beq_eq_false_iff_ne.2 zt;obtain⟨w9,fu⟩:∃w9,w9=(((((w6.setCell ⟨w3.heap.size,0,none⟩ (.int .i64 x.status)).setCell ⟨w3.heap.size,1,none⟩ (.slice b1 x.frames.length d1)).setCell ⟨w3.heap.size,2,none⟩ (.slice b2 x.heap.length d2)).setCell ⟨w3.heap.size,3,none⟩ (.slice b3 x.outs.length d3)).setCell ⟨w3.heap.size,4,none⟩ (.int .i64 x.back.kind)).setCell ⟨w3.heap.size,5,none⟩ (.int .i64 x.back.n):=⟨_,rfl⟩;have U2:=Ys (FIN.o w6 (Kp.refl _ _) w9 fu);have Ef:=Ys fu;clear fu zt;go_wp2_with fail;rw[←Ef.o];go_round
      case rel=>exact U2.o
      case measure=>simp[intOf];omega
    have hxb:(x.status==1)=true:=beq_iff_eq.2 zt;obtain⟨f4,f5,f6,f7⟩:=HF3.o zt;have HF7:=Ys f7;have g1:((s.frames.length:Int)+1<x.frames.length)=False:=eq_false (by omega);have g2:((x.frames.length:Int)<(s.frames.length:Int) - 1)=False:=eq_false (by omega);have g3:((x.frames.length:Int)<1)=False:=eq_false (by omega);clear zt f7;go_wp2_with fail;obtain⟨wo,rfl⟩:∃wo:World,wo=wr:=⟨_,rfl⟩;obtain⟨kk8,rfl⟩:∃kk8:Nat,kk8=k:=⟨_,rfl⟩;go_loopw [12] (fun i wr=>∃k:Nat,k≤8∧i=.int .i64 k∧Ext w6 wr) (fun i _=>8 - (intOf i).toNat)
    case atStart=>exact⟨0,Nat.zero_le _,rfl,Kp.refl _ _⟩
    case round=>
     obtain⟨k,hk,rfl,zo⟩:=hrel;have Dw:=Ys zo;clear g1 g2 g3 hxb;by_cases bZ:k+2<s.frames.length∧k+2<x.frames.length
     · obtain⟨ha,hb⟩:=bZ;have da:(k:Int)+2<s.frames.length:=by omega
       have db:(k:Int)+2<x.frames.length:=by omega
       have dka:(k:Int)<s.frames.length:=by omega
       have dkb:(k:Int)<x.frames.length:=by omega
       have uP:(0:Int)≤k:=by omega
       obtain⟨t,ho⟩:∃t,s.frames[k]?=some t:=⟨s.frames[k]'(by omega),List.getElem?_eq_getElem (by omega)⟩;have Yp:=HF7.o k t ha hb ho;obtain⟨bx,fx,csx,rfl, -,⟨vx,vx2,rfl,hvx, -⟩, -,uO⟩:=HHX.o.get Yp;obtain⟨ax,cx,rfl, -, -⟩:=hvx.form;obtain⟨bs,fs,css,rfl, -,⟨vs,vs2,rfl,G5, -⟩, -,bO⟩:=HHS.o.get ho;obtain⟨ay,cy,rfl, -, -⟩:=G5.form;have sG:w6.cell? ⟨bx,fx+k*6,none⟩=some (.int .i64 t.of.of.keeper):=by simpa using uO 0 (.int .i64 t.of.of.keeper) rfl
       have hs0:w6.cell? ⟨bs,fs+k*6,none⟩=some (.int .i64 t.of.of.keeper):=by simpa using bO 0 (.int .i64 t.of.of.keeper) rfl
       have HVX:=Ys hvx;have Zv:=Ys G5;obtain⟨T,f,dB,HT⟩:=iq.ex (fun W'=>Ext wr W') wr (Kp.refl _ _);have x0:=fun z=>(Dw.o.trans (HT.aJ z)).aA sG;have s0:=fun z=>(Dw.o.trans (HT.aJ z)).aA hs0;have x1:=fun z=>(Dw.o.trans (HT.aJ z)).aA (uO 1 (.string t.of.of.name) rfl);have s1:=fun z=>(Dw.o.trans (HT.aJ z)).aA (bO 1 (.string t.of.of.name) rfl);have x2:=fun z=>(Dw.o.trans (HT.aJ z)).aA (uO 2 (.int .i64 t.of.at_) rfl);have s2:=fun z=>(Dw.o.trans (HT.aJ z)).aA (bO 2 (.int .i64 t.of.at_) rfl);have x3:=fun z=>(Dw.o.trans (HT.aJ z)).aA (uO 3 (.int .i64 t.pc) rfl);have s3:=fun z=>(Dw.o.trans (HT.aJ z)).aA (bO 3 (.int .i64 t.pc) rfl);have x4:=fun z=>(Dw.o.trans (HT.aJ z)).aA (uO 4 (.slice ax t.locals.length cx) rfl);have s4:=fun z=>(Dw.o.trans (HT.aJ z)).aA (bO 4 (.slice ay t.locals.length cy) rfl);have u1':=fun z=>(bg.o.ext (Dw.o.trans (HT.aJ z))).c 1 (.slice (some ⟨bx,fx,none⟩) x.frames.length d1) rfl;have t1':=fun z=>(mR.o.ext (Dw.o.trans (HT.aJ z))).c 1 (.slice (some ⟨bs,fs,none⟩) s.frames.length c1) rfl;have aj:=Ys HT;clear HT uO bO hvx G5 ho Yp zo sG hs0;go_upto_region 17 with(fail);refine dZ aj 44 [((0::1::2::3::4::5::6::7::8::9::10::11::12::13::14::15::16::17::18::19::20::21::22::23::24::25::26::27::28::29::30::31::32::33::34::35::36::37::38::39::40::[]),41)] [42,43] ?_ ?_
       · exact(Kp.refl _ _).drew
       refine di (_::_::_::_::_::_::_::_::_::_::_::_::_::_::_::_::_::_::_::_::_::_::_::_::_::_::_::_::_::_::_::_::_::_::_::_::_::_::_::_::_::[]) rfl rfl fun K hK=>?_;(repeat (go_big_quiet_step (fail)));refine qn hK fun K2 af=>?_;clear hK K;go_wp2_with fail;have jQ:Ext w6 wr.drew:=Dw.o.trans (Kp.refl _ _).drew;refine(Xb wr.drew _ _ _ _ t.locals (HVX.o.ext jy.stays jQ) (Zv.o.ext jy.stays jQ)).mono ?_;rintro e w7 ⟨rfl,rE⟩;have e7:=((Kp.refl _ _).drew:Ext wr wr.drew).trans rE;go_wp2_with fail;refine kk aj af e7 ?_;clear af K2;refine dI [_,_] rfl rfl fun K hK=>?_;(repeat (go_big_quiet_step (fail)));refine qn hK ?_;clear hK K;go_wp2_with fail;go_round
       case rel=>exact⟨k+1,by omega,by go_num,Dw.o.trans e7⟩
       case measure=>simp[intOf];omega
     · have dk:((k:Int)+2<s.frames.length)=False∨((k:Int)+2<s.frames.length)=True∧((k:Int)+2<x.frames.length)=False:=by
        by_cases h:k+2<s.frames.length
        · exact .inr ⟨eq_true (by omega),eq_false (by omega)⟩
        · exact .inl (eq_false (by omega))
       have wD:=mR.o.ext zo;have Ag:=bg.o.ext zo;have t0:=wD.c 0 (.int .i64 s.status) rfl;have Ry:=wD.frozen 0;have t1:=wD.c 1 (.slice a1 s.frames.length c1) rfl;have Rz:=wD.frozen 1;have t2:=wD.c 2 (.slice a2 s.heap.length c2) rfl;have RA:=wD.frozen 2;have t3:=wD.c 3 (.slice a3 s.outs.length c3) rfl;have RB:=wD.frozen 3;have t4:=wD.c 4 (.int .i64 s.back.kind) rfl;have RD:=wD.frozen 4;have t5:=wD.c 5 (.int .i64 s.back.n) rfl;have RF:=wD.frozen 5;have tz:=wD.lt;have u0:=Ag.c 0 (.int .i64 x.status) rfl;have uf0:=Ag.frozen 0;have u1:=Ag.c 1 (.slice b1 x.frames.length d1) rfl;have uf1:=Ag.frozen 1;have u2:=Ag.c 2 (.slice b2 x.heap.length d2) rfl;have uf2:=Ag.frozen 2;have u3:=Ag.c 3 (.slice b3 x.outs.length d3) rfl;have uf3:=Ag.frozen 3;have u4:=Ag.c 4 (.int .i64 x.back.kind) rfl;have uf4:=Ag.frozen 4;have u5:=Ag.c 5 (.int .i64 x.back.n) rfl;have uf5:=Ag.frozen 5;have uz:=Ag.lt;obtain⟨w9,fu⟩:∃w9,w9=(((((wr.setCell ⟨w3.heap.size,0,none⟩ (.int .i64 x.status)).setCell ⟨w3.heap.size,1,none⟩ (.slice b1 x.frames.length d1)).setCell ⟨w3.heap.size,2,none⟩ (.slice b2 x.heap.length d2)).setCell ⟨w3.heap.size,3,none⟩ (.slice b3 x.outs.length d3)).setCell ⟨w3.heap.size,4,none⟩ (.int .i64 x.back.kind)).setCell ⟨w3.heap.size,5,none⟩ (.int .i64 x.back.n):=⟨_,rfl⟩;have U2:=Ys (FIN.o wr zo w9 fu);have Ef:=Ys fu;clear wD Ag zo fu bZ;rcases dk with dk|⟨dk,dk'⟩
       all_goals
        go_wp2_with fail;rw[←Ef.o];go_round
        case rel=>exact U2.o
        case measure=>simp[intOf];omega
  · have hq:((k:Int)<60)=False∨((k:Int)<60)=True∧(s.status==1)=false:=by
     by_cases h9:(k:Int)<60
     · exact .inr ⟨eq_true h9,beq_eq_false_iff_ne.2 fun e=>bH ⟨e,h9⟩⟩
     · exact .inl (eq_false h9)
    clear bH;rcases hq with hq|⟨hq,Nz⟩
    · go_wp2_with (first|(go_at_call 12;refine(wK _).mono ?_;rintro e w8 ⟨rfl,rfl⟩)|fail);go_ret;exact⟨rfl,AV.o⟩
    · go_wp2_with (first|(go_at_call 12;refine(wK _).mono ?_;rintro e w8 ⟨rfl,rfl⟩)|fail);go_ret;exact⟨rfl,AV.o⟩
end Go.Proofs.YtcepdbbapgfcdaaGreat
namespace Go.Proofs.YtcepdbbapgfcdaaGreat
open Go Go.ChangeShapes Go.WideShapes Go.ChangeAt Go.RowKit
theorem Tryz.own:ownKnob Tryz.prog.godebug=none:=by kernel_rfl
theorem Tryz.laidOut:laidOutB Tryz.prog=true:=by kernel_rfl
theorem lF:Tryz.prog.cellsOf 5=1:=by kernel_rfl
theorem bytes_at{H:Type}{enc:TypeId×Value→H}{W:World}{v:Value}{d:DataW H}{p:List MemPlace}(hv:∃a len cap,v=.slice a len cap)(h0:DataW.Trod enc Tryz.prog W 0 (fun _=>true) true 22 v d p):∃zs,BytesAt W v zs:=by
 obtain⟨a0,len,cap,rfl⟩:=hv;obtain⟨fuel,hf⟩:=h0;rcases open_ints Tryz.underlying22 Tryz.underlying5 lF hf with⟨bO,hx⟩|⟨a,len',cap',zs,bO,_,hl,hm,hz,hx,ou,EW⟩
 · simp[Value.cells]at bO;obtain⟨rfl,rfl,rfl⟩:=bO;exact⟨[],.inl ⟨rfl,rfl⟩⟩
 · simp[Value.cells]at bO;obtain⟨rfl,rfl,rfl⟩:=bO;simp only[if_true]at hz;refine⟨zs.take len,.inr ⟨a,cap,by rw[List.length_take,Nat.min_eq_left (by omega)],by rw[List.length_take];omega,fun i hi=>?_,fun n hn=>?_⟩⟩
   · rw[List.length_take]at hi;have:=ou i (by omega);rw[this];congr 2;simp only[List.getD,List.getElem?_take];rw[if_pos (by omega)]
   · have:=EW n (List.mem_of_mem_take hn);simp[Lit.wf,IntKind.min,IntKind.max,IntKind.bits,IntKind.signed]at this;omega
theorem qC{H:Type}{enc:TypeId×Value→H}{fn:Func}{s:ChangeSpec}{W W':World}{v:Value}{d:DataW H}{before:List MemPlace}(hp:fn.params=#[22])(hr:fn.resultTypes=#[4])(hv:s.vars=[])
    (hs:s.fn H ([d]++[])={results:=[.lit (.bool true)],args:=[d]}) (hW:DataW.Whole enc Tryz.prog fn.params.toList s.vars false W [v] [d] [] before)
    (h0:DataW.Trod enc Tryz.prog W 0 (fun _=>true) true 22 v d before) (hE:Ext W W'):s.post enc Tryz.prog fn false true false false W #[v] (.bool true) W':=by
 have bZ:∀x∈before,x.block<W.heap.size:=fun x hx=>by simpa using hW.lt x hx
 have Sk:=Ext.AB hE;refine⟨[d],[],before,[],before,[],hW,?_,?_,?_,Sk.frame _,fun h=>by cases h⟩
 · rw[hs,hr];exact trodAll_mk1 (shut_bool Tryz.underlying4 true)
 · rw[hs,hp];exact trodAll_mk1 (Below.trod Tryz.laidOut (by kernel_rfl) (of_decide_eq_true (by kernel_rfl)) h0 Sk bZ)
 · rw[hs,hv];exact(rfl:([]:List MemPlace)=[])
end Go.Proofs.YtcepdbbapgfcdaaGreat
namespace Go.Proofs.YtcepdbbapgfcdaaGreat
open Go Go.ChangeShapes Go.WideShapes Go.ChangeAt Go.RowKit
theorem Ex(os:Os)(started:os.Started)(H:Type)(enc:TypeId×Value→H):
    ReturnsInHanded {} Tryz.checked os 6 .any (Rows.fnVmOneSpec.pre6 enc Tryz.prog Tryz.f6 Rows.fnVmOneRow.domain false) (Rows.fnVmOneSpec.post enc Tryz.prog Tryz.f6 false true false false):=by
 refine returnsInHanded_of_change (C:=Tryz.checked) Tryz.own started (by kernel_rfl) Tryz.func6
  (ChangeSpec.witness6 (enc:=enc) (C:=Tryz.checked) false ⟨#[],#[.slice none 0 0],[]⟩ 8 (by kernel_rfl) (by kernel_rfl) (by kernel_rfl) (by kernel_rfl)) ?_
 intro W base args ds gs before EU hW hcnd _;have ET:∀(j:Nat) t v,Tryz.f6.params[j]?=some t→args[j]?=some v→Value.okWide Tryz.prog W .any base t v:=EU;have Bn:=hW;obtain⟨p,q,Z5,hV,rfl,hfz,EL⟩:=hW;have hA:DataW.TrodAll enc Tryz.prog W 0 (fun _=>true) true Tryz.f6.params.toList args.toList ds p:=Z5;rw[Tryz.params6]at hA ET;obtain⟨v0,d0,rfl,rfl,h0⟩:=trodAll_one hA;obtain⟨rfl,rfl⟩:=trodVars_none hV;simp only[List.append_nil]at Bn;obtain⟨zs,hb⟩:=bytes_at (okWide_slice Tryz.underlying22 (ET 0 22 v0 rfl rfl)) h0;refine(WY W v0 zs hb).mono fun e W' ⟨he,hE⟩=>?_;subst he;exact⟨_,rfl,qC (fn:=Tryz.f6) Tryz.params6 rfl rfl rfl Bn h0 hE⟩
theorem fnVmOne_holds:Rows.FnVmOneSaid:=
 OpenClaim.holds_of_wide 6 Tryz.f6 rfl rfl rfl rfl rfl rfl rfl ⟨rfl,rfl,rfl,rfl,rfl⟩ rfl rfl rfl rfl rfl (by kernel_rfl) Tryz.func6 (by kernel_rfl)
  (of_decide_eq_true (by kernel_rfl)) (by unfold Func.isWrapper;rw[if_neg (by decide+kernel)];exact⟨rfl,rfl⟩)
  (fun os started H enc _=>Ex os started H enc)
#print axioms fnVmOne_holds
end Go.Proofs.YtcepdbbapgfcdaaGreat
