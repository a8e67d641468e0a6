/- FnVmTurned: for every input the program returns true, and the input reads as it did. No condition. -/
import Derived.Test.YtkmclfpjpajjeaaGreatTnCoreLv
import Derived.Test.YtkmclfpjpajjeaaGreatRows
import Derived.ProofKit
import Derived.Carry
set_option maxRecDepth 100000
set_option maxHeartbeats 4000000
set_option linter.all false
namespace Go.Proofs.YtkmclfpjpajjeaaGreat.M
theorem yx.link{p:ax}:yx p ky:=⟨⟨by simp[ky,jI],by simp[ky],by simp[ky],by simp[ky],by simp[ky],by simp[ky,bD,eU]⟩,by simp[ky],by simp[ky]⟩
theorem Good.one{p:ax}{q:Ref}(hq:bu p q=true):Good p ⟨1,[],[fresh p q],[],eU⟩:=by
 have h0:Good p ⟨1,[],[],[],eU⟩:=⟨by simp[jI],by simp,by simp,by simp,by simp,by simp[bD,eU]⟩;exact h0.grow hq Wf
theorem Py{p:ax}(jM:dF p=true){lk:Bool}{k:Int}{n m:ByteArray}{args:List Int}(ha:args.all iH=true):yx p (start p lk k n m args):=by
 unfold start;split
 · rename_i hf;split
   · rename_i hc;obtain⟨rr,Xg⟩:=l7 hc.1;have hx:=kW Xg;have hlen:(method p (call p k n m).1).args.length=args.length:=by
      have:=hc.2;unfold kg at this;simp only[Bool.and_eq_true,decide_eq_true_eq]at this;exact this.1
     refine l5.runs (zo jM (Good.one hf.2) rfl hx ?_ ?_)
     · intro v hv;rcases List.mem_cons.1 hv with rfl|hv
       · exact tF _ Wg Wf
       · obtain⟨x,hx,rfl⟩:=List.mem_map.1 hv;exact il _ (List.all_eq_true.1 ha x hx)
     · have:=(pG (ji jM hx).1).args;simp;omega
   · exact yx.link
 · exact yx.link
theorem Nb{p:ax}{lk:Bool}{s:St}{f:Nat}(jM:dF p=true)(hs:yx p s)(hf:f≤400):oQ p lk s f=steps p lk f s:=by
 unfold oQ;rw[decide_eq_true Wg,jM,Gp.2 hs];rfl
open Go
section
variable {p:ax} {s s1:St} {r:List Fr} {t t1:Fr} {op:Int}
end
theorem Dv{p:ax}{k:Int}{n m:ByteArray}{args:List Int}:(∀lk,jC p lk k n m args=D9)∨(dF p=true∧∀lk,jC p lk k n m args=start p lk k n m args∧yx p (jC p lk k n m args)):=by
 unfold jC;by_cases h:(dF p&&has p k&&aT n&&aT m&&args.all iH)=true
 · right;simp only[Bool.and_eq_true]at h;refine⟨h.1.1.1.1,fun lk=>?_⟩;rw[h.1.1.1.1,h.1.1.1.2,h.1.1.2,h.1.2,h.2];exact⟨rfl,Py h.1.1.1.1 h.2⟩
 · left;intro lk;rw[if_neg h]
end Go.Proofs.YtkmclfpjpajjeaaGreat.M
namespace Go.Proofs.YtkmclfpjpajjeaaGreat
open Go Go.RowKit
theorem dU.inside{w:World}{I:Nat→Prop}{s:M.St}{cs:List Value}(h:dU w I s cs):dU w (fun b=>b<w.heap.size) s cs:=by
 obtain⟨vf,vh,vo,e,h1,h2,h3⟩:=h;have hI:∀b,I b∧b<w.heap.size→b<w.heap.size:=fun b h=>h.2;have keep:∀{α:Type} {k:Nat} {R:iJ α} (hS:bQ R) {v:Value} {xs:List α},SliceOf k R w (fun b=>I b∧b<w.heap.size) v xs→SliceOf k R w (fun b=>b<w.heap.size) v xs:=fun hS _ _ h=>h.keep hS (fun _ _ _ _ h=>h) hI;refine⟨vf,vh,vo,e,keep QK.stays (h1.inside (fun w I x cs h=>?_) Wg),keep yw.stays (h2.inside (fun w I x cs h=>?_) Wg),keep jQ.stays (h3.inside (fun _ _ _ _ h=>h) Wg)⟩
 · obtain⟨vl,vs,e,a,b⟩:=h;exact⟨vl,vs,e,a.inside (fun _ _ _ _ h=>h) Wg,b.inside (fun _ _ _ _ h=>h) Wg⟩
 · obtain⟨vf,e,a⟩:=h;exact⟨vf,e,a.inside (fun _ _ _ _ h=>h) Wg⟩
theorem dU.parts{w:World}{I:Nat→Prop}{s:M.St}{c0 v1 v2 v3 c4 c5:Value}(h:dU w I s [c0,v1,v2,v3,c4,c5]):SliceOf 6 QK w I v1 s.frames∧SliceOf 3 yw w I v2 s.heap∧SliceOf 1 jQ w I v3 s.outs:=by
 obtain⟨_,_,_,e,h1,h2,h3⟩:=h;cases e;exact⟨h1,h2,h3⟩
theorem aaq(w:World):Calls Tryz.prog 6 #[] w fun e w'=>e=.returned (.bool true)∧w'=w:=by
 have hn:M.aT ⟨#[97]⟩=true:=by decide+kernel
 have HN:=Z3 (iK ⟨#[97]⟩ w);rw[hn]at HN;go_enter Tryz.func6,Tryz.ntmps6;go_wp2_with fail;refine HN.o.mono ?_;rintro e w1 ⟨rfl,rfl⟩;go_wp2_with fail;go_ret;exact⟨rfl,rfl⟩
end Go.Proofs.YtkmclfpjpajjeaaGreat
namespace Go.Proofs.YtkmclfpjpajjeaaGreat.M
theorem all_eq{α:Type}{f g:α→Bool}:∀{l:List α},(∀x∈l,f x=g x)→l.all f=l.all g
 |[],_=>rfl
 |x::l,h=>by rw[List.all_cons,List.all_cons,h x Wf,all_eq fun y hy=>h y (by simp[hy])]
def Said(c:Class)(n:ByteArray):Prop:=
 n=c.aL∨(∃f∈c.fields,n=f.kind.name)∨∃m∈c.methods,n=m.ret.name∨(∃a∈m.args,n=a.name)∨(∃i∈m.code,n=i.name)∨∃f∈m.maps,∃t∈f.locals++f.stack,n=t.name
structure gB(p q:ax)(ρ:Ref→Ref)(S:Int→Int→ByteArray→Prop):Prop where
 has:∀{k k' n},S k k' n→has q k'=has p k
 res:∀{k k' n},S k k' n→((resolve q k' n).2=1↔(resolve p k n).2=1)∧((resolve p k n).2=1→(resolve q k' n).1=ρ (resolve p k n).1)
 own:∀{r c},cls? p r=some c→cls? q (ρ r)=some c∧(∀n,Said c n→S r.keeper (ρ r).keeper n)∧S r.keeper (ρ r).keeper r.name
 clo:∀{k k' n},S k k' n→(resolve p k n).2=1→∀l,jw p (resolve p k n).1=some l→∀x∈l,∀c,cls? p x=some c→∀n',Said c n'→S k k' n'
 name:∀r,(ρ r).name=r.name
 inj:∀{r r' c c'},cls? p r=some c→cls? p r'=some c'→ρ r=ρ r'→r=r'
section
variable {p q:ax} {ρ:Ref→Ref} {S:Int→Int→ByteArray→Prop}
theorem gB.cls(h:gB p q ρ S){r:Ref}{c:Class}(hc:cls? p r=some c):M.cls q (ρ r)=M.cls p r:=by
 unfold M.cls;rw[(h.own hc).1,hc]
theorem gB.aL(h:gB p q ρ S){r:Ref}{c:Class}(hc:cls? p r=some c):M.aL q (ρ r)=M.aL p r:=by
 unfold M.aL;rw[(h.own hc).1,hc]
theorem gB.jw(h:gB p q ρ S):∀(f:Nat) {r:Ref} {c:Class},cls? p r=some c→bT q f (ρ r)=(bT p f r).map (List.map ρ)
 |0,_,_,_=>rfl
 |f+1,r,c,hc=>by
  have hs:=h.aL hc;have hS:S r.keeper (ρ r).keeper (M.aL p r):=(h.own hc).2.1 _ (.inl (by unfold M.aL;rw[hc];rfl));unfold bT;rw[hs];by_cases h0:M.aL p r=none_
  · rw[if_pos h0,if_pos h0];rfl
  rw[if_neg h0,if_neg h0];have h1:=h.res hS;by_cases h2:(resolve p r.keeper (M.aL p r)).2=1
  · obtain⟨c2,yQ⟩:=fu h2;rw[if_pos (h1.1.2 h2),if_pos h2,h1.2 h2,h.jw f yQ];cases bT p f (resolve p r.keeper (M.aL p r)).1<;>rfl
  · rw[if_neg (fun e=>h2 (h1.1.1 e)),if_neg h2];rfl
theorem gB.find(h:gB p q ρ S){k k':Int}{n:ByteArray}(hS:S k k' n):((find q k' n).2=1↔(find p k n).2=1)∧((find p k n).2=1→(find q k' n).1=ρ (find p k n).1∧∃c,cls? p (find p k n).1=some c):=by
 have h1:=h.res hS;unfold M.find;by_cases h2:(resolve p k n).2=1
 · obtain⟨c2,yQ⟩:=fu h2;have h3:M.jw q (resolve q k' n).1=(M.jw p (resolve p k n).1).map (List.map ρ):=by unfold M.jw;rw[h1.2 h2,h.jw 6 yQ]
   rw[if_pos (h1.1.2 h2),if_pos h2,h3];cases he:M.jw p (resolve p k n).1 with
   |none=>simp
   |some l=>simpa using⟨h1.2 h2,c2,yQ⟩
 · have h3:¬(resolve q k' n).2=1:=fun e=>h2 (h1.1.1 e);rw[if_neg h3,if_neg h2];exact⟨⟨fun e=>absurd e h3,fun e=>absurd e h2⟩,fun e=>absurd e h2⟩
theorem Om{k:Int}{n:ByteArray}(h:(find p k n).2=1):(resolve p k n).2=1∧(find p k n).1=(resolve p k n).1∧∃l,jw p (resolve p k n).1=some l:=by
 unfold find at h ⊢;by_cases h2:(resolve p k n).2=1
 · rw[if_pos h2]at h ⊢;cases he:jw p (resolve p k n).1 with
   |none=>rw[he]at h;simp at h
   |some l=>exact⟨h2,by simp,l,rfl⟩
 · rw[if_neg h2]at h;exact absurd h h2
theorem gB.fo(h:gB p q ρ S){r:Ref}{c:Class}(hc:cls? p r=some c):fo q (ρ r)=fo p r:=by
 have hf:=h.find (h.own hc).2.2;rw[←h.name r]at hf;unfold M.fo;rw[h.name r]at hf ⊢;by_cases h2:(M.find p r.keeper r.name).2=1
 · obtain⟨h3,c3,DT⟩:=hf.2 h2;rw[decide_eq_true (hf.1.2 h2),decide_eq_true h2,h3];congr 1;exact decide_eq_decide.2 ⟨fun e=>h.inj DT hc e,fun e=>by rw[e]⟩
 · rw[decide_eq_false (fun e=>h2 (hf.1.1 e)),decide_eq_false h2];simp
theorem gB.chain(h:gB p q ρ S){r:Ref}{c:Class}(hc:cls? p r=some c):chain q (ρ r)=(chain p r).map ρ:=by
 unfold M.chain;rw[h.fo hc];by_cases hl:M.fo p r=true
 · rw[if_pos hl,if_pos hl];unfold M.jw;rw[h.jw 6 hc];cases bT p 6 r<;>rfl
 · rw[if_neg hl,if_neg hl];rfl
theorem gB.under(h:gB p q ρ S){r t:Ref}{c d:Class}(hc:cls? p r=some c)(hd:cls? p t=some d):under q (ρ r) (ρ t)=under p r t:=by
 unfold M.under;rw[h.chain hc];refine Bool.eq_iff_iff.2 ⟨fun e=>?_,fun e=>?_⟩
 · obtain⟨x,hx,he⟩:=List.mem_map.1 (List.contains_iff_mem.1 e);obtain⟨cx,BU⟩:=dM hx;exact List.contains_iff_mem.2 (h.inj BU hd he▸hx)
 · exact List.contains_iff_mem.2 (List.mem_map.2 ⟨_,List.contains_iff_mem.1 e,rfl⟩)
theorem gB.agree(h:gB p q ρ S){a a' b b':Int}{k:Kind}(ha:S a a' k.name)(hb:S b b' k.name):agree q a' b' k=agree p a b k:=by
 have h1:=h.find ha;have h2:=h.find hb;unfold M.agree;congr 1;by_cases e1:(M.find p a k.name).2=1
 · obtain⟨f1,c1,mE⟩:=h1.2 e1;by_cases e2:(M.find p b k.name).2=1
   · obtain⟨f2,c2,yQ⟩:=h2.2 e2;rw[if_pos ⟨h1.1.2 e1,h2.1.2 e2⟩,if_pos ⟨e1,e2⟩,f1,f2];exact decide_eq_decide.2 ⟨fun e=>h.inj mE yQ e,fun e=>by rw[e]⟩
   · have e3:¬(M.find q b' k.name).2=1:=fun e=>e2 (h2.1.1 e);rw[if_neg (fun e=>e3 e.2),if_neg (fun e=>e2 e.2)];simp[e1,h1.1.2 e1]
 · have e3:¬(M.find q a' k.name).2=1:=fun e=>e1 (h1.1.1 e);rw[if_neg (fun e=>e3 e.1),if_neg (fun e=>e1 e.1)];by_cases e2:(M.find p b k.name).2=1
   · simp[e1,e2,e3,h2.1.2 e2]
   · have e4:¬(M.find q b' k.name).2=1:=fun e=>e2 (h2.1.1 e);simp[e1,e2,e3,e4]
theorem gB.bX(h:gB p q ρ S){a a' b b':Int}{m:Method}(ha:∀n,(n=m.ret.name∨∃k∈m.args,n=k.name)→S a a' n)(hb:∀n,(n=m.ret.name∨∃k∈m.args,n=k.name)→S b b' n):bX q a' b' m=bX p a b m:=by
 unfold M.bX;rw[h.agree (ha _ (.inl rfl)) (hb _ (.inl rfl))];congr 1;exact all_eq fun k hk=>h.agree (ha _ (.inr ⟨k,hk,rfl⟩)) (hb _ (.inr ⟨k,hk,rfl⟩))
theorem Said.method{c:Class}{m:Method}(hm:m∈c.methods){n:ByteArray}(h:n=m.ret.name∨∃k∈m.args,n=k.name):Said c n:=.inr (.inr ⟨m,hm,h.imp id .inl⟩)
theorem gB.dV(h:gB p q ρ S){r t:Ref}{c d:Class}(hc:cls? p r=some c)(hd:cls? p t=some d){m:Method}(hm:m∈c.methods):dV q (ρ r) (ρ t) m=dV p r t m:=by
 unfold M.dV;rw[h.cls hd];have e:M.cls p t=d:=by unfold M.cls;rw[hd];rfl
 rw[e];cases hf:d.methods.find? (fun n=>decide (n.name=m.name))with
 |none=>rfl
 |some x=>
  have hx:=List.mem_of_find?_eq_some hf;simp only;by_cases e1:m.ret=x.ret
  · by_cases e2:m.args=x.args
    · rw[decide_eq_true e1,decide_eq_true e2];simp only[Bool.true_and];exact h.bX (fun n hn=>(h.own hc).2.1 n (Said.method hm hn)) (fun n hn=>(h.own hd).2.1 n (Said.method hx (by rw[←e1,←e2];exact hn)))
    · rw[decide_eq_false e2];simp
  · rw[decide_eq_false e1];simp
theorem gB.ja(h:gB p q ρ S){r t:Ref}{c d:Class}(hc:cls? p r=some c)(hd:cls? p t=some d):ja q (ρ r) (ρ t)=ja p r t:=by
 unfold M.ja;rw[h.cls hc,h.cls hd];have e:M.cls p r=c:=by unfold M.cls;rw[hc];rfl
 congr 1;exact all_eq fun m hm=>h.dV hc hd (by rw[←e];exact hm)
theorem gB.ek(h:gB p q ρ S):∀{l:List Ref},(∀x∈l,∃c,cls? p x=some c)→ek q (l.map ρ)=ek p l
 |[],_=>rfl
 |r::l,ho=>by
  obtain⟨c,hc⟩:=ho r Wf;rw[List.map_cons];unfold M.ek;rw[h.ek fun x hx=>ho x (by simp[hx]),List.all_map];congr 1;exact all_eq fun x hx=>by obtain⟨d,hd⟩:=ho x (by simp[hx]);exact h.ja hc hd
theorem gB.bu(h:gB p q ρ S){r:Ref}{c:Class}(hc:cls? p r=some c):bu q (ρ r)=bu p r:=by
 unfold M.bu;rw[h.chain hc,h.ek fun x hx=>dM hx];simp
def mapM(ρ:Ref→Ref)(x:kI):kI:=⟨ρ x.of,x.at_⟩
def vV(ρ:Ref→Ref)(x:ko):ko:=⟨ρ x.of,x.at_,x.kind⟩
theorem gB.jU(h:gB p q ρ S){n:ByteArray}:∀{l:List Ref},(∀x∈l,∃c,cls? p x=some c)→jU q n (l.map ρ)=(jU p n l).map (mapM ρ)
 |[],_=>rfl
 |r::l,ho=>by
  obtain⟨c,hc⟩:=ho r Wf;simp only[List.map_cons];unfold M.jU;rw[h.cls hc,h.jU fun x hx=>ho x (by simp[hx])];cases lM (M.cls p r) n<;>rfl
theorem gB.pick(h:gB p q ρ S){r:Ref}{c:Class}(hc:cls? p r=some c)(n:ByteArray):pick q (ρ r) n=(pick p r n).map (mapM ρ):=by
 unfold M.pick;rw[h.bu hc,h.chain hc,h.jU fun x hx=>dM hx];split<;>rfl
theorem ng{r:Ref}(h:bu p r=true):∃c,cls? p r=some c:=dM (pU h).2
theorem gB.aS(h:gB p q ρ S){k k':Int}{n:ByteArray}(hS:S k k' n)(m:ByteArray):
    (M.aS q k' n m).2=(M.aS p k n m).2∧((M.aS p k n m).2=1→(M.aS q k' n m).1=ρ (M.aS p k n m).1∧M.bu p (M.aS p k n m).1=true∧(M.aS p k n m).1=(M.find p k n).1∧(M.find p k n).2=1):=by
 have hf:=h.find hS;unfold M.aS;rw[h.has hS];split
 · by_cases h2:(M.find p k n).2=1
   · obtain⟨h3,c,hc⟩:=hf.2 h2;rw[if_pos (hf.1.2 h2),if_pos h2,h3,h.bu hc];by_cases h4:M.bu p (M.find p k n).1=true
     · rw[if_pos h4,if_pos h4];exact⟨rfl,fun _=>⟨rfl,h4,rfl,h2⟩⟩
     · rw[if_neg h4,if_neg h4];exact⟨rfl,fun e=>by simp at e⟩
   · rw[if_neg h2,if_neg (fun e=>h2 (hf.1.1 e))];exact⟨rfl,fun e=>by simp at e⟩
 · exact⟨rfl,fun e=>by simp at e⟩
theorem yK(ρ:Ref→Ref)(r:Ref):∀(fs:List Field) (acc:List ko),dx (ρ r) fs (acc.map (vV ρ))=(dx r fs acc).map (vV ρ)
 |[],_=>rfl
 |f::l,acc=>by
  unfold dx;rw[←yK ρ r l];simp[vV]
theorem gB.dB(h:gB p q ρ S):∀{l:List Ref},(∀x∈l,∃c,cls? p x=some c)→∀acc:List ko,dB q (l.map ρ) (acc.map (vV ρ))=(dB p l acc).map (vV ρ)
 |[],_,_=>rfl
 |r::l,ho,acc=>by
  obtain⟨c,hc⟩:=ho r Wf;simp only[List.map_cons];unfold M.dB;rw[h.cls hc,yK,h.dB fun x hx=>ho x (by simp[hx])]
theorem gB.layout(h:gB p q ρ S){r:Ref}{c:Class}(hc:cls? p r=some c):layout q (ρ r)=(layout p r).map (vV ρ):=by
 unfold M.layout;rw[h.bu hc,h.chain hc,←List.map_reverse];split
 · exact h.dB (fun x hx=>dM (List.mem_reverse.1 hx)) []
 · rfl
theorem gB.ig(h:gB p q ρ S){t:Ref}{d:Class}(hd:cls? p t=some d):∀{l:List Ref},(∀x∈l,∃c,cls? p x=some c)→∀n,ig q (ρ t) (l.map ρ) n=ig p t l n
 |[],_,_=>rfl
 |r::l,ho,n=>by
  obtain⟨c,hc⟩:=ho r Wf;simp only[List.map_cons];unfold M.ig;by_cases e:r=t
  · rw[if_pos e,if_pos (by rw[e])]
  · rw[if_neg e,if_neg (fun e'=>e (h.inj hc hd e')),h.cls hc,h.ig hd fun x hx=>ho x (by simp[hx])]
theorem gB.fieldName(h:gB p q ρ S){r:Ref}{c:Class}(hc:cls? p r=some c){f:ko}{d:Class}(hd:cls? p f.of=some d):fieldName q (ρ r) (vV ρ f)=fieldName p r f:=by
 have e:gT q (ρ f.of) (ρ r)=gT p f.of r:=by
  unfold gT;rw[h.chain hc,←List.map_reverse];exact h.ig hd (fun x hx=>dM (List.mem_reverse.1 hx)) 0
 simp only[M.fieldName,vV,h.cls hd,e]
theorem J2{r:Ref}{f:ko}(h:f∈layout p r):f.of∈chain p r∧∃d,cls? p f.of=some d∧∃x∈d.fields,f.kind=x.kind:=by
 obtain⟨i,hi⟩:=List.getElem?_of_mem h;obtain⟨-,h1, -,j,fd,h2, -,h4⟩:=xW hi;obtain⟨d,hd⟩:=dM h1;have e:M.cls p f.of=d:=by unfold M.cls;rw[hd];rfl
 rw[e]at h2;exact⟨h1,d,hd,fd,List.mem_of_getElem? h2,h4⟩
end
end Go.Proofs.YtkmclfpjpajjeaaGreat.M
namespace Go.Proofs.YtkmclfpjpajjeaaGreat.M
section
variable {p q:ax} {ρ:Ref→Ref} {S:Int→Int→ByteArray→Prop}
theorem Ls{r:Ref}{l:List Ref}(h:jw p r=some l){x:Ref}(hx:x∈chain p r):x∈l:=by
 unfold chain at hx;split at hx
 · rw[h]at hx;exact hx
 · cases hx
theorem gB.said(h:gB p q ρ S){k k':Int}{n:ByteArray}(hS:S k k' n)(hf:(M.find p k n).2=1){x:Ref}(hx:x∈M.chain p (M.find p k n).1){c:Class}(hc:cls? p x=some c){n':ByteArray}(hn:Said c n'):S k k' n':=by
 obtain⟨h1,h2,l,h3⟩:=Om hf;rw[h2]at hx;exact h.clo hS h1 l h3 x (Ls h3 hx) c hc n' hn
theorem gB.kE(h:gB p q ρ S){k k':Int}{m:ByteArray}{r:Ref}{c:Class}(hc:cls? p r=some c):∀{l:List ko},(∀f∈l,∃d,cls? p f.of=some d∧S k k' f.kind.name∧Said d f.kind.name)→
    (M.kE q k' m (ρ r) (l.map (vV ρ))).2=(M.kE p k m r l).2∧((M.kE p k m r l).2=1→(M.kE q k' m (ρ r) (l.map (vV ρ))).1=vV ρ (M.kE p k m r l).1)
 |[],_=>⟨rfl,fun e=>by simp[M.kE]at e⟩
 |f::l,ho=>by
  obtain⟨d,hd,hS,hn⟩:=ho f Wf;have ih:=h.kE (k:=k) (k':=k') (m:=m) hc (l:=l) fun x hx=>ho x (by simp[hx]);rw[List.map_cons];unfold M.kE;rw[h.fieldName hc hd];by_cases e:M.fieldName p r f=m
  · rw[if_pos e,if_pos e,show M.agree q k' (vV ρ f).of.keeper (vV ρ f).kind=M.agree p k f.of.keeper f.kind from h.agree hS ((h.own hd).2.1 _ hn)];split
    · exact⟨rfl,fun _=>rfl⟩
    · exact⟨rfl,fun e=>by simp at e⟩
  · rw[if_neg e,if_neg e];exact ih
theorem Q9{k:Int}{n m:ByteArray}(h:(get p k n m).2=1):(aS p k n m).2=1∧(get p k n m).1∈layout p (aS p k n m).1:=by
 unfold get at h ⊢;by_cases e:(aS p k n m).2=1
 · rw[if_pos e]at h ⊢;exact⟨e,wS h⟩
 · rw[if_neg e]at h;exact absurd h e
theorem gB.get(h:gB p q ρ S){k k':Int}{n:ByteArray}(hS:S k k' n)(m:ByteArray):
    (M.get q k' n m).2=(M.get p k n m).2∧((M.get p k n m).2=1→(M.get q k' n m).1=vV ρ (M.get p k n m).1∧(∃d,cls? p (M.get p k n m).1.of=some d∧Said d (M.get p k n m).1.kind.name)∧S k k' (M.get p k n m).1.kind.name):=by
 have hl:=h.aS hS m;have hfa:=Q9 (p:=p) (k:=k) (n:=n) (m:=m);revert hfa;unfold M.get;rw[hl.1];by_cases e:(M.aS p k n m).2=1
 · obtain⟨h1,h2,h3,h4⟩:=hl.2 e;obtain⟨c,hc⟩:=ng h2;have nW:∀f∈M.layout p (M.aS p k n m).1,∃d,cls? p f.of=some d∧S k k' f.kind.name∧Said d f.kind.name:=fun f hf=>by
    obtain⟨g1,d,g2,x,g3,g4⟩:=J2 hf;have hn:Said d f.kind.name:=.inr (.inl ⟨x,g3,by rw[g4]⟩);exact⟨d,g2,h.said hS h4 (h3▸g1) g2 hn,hn⟩
   rw[if_pos e,if_pos e,h1,h.layout hc];intro hfa;have hg:=h.kE (k:=k) (k':=k') (m:=m) hc nW;refine⟨hg.1,fun e2=>⟨hg.2 e2,?_⟩⟩;obtain⟨d,g1,g2,g3⟩:=nW _ (hfa e2).2;exact⟨⟨d,g1,g3⟩,g2⟩
 · rw[if_neg e,if_neg e];exact fun _=>⟨rfl,fun e2=>absurd e2 e⟩
theorem xA{x:kI}{m:Method}(h:method? p x=some m):∃c,cls? p x.of=some c∧m∈c.methods∧method p x=m:=by
 have h0:=h;unfold method? at h;split at h
 · unfold cls at h;cases hc:cls? p x.of with
   |none=>rw[hc]at h;simp[ack]at h
   |some c=>rw[hc]at h;exact⟨c,rfl,List.mem_of_getElem? h,by unfold method;rw[h0];rfl⟩
 · cases h
theorem gB.method(h:gB p q ρ S){x:kI}{c:Class}(hc:cls? p x.of=some c):M.method q (mapM ρ x)=M.method p x:=by
 unfold M.method method? mapM;rw[h.cls hc]
theorem gB.call(h:gB p q ρ S){k k':Int}{n:ByteArray}(hS:S k k' n)(m:ByteArray):
    (M.call q k' n m).2=(M.call p k n m).2∧((M.call p k n m).2=1→(M.call q k' n m).1=mapM ρ (M.call p k n m).1∧
     ∃c,cls? p (M.call p k n m).1.of=some c∧M.method p (M.call p k n m).1∈c.methods∧∀n',Said c n'→S k k' n'):=by
 have hl:=h.aS hS m;unfold M.call;rw[hl.1];by_cases e:(M.aS p k n m).2=1
 · obtain⟨h1,h2,h3,h4⟩:=hl.2 e;obtain⟨c,hc⟩:=ng h2;rw[if_pos e,if_pos e,h1,h.pick hc];cases hp:M.pick p (M.aS p k n m).1 m with
   |none=>exact⟨rfl,fun e=>by simp at e⟩
   | some x =>
    obtain⟨-,g1,i,d,mm,g2,g3,g4,g5,g6⟩:=uP hp;obtain⟨d',k1,k2,k3⟩:=xA g6;obtain rfl:d'=d:=Option.some.inj (k1.symm.trans g3);have hs:∀n',Said d' n'→S k k' n':=fun n' hn=>h.said hS h4 (h3▸g1) k1 hn;have ha:M.bX q k' (ρ x.of).keeper (M.method q (mapM ρ x))=M.bX p k x.of.keeper (M.method p x):=by
     rw[h.method k1,k3];exact h.bX (fun n' hn=>hs n' (Said.method k2 hn)) (fun n' hn=>(h.own k1).2.1 n' (Said.method k2 hn))
    simp only[Option.map_some];rw[show(mapM ρ x).of=ρ x.of from rfl,ha];split
    · exact⟨rfl,fun _=>⟨rfl,d',k1,by rw[k3];exact k2,hs⟩⟩
    · exact⟨rfl,fun e=>by simp at e⟩
 · rw[if_neg e,if_neg e];exact⟨rfl,fun e2=>absurd e2 e⟩
theorem gB.bP(h:gB p q ρ S){x:kI}{c:Class}(hc:cls? p x.of=some c):M.bP q (mapM ρ x)=M.bP p x:=by
 unfold M.bP mapM;rw[h.bu hc,h.cls hc]
def jE(T:ByteArray→Prop)(t:Tag):Prop:=t.kind=2→T t.name
def nT(T:ByteArray→Prop)(s:iY):Prop:=(∀t∈s.locals,jE T t)∧∀t∈s.stack,jE T t
variable {T:ByteArray→Prop} {k k':Int}
theorem jE.num:jE T iL:=fun e=>by simp[iL]at e
theorem jE.null:jE T AV:=fun e=>by simp[AV]at e
theorem jE.zero:jE T Cy:=fun e=>by simp[Cy]at e
theorem jE.cls{n:ByteArray}(h:T n):jE T (eP n):=fun _=>h
theorem jE.of{a:Kind}(h:T a.name):jE T (fJ a):=by
 unfold fJ;split
 · exact fun _=>h
 · exact jE.zero
theorem nT.take{s:iY}(h:nT T s){x:Tag×iY}(e:nD s=some x):jE T x.1∧nT T x.2:=by
 unfold nD at e;obtain⟨t,ht,rfl⟩:=Option.map_eq_some_iff.1 e;exact⟨h.2 _ (List.mem_of_getLast? ht),h.1,fun u hu=>h.2 u (List.dropLast_subset _ hu)⟩
theorem gB.may(h:gB p q ρ S){a b:Tag}(ha:jE (S k k') a)(hb:jE (S k k') b):M.may q k' a b=M.may p k a b:=by
 unfold M.may;split
 · rfl
 split
 · rfl
 split
 · rfl
 split
 · rfl
 rename_i e1 e2 e3 e4;have f1:=h.find (ha (by simpa using e4));have f2:=h.find (hb (by simpa using e2));by_cases g1:(M.find p k a.name).2=1
 · obtain⟨i1,c1,j1⟩:=f1.2 g1;by_cases g2:(M.find p k b.name).2=1
   · obtain⟨i2,c2,j2⟩:=f2.2 g2;rw[decide_eq_true g1,decide_eq_true g2,decide_eq_true (f1.1.2 g1),decide_eq_true (f2.1.2 g2),i1,i2,h.under j1 j2]
   · rw[decide_eq_false g2,decide_eq_false (fun e=>g2 (f2.1.1 e))];simp
 · rw[decide_eq_false g1,decide_eq_false (fun e=>g1 (f1.1.1 e))];simp
theorem gB.gK(h:gB p q ρ S){t:Tag}{s:iY}(ht:jE (S k k') t)(hs:nT (S k k') s):M.gK q k' t s=M.gK p k t s∧∀s',M.gK p k t s=some s'→nT (S k k') s':=by
 unfold M.gK;cases e:nD s with
 |none=>exact⟨rfl,fun _ e=>by cases e⟩
 |some x=>
  have hx:=hs.take e;simp only[Option.bind_some];rw[h.may hx.1 ht];refine⟨rfl,fun s' e'=>?_⟩;split at e'
  · cases e';exact hx.2
  · cases e'
theorem nT.obj{s s':iY}(h:nT T s)(e:sZ s=some s'):nT T s':=by
 unfold sZ at e;cases e1:nD s with
 |none=>rw[e1]at e;cases e
 |some x=>
  rw[e1]at e;simp only[Option.bind_some]at e;split at e
  · cases e;exact(h.take e1).2
  · cases e
theorem nT.put{m:Method}{t:Tag}{s s':iY}(h:nT T s)(ht:jE T t)(e:iB m t s=some s'):nT T s':=by
 unfold iB at e;split at e
 · cases e
 · cases e;refine⟨h.1,fun u hu=>?_⟩;rcases List.mem_append.1 hu with hu|hu
   · exact h.2 u hu
   · simp at hu;rw[hu];exact ht
theorem gB.fK(h:gB p q ρ S):∀{a b:List Tag},(∀t∈a,jE (S k k') t)→(∀t∈b,jE (S k k') t)→M.fK q k' a b=M.fK p k a b
 |a::r,b::l,ha,hb=>by
  unfold M.fK;rw[h.may (ha a Wf) (hb b Wf),h.fK (fun t ht=>ha t (by simp[ht])) (fun t ht=>hb t (by simp[ht]))]
 |[],_,_,_=>by unfold M.fK;rfl
 |_::_,[],_,_=>by unfold M.fK;rfl
def QX(T:ByteArray→Prop)(f:SMap):Prop:=∀t∈f.locals++f.stack,T t.name
theorem QX.DL{f:SMap}(h:QX T f):nT T ⟨f.locals,f.stack⟩:=⟨fun t ht _=>h t (List.mem_append.2 (.inl ht)),fun t ht _=>h t (List.mem_append.2 (.inr ht))⟩
theorem gB.dS(h:gB p q ρ S){s:iY}{f:SMap}(hs:nT (S k k') s)(hf:QX (S k k') f):M.dS q k' s f=M.dS p k s f:=by
 unfold M.dS;rw[h.fK hs.1 hf.DL.1,h.fK hs.2 hf.DL.2]
theorem gB.branch(h:gB p q ρ S){m:Method}{tgt:Int}{s:iY}(hm:∀f∈m.maps,QX (S k k') f)(hs:nT (S k k') s):M.fZ q k' m tgt s=M.fZ p k m tgt s∧∀s',M.fZ p k m tgt s=some s'→nT (S k k') s':=by
 unfold M.fZ;cases e:yV m tgt with
 |none=>exact⟨rfl,fun _ e=>by cases e⟩
 |some f=>
  simp only[Option.bind_some];rw[h.dS hs (hm f (List.mem_of_find?_eq_some e))];refine⟨rfl,fun s' e'=>?_⟩;split at e'
  · cases e';exact hs
  · cases e'
theorem gB.meet(h:gB p q ρ S){m:Method}{at_:Int}{goes:Bool}{s:iY}(hm:∀f∈m.maps,QX (S k k') f)(hs:nT (S k k') s):M.kC q k' m goes at_ s=M.kC p k m goes at_ s∧∀s',M.kC p k m goes at_ s=some s'→nT (S k k') s':=by
 unfold M.kC;cases e:yV m at_ with
 |none=>
  refine⟨rfl,fun s' e'=>?_⟩;simp only at e';split at e'
  · cases e';exact hs
  · cases e'
 |some f=>
  have hf:=hm f (List.mem_of_find?_eq_some e);simp only;rw[h.dS hs hf];refine⟨rfl,fun s' e'=>?_⟩;split at e'
  · cases e'
  · cases e';exact hf.DL
theorem gB.ZI(h:gB p q ρ S):∀{l:List Kind} {s:iY},(∀a∈l,S k k' a.name)→nT (S k k') s→M.iQ q k' l s=M.iQ p k l s∧∀s',M.iQ p k l s=some s'→nT (S k k') s'
 |[],s,_,hs=>⟨rfl,fun s' e=>by cases e;exact hs⟩
 |a::l,s,ha,hs=>by
  have h1:=h.gK (jE.of (ha a Wf)) hs;unfold M.iQ;rw[h1.1];cases e:M.gK p k (fJ a) s with
  |none=>exact⟨rfl,fun _ e=>by cases e⟩
  |some s1=>exact h.ZI (fun b hb=>ha b (by simp[hb])) (h1.2 s1 e)
structure BD(T:ByteArray→Prop)(m:Method):Prop where
 ret:T m.ret.name
 args:∀a∈m.args,T a.name
 code:∀i∈m.code,T i.name
 maps:∀f∈m.maps,QX T f
theorem BD.of{c:Class}{m:Method}(hm:m∈c.methods)(h:∀n,Said c n→T n):BD T m:=
 ⟨h _ (.inr (.inr ⟨m,hm,.inl rfl⟩)),fun a ha=>h _ (.inr (.inr ⟨m,hm,.inr (.inl ⟨a,ha,rfl⟩)⟩)),fun i hi=>h _ (.inr (.inr ⟨m,hm,.inr (.inr (.inl ⟨i,hi,rfl⟩))⟩)),
  fun f hf t ht=>h _ (.inr (.inr ⟨m,hm,.inr (.inr (.inr ⟨f,hf,t,ht,rfl⟩))⟩))⟩
theorem mZ{α β:Type}{P:α→Prop}{R:β→Prop}{x y:Option α}{f g:α→Option β}(h1:x=y∧∀a,y=some a→P a)(h2:∀a,P a→f a=g a∧∀b,g a=some b→R b):x.bind f=y.bind g∧∀b,y.bind g=some b→R b:=by
 obtain⟨rfl,h1⟩:=h1;cases x with
 |none=>exact⟨rfl,fun _ e=>by cases e⟩
 |some a=>exact h2 a (h1 a rfl)
theorem gB.put(T:ByteArray→Prop){m:Method}{t:Tag}(ht:jE T t):∀s:iY,nT T s→iB m t s=iB m t s∧∀s',iB m t s=some s'→nT T s':=fun _ hs=>⟨rfl,fun _ e=>hs.put ht e⟩
theorem gB.bJ(h:gB p q ρ S){m:Method}{i:Ins}{s:iY}(hm:BD (S k k') m)(hi:S k k' i.name)(hs:nT (S k k') s):M.bJ q k' m i s=M.bJ p k m i s∧∀s',M.bJ p k m i s=some s'→nT (S k k') s':=by
 have hg:=h.get hi i.member;have hc:=h.call hi i.member;unfold M.bJ;by_cases o1:i.op=1
 · rw[if_pos o1,if_pos o1];exact gB.put _ jE.num s hs
 rw[if_neg o1,if_neg o1];by_cases o2:i.op=2
 · rw[if_pos o2,if_pos o2];refine⟨rfl,fun s' e=>?_⟩;cases e1:s.locals[i.a.toNat]? with
   |none=>rw[e1]at e;cases e
   |some t=>
    rw[e1]at e;simp only[Option.bind_some]at e;split at e
    · cases e
    · exact hs.put (hs.1 t (List.mem_of_getElem? e1)) e
 rw[if_neg o2,if_neg o2];by_cases o3:i.op=3
 · rw[if_pos o3,if_pos o3];refine⟨rfl,fun s' e=>?_⟩;obtain⟨x,hx,rfl⟩:=Option.map_eq_some_iff.1 e;have:=hs.take hx;exact⟨fun t ht=>(List.mem_or_eq_of_mem_set ht).elim (this.2.1 t) (fun e=>e▸this.1),this.2.2⟩
 rw[if_neg o3,if_neg o3];by_cases o4:i.op=4
 · rw[if_pos o4,if_pos o4];exact mZ (h.gK jE.num hs) fun a ha=>mZ (h.gK jE.num ha) (gB.put _ jE.num)
 rw[if_neg o4,if_neg o4];by_cases o5:i.op=5
 · rw[if_pos o5,if_pos o5];exact gB.put _ jE.null s hs
 rw[if_neg o5,if_neg o5];by_cases o6:i.op=6
 · rw[if_pos o6,if_pos o6];exact gB.put _ (jE.cls hi) s hs
 rw[if_neg o6,if_neg o6];by_cases o7:i.op=7
 · rw[if_pos o7,if_pos o7];rw[hg.1];split
   · rename_i e;obtain⟨g1, -,g2⟩:=hg.2 e;rw[g1];exact mZ (h.gK (jE.cls hi) hs) (gB.put _ (jE.of g2))
   · exact⟨rfl,fun _ e=>by cases e⟩
 rw[if_neg o7,if_neg o7];by_cases o8:i.op=8
 · rw[if_pos o8,if_pos o8];rw[hg.1];split
   · rename_i e;obtain⟨g1, -,g2⟩:=hg.2 e;rw[g1];exact mZ (h.gK (jE.of g2) hs) fun a ha=>h.gK (jE.cls hi) ha
   · exact⟨rfl,fun _ e=>by cases e⟩
 rw[if_neg o8,if_neg o8];by_cases o9:i.op=9
 · rw[if_pos o9,if_pos o9];rw[hc.1];split
   · rename_i e;obtain⟨g1,c,g2,g3,g4⟩:=hc.2 e;rw[g1,h.method g2];have hn:=BD.of g3 g4;exact mZ (h.ZI (fun a ha=>hn.args a (List.mem_reverse.1 ha)) hs) fun a ha=>mZ (h.gK (jE.cls hi) ha) (gB.put _ (jE.of hn.ret))
   · exact⟨rfl,fun _ e=>by cases e⟩
 rw[if_neg o9,if_neg o9];by_cases o10:i.op=10
 · rw[if_pos o10,if_pos o10];exact h.gK (jE.of hm.ret) hs
 rw[if_neg o10,if_neg o10];by_cases o11:i.op=11
 · rw[if_pos o11,if_pos o11];exact mZ (h.gK jE.num hs) fun a ha=>h.branch hm.maps ha
 rw[if_neg o11,if_neg o11];by_cases o12:i.op=12
 · rw[if_pos o12,if_pos o12];exact mZ (P:=nT (S k k')) ⟨rfl,fun a e=>hs.obj e⟩ fun a ha=>h.branch hm.maps ha
 rw[if_neg o12,if_neg o12];by_cases o13:i.op=13
 · rw[if_pos o13,if_pos o13];exact h.branch hm.maps hs
 rw[if_neg o13,if_neg o13];by_cases o14:i.op=14
 · rw[if_pos o14,if_pos o14];exact h.gK jE.num hs
 · rw[if_neg o14,if_neg o14];exact mZ (P:=nT (S k k')) ⟨rfl,fun a e=>hs.obj e⟩ (gB.put _ (jE.cls hi))
theorem gB.eZ(h:gB p q ρ S){m:Method}(hm:BD (S k k') m):∀{l:List Ins} {at_:Nat} {goes:Bool} {s:iY} {known:List iY},(∀i∈l,S k k' i.name)→nT (S k k') s→M.eZ q k' m l at_ goes s known=M.eZ p k m l at_ goes s known
 |[],_,_,_,_,_,_=>rfl
 | i :: l, at_, goes, s, known, hl, hs => by
  have h1:=h.meet (at_:=(at_:Int)) (goes:=goes) hm.maps hs;unfold M.eZ;rw[h1.1];cases e:M.kC p k m goes at_ s with
  |none=>rfl
  |some s1=>
   have h2:=h.bJ hm (hl i Wf) (h1.2 s1 e);simp only;rw[h2.1];cases e2:M.bJ p k m i s1 with
   |none=>rfl
   |some s2=>exact h.eZ hm (fun j hj=>hl j (by simp[hj])) (h2.2 s2 e2)
theorem gB.look(h:gB p q ρ S){x:kI}{c:Class}(hc:cls? p x.of=some c)(hm:M.method p x∈c.methods):M.look q (mapM ρ x)=M.look p x:=by
 have ho:=(h.own hc).2;have hn:BD (S x.of.keeper (ρ x.of).keeper) (M.method p x):=BD.of hm ho.1;have hs:ry (mapM ρ x) (M.method p x)=ry x (M.method p x):=by unfold ry mapM;rw[h.name]
 have hf:nT (S x.of.keeper (ρ x.of).keeper) (ry x (M.method p x)):=by
  refine⟨fun t ht=>?_,fun t ht=>by cases ht⟩;rcases List.mem_append.1 ht with ht|ht
  · rcases List.mem_cons.1 ht with rfl|ht
    · exact jE.cls ho.2
    · obtain⟨a,ha,rfl⟩:=List.mem_map.1 ht;exact jE.of (hn.args a ha)
  · rw[(List.mem_replicate.1 ht).2];exact jE.zero
 unfold M.look;rw[h.method hc,hs,show(mapM ρ x).of.keeper=(ρ x.of).keeper from rfl,h.eZ hn hn.code hf]
theorem gB.right(h:gB p q ρ S){x:kI}{c:Class}(hc:cls? p x.of=some c)(hm:M.method p x∈c.methods):M.right q (mapM ρ x)=M.right p x:=by
 unfold M.right;rw[h.look hc hm]
theorem gB.eG(h:gB p q ρ S){r:Ref}{c:Class}(hc:cls? p r=some c):M.eG q (ρ r)=M.eG p r:=by
 unfold M.eG;have e:M.cls p r=c:=by unfold M.cls;rw[hc];rfl
 rw[h.bu hc,h.cls hc];congr 1;refine all_eq fun i hi=>?_;have hl:i<c.methods.length:=by rw[e]at hi;simpa using hi
 have hm:method? p ⟨r,i⟩=some c.methods[i]:=by unfold method?;simp[e,hl]
 obtain⟨c',h1,h2,h3⟩:=xA hm;exact h.right (x:=⟨r,i⟩) h1 (by rw[h3];exact h2)
end
end Go.Proofs.YtkmclfpjpajjeaaGreat.M
namespace Go.Proofs.YtkmclfpjpajjeaaGreat.M
def oM(ρ:Ref→Ref)(f:Fr):Fr:={f with of:=mapM ρ f.of}
def VT(ρ:Ref→Ref)(o:nP):nP:=⟨ρ o.of,o.fields⟩
def fA(ρ:Ref→Ref)(s:St):St:={s with frames:=s.frames.map (oM ρ),heap:=s.heap.map (VT ρ)}
def Mw(ρ:Ref→Ref)(x:Int×St):Int×St:=(x.1,fA ρ x.2)
section
variable {p q:ax} {ρ:Ref→Ref} {S:Int→Int→ByteArray→Prop} {s:St} {r:List Fr} {t:Fr}
theorem oN(h:s.frames=r++[t]):(fA ρ s).frames=r.map (oM ρ)++[oM ρ t]:=by simp[fA,h]
theorem uL(h:s.frames=r++[t]){f:Fr→Fr}(hf:f (oM ρ t)=oM ρ (f t)):Dl (fA ρ s) f=fA ρ (Dl s f):=by
 rw[j6 (oN h),j6 h,hf];simp[fA]
theorem Qj{x:kI}(h:bP p x=true):∃c,cls? p x.of=some c∧method p x∈c.methods:=by
 obtain⟨-,i,c,m, -,h2,h3,h4⟩:=pq h;obtain⟨c',k1,k2,k3⟩:=xA h4;exact⟨c',k1,by rw[k3];exact k2⟩
theorem xR{n:Nat}(h:dX p t n=true):∃c,cls? p t.of.of=some c∧method p t.of∈c.methods:=Qj (aM.1 h).1
theorem gB.jump(h:gB p q ρ S)(hG:Good p s)(hf:s.frames=r++[t])(k:Int):M.jump q k (fA ρ s)=Mw ρ (M.jump p k s):=by
 obtain⟨c,hc, -⟩:=xR (hG.top hf);unfold M.jump Mw;rw[iM (oN hf),iM hf,show(oM ρ t).of=mapM ρ t.of from rfl,h.method hc,uL hf (f:=fun f=>{f with pc:=k}) rfl];split<;>rfl
theorem gB.next(h:gB p q ρ S)(hG:Good p s)(hf:s.frames=r++[t]):M.next q (fA ρ s)=Mw ρ (M.next p s):=by
 unfold M.next;rw[iM (oN hf),iM hf];exact h.jump hG hf _
theorem gB.push(h:gB p q ρ S)(hG:Good p s)(hf:s.frames=r++[t]){v:Val}(hv:bD v s.heap.length=true):M.push q v (fA ρ s)=Mw ρ (M.push p v s):=by
 obtain⟨c,hc, -⟩:=xR (hG.top hf);have Az:=aM.1 (hG.top hf);unfold M.push;rw[iM (oN hf),iM hf,show(oM ρ t).of=mapM ρ t.of from rfl,h.method hc,uL hf (f:=fun f=>{f with stack:=f.stack++[v]}) rfl,show(oM ρ t).stack=t.stack from rfl];split
 · rfl
 · rename_i bY;rw[j6 hf];refine h.next (r:=r) (t:={t with stack:=t.stack++[v]}) (hG.turn hf (aM.2 ⟨Az.1,Az.2.1,Az.2.2.1,Az.2.2.2.1,by simp;omega,Az.2.2.2.2.2.1,?_⟩)) rfl;intro u hu;rcases List.mem_append.1 hu with hu|hu
   · exact Az.2.2.2.2.2.2 u hu
   · simp at hu;subst hu;exact hv
theorem rF(hf:s.frames=r++[t])(c:Nat):gG c (fA ρ s)=(gG c s).map fun x=>(x.1,fA ρ x.2):=by
 unfold gG;rw[iM (oN hf),iM hf,uL hf (f:=fun f=>{f with stack:=f.stack.take (f.stack.length - c)}) rfl,show(oM ρ t).stack=t.stack from rfl];split<;>rfl
theorem qP(hf:s.frames=r++[t]):pop (fA ρ s)=(pop s).map fun x=>(x.1,fA ρ x.2):=by
 unfold pop;rw[rF hf];cases gG 1 s<;>rfl
theorem LU(hG:Good p s){o:nP}(ho:o∈s.heap):∃c,cls? p o.of=some c:=ng ((fV.1 hG.heap).2 o ho).1
theorem MN{n:Int}(h0:0≤n)(h1:n<s.heap.length):oD (fA ρ s).heap n=ρ (oD s.heap n)∧∃o∈s.heap,oD s.heap n=o.of:=by
 obtain⟨o,h2,h3,h4, -⟩:=Qm (s:=s) h0 h1;refine⟨?_,o,h3,h4⟩;rw[h4];unfold oD fA;simp only[List.getElem?_map,h2];rfl
theorem gB.KD(h:gB p q ρ S)(hG:Good p s){v:Val}(hv:bD v s.heap.length=true)(hk:v.kind=2){x:Ref}{c:Class}(hx:cls? p x=some c):M.under q (oD (fA ρ s).heap v.n) (ρ x)=M.under p (oD s.heap v.n) x:=by
 obtain⟨h1,h2⟩:=lv hv hk;obtain⟨e,o,ho,eo⟩:=MN (ρ:=ρ) (s:=s) h1 h2;obtain⟨d,hd⟩:=LU hG ho;rw[e,eo];exact h.under hd hx
theorem gB.hasType(h:gB p q ρ S)(hG:Good p s){v:Val}(hv:bD v s.heap.length=true){k k':Int}{a:Kind}(ha:S k k' a.name):M.hasType q k' (fA ρ s).heap v a=M.hasType p k s.heap v a:=by
 have hf:=h.find ha;unfold M.hasType;split
 · rfl
 split
 · rfl
 split
 · rfl
 rename_i e1 e2 e3;by_cases g:(M.find p k a.name).2=1
 · obtain⟨i,c,hc⟩:=hf.2 g;rw[decide_eq_true g,decide_eq_true (hf.1.2 g),i,h.KD hG hv (by simpa using e3) hc]
 · rw[decide_eq_false g,decide_eq_false (fun e=>g (hf.1.1 e))];rfl
theorem gB.fH(h:gB p q ρ S)(hG:Good p s){k k':Int}:∀{vs:List Val} {l:List Kind},(∀v∈vs,bD v s.heap.length=true)→(∀a∈l,S k k' a.name)→M.fH q k' (fA ρ s).heap vs l=M.fH p k s.heap vs l
 |v::r,a::l,hv,ha=>by
  unfold M.fH;rw[h.hasType hG (hv v Wf) (ha a Wf),h.fH hG (fun u hu=>hv u (by simp[hu])) (fun b hb=>ha b (by simp[hb]))]
 |[],_,_,_=>by unfold M.fH;rfl
 |_::_,[],_,_=>by unfold M.fH;rfl
theorem gB.object(h:gB p q ρ S)(hG:Good p s){v:Val}(hv:bD v s.heap.length=true){x:Ref}{c:Class}(hx:cls? p x=some c):M.object q v (ρ x) (fA ρ s)=M.object p v x s:=by
 unfold M.object;split
 · rfl
 split
 · rfl
 rename_i e1 e2;rw[h.KD hG hv (by simpa using e2) hx]
theorem gB.fresh(h:gB p q ρ S){x:Ref}{c:Class}(hx:cls? p x=some c):M.fresh q (ρ x)=VT ρ (M.fresh p x):=by
 unfold M.fresh VT;rw[h.layout hx,List.map_map];rfl
theorem gB.fT(h:gB p q ρ S)(hf:s.frames=r++[t]){n:ByteArray}(hS:S t.of.of.keeper (ρ t.of.of).keeper n):
    (M.fT q n (fA ρ s)).2=(M.fT p n s).2∧((M.fT p n s).2=true→(M.fT q n (fA ρ s)).1=ρ (M.fT p n s).1∧M.bu p (M.fT p n s).1=true):=by
 have h1:=h.find hS;unfold M.fT;rw[iM (oN hf),iM hf,show(oM ρ t).of.of.keeper=(ρ t.of.of).keeper from rfl];by_cases g:(M.find p t.of.of.keeper n).2=1
 · obtain⟨i,c,hc⟩:=h1.2 g;simp only[decide_eq_true g,decide_eq_true (h1.1.2 g),i,h.bu hc,Bool.true_and];exact⟨trivial,fun e=>⟨trivial,e⟩⟩
 · simp only[decide_eq_false g,decide_eq_false (fun e=>g (h1.1.1 e)),Bool.false_and];exact⟨trivial,fun e=>by cases e⟩
theorem JA(n:Int):jG (fA ρ s).heap n=jG s.heap n:=by
 unfold jG fA;simp only[List.getElem?_map];cases s.heap[n.toNat]?<;>rfl
theorem Kq(n a:Int)(v:Val):iO (fA ρ s).heap n a v=(iO s.heap n a v).map (VT ρ):=by
 refine List.ext_getElem? fun i=>?_;simp only[iO,fA,List.getElem?_modify,List.getElem?_map];cases s.heap[i]? with
 |none=>rfl
 |some o=>
  simp only[Option.map_some];split<;>rfl
theorem gB.enter(h:gB p q ρ S)(hG:Good p s){lk:Bool}{x:kI}{vs:List Val}(hx:M.bP p x=true)(hv:∀v∈vs,bD v s.heap.length=true):M.enter q lk (mapM ρ x) vs (fA ρ s)=Mw ρ (M.enter p lk x vs s):=by
 obtain⟨c,hc,hm⟩:=Qj hx;have ho:=(h.own hc).2;have hn:BD (S x.of.keeper (ρ x.of).keeper) (M.method p x):=BD.of hm ho.1;unfold M.enter;rw[show(fA ρ s).frames.length=s.frames.length by simp[fA],h.right hc hm,h.method hc,show(mapM ρ x).of.keeper=(ρ x.of).keeper from rfl,show(mapM ρ x).of.name=x.of.name from h.name _,
  h.fH hG hv (fun a ha=>(List.mem_cons.1 ha).elim (fun e=>e▸ho.2) (hn.args a))]
 split
 · rfl
 split
 · rfl
 split
 · simp[Mw,fA,oM]
 · rfl
theorem gB.aO (h : gB p q ρ S) (hG : Good p s) (hf : s.frames = r ++ [t]) {lk : Bool} {i : Ins} (hi : iZ (M.method p t.of) i = true) (hS : S t.of.of.keeper (ρ t.of.of).keeper i.name) : M.aO q lk i (fA ρ s) = Mw ρ (M.aO p lk i s) := by
 obtain⟨_,i2,i3,i4,i5,_,_⟩:=lL hi;have ht:=aM.1 (hG.top hf);obtain⟨c,hc,hmc⟩:=xR (hG.top hf);have hn:BD (S t.of.of.keeper (ρ t.of.of).keeper) (M.method p t.of):=BD.of hmc (h.own hc).2.1;have hg:=h.get hS i.member;have fU:=h.call hS i.member;have zD:∀{v s1},M.pop s=some (v,s1)→bD v s1.heap.length=true∧Good p s1∧s1.frames=r++[{t with stack:=t.stack.take (t.stack.length - 1)}]:=fun hp=>by
  obtain⟨a1,a2,a3,a4,a5,a6,a7⟩:=MS hG hf hp;exact⟨by rw[a4];exact a1,a2,a3⟩
 have nW:∀{c vs s1},M.gG c s=some (vs,s1)→(∀v∈vs,bD v s1.heap.length=true)∧Good p s1∧s1.frames=r++[{t with stack:=t.stack.take (t.stack.length - c)}]:=fun hp=>by
  obtain⟨a1,a2,a3,a4,a5, -⟩:=oO hG hf hp;exact⟨by rw[a5];exact a2,a3,a4⟩
 have eT:M.top (fA ρ s)=oM ρ t:=iM (oN hf);have eK:(oM ρ t).of.of.keeper=(ρ t.of.of).keeper:=rfl;unfold M.aO;by_cases e1:i.op=1
 · rw[if_pos e1,if_pos e1];exact h.push hG hf (il _ (i4 e1))
 rw[if_neg e1,if_neg e1];by_cases e2:i.op=2
 · rw[if_pos e2,if_pos e2,eT,iM hf,show(oM ρ t).locals=t.locals from rfl];split
   · rfl
   · refine h.push hG hf ?_;have bY:i.a.toNat<t.locals.length:=by have:=i2 (.inl e2);omega
     rw[List.getElem?_eq_getElem bY];exact ht.2.2.2.2.2.1 _ (List.getElem_mem _)
 rw[if_neg e2,if_neg e2];by_cases e3:i.op=3
 · rw[if_pos e3,if_pos e3,qP hf];cases hp:M.pop s with
   |none=>rfl
   |some x=>
    obtain⟨v,s1⟩:=x;obtain⟨a1,a2,a3⟩:=zD hp;have NH:=aM.1 (a2.top a3);simp only[Option.map_some];rw[uL a3 (f:=fun f=>{f with locals:=f.locals.set i.a.toNat v}) rfl,j6 a3];refine h.next (r:=r) (a2.turn a3 (aM.2 ⟨NH.1,NH.2.1,NH.2.2.1,by simp;exact ht.2.2.2.1,NH.2.2.2.2.1,?_,NH.2.2.2.2.2.2⟩)) rfl;intro u hu;rcases List.mem_or_eq_of_mem_set hu with hu|rfl
    · exact NH.2.2.2.2.2.1 u hu
    · exact a1
 rw[if_neg e3,if_neg e3];by_cases e4:i.op=4
 · rw [if_pos e4, if_pos e4, rF hf]; cases hp : M.gG 2 s with
   |none=>rfl
   | some x =>
    obtain⟨vs,s1⟩:=x;obtain⟨a1,a2,a3⟩:=nW hp;simp only[Option.map_some];match vs with
    |[]=>rfl
    |[_]=>rfl
    |_::_::_::_=>rfl
    | [a, b] =>
     simp only;split
     · split
       · rename_i hn;exact h.push a2 a3 (il _ hn)
       · rfl
     · rfl
 rw[if_neg e4,if_neg e4];by_cases e5:i.op=5
 · rw[if_pos e5,if_pos e5];exact h.push hG hf (uW _)
 rw[if_neg e5,if_neg e5];by_cases e6:i.op=6
 · have hk := h.fT (s := s) hf hS; rw [if_pos e6, if_pos e6, hk.1, show (fA ρ s).heap.length = s.heap.length by simp [fA]]; split
   · rename_i yQ;obtain⟨k1,k2⟩:=hk.2 yQ;obtain⟨d,hd⟩:=ng k2;split
     · rfl
     · rename_i ZN;rw[k1];have e:M.create q (ρ (M.fT p i.name s).1) (fA ρ s)=((M.create p (M.fT p i.name s).1 s).1,fA ρ (M.create p (M.fT p i.name s).1 s).2):=by
        unfold M.create;rw[h.fresh hd];simp[fA]
       rw[e];exact h.push (r:=r) (t:=t) (hG.grow k2 Wg) hf (tF _ Wf X2)
   · rfl
 rw[if_neg e6,if_neg e6];by_cases e7:i.op=7
 · rw [if_pos e7, if_pos e7, eT, iM hf, eK, hg.1]; split
   · rename_i KO;obtain⟨g1,⟨d,g2, -⟩, -⟩:=hg.2 KO;rw[g1,qP hf];cases hp:M.pop s with
     |none=>rfl
     |some x=>
      obtain⟨v,s1⟩:=x;obtain⟨a1,a2,a3⟩:=zD hp;simp only[Option.map_some];rw[show(vV ρ (M.get p t.of.of.keeper i.name i.member).1).of=ρ (M.get p t.of.of.keeper i.name i.member).1.of from rfl,h.object a2 a1 g2,JA];split
      · rename_i ho;obtain⟨_,_,_,o,b1,b2,b3,b4⟩:=q9 a2 KO a1 ho;refine h.push a2 a3 ?_;rw[b3,show(vV ρ (M.get p t.of.of.keeper i.name i.member).1).at_=(M.get p t.of.of.keeper i.name i.member).1.at_ from rfl,List.getElem?_eq_getElem b4];exact((fV.1 a2.heap).2 o b2).2.2 _ (List.getElem_mem _)
      · rfl
   · rfl
 rw[if_neg e7,if_neg e7];by_cases e8:i.op=8
 · rw [if_pos e8, if_pos e8, eT, iM hf, eK, hg.1]; split
   · rename_i KO;obtain⟨g1,⟨d,g2,g3⟩, -⟩:=hg.2 KO;rw[g1,rF hf];cases hp:M.gG 2 s with
     |none=>rfl
     | some x =>
      obtain⟨vs,s1⟩:=x;obtain⟨a1,a2,a3⟩:=nW hp;simp only[Option.map_some];match vs,a1 with
      |[],_=>rfl
      |[_],_=>rfl
      |_::_::_::_,_=>rfl
      | [o, v], a1 =>
       simp only;rw[show(vV ρ (M.get p t.of.of.keeper i.name i.member).1).of=ρ (M.get p t.of.of.keeper i.name i.member).1.of from rfl,show(vV ρ (M.get p t.of.of.keeper i.name i.member).1).kind=(M.get p t.of.of.keeper i.name i.member).1.kind from rfl,
        h.hasType a2 (a1 v Wf) ((h.own g2).2.1 _ g3),h.object a2 (a1 o Wf) g2,Kq]
       split
       · split
         · exact h.next (r:=r) (a2.set (a1 v Wf)) a3
         · rfl
       · rfl
   · rfl
 rw[if_neg e8,if_neg e8];by_cases e9:i.op=9
 · rw [if_pos e9, if_pos e9, eT, iM hf, eK, fU.1]; split
   · rename_i mE;obtain⟨g1,d,g2,g3,g4⟩:=fU.2 mE;rw[g1,h.method g2,rF hf];cases hp:M.gG ((M.method p (M.call p t.of.of.keeper i.name i.member).1).args.length+1) s with
     |none=>rfl
     | some x =>
      obtain⟨vs,s1⟩:=x;obtain⟨a1,a2,a3⟩:=nW hp;simp only[Option.map_some];have hh:bD (vs.headD eU) s1.heap.length=true:=by
       cases vs with
       |nil=>exact GI _
       |cons u l=>exact a1 u Wf
      rw[show(mapM ρ (M.call p t.of.of.keeper i.name i.member).1).of=ρ (M.call p t.of.of.keeper i.name i.member).1.of from rfl,h.object a2 hh g2];split
      · rename_i ho;obtain⟨o1,o2⟩:=oC ho;obtain⟨v1,v2⟩:=lv hh o1;obtain⟨f1,o,ho',f2⟩:=MN (ρ:=ρ) (s:=s1) v1 v2;obtain⟨dd,hdd⟩:=LU a2 ho';rw[f1,f2,h.pick hdd];cases hx:M.pick p o.of i.member with
        |none=>rfl
        |some x=>exact h.enter a2 (kW hx) a1
      · rfl
   · rfl
 rw[if_neg e9,if_neg e9];by_cases e10:i.op=10
 · rw [if_pos e10, if_pos e10, eT, iM hf, eK, qP hf]; cases hp : M.pop s with
   |none=>rfl
   |some x=>
    obtain⟨v,s1⟩:=x;obtain⟨a1,a2,a3⟩:=zD hp;simp only[Option.map_some];rw[show(oM ρ t).of=mapM ρ t.of from rfl,h.method hc,h.hasType a2 a1 hn.ret,show(fA ρ s1).frames.length=s1.frames.length by simp[fA]];split
    · split
      · rfl
      · rename_i mR;have hr:r≠[]:=by
         rintro rfl;rw[a3]at mR;simp at mR
        obtain⟨r',t',rfl⟩:∃r' t',r=r'++[t']:=⟨r.dropLast,r.getLast hr,(List.dropLast_concat_getLast hr).symm⟩;have hd:s1.frames.dropLast=r'++[t']:=by rw[a3];simp
        have e:({fA ρ s1 with frames:=(fA ρ s1).frames.dropLast}:St)=fA ρ {s1 with frames:=s1.frames.dropLast}:=by simp[fA,List.map_dropLast]
        rw[e];refine h.push (s:={s1 with frames:=s1.frames.dropLast}) (r:=r') (t:=t') ⟨a2.heap,?_,?_,a2.outs,a2.l9,a2.back⟩ hd a1
        · intro f hf;exact a2.frames f (List.dropLast_subset _ hf)
        · have:=a2.nf;simp only[List.length_dropLast];omega
    · rfl
 rw[if_neg e10,if_neg e10];by_cases e11:i.op=11
 · rw [if_pos e11, if_pos e11, qP hf]; cases hp : M.pop s with
   |none=>rfl
   |some x=>
    obtain⟨v,s1⟩:=x;obtain⟨a1,a2,a3⟩:=zD hp;simp only[Option.map_some];split
    · split
      · exact h.jump a2 a3 _
      · exact h.next a2 a3
    · rfl
 rw[if_neg e11,if_neg e11];by_cases e12:i.op=12
 · rw [if_pos e12, if_pos e12, qP hf]; cases hp : M.pop s with
   |none=>rfl
   |some x=>
    obtain⟨v,s1⟩:=x;obtain⟨a1,a2,a3⟩:=zD hp;simp only[Option.map_some];split
    · split
      · exact h.jump a2 a3 _
      · exact h.next a2 a3
    · rfl
 rw[if_neg e12,if_neg e12];by_cases e13:i.op=13
 · rw[if_pos e13,if_pos e13];exact h.jump hG hf _
 rw[if_neg e13,if_neg e13];by_cases e14:i.op=14
 · rw [if_pos e14, if_pos e14, qP hf]; cases hp : M.pop s with
   |none=>rfl
   |some x=>
    obtain⟨v,s1⟩:=x;obtain⟨a1,a2,a3⟩:=zD hp;simp only[Option.map_some];rw[show(fA ρ s1).outs=s1.outs from rfl];split
    · rename_i hk;split
      · rename_i ho;refine h.next (r:=r) (s:={s1 with outs:=s1.outs++[v.n]}) ⟨a2.heap,a2.frames,a2.nf,by simp;omega,?_,a2.back⟩ a3;intro n hn;rcases List.mem_append.1 hn with hn|hn
        · exact a2.l9 n hn
        · simp at hn;subst hn;have:=tH a1 hk;unfold iH;simp;omega
      · exact h.next a2 a3
    · rfl
 rw[if_neg e14,if_neg e14,qP hf];cases hp:M.pop s with
 |none=>rfl
 | some x =>
  obtain⟨v,s1⟩:=x;obtain⟨a1,a2,a3⟩:=zD hp;simp only[Option.map_some];have hk:=h.fT (s:=s1) a3 hS;rw[hk.1];split
  · split
    · exact h.push a2 a3 a1
    · split
      · rename_i sM qy yQ;obtain⟨k1,k2⟩:=hk.2 yQ;obtain⟨d,hd⟩:=ng k2;rw[k1,h.KD a2 a1 (sM.resolve_right qy) hd];split
        · exact h.push a2 a3 a1
        · rfl
      · rfl
  · rfl
theorem Mv(c:Int):end_ c (fA ρ s)=fA ρ (end_ c s):=by
 unfold end_;split<;>rfl
theorem gB.step(h:gB p q ρ S)(jM:dF p=true)(hR:yx p s)(lk:Bool):M.step q lk (fA ρ s)=fA ρ (M.step p lk s):=by
 unfold M.step;rw[show(fA ρ s).status=s.status from rfl];by_cases hs:s.status=1
 · rw[if_pos hs,if_pos hs];obtain⟨r,t,i,hf,ht,hi,DU⟩:=M4 jM hR hs;obtain⟨c,hc,hmc⟩:=xR ht;have hn:BD (S t.of.of.keeper (ρ t.of.of).keeper) (M.method p t.of):=BD.of hmc (h.own hc).2.1;have e:stepped q lk (fA ρ s)=Mw ρ (stepped p lk s):=by
    unfold stepped;rw[iM (oN hf),iM hf,show(oM ρ t).of=mapM ρ t.of from rfl,h.method hc,show(oM ρ t).pc=t.pc from rfl,hi];exact h.aO hR.good hf DU (hn.code i (List.mem_of_getElem? hi))
   rw[e];exact Mv _
 · rw[if_neg hs,if_neg hs]
theorem gB.steps(h:gB p q ρ S)(jM:dF p=true)(lk:Bool):∀(f:Nat) {s:St},yx p s→M.steps q lk f (fA ρ s)=fA ρ (M.steps p lk f s)
 |0,_,_=>rfl
 |f+1,s,hR=>by
  unfold M.steps;rw[show(fA ρ s).status=s.status from rfl];split
  · rw[h.step jM hR lk];exact h.steps jM lk f (Jd jM hR lk)
  · rfl
theorem gB.start(h:gB p q ρ S){k k':Int}{n:ByteArray}(hS:S k k' n)(lk:Bool)(m:ByteArray){args:List Int}(ha:args.all iH=true):M.start q lk k' n m args=fA ρ (M.start p lk k n m args):=by
 have hf:=h.find hS;have hc:=h.call hS m;unfold M.start;by_cases g:(M.find p k n).2=1
 · obtain ⟨i, c, fU⟩ := hf.2 g; rw [i, h.bu fU]; by_cases g2 : M.bu p (M.find p k n).1 = true
   · rw [if_pos (show (M.find q k' n).2 = 1 ∧ M.bu p (M.find p k n).1 = true from ⟨hf.1.2 g, g2⟩), if_pos (show (M.find p k n).2 = 1 ∧ M.bu p (M.find p k n).1 = true from ⟨g, g2⟩), hc.1]; by_cases g3 : (M.call p k n m).2 = 1
     · obtain⟨j1,d,j2,j3,j4⟩:=hc.2 g3;rw[j1,h.method j2,h.fresh fU];split
       · obtain⟨r,hr⟩:=l7 g3;have e:=h.enter (s:=⟨1,[],[M.fresh p (M.find p k n).1],[],eU⟩) (Good.one g2) (lk:=lk) (kW hr) (vs:=⟨2,0⟩::args.map gF) (fun v hv=>by
          rcases List.mem_cons.1 hv with rfl|hv
          · exact tF _ Wf Wf
          · obtain⟨a,Xa,rfl⟩:=List.mem_map.1 hv;exact il _ (List.all_eq_true.1 ha a Xa))
         have e2:fA ρ ⟨1,[],[M.fresh p (M.find p k n).1],[],eU⟩=⟨1,[],[VT ρ (M.fresh p (M.find p k n).1)],[],eU⟩:=rfl;rw[e2]at e;rw[e];exact Mv _
       · rfl
     · rw[if_neg (fun e=>g3 e.1),if_neg (fun e=>g3 e.1)];rfl
   · rw[if_neg (fun e=>g2 e.2),if_neg (fun e=>g2 e.2)];rfl
 · rw[if_neg (fun e=>g (hf.1.1 e.1)),if_neg (fun e=>g e.1)];rfl
end
end Go.Proofs.YtkmclfpjpajjeaaGreat.M
namespace Go.Proofs.YtkmclfpjpajjeaaGreat.M
section
variable {p q:ax} {ρ:Ref→Ref} {S:Int→Int→ByteArray→Prop}
theorem rG{p:ax}{r:Ref}:r∈classes p↔(∃c,cls? p r=some c)∧0<(chain p r).length:=by
 unfold classes;simp only[List.mem_flatMap,List.mem_filter,List.mem_range,decide_eq_true_eq];constructor
 · rintro⟨k,hk,h1,h2⟩;refine⟨?_,h2⟩;rw[List.getElem?_eq_getElem hk]at h1;simp only[Option.map_some,Option.getD_some,List.mem_map]at h1;obtain⟨c,hc,rfl⟩:=h1;have e:fw p (k:Int)=some p[k]:=by unfold fw;simp[hk]
   unfold cls?;rw[e,Option.bind_some];cases hf:p[k].owns.find? (fun x=>decide (x.name=c.name))with
   |none=>exact absurd (List.find?_eq_none.1 hf c hc) Wf
   |some d=>exact⟨d,rfl⟩
 · rintro⟨⟨c,hc⟩,h2⟩;obtain⟨k1,k2⟩:=Ej hc;have hn:=Ud hc;unfold cls? fw at hc;rw[if_pos k1]at hc;have bY:r.keeper.toNat<p.length:=by omega
   rw[List.getElem?_eq_getElem bY,Option.bind_some]at hc;refine⟨r.keeper.toNat,bY,?_,h2⟩;rw[List.getElem?_eq_getElem bY];simp only[Option.map_some,Option.getD_some,List.mem_map];exact⟨c,List.mem_of_find?_eq_some hc,Ref.gJ.2 ⟨by simp only;omega,hn⟩⟩
theorem gB.iI(h:gB p q ρ S)(jM:dF q=dF p)(hs:∀r' c,cls? q r'=some c→(∃r d,cls? p r=some d∧ρ r=r')∨M.eG q r'=true):M.iI q=M.iI p:=by
 unfold M.iI;rw[jM];congr 1;refine Bool.eq_iff_iff.2 ?_;rw[List.all_eq_true,List.all_eq_true];constructor
 · intro hq r hr;obtain⟨⟨c,hc⟩,h1⟩:=rG.1 hr;rw[←h.eG hc];refine hq _ (rG.2 ⟨⟨c,(h.own hc).1⟩,?_⟩);rw[h.chain hc,List.length_map];exact h1
 · intro hp r' Eo;obtain⟨⟨c,hc⟩,h1⟩:=rG.1 Eo;rcases hs r' c hc with⟨r,d,hd,rfl⟩|e
   · rw[h.eG hd];refine hp _ (rG.2 ⟨⟨d,hd⟩,?_⟩);rw[h.chain hd,List.length_map]at h1;exact h1
   · exact e
end
def swap(k:Int):Int:=if k=1 then 2 else if k=2 then 1 else k
def jW(r:Ref):Ref:=⟨swap r.keeper,r.name⟩
def fD(k:eY):eY:=⟨k.owns,k.asks.map fun a=>if 0<a.keeper then⟨a.name,3 - a.keeper⟩else a⟩
def turned(a b c:eY):ax:=[fD a,fD c,fD b]
def tV(p:ax):Prop:=∀k∈p,∀a∈k.asks,0≤a.keeper∧a.keeper<p.length
theorem mf(k:Int):(k=0∧swap k=0)∨(k=1∧swap k=2)∨(k=2∧swap k=1)∨((k<0∨3≤k)∧swap k=k):=by
 unfold swap;by_cases h1:k=1
 · simp[h1]
 · by_cases h2:k=2
   · simp[h2]
   · rw[if_neg h1,if_neg h2];omega
theorem swap_inj{a b:Int}(h:swap a=swap b):a=b:=by
 rcases mf a with h1|h1|h1|h1<;>rcases mf b with h2|h2|h2|h2<;>omega
theorem swap_swap(k:Int):swap (swap k)=k:=by
 rcases mf k with h1|h1|h1|h1<;>rcases mf (swap k)with h2|h2|h2|h2<;>omega
section
variable {a b c:eY}
theorem yY(k:Int):fw (turned a b c) (swap k)=(fw [a,b,c] k).map fD:=by
 unfold fw turned;rcases mf k with⟨h1,h2⟩|⟨h1,h2⟩|⟨h1,h2⟩|⟨h1,h2⟩
 · rw[h2,h1];rfl
 · rw[h2,h1];rfl
 · rw[h2,h1];rfl
 · rw[h2];by_cases h0:0≤k
   · rw[if_pos h0,if_pos h0,List.getElem?_eq_none X2,List.getElem?_eq_none X2];rfl
   · rw[if_neg h0,if_neg h0];rfl
theorem zM(r:Ref):cls? (turned a b c) (jW r)=cls? [a,b,c] r:=by
 unfold cls? jW;rw[yY];cases fw [a,b,c] r.keeper<;>rfl
theorem OV{p:ax}{k:Int}{x:eY}(h:fw p k=some x):x∈p:=by
 unfold fw at h;split at h
 · exact List.mem_of_getElem? h
 · cases h
theorem Pz(hi:tV [a,b,c])(k:Int)(n:ByteArray):ug (turned a b c) (swap k) n=(ug [a,b,c] k n).map swap:=by
 unfold ug;rw[yY];cases hk:fw [a,b,c] k with
 |none=>rfl
 | some x =>
  simp only[Option.map_some,Option.bind_some,fD];have hx:=hi x (OV hk);clear hk;generalize x.asks=l at hx;induction l with
  |nil=>rfl
  | cons y l ih =>
   obtain⟨h1,h2⟩:=hx y Wf;have hy:(if 0<y.keeper then(⟨y.name,3 - y.keeper⟩:Ask)else y)=⟨y.name,swap y.keeper⟩:=by
    simp only[List.length_cons,List.length_nil]at h2;rcases mf y.keeper with⟨g1,g2⟩|⟨g1,g2⟩|⟨g1,g2⟩|⟨g1,g2⟩
    · rw[if_neg Wg,g2,←g1]
    · rw[if_pos Wg,g2,g1];rfl
    · rw[if_pos Wg,g2,g1];rfl
    · omega
   rw[List.map_cons,hy,List.find?_cons,List.find?_cons];cases decide (y.name=n)with
   |true=>rfl
   |false=>exact ih fun z hz=>hx z (by simp[hz])
theorem GH(k:Int):has (turned a b c) (swap k)=has [a,b,c] k:=by
 refine Bool.eq_iff_iff.2 ?_;rw[rq,rq];simp only[turned,List.length_cons,List.length_nil];rcases mf k with h|h|h|h<;>omega
theorem yZ(hi:tV [a,b,c])(n:ByteArray):∀(f:Nat) (l:List Int) (k:Int),gX (turned a b c) n f (l.map swap) (swap k)=((gX [a,b,c] n f l k).1.map swap,(gX [a,b,c] n f l k).2)
 |0,_,_=>rfl
 | f + 1, l, k => by
  unfold gX;rw[Pz hi];cases ug [a,b,c] k n with
  |none=>
   have e:owned (turned a b c) ⟨swap k,n⟩=owned [a,b,c] ⟨k,n⟩:=by unfold owned;rw[←zM ⟨k,n⟩];rfl
   simp only[Option.map_none,e];split<;>rfl
  | some m =>
   simp only[Option.map_some];have e:(l.map swap).contains (swap m)=l.contains m:=by
    refine Bool.eq_iff_iff.2 ?_;rw[List.contains_iff_mem,List.contains_iff_mem,List.mem_map];exact⟨fun⟨x,hx,he⟩=>swap_inj he▸hx,fun h=>⟨m,h,rfl⟩⟩
   rw[e];split
   · rfl
   · rw[←yZ hi n f (l++[m]) m];simp
theorem Ja{p:ax}{n:ByteArray}:∀{f:Nat} {l:List Int} {k:Int},l≠[]→(gX p n f l k).2=1→(gX p n f l k).1≠[]
 |0,_,_,_,h=>by simp[gX]at h
 | f + 1, l, k, hl, h => by
  unfold gX at h ⊢;cases e:ug p k n with
  |none=>
   rw[e]at h;simp only at h ⊢;split at h
   · rename_i h1;rw[if_pos h1];exact hl
   · simp at h
  |some m=>
   rw[e]at h;simp only at h ⊢;split at h
   · simp at h
   · rename_i h1;rw[if_neg h1];exact Ja Wf h
theorem M7(hi:tV [a,b,c])(k:Int)(n:ByteArray):path (turned a b c) (swap k) n=((path [a,b,c] k n).1.map swap,(path [a,b,c] k n).2):=by
 unfold path;rw[GH];split
 · exact yZ hi n 4 [k] k
 · rfl
theorem zN(hi:tV [a,b,c]):gB [a,b,c] (turned a b c) jW (fun k k' _=>k'=swap k) where
 has:=fun h=>by subst h;exact GH _
 res := fun {k k' n} h => by
  subst h;have hp:=M7 hi k n;unfold resolve;rw[hp];by_cases e:(path [a,b,c] k n).2=1
  · rw[if_pos e,if_pos e];refine⟨Iff.rfl,fun _=>?_⟩;have:(path [a,b,c] k n).1≠[]:=by
     have:=Gf e;intro h0;unfold path at e h0;split at e
     · rename_i hh;rw[if_pos hh]at h0;exact absurd h0 (Ja Wf e)
     · cases e
    obtain⟨l,x,hx⟩:∃l x,(path [a,b,c] k n).1=l++[x]:=⟨_,_,(List.dropLast_concat_getLast this).symm⟩;rw[hx];simp[jW]
  · rw[if_neg e,if_neg e];exact⟨Iff.rfl,fun h=>absurd h e⟩
 own:=fun{r c'} h=>⟨(zM r).trans h,fun _ _=>rfl,rfl⟩
 clo:=fun h _ _ _ _ _ _ _ _ _=>h
 name:=fun _=>rfl
 inj:=fun _ _ h=>by
  have h1:swap _=swap _:=congrArg Ref.keeper h;have h2:=congrArg Ref.name h;exact Ref.gJ.2 ⟨swap_inj h1,h2⟩
theorem IJ{α β:Type}{nα:α→ByteArray}{nβ:β→ByteArray}{oα:α→Bool}{oβ:β→Bool}{f:α→β}(hn:∀x,nβ (f x)=nα x):∀{l:List α} {seen:List ByteArray},(∀x∈l,oβ (f x)=oα x)→aZ nβ oβ (l.map f) seen=aZ nα oα l seen
 |[],_,_=>rfl
 |x::l,seen,h=>by
  rw[List.map_cons];unfold aZ;rw[h x Wf,hn,IJ hn fun y hy=>h y (by simp[hy])]
theorem Cv(hi:tV [a,b,c]):dF (turned a b c)=dF [a,b,c]:=by
 have hk:∀x∈[a,b,c],bA (turned a b c) (fD x)=bA [a,b,c] x:=fun x hx=>by
  unfold bA fD;simp only[List.length_map];congr 1;refine IJ (fun y=>?_) fun y hy=>?_
  · split<;>rfl
  · obtain⟨h1,h2⟩:=hi x hx y hy;simp only[List.length_cons,List.length_nil]at h2;have e1:(if 0<y.keeper then(⟨y.name,3 - y.keeper⟩:Ask)else y).name=y.name:=by split<;>rfl
    have e2:has (turned a b c) (if 0<y.keeper then(⟨y.name,3 - y.keeper⟩:Ask)else y).keeper=has [a,b,c] y.keeper:=by
     refine Bool.eq_iff_iff.2 ?_;rw[rq,rq];simp only[turned,List.length_cons,List.length_nil];split<;>simp only<;>omega
    rw[e1,e2]
 unfold dF;rw[show(turned a b c).length=[a,b,c].length from rfl];congr 1;have h1:=hk a Wf;have h2:=hk b Wf;have h3:=hk c Wf;simp only[turned,List.all_cons,List.all_nil]at h1 h2 h3 ⊢;rw[h1,h2,h3];cases bA [a,b,c] a<;>cases bA [a,b,c] b<;>cases bA [a,b,c] c<;>rfl
theorem KC(hi:tV [a,b,c]):iI (turned a b c)=iI [a,b,c]:=by
 refine(zN hi).iI (Cv hi) fun r' d hd=>.inl ⟨jW r',d,?_,?_⟩
 · rw[←zM,show jW (jW r')=r' from Ref.gJ.2 ⟨swap_swap _,rfl⟩];exact hd
 · exact Ref.gJ.2 ⟨swap_swap _,rfl⟩
theorem qQ(hi:tV [a,b,c])(lk:Bool)(n m:ByteArray)(args:List Int):jC (turned a b c) lk 0 n m args=fA jW (jC [a,b,c] lk 0 n m args):=by
 unfold jC;rw[Cv hi,show has (turned a b c) 0=has [a,b,c] 0 from rfl];split
 · rename_i h;simp only[Bool.and_eq_true]at h;exact(zN hi).start (k:=0) (k':=0) rfl lk m h.2
 · rfl
theorem PD(hi:tV [a,b,c])(lk:Bool)(n m:ByteArray)(args:List Int){f:Nat}(hf:f≤400):oQ (turned a b c) lk (jC (turned a b c) lk 0 n m args) f=fA jW (oQ [a,b,c] lk (jC [a,b,c] lk 0 n m args) f):=by
 rcases Dv (p:=[a,b,c]) (k:=0) (n:=n) (m:=m) (args:=args)with h|⟨jM,h⟩
 · rw[qQ hi,h lk];have e:∀p:ax,oQ p lk D9 f=D9:=fun p=>by unfold oQ;rw[show Cx p D9=false from by simp[Cx,D9]];simp
   rw[show fA jW D9=D9 from rfl,e,e];rfl
 · obtain⟨-,hR⟩:=h lk;have hq:dF (turned a b c)=true:=(Cv hi).trans jM;have ZW:yx (turned a b c) (jC (turned a b c) lk 0 n m args):=by
    rcases Dv (p:=turned a b c) (k:=0) (n:=n) (m:=m) (args:=args)with h'|⟨-,h'⟩
    · have e2:=congrArg St.status (h' lk);rw[qQ hi]at e2;have e3:(jC [a,b,c] lk 0 n m args).status=0:=e2;have:=hR.st;omega
    · exact(h' lk).2
   rw[Nb jM hR hf,Nb hq ZW hf,qQ hi];exact(zN hi).steps jM lk f hR
end
end Go.Proofs.YtkmclfpjpajjeaaGreat.M
namespace Go.Proofs.YtkmclfpjpajjeaaGreat
open Go Go.RowKit
def ve(x:M.Ask):List Value:=[.string x.name,.int .i64 x.keeper]
def DK(x:M.Ask):M.Ask:=if 0<x.keeper then⟨x.name,3 - x.keeper⟩else x
theorem QZ{w w1 wr:World}{k:M.eY}{v:Value}{B:Nat}(hE:Ext w w1)(hK:Kp (·=B) w1 wr)(hB:w.heap.size≤B)(hO:wr.ownsRow (B+1) 55 2 v k.asks.length ((k.asks.map DK).flatMap ve))(hl:k.asks.length≤1000){wf:World}(hF:Kp (fun b=>b=B∨b=B - 1) wr wf)(hB1:w.heap.size≤B - 1):
    SliceOf 2 eu wf (fun b=>w.heap.size≤b) v (M.fD k).asks∧Ext w wf:=by
 have h1:SliceOf 2 eu wr (fun b=>B<b) v (k.asks.map DK):=SliceOf.gH ve hO Wf rfl (fun _ _=>rfl) (fun _ _=>rfl) (fun b hb _=>by omega) X2;exact⟨h1.keep eu.stays (hF.same fun b hb e=>by omega) (fun b hb=>by omega),(hE.own hK fun b e=>by omega).own hF fun b e=>by omega⟩
theorem BG{k:M.eY}{q:Nat}{x:M.Ask}(hx:k.asks[q]?=some x):((k.asks.map DK).take (q+1)).flatMap ve=((k.asks.map DK).take q).flatMap ve++ve (DK x):=by
 rw[List.take_add_one,List.getElem?_map,hx];simp
theorem J6(w:World)(I:Nat→Prop)(oa:Option Addr)(on oc:Nat)(va:Value)(k:M.eY)(h:SliceOf 2 eu w I va k.asks)(hk:∀a∈k.asks,0≤a.keeper∧a.keeper<3)(hl:k.asks.length≤1000):
    Calls Tryz.prog 7 #[.agg #[.slice oa on oc,va]] w fun e w'=>(∃v,e=.returned (.agg #[.slice oa on oc,v])∧SliceOf 2 eu w' (fun b=>w.heap.size≤b) v (M.fD k).asks)∧Ext w w':=by
 obtain⟨a,c,rfl,hn,dm⟩:=h.form;obtain⟨w1,jX⟩:∃w1,w1=((w.alloc (.cells #[.slice oa on oc,.slice a k.asks.length c] 33)).alloc (.cells #[.slice none 0 0,.slice none 0 0] 33)).alloc (.cells #[.slice oa on oc,.slice none 0 0] 33):=⟨_,rfl⟩;have bH:Ext w w1:=by rw[jX];exact Z2
 have Db:w1.heap.size=w.heap.size+3:=by rw[jX];simp
 have b1:ay w1 w.heap.size 33 #[.slice oa on oc,.slice a k.asks.length c]:=by rw[jX];exact(ay.new _ _ _).ext ((Kp.rr.alloc _).alloc _)
 have b2:ay w1 (w.heap.size+1) 33 #[.slice none 0 0,.slice none 0 0]:=by rw[jX];exact ay.ext (w:=(w.alloc (.cells #[.slice oa on oc,.slice a k.asks.length c] 33)).alloc (.cells #[.slice none 0 0,.slice none 0 0] 33)) (ay.zI _ _ Wf) (Kp.rr.alloc _)
 have b3:ay w1 (w.heap.size+1+1) 33 #[.slice oa on oc,.slice none 0 0]:=by rw[jX];exact ay.zI _ _ Wf
 have⟨BB,eQ,vY,tL,mQ,gN,H0,HKR⟩:=JI jX bH Db b1 b2 b3 h hk;clear jX bH Db b1 b2 b3 h hk;go_enter Tryz.func7,Tryz.ntmps7;go_upto_region 2 with(fail);rw[←BB.o];go_wp2_with fail;go_loopw [4] (fun i wr=>∃(q:Nat) (v:Value),q≤k.asks.length∧i=.int .i64 q∧ay wr (w.heap.size+1+1) 33 #[.slice oa on oc,v]∧Zs (wr.ownsRow (w.heap.size+3) 55 2 v q (((k.asks.map DK).take q).flatMap ve))∧Kp (·=w.heap.size+1+1) w1 wr) (fun i _=>k.asks.length - (intOf i).toNat)
 case atStart=>exact⟨0,_,Nat.zero_le _,rfl,gN.o,Z3 ⟨rfl,.inl ⟨rfl,rfl⟩⟩,Kp.rr⟩
 case round =>
  obtain⟨q,v,hq,rfl,hb,HO,hK⟩:=hrel;have hfm:=HO.o;obtain⟨va,vc,rfl⟩:∃va vc,v=.slice va q vc:=by
   rcases hfm.2 with⟨rfl,rfl⟩|⟨g,c',cur,rfl, -⟩
   · exact⟨_,_,rfl⟩
   · exact⟨_,_,rfl⟩
  clear hfm;have br:=tL.o.kp hK Wg;obtain⟨rz,r0,r1, -⟩:=br.ca;have⟨HB,HK⟩:=aJ hb hK;have HZR:Zs (w.heap.size+3≤wr.heap.size):=Z3 (by have:=hK.size;have:=vY.o;omega);by_cases bY:q<k.asks.length
  · have dk:(q:Int)<k.asks.length:=by omega
    obtain⟨x,hx⟩:∃x,k.asks[q]?=some x:=⟨k.asks[q]'bY,List.getElem?_eq_getElem bY⟩;have YK:=HKR.o x (List.mem_of_getElem? hx);obtain⟨bl,off,cs,rfl,hI,rfl, -,hc⟩:=H0.o.get hx;have UI:Ext w wr:=eQ.o.own hK fun b e=>by omega
    obtain⟨g0,g1⟩:=(hc.ext UI).two;have gz:=aF g0;obtain⟨xn,xk⟩:=x;have YJ:xk=0∨xk=1∨xk=2:=by simp only at YK;omega
    clear hc UI YK hI;rcases YJ with rfl|rfl|rfl
    · obtain⟨w5,iA,cZ,b5⟩:=nu wr #[.string xn,.int .i64 0] 55;obtain⟨w6,nS,dC,b6⟩:=nu w5 #[.string xn,.int .i64 0] 55;have pQ:=HB.o.ext (cZ.trans dC);have LK:=aA (D:=fun _=>False) HO.o (cZ.trans dC) fun _ _ _ x=>x;obtain⟨yz,y0,y1, -⟩:=b5.ca;obtain⟨dz, -,d1, -⟩:=(HB.o.ext cZ).ca;have⟨dL,zg,CJ,tN,CK⟩:=kL pQ (ae.gM b6) LK iA nS;have Bg:Zs (Kp (·=w.heap.size+1+1) w1 w6):=Z3 (HK.o.trans (cZ.trans dC).any);have TS:Zs (w.heap.size+3≤w6.heap.size):=Z3 (by have:=HZR.o;have:=(cZ.trans dC).size;omega);have EE:=Z3 (BG (k:=k) hx);clear iA nS cZ dC b5 b6 pQ LK hb hK br hx;go_upto_region 8 with(fail);rw[←tN.o];clear r0 r1 rz g0 g1 gz;go_wp2_with (rw[←CK.o];refine az kZ rfl (.tmp 29) (.tmp 31) rfl (w.heap.size+3) (.slice va q vc) q _ rfl CJ.o w5.heap.size 1 [.string xn,.int .i64 0] rfl rfl zg.o Ys Wg TS.o ?_;rintro g9 c9 w9 pO fM -;have GY:=dL.o.kp fM (fun e=>by have:=(CJ.o.lt _ e).1;omega);have p1:=GY.c 1 (.slice va q vc) rfl;have pf:=GY.frozen 1;have pz:=GY.lt);have hP:Kp (·=w.heap.size+1+1) w9 (w9.setCell ⟨w.heap.size+1+1,1,none⟩ (.slice (some ⟨g9,0,none⟩) (q+1) c9)):=(Kp.refl (·=w.heap.size+1+1) w9).setCell (p:=⟨w.heap.size+1+1,1,none⟩) (fun _=>rfl) _;go_round
      case rel=>exact⟨q+1,_,by omega,by go_num,by simpa using GY.bE 1 (.slice (some ⟨g9,0,none⟩) (q+1) c9),Z3 (by rw[EE.o,show ve (DK ⟨xn,0⟩)=[.string xn,.int .i64 0]from by simp[ve,DK]];exact aA pO hP (fun g _ h2 e=>by omega)),((Bg.o.own' fM (fun b e=>.inr (by have:=(CJ.o.lt _ e).1;have:=vY.o;omega))).trans hP)⟩
      case measure=>simp[intOf];omega
    · obtain⟨w5,iA,cZ,b5⟩:=nu wr #[.string xn,.int .i64 2] 55;obtain⟨w6,nS,dC,b6⟩:=nu w5 #[.string xn,.int .i64 2] 55;have pQ:=HB.o.ext (cZ.trans dC);have LK:=aA (D:=fun _=>False) HO.o (cZ.trans dC) fun _ _ _ x=>x;obtain⟨yz,y0,y1, -⟩:=b5.ca;obtain⟨dz, -,d1, -⟩:=(HB.o.ext cZ).ca;have⟨dL,zg,CJ,tN,CK⟩:=kL pQ (ae.gM b6) LK iA nS;have Bg:Zs (Kp (·=w.heap.size+1+1) w1 w6):=Z3 (HK.o.trans (cZ.trans dC).any);have TS:Zs (w.heap.size+3≤w6.heap.size):=Z3 (by have:=HZR.o;have:=(cZ.trans dC).size;omega);have EE:=Z3 (BG (k:=k) hx);clear iA nS cZ dC b5 b6 pQ LK hb hK br hx;go_upto_region 8 with(fail);rw[←tN.o];clear r0 r1 rz g0 g1 gz;go_wp2_with (rw[←CK.o];refine az kZ rfl (.tmp 29) (.tmp 31) rfl (w.heap.size+3) (.slice va q vc) q _ rfl CJ.o w5.heap.size 1 [.string xn,.int .i64 2] rfl rfl zg.o Ys Wg TS.o ?_;rintro g9 c9 w9 pO fM -;have GY:=dL.o.kp fM (fun e=>by have:=(CJ.o.lt _ e).1;omega);have p1:=GY.c 1 (.slice va q vc) rfl;have pf:=GY.frozen 1;have pz:=GY.lt);have hP:Kp (·=w.heap.size+1+1) w9 (w9.setCell ⟨w.heap.size+1+1,1,none⟩ (.slice (some ⟨g9,0,none⟩) (q+1) c9)):=(Kp.refl (·=w.heap.size+1+1) w9).setCell (p:=⟨w.heap.size+1+1,1,none⟩) (fun _=>rfl) _;go_round
      case rel=>exact⟨q+1,_,by omega,by go_num,by simpa using GY.bE 1 (.slice (some ⟨g9,0,none⟩) (q+1) c9),Z3 (by rw[EE.o,show ve (DK ⟨xn,1⟩)=[.string xn,.int .i64 2]from by simp[ve,DK]];exact aA pO hP (fun g _ h2 e=>by omega)),((Bg.o.own' fM (fun b e=>.inr (by have:=(CJ.o.lt _ e).1;have:=vY.o;omega))).trans hP)⟩
      case measure=>simp[intOf];omega
    · obtain⟨w5,iA,cZ,b5⟩:=nu wr #[.string xn,.int .i64 1] 55;obtain⟨w6,nS,dC,b6⟩:=nu w5 #[.string xn,.int .i64 1] 55;have pQ:=HB.o.ext (cZ.trans dC);have LK:=aA (D:=fun _=>False) HO.o (cZ.trans dC) fun _ _ _ x=>x;obtain⟨yz,y0,y1, -⟩:=b5.ca;obtain⟨dz, -,d1, -⟩:=(HB.o.ext cZ).ca;have⟨dL,zg,CJ,tN,CK⟩:=kL pQ (ae.gM b6) LK iA nS;have Bg:Zs (Kp (·=w.heap.size+1+1) w1 w6):=Z3 (HK.o.trans (cZ.trans dC).any);have TS:Zs (w.heap.size+3≤w6.heap.size):=Z3 (by have:=HZR.o;have:=(cZ.trans dC).size;omega);have EE:=Z3 (BG (k:=k) hx);clear iA nS cZ dC b5 b6 pQ LK hb hK br hx;go_upto_region 8 with(fail);rw[←tN.o];clear r0 r1 rz g0 g1 gz;go_wp2_with (rw[←CK.o];refine az kZ rfl (.tmp 29) (.tmp 31) rfl (w.heap.size+3) (.slice va q vc) q _ rfl CJ.o w5.heap.size 1 [.string xn,.int .i64 1] rfl rfl zg.o Ys Wg TS.o ?_;rintro g9 c9 w9 pO fM -;have GY:=dL.o.kp fM (fun e=>by have:=(CJ.o.lt _ e).1;omega);have p1:=GY.c 1 (.slice va q vc) rfl;have pf:=GY.frozen 1;have pz:=GY.lt);have hP:Kp (·=w.heap.size+1+1) w9 (w9.setCell ⟨w.heap.size+1+1,1,none⟩ (.slice (some ⟨g9,0,none⟩) (q+1) c9)):=(Kp.refl (·=w.heap.size+1+1) w9).setCell (p:=⟨w.heap.size+1+1,1,none⟩) (fun _=>rfl) _;go_round
      case rel=>exact⟨q+1,_,by omega,by go_num,by simpa using GY.bE 1 (.slice (some ⟨g9,0,none⟩) (q+1) c9),Z3 (by rw[EE.o,show ve (DK ⟨xn,2⟩)=[.string xn,.int .i64 1]from by simp[ve,DK]];exact aA pO hP (fun g _ h2 e=>by omega)),((Bg.o.own' fM (fun b e=>.inr (by have:=(CJ.o.lt _ e).1;have:=vY.o;omega))).trans hP)⟩
      case measure=>simp[intOf];omega
  · have dk:¬(q:Int)<k.asks.length:=by omega
    have e:q=k.asks.length:=by omega
    subst e;have HF:=Z3 HO.o;obtain⟨yz,y0,y1, -⟩:=hb.ca;have b2r:=mQ.o.kp hK Wg;obtain⟨tz,t0,t1, -⟩:=b2r.ca;obtain⟨f0,f1, -⟩:=b2r.fz;have Dx:=Z3 b2r;clear hb hK br b2r HO;have FIN:=Z3 (fun v0 v1=>QZ (B:=w.heap.size+1+1) eQ.o HK.o Wg (by rw[List.take_of_length_le Wf]at HF;exact HF.o) hl (wf:=(wr.setCell ⟨w.heap.size+1,0,none⟩ v0).setCell ⟨w.heap.size+1,1,none⟩ v1) (((Kp.refl (fun b=>b=w.heap.size+1+1∨b=w.heap.size+1+1 - 1) wr).setCell (p:=⟨w.heap.size+1,0,none⟩) (fun _=>.inr rfl) _).setCell (p:=⟨w.heap.size+1,1,none⟩) (fun _=>.inr rfl) _) Wg);go_wp2_with fail;refine bodyPost_ret (aY ES rfl _ _ (w.heap.size+1) rfl [.slice oa on oc,.slice va k.asks.length vc] (ae.gM ((Dx.o.bE 0 _).bE 1 _)) rfl) rfl ?_;exact⟨⟨_,rfl,(FIN.o _ _).1⟩,(FIN.o _ _).2⟩
theorem QC:wJ:=fun w l p h x hx=>Df w l p h x hx
theorem acf(w:World)(I:Nat→Prop)(v:Value)(p:M.ax)(hp:SliceOf 2 aB w I v p)(hI:∀b,I b→b<w.heap.size)(lk:Bool)(k:Int)(n m:ByteArray)(args:List Int)(va:Option Addr)(ac:Nat)(vB:SliceOf 1 jQ w I (.slice va args.length ac) args):
    Calls Tryz.prog 8 #[.agg #[v],.bool lk,.int .i64 k,.string n,.string m,.slice va args.length ac] w fun e w'=>
     (∃cs,e=.returned (.agg cs.toArray)∧dU w' (fun b=>w.heap.size≤b) (M.jC p lk k n m args) cs)∧Ext w w':=Y8 w I v p hp hI lk (Z3 fun _=>QC) k n m args va ac vB
theorem Ww(w:World)(I:Nat→Prop)(v:Value)(p:M.ax)(hp:SliceOf 2 aB w I v p)(hI:∀b,I b→b<w.heap.size)(lk:Bool)(s:M.St)(cs:List Value)(hs:dU w I s cs)(fuel:Int):
    Calls Tryz.prog 9 #[.agg #[v],.bool lk,.agg cs.toArray,.int .i64 fuel] w fun e w'=>
     (∃cs',e=.returned (.agg cs'.toArray)∧dU w' (fun b=>w.heap.size≤b) (M.oQ p lk s fuel) cs')∧Ext w w':=Y9 w I v p hp hI lk (Z3 fun _=>QC) s cs hs fuel
namespace M
end M
theorem YR(w:World)(I J:Nat→Prop)(va vb:Value)(a b:List Int)(ha:SliceOf 1 jQ w I va a)(hb:SliceOf 1 jQ w J vb b):
    Calls Tryz.prog 10 #[va,vb] w fun e w'=>e=.returned (.bool (decide (a=b)))∧Ext w w':=by
 obtain⟨a1,c1,rfl, -,hla⟩:=ha.form;obtain⟨a2,c2,rfl, -,hlb⟩:=hb.form;by_cases hl:a.length=b.length;rotate_left
 · have e1:((a.length:Int) !=b.length)=true:=bne_iff_ne.2 Wg;have HV:Zs (decide (a=b)=false):=Z3 (decide_eq_false fun e=>hl (by rw[e]));clear hl;go_enter Tryz.func10,Tryz.ntmps10;go_wp2_with fail;go_ret;exact⟨af HV.o.symm,kx⟩
 have e1:((a.length:Int) !=b.length)=false:=by simp[hl]
 have XC:=Z3 hl;clear hl;go_enter Tryz.func10,Tryz.ntmps10;go_wp2_with fail;go_loopw [5] (fun i wr=>∃q:Nat,q≤a.length∧i=.int .i64 q∧Ext w wr∧Zs (a.take q=b.take q)) (fun i _=>a.length - (intOf i).toNat)
 case atStart=>exact⟨0,Nat.zero_le _,rfl,Kp.rr,Z3 Wf⟩
 case round =>
  obtain⟨q,hq,rfl,hE,HQ⟩:=hrel;by_cases bY:q<a.length
  · have ag3:q<b.length:=by have:=XC.o;omega
    obtain⟨x,hx⟩:=iT a q bY;obtain⟨y,hy⟩:=iT b q ag3;obtain⟨b1,o1,cs1,rfl, -,rfl, -,mE⟩:=(ha.ext jQ.stays hE).get hx;obtain⟨b2,o2,cs2,rfl, -,rfl, -,yQ⟩:=(hb.ext jQ.stays hE).get hy;rw[Nat.mul_one]at mE yQ;have g1:=fun d=>((Kp.refl _ wr).drewN d:Ext wr _).aD mE.one;have g2:=fun d=>((Kp.refl _ wr).drewN d:Ext wr _).aD yQ.one;have⟨HX,HY,HE⟩:=bg hx hy hE;have pY:(q:Int)<a.length:=by omega
    have hq3:(q:Int)<b.length:=by omega
    clear hx hy mE yQ hE;by_cases hxy:x=y
    · subst hxy;go_wp2_with fail;go_quiet (fail);go_wp2_with fail;refine⟨⟨q+1,by omega,by go_num,HE.o.trans kx,Z3 ?_⟩,by simp[intOf];omega⟩;rw[List.take_add_one,List.take_add_one,HQ.o,HX.o,HY.o]
    · have e2:((x:Int) !=y)=true:=bne_iff_ne.2 hxy;have HV:Zs (decide (a=b)=false):=Z3 (decide_eq_false fun e=>hxy (by
       have h1:=HX.o;rw[e,HY.o]at h1;cases h1;rfl))
      clear hxy;go_wp2_with fail;go_quiet (fail);go_wp2_with fail;go_ret;exact⟨af HV.o.symm,HE.o.trans kx⟩
  · have HV:Zs (decide (a=b)=true):=Z3 (decide_eq_true (by
     have h1:=HQ.o;have h2:=XC.o;rwa[List.take_of_length_le Wg,List.take_of_length_le Wg]at h1))
    have HE:=Z3 hE;clear hE;go_wp2_with fail;go_ret;exact⟨af HV.o.symm,HE.o⟩
theorem three{α:Type}{l:List α}(h:l.length=3):∃a b c,l=[a,b,c]:=by
 match l,h with
 |[a,b,c],_=>exact⟨a,b,c,rfl⟩
theorem XQ{p:M.ax}(h:M.dF p=true):M.tV p:=by
 intro k hk a ha;obtain⟨i,hi⟩:=List.getElem?_of_mem hk;have h1:=M.qA h (k:=i) (q:=k) (by unfold M.fw;rw[if_pos Wg];simpa using hi);unfold M.bA at h1;simp only[Bool.and_eq_true]at h1;have h2:=M.mD h1.2 a ha;simp only[Bool.and_eq_true]at h2;exact M.rq.1 h2.2
theorem OW : ac8 3 := by
 intro W v zs hb;by_cases hl:zs.length≤1048576;rotate_left
 · obtain⟨va,vc,rfl⟩:=hb.form;have hl':decide ((1048576:Int)<zs.length)=true:=decide_eq_true Wg;have Hw:(1048576:Int)<zs.length:=by omega
   clear hb hl;go_enter Tryz.func3,Tryz.ntmps3;go_wp2_with fail;go_ret;exact⟨rfl,Kp.rr⟩
 have HD:=Z3 (Pn W v zs hb);obtain⟨va,vc,rfl⟩:=hb.form;have Hw:((1048576:Int)<zs.length)=False:=eq_false Wg;clear hb hl;go_enter Tryz.func3,Tryz.ntmps3;go_wp2_with fail;refine HD.o.mono ?_;rintro e w1 ⟨⟨p,pa,pc,n,m,ga,gc,args,rfl,hp,ha,jM⟩,bH⟩;obtain⟨w2,ny,bZ,b2⟩:=nu w1 #[.slice pa p.length pc] 25;by_cases h3:p.length=3;rotate_left
 · have h3b:((p.length:Int) !=3)=true:=by simp;omega
   have⟨Bi,gL⟩:=aJ ny (bH.trans bZ);obtain⟨yz,y0, -⟩:=b2.ca;clear hp ha bH ny bZ b2 jM h3;go_upto_region 4 with(fail);rw[←Bi.o];go_wp2_with (first|(go_at_call 6;refine(aaq _).mono ?_;rintro e w8 ⟨rfl,rfl⟩)|fail);go_ret;exact⟨rfl,gL.o⟩
 obtain⟨k0,k1,k2,rfl⟩:=three h3;have jM:=jM.resolve_left Wf;have SN:=Z3 (XQ jM);simp only[List.length_cons,List.length_nil,Nat.zero_add,Nat.reduceAdd]at hp ny b2 ⊢;have K6:Zs (∀W',Ext w2 W'→SliceOf 2 aB W' (fun b=>b<W'.heap.size) (.slice pa 3 pc) [k0,k1,k2]):=Z3 fun W' yP=>((hp.ext aB.stays bZ).ext aB.stays yP).keep aB.stays (fun _ _ _ _ h=>h) (fun b hb=>by have:=hb.2;have:=bZ.size;have:=yP.size;omega);have zQ:Zs (∀W',Ext w2 W'→SliceOf 1 jQ W' (fun b=>b<W'.heap.size) (.slice ga args.length gc) args):=Z3 fun W' yP=>(((ha.ext jQ.stays bZ).ext jQ.stays yP).inside (fun _ _ _ _ h=>h) Wg).keep jQ.stays (fun _ _ _ _ h=>h) (fun b hb=>hb.2);have acU:Zs (∀(W':World) (x:Value) (q:M.ax),SliceOf 2 aB W' (fun b=>b<W'.heap.size) x q→Ext w2 W'→Calls Tryz.prog 8 #[.agg #[x],.bool true,.int .i64 0,.string n,.string m,.slice ga args.length gc] W' fun e w'=>(∃cs,e=.returned (.agg cs.toArray)∧dU w' (fun b=>W'.heap.size≤b) (M.jC q true 0 n m args) cs)∧Ext W' w'):=Z3 fun W' x q hq yP=>
  acf W' (fun b=>b<W'.heap.size) x q hq (fun _ h=>h) true 0 n m args ga gc (zQ.o W' yP)
 have⟨mQ,Bi,gL⟩:=bg b2 ny (bH.trans bZ);have hpr:=hp.ext aB.stays bZ;obtain⟨bk,off,ks0,rfl, -,⟨ov0,av0,rfl,ho0,Xb⟩, -,GZ⟩:=hpr.get (i:=0) (x:=k0) rfl;obtain⟨bk',off',ks1,e1, -,⟨ov1,av1,rfl,KP,UY⟩, -,mE⟩:=hpr.get (i:=1) (x:=k1) rfl;obtain⟨ahS,ahM,ks2,e2, -,⟨ov2,av2,rfl,ho2,LP⟩, -,yQ⟩:=hpr.get (i:=2) (x:=k2) rfl;cases e1;cases e2;obtain⟨O5,O8,rfl, -, -⟩:=ho0.form;obtain⟨aa0,ac0,rfl, -, -⟩:=Xb.form;obtain⟨p00,p01⟩:=GZ.two;have HO0:Zs (∀W',Ext w2 W'→SliceOf 4 aP W' (fun b=>b<w2.heap.size) (.slice O5 k0.owns.length O8) k0.owns):=Z3 fun W' yP=>
  (ho0.inside (fun _ _ _ _ h=>aP.inside h) Wg).keep (J:=fun b=>b<w2.heap.size) aP.stays (Ext.same yP) (fun b hb=>hb.2)
 have HL0:Zs (∀W',Ext w2 W'→Calls Tryz.prog 7 #[.agg #[.slice O5 k0.owns.length O8,.slice aa0 k0.asks.length ac0]] W' fun e w'=>(∃v,e=.returned (.agg #[.slice O5 k0.owns.length O8,v])∧SliceOf 2 eu w' (fun b=>W'.heap.size≤b) v (M.fD k0).asks)∧Ext W' w'):=Z3 fun W' yP=>
  J6 W' _ O5 k0.owns.length O8 _ k0 (Xb.ext eu.stays yP) (fun a h=>SN.o k0 Wf a h) (by
   have h1:=M.qA jM (k:=0) (q:=k0) rfl;unfold M.bA at h1;simp only[Bool.and_eq_true,decide_eq_true_eq]at h1;omega)
 obtain⟨O6,O9,rfl, -, -⟩:=KP.form;obtain⟨aa1,ac1,rfl, -, -⟩:=UY.form;obtain⟨p10,p11⟩:=mE.two;have Nw:Zs (∀W',Ext w2 W'→SliceOf 4 aP W' (fun b=>b<w2.heap.size) (.slice O6 k1.owns.length O9) k1.owns):=Z3 fun W' yP=>
  (KP.inside (fun _ _ _ _ h=>aP.inside h) Wg).keep (J:=fun b=>b<w2.heap.size) aP.stays (Ext.same yP) (fun b hb=>hb.2)
 have Bw:Zs (∀W',Ext w2 W'→Calls Tryz.prog 7 #[.agg #[.slice O6 k1.owns.length O9,.slice aa1 k1.asks.length ac1]] W' fun e w'=>(∃v,e=.returned (.agg #[.slice O6 k1.owns.length O9,v])∧SliceOf 2 eu w' (fun b=>W'.heap.size≤b) v (M.fD k1).asks)∧Ext W' w'):=Z3 fun W' yP=>
  J6 W' _ O6 k1.owns.length O9 _ k1 (UY.ext eu.stays yP) (fun a h=>SN.o k1 Wf a h) (by
   have h1:=M.qA jM (k:=1) (q:=k1) rfl;unfold M.bA at h1;simp only[Bool.and_eq_true,decide_eq_true_eq]at h1;omega)
 obtain⟨O7,Pb,rfl, -, -⟩:=ho2.form;obtain⟨aa2,ac2,rfl, -, -⟩:=LP.form;obtain⟨p20,p21⟩:=yQ.two;have tY:Zs (∀W',Ext w2 W'→SliceOf 4 aP W' (fun b=>b<w2.heap.size) (.slice O7 k2.owns.length Pb) k2.owns):=Z3 fun W' yP=>
  (ho2.inside (fun _ _ _ _ h=>aP.inside h) Wg).keep (J:=fun b=>b<w2.heap.size) aP.stays (Ext.same yP) (fun b hb=>hb.2)
 have wE:Zs (∀W',Ext w2 W'→Calls Tryz.prog 7 #[.agg #[.slice O7 k2.owns.length Pb,.slice aa2 k2.asks.length ac2]] W' fun e w'=>(∃v,e=.returned (.agg #[.slice O7 k2.owns.length Pb,v])∧SliceOf 2 eu w' (fun b=>W'.heap.size≤b) v (M.fD k2).asks)∧Ext W' w'):=Z3 fun W' yP=>
  J6 W' _ O7 k2.owns.length Pb _ k2 (LP.ext eu.stays yP) (fun a h=>SN.o k2 Wf a h) (by
   have h1:=M.qA jM (k:=2) (q:=k2) rfl;unfold M.bA at h1;simp only[Bool.and_eq_true,decide_eq_true_eq]at h1;omega)
 obtain⟨T,f,dA,HT⟩:=iN.ex (fun W'=>Ext w2 W') w2 Kp.rr;have P0:=fun z=>(b2.ext (HT.aW z)).c 0 (.slice (some ⟨bk,off,none⟩) 3 pc) rfl;have K00:∀z,(f z).cell? ⟨bk,off,none⟩=some (.slice O5 k0.owns.length O8):=fun z=>(HT.aW z).aD (by simpa [Nat.add_assoc]using p00);have K01:∀z,(f z).cell? ⟨bk,off+1,none⟩=some (.slice aa0 k0.asks.length ac0):=fun z=>(HT.aW z).aD (by simpa [Nat.add_assoc]using p01);have K10:∀z,(f z).cell? ⟨bk,off+2,none⟩=some (.slice O6 k1.owns.length O9):=fun z=>(HT.aW z).aD (by simpa [Nat.add_assoc]using p10);have K11:∀z,(f z).cell? ⟨bk,off+3,none⟩=some (.slice aa1 k1.asks.length ac1):=fun z=>(HT.aW z).aD (by simpa [Nat.add_assoc]using p11);have K20:∀z,(f z).cell? ⟨bk,off+4,none⟩=some (.slice O7 k2.owns.length Pb):=fun z=>(HT.aW z).aD (by simpa [Nat.add_assoc]using p20);have K21:∀z,(f z).cell? ⟨bk,off+5,none⟩=some (.slice aa2 k2.asks.length ac2):=fun z=>(HT.aW z).aD (by simpa [Nat.add_assoc]using p21);have aj:=Z3 HT;obtain⟨yz,y0, -⟩:=b2.ca;clear hp ha bH ny bZ b2 jM hpr ho0 KP ho2 Xb UY LP GZ mE yQ p00 p01 p10 p11 p20 p21 HT h3;go_upto_region 6 with(fail);rw[←Bi.o];clear y0 yz;go_cut [7] (fun s7 wx=>∃b7 nb,s7=.pointer (some ⟨b7,0,none⟩)∧ay wx b7 25 #[.slice (some ⟨nb,0,none⟩) 3 3]∧SliceOf 2 aB wx (fun b=>b<wx.heap.size) (.slice (some ⟨nb,0,none⟩) 3 3) (M.turned k0 k1 k2)∧Ext w2 wx)
 case first =>
  refine lN aj 18 (.two [0,1,2,3,5,6,7,8,10,11,12,13] 4 17 (.two [] 9 17 (.two [] 14 17 (.two [] 15 17 (.one [16] 17 (.fin [])) (.one [] 15 (.fin [16]))) (.one [] 14 (.one [] 15 (.fin [16])))) (.one [] 9 (.one [] 14 (.one [] 15 (.fin [16]))))) (.one [] 4 (.one [] 9 (.one [] 14 (.one [] 15 (.fin [16])))))) ?_ ?_
  · exact Kp.rr.drew
  refine two [_,_,_,_,_,_,_,_,_,_,_,_] rfl rfl rfl fun K hK=>?_;(repeat (go_big_quiet_step (fail)));((refine Gj hK (fun K2 ag=>?_) fun K2 ag=>?_)<;>clear hK K)
  · skip; have jq : Ext w2 w2.drew := Kp.rr.drew; have rW := Z3 jq.size; generalize w2.drew = wd at jq rW ⊢; have jq := Z3 jq; go_wp2_with fail; refine (HL0.o wd jq.o).mono ?_; rintro e x1 ⟨⟨u0, rfl, Vo⟩, Yj⟩; obtain ⟨Ws, Wt, rfl, -, -⟩ := Vo.form; have XR := Z3 (Vo.inside (fun _ _ _ _ h => h) Wg); clear Vo; have sx1 : wd.heap.size ≤ x1.heap.size := Yj.size; have ⟨y8, gx1⟩ := aJ sx1 Yj; have ex1 : Zs (Ext w2 x1) := Z3 (jq.o.trans Yj); clear sx1 Yj; go_wp2_with fail; (refine kk aj ag ex1.o ?_); clear ag K2; (refine vW rfl rfl (fun K2 ag => ?_) fun K2 ag => ?_)
    · skip;go_wp2_with fail;refine(wE.o x1 ex1.o).mono ?_;rintro e x2 ⟨⟨u2,rfl,Vp⟩,Yk⟩;obtain⟨Tw,Tx,rfl, -, -⟩:=Vp.form;have abf:=Z3 (Vp.inside (fun _ _ _ _ h=>h) Wg);clear Vp;have sx2:x1.heap.size≤x2.heap.size:=Yk.size;have⟨EA,gx2⟩:=aJ sx2 Yk;have ex2:Zs (Ext w2 x2):=Z3 (ex1.o.trans Yk);clear sx2 Yk;go_wp2_with fail;refine kk aj ag ex2.o ?_;clear ag K2;refine vW rfl rfl (fun K2 ag=>?_) fun K2 ag=>?_
      · skip;go_wp2_with fail;refine(Bw.o x2 ex2.o).mono ?_;rintro e x3 ⟨⟨u1,rfl,OQ⟩,Yl⟩;obtain⟨SA,SB,rfl, -, -⟩:=OQ.form;have adk:=Z3 (OQ.inside (fun _ _ _ _ h=>h) Wg);clear OQ;have sx3:x2.heap.size≤x3.heap.size:=Yl.size;have⟨NK,gx3⟩:=aJ sx3 Yl;have ex3:Zs (Ext w2 x3):=Z3 (ex2.o.trans Yl);clear sx3 Yl;go_wp2_with fail;refine kk aj ag ex3.o ?_;clear ag K2;refine vW rfl rfl (fun K2 ag=>?_) fun K2 ag=>?_
        · skip;go_wp2_with fail;obtain⟨x4,aeH,abC,aeV⟩:=nu x3 #[.slice O5 k0.owns.length O8,.slice Ws (M.fD k0).asks.length Wt,.slice O7 k2.owns.length Pb,.slice Tw (M.fD k2).asks.length Tx,.slice O6 k1.owns.length O9,.slice SA (M.fD k1).asks.length SB] 33;rw[←aeH];have aeX:=Z3 aeV;clear aeH aeV;have sx4:x3.heap.size+1≤x4.heap.size:=aeX.o.lt;have⟨zx4,gx4⟩:=aJ sx4 abC;have ex4:Zs (Ext w2 x4):=Z3 (ex3.o.trans abC);clear sx4 abC;refine kk aj ag ex4.o ?_;clear ag K2;refine Ey ?_;intro K2 ag;go_wp2_with fail;obtain⟨x5,aeI,abD,adl⟩:=nu x4 #[.slice none 0 0] 25;rw[←aeI];have adx:=Z3 adl;clear aeI adl;have sx5:x4.heap.size+1≤x5.heap.size:=adx.o.lt;have⟨zx5,gx5⟩:=aJ sx5 abD;have ex5:Zs (Ext w2 x5):=Z3 (ex4.o.trans abD);clear sx5 abD;refine kk aj ag ex5.o ?_;clear ag K2
          have En:SliceOf 2 aB x5 (fun b=>b<x5.heap.size∧b≠x4.heap.size) (.slice (some ⟨x3.heap.size,0,none⟩) 3 3) (M.turned k0 k1 k2):=SliceOf.row (R:=aB) (xs:=M.turned k0 k1 k2) [[.slice O5 k0.owns.length O8,.slice Ws (M.fD k0).asks.length Wt],[.slice O7 k2.owns.length Pb,.slice Tw (M.fD k2).asks.length Tx],[.slice O6 k1.owns.length O9,.slice SA (M.fD k1).asks.length SB]] (ae.gM (aeX.o.ext gx5.o)) rfl Wf ⟨⟨_,_,rfl,(HO0.o x5 ex5.o).keep aP.stays (fun _ _ _ _ h=>h) (fun b hb=>by have:=rW.o;have:=y8.o;have:=EA.o;have:=NK.o;have:=zx4.o;have:=zx5.o;exact⟨by omega,by omega⟩),(XR.o.ext eu.stays (((gx2.o.trans gx3.o).trans gx4.o).trans gx5.o)).keep eu.stays (fun _ _ _ _ h=>h) (fun b hb=>by have:=rW.o;have:=y8.o;have:=EA.o;have:=NK.o;have:=zx4.o;have:=zx5.o;have h1:=hb.1;have h2:=hb.2;exact⟨by omega,by omega⟩)⟩,⟨_,_,rfl,(tY.o x5 ex5.o).keep aP.stays (fun _ _ _ _ h=>h) (fun b hb=>by have:=rW.o;have:=y8.o;have:=EA.o;have:=NK.o;have:=zx4.o;have:=zx5.o;exact⟨by omega,by omega⟩),(abf.o.ext eu.stays ((gx3.o.trans gx4.o).trans gx5.o)).keep eu.stays (fun _ _ _ _ h=>h) (fun b hb=>by have:=rW.o;have:=y8.o;have:=EA.o;have:=NK.o;have:=zx4.o;have:=zx5.o;have h1:=hb.1;have h2:=hb.2;exact⟨by omega,by omega⟩)⟩,⟨_,_,rfl,(Nw.o x5 ex5.o).keep aP.stays (fun _ _ _ _ h=>h) (fun b hb=>by have:=rW.o;have:=y8.o;have:=EA.o;have:=NK.o;have:=zx4.o;have:=zx5.o;exact⟨by omega,by omega⟩),(adk.o.ext eu.stays (gx4.o.trans gx5.o)).keep eu.stays (fun _ _ _ _ h=>h) (fun b hb=>by have:=rW.o;have:=y8.o;have:=EA.o;have:=NK.o;have:=zx4.o;have:=zx5.o;have h1:=hb.1;have h2:=hb.2;exact⟨by omega,by omega⟩)⟩,trivial⟩ (by have:=rW.o;have:=y8.o;have:=EA.o;have:=NK.o;have:=zx4.o;have:=zx5.o;exact⟨by omega,by omega⟩) (by simp[M.turned]) (by simp[M.turned]);have Jm:=Z3 En;have hb:=adx.o.ext Kp.rr;have Xw:=Z3 hb;obtain⟨oz,o0, -⟩:=hb.ca;have of:=hb.frozen 0;clear hb En;refine bU ?_;go_wp2_with fail;go_meet;have hP:Kp (·=x4.heap.size) x5 (x5.setCell ⟨x4.heap.size,0,none⟩ (.slice (some ⟨x3.heap.size,0,none⟩) 3 3)):=(Kp.refl (·=x4.heap.size) x5).setCell (p:=⟨x4.heap.size,0,none⟩) (fun _=>rfl) _
          exact⟨_,_,rfl,Xw.o.bE 0 _,Jm.o.keep aB.stays (hP.same fun b hb e=>hb.2 e) (fun b hb=>Nat.lt_of_lt_of_le hb.1 hP.size),ex5.o.own hP (fun b e=>by have:=rW.o;have:=y8.o;have:=EA.o;have:=NK.o;have:=zx4.o;have:=zx5.o;omega)⟩
        · skip;go_wp2_with fail;obtain⟨x6,aeJ,abE,adm⟩:=nu x3 #[.slice none 0 0] 25;rw[←aeJ];have ady:=Z3 adm;clear aeJ adm;have sx6:x3.heap.size+1≤x6.heap.size:=ady.o.lt;have⟨zx6,gx6⟩:=aJ sx6 abE;have ex6:Zs (Ext w2 x6):=Z3 (ex3.o.trans abE);clear sx6 abE;refine kk aj ag ex6.o ?_;clear ag K2;refine aX rfl fun K2 ag=>?_;go_wp2_with fail;obtain⟨x7,aeK,abF,aeW⟩:=nu x6 #[.slice O5 k0.owns.length O8,.slice Ws (M.fD k0).asks.length Wt,.slice O7 k2.owns.length Pb,.slice Tw (M.fD k2).asks.length Tx,.slice O6 k1.owns.length O9,.slice SA (M.fD k1).asks.length SB] 33;rw[←aeK];have aeY:=Z3 aeW;clear aeK aeW;have sx7:x6.heap.size+1≤x7.heap.size:=aeY.o.lt;have⟨zx7,gx7⟩:=aJ sx7 abF;have ex7:Zs (Ext w2 x7):=Z3 (ex6.o.trans abF);clear sx7 abF;refine kk aj ag ex7.o ?_;clear ag K2
          have En:SliceOf 2 aB x7 (fun b=>b<x7.heap.size∧b≠x3.heap.size) (.slice (some ⟨x6.heap.size,0,none⟩) 3 3) (M.turned k0 k1 k2):=SliceOf.row (R:=aB) (xs:=M.turned k0 k1 k2) [[.slice O5 k0.owns.length O8,.slice Ws (M.fD k0).asks.length Wt],[.slice O7 k2.owns.length Pb,.slice Tw (M.fD k2).asks.length Tx],[.slice O6 k1.owns.length O9,.slice SA (M.fD k1).asks.length SB]] (ae.gM (aeY.o.ext Kp.rr)) rfl Wf ⟨⟨_,_,rfl,(HO0.o x7 ex7.o).keep aP.stays (fun _ _ _ _ h=>h) (fun b hb=>by have:=rW.o;have:=y8.o;have:=EA.o;have:=NK.o;have:=zx6.o;have:=zx7.o;exact⟨by omega,by omega⟩),(XR.o.ext eu.stays (((gx2.o.trans gx3.o).trans gx6.o).trans gx7.o)).keep eu.stays (fun _ _ _ _ h=>h) (fun b hb=>by have:=rW.o;have:=y8.o;have:=EA.o;have:=NK.o;have:=zx6.o;have:=zx7.o;have h1:=hb.1;have h2:=hb.2;exact⟨by omega,by omega⟩)⟩,⟨_,_,rfl,(tY.o x7 ex7.o).keep aP.stays (fun _ _ _ _ h=>h) (fun b hb=>by have:=rW.o;have:=y8.o;have:=EA.o;have:=NK.o;have:=zx6.o;have:=zx7.o;exact⟨by omega,by omega⟩),(abf.o.ext eu.stays ((gx3.o.trans gx6.o).trans gx7.o)).keep eu.stays (fun _ _ _ _ h=>h) (fun b hb=>by have:=rW.o;have:=y8.o;have:=EA.o;have:=NK.o;have:=zx6.o;have:=zx7.o;have h1:=hb.1;have h2:=hb.2;exact⟨by omega,by omega⟩)⟩,⟨_,_,rfl,(Nw.o x7 ex7.o).keep aP.stays (fun _ _ _ _ h=>h) (fun b hb=>by have:=rW.o;have:=y8.o;have:=EA.o;have:=NK.o;have:=zx6.o;have:=zx7.o;exact⟨by omega,by omega⟩),(adk.o.ext eu.stays (gx6.o.trans gx7.o)).keep eu.stays (fun _ _ _ _ h=>h) (fun b hb=>by have:=rW.o;have:=y8.o;have:=EA.o;have:=NK.o;have:=zx6.o;have:=zx7.o;have h1:=hb.1;have h2:=hb.2;exact⟨by omega,by omega⟩)⟩,trivial⟩ (by have:=rW.o;have:=y8.o;have:=EA.o;have:=NK.o;have:=zx6.o;have:=zx7.o;exact⟨by omega,by omega⟩) (by simp[M.turned]) (by simp[M.turned]);have Jm:=Z3 En;have hb:=ady.o.ext gx7.o;have Xw:=Z3 hb;obtain⟨oz,o0, -⟩:=hb.ca;have of:=hb.frozen 0;clear hb En;refine Du [_] rfl fun K hK=>?_;(repeat (go_big_quiet_step (fail)));refine qn hK ?_;clear hK K;go_wp2_with fail;go_meet;have hP:Kp (·=x3.heap.size) x7 (x7.setCell ⟨x3.heap.size,0,none⟩ (.slice (some ⟨x6.heap.size,0,none⟩) 3 3)):=(Kp.refl (·=x3.heap.size) x7).setCell (p:=⟨x3.heap.size,0,none⟩) (fun _=>rfl) _
          exact⟨_,_,rfl,Xw.o.bE 0 _,Jm.o.keep aB.stays (hP.same fun b hb e=>hb.2 e) (fun b hb=>Nat.lt_of_lt_of_le hb.1 hP.size),ex7.o.own hP (fun b e=>by have:=rW.o;have:=y8.o;have:=EA.o;have:=NK.o;have:=zx6.o;have:=zx7.o;omega)⟩
      · skip;go_wp2_with fail;obtain⟨x8,aeL,abG,adn⟩:=nu x2 #[.slice none 0 0] 25;rw[←aeL];have adz:=Z3 adn;clear aeL adn;have sx8:x2.heap.size+1≤x8.heap.size:=adz.o.lt;have⟨zx8,gx8⟩:=aJ sx8 abG;have ex8:Zs (Ext w2 x8):=Z3 (ex2.o.trans abG);clear sx8 abG;refine kk aj ag ex8.o ?_;clear ag K2;refine aX rfl fun K2 ag=>?_;go_wp2_with fail;refine(Bw.o x8 ex8.o).mono ?_;rintro e x9 ⟨⟨u1,rfl,OQ⟩,Ym⟩;obtain⟨SA,SB,rfl, -, -⟩:=OQ.form;have agp:=Z3 (OQ.inside (fun _ _ _ _ h=>h) Wg);clear OQ;have sx9:x8.heap.size≤x9.heap.size:=Ym.size;have⟨zx9,gx9⟩:=aJ sx9 Ym;have ex9:Zs (Ext w2 x9):=Z3 (ex8.o.trans Ym);clear sx9 Ym;go_wp2_with fail;refine kk aj ag ex9.o ?_;clear ag K2;refine aX rfl fun K2 ag=>?_;go_wp2_with fail;obtain⟨Xl,aaj,UJ,aar⟩:=nu x9 #[.slice O5 k0.owns.length O8,.slice Ws (M.fD k0).asks.length Wt,.slice O7 k2.owns.length Pb,.slice Tw (M.fD k2).asks.length Tx,.slice O6 k1.owns.length O9,.slice SA (M.fD k1).asks.length SB] 33;rw[←aaj];have aau:=Z3 aar;clear aaj aar;have ae3:x9.heap.size+1≤Xl.heap.size:=aau.o.lt;have⟨Nj,X6⟩:=aJ ae3 UJ;have Uh:Zs (Ext w2 Xl):=Z3 (ex9.o.trans UJ);clear ae3 UJ;refine kk aj ag Uh.o ?_;clear ag K2
        have En:SliceOf 2 aB Xl (fun b=>b<Xl.heap.size∧b≠x2.heap.size) (.slice (some ⟨x9.heap.size,0,none⟩) 3 3) (M.turned k0 k1 k2):=SliceOf.row (R:=aB) (xs:=M.turned k0 k1 k2) [[.slice O5 k0.owns.length O8,.slice Ws (M.fD k0).asks.length Wt],[.slice O7 k2.owns.length Pb,.slice Tw (M.fD k2).asks.length Tx],[.slice O6 k1.owns.length O9,.slice SA (M.fD k1).asks.length SB]] (ae.gM (aau.o.ext Kp.rr)) rfl Wf ⟨⟨_,_,rfl,(HO0.o Xl Uh.o).keep aP.stays (fun _ _ _ _ h=>h) (fun b hb=>by have:=rW.o;have:=y8.o;have:=EA.o;have:=zx8.o;have:=zx9.o;have:=Nj.o;exact⟨by omega,by omega⟩),(XR.o.ext eu.stays (((gx2.o.trans gx8.o).trans gx9.o).trans X6.o)).keep eu.stays (fun _ _ _ _ h=>h) (fun b hb=>by have:=rW.o;have:=y8.o;have:=EA.o;have:=zx8.o;have:=zx9.o;have:=Nj.o;have h1:=hb.1;have h2:=hb.2;exact⟨by omega,by omega⟩)⟩,⟨_,_,rfl,(tY.o Xl Uh.o).keep aP.stays (fun _ _ _ _ h=>h) (fun b hb=>by have:=rW.o;have:=y8.o;have:=EA.o;have:=zx8.o;have:=zx9.o;have:=Nj.o;exact⟨by omega,by omega⟩),(abf.o.ext eu.stays ((gx8.o.trans gx9.o).trans X6.o)).keep eu.stays (fun _ _ _ _ h=>h) (fun b hb=>by have:=rW.o;have:=y8.o;have:=EA.o;have:=zx8.o;have:=zx9.o;have:=Nj.o;have h1:=hb.1;have h2:=hb.2;exact⟨by omega,by omega⟩)⟩,⟨_,_,rfl,(Nw.o Xl Uh.o).keep aP.stays (fun _ _ _ _ h=>h) (fun b hb=>by have:=rW.o;have:=y8.o;have:=EA.o;have:=zx8.o;have:=zx9.o;have:=Nj.o;exact⟨by omega,by omega⟩),(agp.o.ext eu.stays X6.o).keep eu.stays (fun _ _ _ _ h=>h) (fun b hb=>by have:=rW.o;have:=y8.o;have:=EA.o;have:=zx8.o;have:=zx9.o;have:=Nj.o;have h1:=hb.1;have h2:=hb.2;exact⟨by omega,by omega⟩)⟩,trivial⟩ (by have:=rW.o;have:=y8.o;have:=EA.o;have:=zx8.o;have:=zx9.o;have:=Nj.o;exact⟨by omega,by omega⟩) (by simp[M.turned]) (by simp[M.turned]);have Jm:=Z3 En;have hb:=adz.o.ext (gx9.o.trans X6.o);have Xw:=Z3 hb;obtain⟨oz,o0, -⟩:=hb.ca;have of:=hb.frozen 0;clear hb En;refine Du [_] rfl fun K hK=>?_;(repeat (go_big_quiet_step (fail)));refine qn hK ?_;clear hK K;go_wp2_with fail;go_meet;have hP:Kp (·=x2.heap.size) Xl (Xl.setCell ⟨x2.heap.size,0,none⟩ (.slice (some ⟨x9.heap.size,0,none⟩) 3 3)):=(Kp.refl (·=x2.heap.size) Xl).setCell (p:=⟨x2.heap.size,0,none⟩) (fun _=>rfl) _
        exact⟨_,_,rfl,Xw.o.bE 0 _,Jm.o.keep aB.stays (hP.same fun b hb e=>hb.2 e) (fun b hb=>Nat.lt_of_lt_of_le hb.1 hP.size),Uh.o.own hP (fun b e=>by have:=rW.o;have:=y8.o;have:=EA.o;have:=zx8.o;have:=zx9.o;have:=Nj.o;omega)⟩
    · skip;go_wp2_with fail;obtain⟨WA,aak,UK,ZJ⟩:=nu x1 #[.slice none 0 0] 25;rw[←aak];have ZO:=Z3 ZJ;clear aak ZJ;have ae4:x1.heap.size+1≤WA.heap.size:=ZO.o.lt;have⟨Nk,ags⟩:=aJ ae4 UK;have abt:Zs (Ext w2 WA):=Z3 (ex1.o.trans UK);clear ae4 UK;refine kk aj ag abt.o ?_;clear ag K2;refine aX rfl fun K2 ag=>?_;go_wp2_with fail;refine(wE.o WA abt.o).mono ?_;rintro e Xm ⟨⟨u2,rfl,Vp⟩,Qa⟩;obtain⟨Tw,Tx,rfl, -, -⟩:=Vp.form;have adf:=Z3 (Vp.inside (fun _ _ _ _ h=>h) Wg);clear Vp;have ae5:WA.heap.size≤Xm.heap.size:=Qa.size;have⟨Nl,adv⟩:=aJ ae5 Qa;have abu:Zs (Ext w2 Xm):=Z3 (abt.o.trans Qa);clear ae5 Qa;go_wp2_with fail;refine kk aj ag abu.o ?_;clear ag K2;refine aX rfl fun K2 ag=>?_;go_wp2_with fail;refine(Bw.o Xm abu.o).mono ?_;rintro e x13 ⟨⟨u1,rfl,OQ⟩,Qb⟩;obtain⟨SA,SB,rfl, -, -⟩:=OQ.form;have adg:=Z3 (OQ.inside (fun _ _ _ _ h=>h) Wg);clear OQ;have ae6:Xm.heap.size≤x13.heap.size:=Qb.size;have⟨Nn,aby⟩:=aJ ae6 Qb;have adt:Zs (Ext w2 x13):=Z3 (abu.o.trans Qb);clear ae6 Qb;go_wp2_with fail;refine kk aj ag adt.o ?_;clear ag K2;refine aX rfl fun K2 ag=>?_;go_wp2_with fail;obtain⟨Xn,aal,UL,aas⟩:=nu x13 #[.slice O5 k0.owns.length O8,.slice Ws (M.fD k0).asks.length Wt,.slice O7 k2.owns.length Pb,.slice Tw (M.fD k2).asks.length Tx,.slice O6 k1.owns.length O9,.slice SA (M.fD k1).asks.length SB] 33;rw[←aal];have aav:=Z3 aas;clear aal aas;have ae7:x13.heap.size+1≤Xn.heap.size:=aav.o.lt;have⟨Np,X7⟩:=aJ ae7 UL;have Ui:Zs (Ext w2 Xn):=Z3 (adt.o.trans UL);clear ae7 UL;refine kk aj ag Ui.o ?_;clear ag K2
      have En:SliceOf 2 aB Xn (fun b=>b<Xn.heap.size∧b≠x1.heap.size) (.slice (some ⟨x13.heap.size,0,none⟩) 3 3) (M.turned k0 k1 k2):=SliceOf.row (R:=aB) (xs:=M.turned k0 k1 k2) [[.slice O5 k0.owns.length O8,.slice Ws (M.fD k0).asks.length Wt],[.slice O7 k2.owns.length Pb,.slice Tw (M.fD k2).asks.length Tx],[.slice O6 k1.owns.length O9,.slice SA (M.fD k1).asks.length SB]] (ae.gM (aav.o.ext Kp.rr)) rfl Wf ⟨⟨_,_,rfl,(HO0.o Xn Ui.o).keep aP.stays (fun _ _ _ _ h=>h) (fun b hb=>by have:=rW.o;have:=y8.o;have:=Nk.o;have:=Nl.o;have:=Nn.o;have:=Np.o;exact⟨by omega,by omega⟩),(XR.o.ext eu.stays (((ags.o.trans adv.o).trans aby.o).trans X7.o)).keep eu.stays (fun _ _ _ _ h=>h) (fun b hb=>by have:=rW.o;have:=y8.o;have:=Nk.o;have:=Nl.o;have:=Nn.o;have:=Np.o;have h1:=hb.1;have h2:=hb.2;exact⟨by omega,by omega⟩)⟩,⟨_,_,rfl,(tY.o Xn Ui.o).keep aP.stays (fun _ _ _ _ h=>h) (fun b hb=>by have:=rW.o;have:=y8.o;have:=Nk.o;have:=Nl.o;have:=Nn.o;have:=Np.o;exact⟨by omega,by omega⟩),(adf.o.ext eu.stays (aby.o.trans X7.o)).keep eu.stays (fun _ _ _ _ h=>h) (fun b hb=>by have:=rW.o;have:=y8.o;have:=Nk.o;have:=Nl.o;have:=Nn.o;have:=Np.o;have h1:=hb.1;have h2:=hb.2;exact⟨by omega,by omega⟩)⟩,⟨_,_,rfl,(Nw.o Xn Ui.o).keep aP.stays (fun _ _ _ _ h=>h) (fun b hb=>by have:=rW.o;have:=y8.o;have:=Nk.o;have:=Nl.o;have:=Nn.o;have:=Np.o;exact⟨by omega,by omega⟩),(adg.o.ext eu.stays X7.o).keep eu.stays (fun _ _ _ _ h=>h) (fun b hb=>by have:=rW.o;have:=y8.o;have:=Nk.o;have:=Nl.o;have:=Nn.o;have:=Np.o;have h1:=hb.1;have h2:=hb.2;exact⟨by omega,by omega⟩)⟩,trivial⟩ (by have:=rW.o;have:=y8.o;have:=Nk.o;have:=Nl.o;have:=Nn.o;have:=Np.o;exact⟨by omega,by omega⟩) (by simp[M.turned]) (by simp[M.turned]);have Jm:=Z3 En;have hb:=ZO.o.ext ((adv.o.trans aby.o).trans X7.o);have Xw:=Z3 hb;obtain⟨oz,o0, -⟩:=hb.ca;have of:=hb.frozen 0;clear hb En;refine Du [_] rfl fun K hK=>?_;(repeat (go_big_quiet_step (fail)));refine qn hK ?_;clear hK K;go_wp2_with fail;go_meet;have hP:Kp (·=x1.heap.size) Xn (Xn.setCell ⟨x1.heap.size,0,none⟩ (.slice (some ⟨x13.heap.size,0,none⟩) 3 3)):=(Kp.refl (·=x1.heap.size) Xn).setCell (p:=⟨x1.heap.size,0,none⟩) (fun _=>rfl) _
      exact⟨_,_,rfl,Xw.o.bE 0 _,Jm.o.keep aB.stays (hP.same fun b hb e=>hb.2 e) (fun b hb=>Nat.lt_of_lt_of_le hb.1 hP.size),Ui.o.own hP (fun b e=>by have:=rW.o;have:=y8.o;have:=Nk.o;have:=Nl.o;have:=Nn.o;have:=Np.o;omega)⟩
  · skip;have jq:Ext w2 w2.drew:=Kp.rr.drew;have rW:=Z3 jq.size;generalize w2.drew=wd at jq rW ⊢;have jq:=Z3 jq;go_wp2_with fail;obtain⟨x15,aam,UM,ZK⟩:=nu wd #[.slice none 0 0] 25;rw[←aam];have ZP:=Z3 ZK;clear aam ZK;have ae8:wd.heap.size+1≤x15.heap.size:=ZP.o.lt;have⟨Nq,ahV⟩:=aJ ae8 UM;have abv:Zs (Ext w2 x15):=Z3 (jq.o.trans UM);clear ae8 UM;refine kk aj ag abv.o ?_;clear ag K2;refine aX rfl fun K2 ag=>?_;go_wp2_with fail;refine(HL0.o x15 abv.o).mono ?_;rintro e x16 ⟨⟨u0,rfl,Vo⟩,Qc⟩;obtain⟨Ws,Wt,rfl, -, -⟩:=Vo.form;have adh:=Z3 (Vo.inside (fun _ _ _ _ h=>h) Wg);clear Vo;have ae9:x15.heap.size≤x16.heap.size:=Qc.size;have⟨Nr,agt⟩:=aJ ae9 Qc;have abw:Zs (Ext w2 x16):=Z3 (abv.o.trans Qc);clear ae9 Qc;go_wp2_with fail;refine kk aj ag abw.o ?_;clear ag K2;refine aX rfl fun K2 ag=>?_;go_wp2_with fail;refine(wE.o x16 abw.o).mono ?_;rintro e x17 ⟨⟨u2,rfl,Vp⟩,Qd⟩;obtain⟨Tw,Tx,rfl, -, -⟩:=Vp.form;have adi:=Z3 (Vp.inside (fun _ _ _ _ h=>h) Wg);clear Vp;have afa:x16.heap.size≤x17.heap.size:=Qd.size;have⟨Ns,adw⟩:=aJ afa Qd;have abx:Zs (Ext w2 x17):=Z3 (abw.o.trans Qd);clear afa Qd;go_wp2_with fail;refine kk aj ag abx.o ?_;clear ag K2;refine aX rfl fun K2 ag=>?_;go_wp2_with fail;refine(Bw.o x17 abx.o).mono ?_;rintro e x18 ⟨⟨u1,rfl,OQ⟩,Qe⟩;obtain⟨SA,SB,rfl, -, -⟩:=OQ.form;have adj:=Z3 (OQ.inside (fun _ _ _ _ h=>h) Wg);clear OQ;have afb:x17.heap.size≤x18.heap.size:=Qe.size;have⟨Nt,abz⟩:=aJ afb Qe;have adu:Zs (Ext w2 x18):=Z3 (abx.o.trans Qe);clear afb Qe;go_wp2_with fail;refine kk aj ag adu.o ?_;clear ag K2;refine aX rfl fun K2 ag=>?_;go_wp2_with fail;obtain⟨Xo,aan,UN,aat⟩:=nu x18 #[.slice O5 k0.owns.length O8,.slice Ws (M.fD k0).asks.length Wt,.slice O7 k2.owns.length Pb,.slice Tw (M.fD k2).asks.length Tx,.slice O6 k1.owns.length O9,.slice SA (M.fD k1).asks.length SB] 33;rw[←aan];have aaw:=Z3 aat;clear aan aat;have afc:x18.heap.size+1≤Xo.heap.size:=aaw.o.lt;have⟨Nu,X8⟩:=aJ afc UN;have Uj:Zs (Ext w2 Xo):=Z3 (adu.o.trans UN);clear afc UN;refine kk aj ag Uj.o ?_;clear ag K2
    have En:SliceOf 2 aB Xo (fun b=>b<Xo.heap.size∧b≠wd.heap.size) (.slice (some ⟨x18.heap.size,0,none⟩) 3 3) (M.turned k0 k1 k2):=SliceOf.row (R:=aB) (xs:=M.turned k0 k1 k2) [[.slice O5 k0.owns.length O8,.slice Ws (M.fD k0).asks.length Wt],[.slice O7 k2.owns.length Pb,.slice Tw (M.fD k2).asks.length Tx],[.slice O6 k1.owns.length O9,.slice SA (M.fD k1).asks.length SB]] (ae.gM (aaw.o.ext Kp.rr)) rfl Wf ⟨⟨_,_,rfl,(HO0.o Xo Uj.o).keep aP.stays (fun _ _ _ _ h=>h) (fun b hb=>by have:=rW.o;have:=Nq.o;have:=Nr.o;have:=Ns.o;have:=Nt.o;have:=Nu.o;exact⟨by omega,by omega⟩),(adh.o.ext eu.stays ((adw.o.trans abz.o).trans X8.o)).keep eu.stays (fun _ _ _ _ h=>h) (fun b hb=>by have:=rW.o;have:=Nq.o;have:=Nr.o;have:=Ns.o;have:=Nt.o;have:=Nu.o;have h1:=hb.1;have h2:=hb.2;exact⟨by omega,by omega⟩)⟩,⟨_,_,rfl,(tY.o Xo Uj.o).keep aP.stays (fun _ _ _ _ h=>h) (fun b hb=>by have:=rW.o;have:=Nq.o;have:=Nr.o;have:=Ns.o;have:=Nt.o;have:=Nu.o;exact⟨by omega,by omega⟩),(adi.o.ext eu.stays (abz.o.trans X8.o)).keep eu.stays (fun _ _ _ _ h=>h) (fun b hb=>by have:=rW.o;have:=Nq.o;have:=Nr.o;have:=Ns.o;have:=Nt.o;have:=Nu.o;have h1:=hb.1;have h2:=hb.2;exact⟨by omega,by omega⟩)⟩,⟨_,_,rfl,(Nw.o Xo Uj.o).keep aP.stays (fun _ _ _ _ h=>h) (fun b hb=>by have:=rW.o;have:=Nq.o;have:=Nr.o;have:=Ns.o;have:=Nt.o;have:=Nu.o;exact⟨by omega,by omega⟩),(adj.o.ext eu.stays X8.o).keep eu.stays (fun _ _ _ _ h=>h) (fun b hb=>by have:=rW.o;have:=Nq.o;have:=Nr.o;have:=Ns.o;have:=Nt.o;have:=Nu.o;have h1:=hb.1;have h2:=hb.2;exact⟨by omega,by omega⟩)⟩,trivial⟩ (by have:=rW.o;have:=Nq.o;have:=Nr.o;have:=Ns.o;have:=Nt.o;have:=Nu.o;exact⟨by omega,by omega⟩) (by simp[M.turned]) (by simp[M.turned]);have Jm:=Z3 En;have hb:=ZP.o.ext (((agt.o.trans adw.o).trans abz.o).trans X8.o);have Xw:=Z3 hb;obtain⟨oz,o0, -⟩:=hb.ca;have of:=hb.frozen 0;clear hb En;refine Du [_] rfl fun K hK=>?_;(repeat (go_big_quiet_step (fail)));refine qn hK ?_;clear hK K;go_wp2_with fail;go_meet;have hP:Kp (·=wd.heap.size) Xo (Xo.setCell ⟨wd.heap.size,0,none⟩ (.slice (some ⟨x18.heap.size,0,none⟩) 3 3)):=(Kp.refl (·=wd.heap.size) Xo).setCell (p:=⟨wd.heap.size,0,none⟩) (fun _=>rfl) _
    exact⟨_,_,rfl,Xw.o.bE 0 _,Jm.o.keep aB.stays (hP.same fun b hb e=>hb.2 e) (fun b hb=>Nat.lt_of_lt_of_le hb.1 hP.size),Uj.o.own hP (fun b e=>by have:=rW.o;have:=Nq.o;have:=Nr.o;have:=Ns.o;have:=Nt.o;have:=Nu.o;omega)⟩
 obtain⟨b7,nb,rfl,Ht,hq7,Re⟩:=hcut;have zW:=Z3 Ht;have HQ7:Zs (∀W',Ext wc W'→SliceOf 2 aB W' (fun b=>b<W'.heap.size) (.slice (some ⟨nb,0,none⟩) 3 3) (M.turned k0 k1 k2)):=Z3 fun W' yP=>(hq7.ext aB.stays yP).keep aB.stays (fun _ _ _ _ h=>h) (fun b hb=>by have:=yP.size;omega);have Zn:=Z3 Re;clear Ht hq7 Re aj P0 K00 K01 K10 K11 K20 K21;obtain⟨yz,y0, -⟩:=(mQ.o.ext Zn.o).ca;go_wp2_with fail;refine(acU.o wc _ _ (K6.o wc Zn.o) Zn.o).mono ?_;rintro e w3 ⟨⟨cs,rfl,hs⟩,dK⟩;obtain⟨s,hsn⟩:∃s,M.jC [k0,k1,k2] true 0 n m args=s:=⟨_,rfl⟩;rw[hsn]at hs;obtain⟨a1,c1,a2,c2,a3,c3,rfl, -, -, -⟩:=hs.form;obtain⟨w4,vT,dI,b4⟩:=nu w3 #[.int .i64 s.status,.slice a1 s.frames.length c1,.slice a2 s.heap.length c2,.slice a3 s.outs.length c3,.int .i64 s.back.kind,.int .i64 s.back.n] 40;have HSN:=Z3 hsn;have Ow:=dK.trans dI;have HS4:Zs (∀W',Ext w4 W'→dU W' (fun b=>b<W'.heap.size) s [.int .i64 s.status,.slice a1 s.frames.length c1,.slice a2 s.heap.length c2,.slice a3 s.outs.length c3,.int .i64 s.back.kind,.int .i64 s.back.n]):=Z3 fun W' yP=>dU.inside (dU.stays _ _ _ _ _ _ (Ext.same (dI.trans yP)) (fun _ h=>h) hs);have⟨kP,iG,EN⟩:=bg b4 Ow vT;clear hs hsn dK dI Ow vT b4 y0 yz;obtain⟨yz,y0, -⟩:=(zW.o.ext iG.o).ca;go_upto_region 8 with(fail);rw[←EN.o];go_wp2_with fail;refine(acU.o w4 _ _ (HQ7.o w4 iG.o) (Zn.o.trans iG.o)).mono ?_;rintro e w5 ⟨⟨cs,rfl,ht⟩,cZ⟩;have aeB:M.jC (M.turned k0 k1 k2) true 0 n m args=M.fA M.jW s:=by rw[M.qQ SN.o,HSN.o]
 rw[aeB]at ht;obtain⟨e1,g1,e2,g2,e3,g3,rfl, -, -, -⟩:=ht.form;simp only[M.fA,List.length_map]at ht ⊢;obtain⟨w6,nS,dC,b6⟩:=nu w5 #[.int .i64 s.status,.slice e1 s.frames.length g1,.slice e2 s.heap.length g2,.slice e3 s.outs.length g3,.int .i64 s.back.kind,.int .i64 s.back.n] 40;have Fs:=cZ.trans dC;have HT6:Zs (∀W',Ext w6 W'→dU W' (fun b=>b<W'.heap.size) (M.fA M.jW s) [.int .i64 s.status,.slice e1 s.frames.length g1,.slice e2 s.heap.length g2,.slice e3 s.outs.length g3,.int .i64 s.back.kind,.int .i64 s.back.n]):=Z3 fun W' yP=>dU.inside (dU.stays _ _ _ _ _ _ (Ext.same (dC.trans yP)) (fun _ h=>h) ht);have⟨dL,aaM,kH,QO,CK⟩:=kL b6 (kP.o.ext Fs) Fs (Zn.o.trans (iG.o.trans Fs)) nS;have HEW:=Z3 (gL.o.trans QO.o);clear ht aeB cZ dC Fs nS b6 y0 yz;obtain⟨sz,s0,s1,s2,s3,s4,s5, -⟩:=(aaM.o).ca;obtain⟨tz,t0,t1,t2,t3,t4,t5, -⟩:=(dL.o).ca;go_upto_region 9 with(fail);rw[←CK.o];by_cases h0:s.status=0
 · have k0':(s.status==0)=true:=beq_iff_eq.2 h0;have kne:(s.status !=s.status)=false:=by simp
   clear h0;go_wp2_with (first|(go_at_call 6;refine(aaq _).mono ?_;rintro e w8 ⟨rfl,rfl⟩)|fail);go_ret;exact⟨rfl,HEW.o⟩
 have k0':(s.status==0)=false:=beq_eq_false_iff_ne.2 h0;have kne:(s.status !=s.status)=false:=by simp
 clear h0;obtain⟨yz,y0, -⟩:=(mQ.o.ext QO.o).ca;go_wp2_with fail;refine(Ww w6 (fun b=>b<w6.heap.size) _ _ (K6.o w6 QO.o) (fun _ h=>h) true s _ (HS4.o w6 kH.o) 400).mono ?_;rintro e w7 ⟨⟨cs,rfl,hx⟩,r9⟩;obtain⟨x,hxn⟩:∃x,M.oQ [k0,k1,k2] true s 400=x:=⟨_,rfl⟩;rw[hxn]at hx;have HXN:=Z3 hxn;obtain⟨b1,d1,b2,d2,b3,d3,rfl, -, -, -⟩:=hx.form;obtain⟨w8,JS,lK,b8⟩:=nu w7 #[.int .i64 x.status,.slice b1 x.frames.length d1,.slice b2 x.heap.length d2,.slice b3 x.outs.length d3,.int .i64 x.back.kind,.int .i64 x.back.n] 40;have Rc:=r9.trans lK;have HX8:Zs (∀W',Ext w8 W'→SliceOf 1 jQ W' (fun _=>True) (.slice b3 x.outs.length d3) x.outs):=Z3 fun W' yP=>(dU.parts hx).2.2.keep jQ.stays (Ext.same (lK.trans yP)) (fun _ _=>trivial);have⟨yt,Xt,lJ,WQ,afH,HT8,HQ8⟩:=pX b8 (dL.o.ext Rc) Rc JS (QO.o.trans Rc) (HT6.o w8 Rc) (HQ7.o w8 (iG.o.trans (kH.o.trans Rc)));clear hx hxn r9 lK Rc JS b8 y0 yz k0' kne s0 t0 s1 t1 s2 t2 s3 t3 s4 t4 s5 t5 sz tz;obtain⟨tz,t0,t1,t2,t3,t4,t5, -⟩:=(Xt.o).ca;obtain⟨yz,y0, -⟩:=((zW.o.ext iG.o).ext (kH.o.trans lJ.o)).ca;go_upto_region 14 with(fail);rw[←WQ.o];go_wp2_with fail;have OP:=Ww w8 (fun b=>b<w8.heap.size) _ _ HQ8.o (fun _ h=>h) true (M.fA M.jW s) _ HT8.o 400;refine OP.mono ?_;rintro e w9 ⟨⟨cs,rfl,hy⟩,nk⟩;have aeN:M.oQ (M.turned k0 k1 k2) true (M.fA M.jW s) 400=M.fA M.jW x:=by
  have:=M.PD SN.o true n m args (f:=400) (Nat.le_refl _);rw[M.qQ SN.o,HSN.o]at this;rw[←HXN.o];exact this
 rw[aeN]at hy;obtain⟨i1,j1,i2,j2,i3,j3,rfl, -, -, -⟩:=hy.form;simp only[M.fA,List.length_map]at hy ⊢;obtain⟨gu,uF,kK,b10⟩:=nu w9 #[.int .i64 x.status,.slice i1 x.frames.length j1,.slice i2 x.heap.length j2,.slice i3 x.outs.length j3,.int .i64 x.back.kind,.int .i64 x.back.n] 40;have UH:=nk.trans kK;have agn:Zs (∀W',Ext gu W'→SliceOf 1 jQ W' (fun _=>True) (.slice i3 x.outs.length j3) x.outs):=Z3 fun W' yP=>(dU.parts hy).2.2.keep jQ.stays (Ext.same (kK.trans yP)) (fun _ _=>trivial);have⟨Bt,Le,nO,Zm⟩:=gD b10 uF UH (afH.o.trans UH);clear hy aeN OP nk kK UH uF b10 y0 yz t0 t1 t2 t3 t4 t5 tz;obtain⟨T,f,dA,HT⟩:=iN.ex (fun W'=>Ext gu W') gu Kp.rr;obtain⟨-,x0,x1,x2,x3,x4,x5, -⟩:=ay.kY fun z=>(yt.o.ext (nO.o.trans (HT.aW z)));obtain⟨-,y0,y1,y2,y3,y4,y5, -⟩:=ay.kY fun z=>(Bt.o.ext (HT.aW z));have P0:=fun z=>(mQ.o.ext (Zm.o.trans (HT.aW z))).c 0 (.slice (some ⟨bk,off,none⟩) 3 pc) rfl;have Q0:=fun z=>(zW.o.ext (iG.o.trans (kH.o.trans (lJ.o.trans (nO.o.trans (HT.aW z)))))).c 0 (.slice (some ⟨nb,0,none⟩) 3 3) rfl;have aj:=Z3 HT;clear HT;go_upto_region 15 with(fail);rw[←Le.o];refine eO aj 26 [([0,1,2,3,4,5,6,7,8,9],10),([11,12,13,14,15,16,17,18,19,20,22],21),([],23)] [24,25] ?_ ?_
 · exact Kp.rr.drew
 have jq:Ext gu gu.drew:=Kp.rr.drew;generalize gu.drew=wd at jq ⊢;refine iX ?_;intro K2 ag;go_wp2_with fail;refine(YR wd _ _ (.slice b3 x.outs.length d3) (.slice i3 x.outs.length j3) x.outs x.outs (HX8.o wd (nO.o.trans jq)) (agn.o wd jq)).mono ?_;rintro e wa ⟨rfl,hEa⟩;rw[show decide (x.outs=x.outs)=true from decide_eq_true rfl];have iF:=jq.trans hEa;go_wp2_with fail;refine kk aj ag iF ?_;clear ag K2;refine iX ?_;intro K2 ag;go_wp2_with fail;refine(Gg wa _ (.slice (some ⟨bk,off,none⟩) 3 pc) [k0,k1,k2] (K6.o wa (Zm.o.trans iF)) (fun _ h=>h)).mono ?_;rintro e wb ⟨rfl,hEb⟩;obtain⟨q1,Bq⟩:∃q,M.iI [k0,k1,k2]=q:=⟨_,rfl⟩;have GR:=Z3 Bq;rw[Bq];clear Bq;have eX:=iF.trans hEb;go_wp2_with fail;refine kk aj ag eX ?_;clear ag K2;refine gZ rfl fun K2 ag=>?_;go_wp2_with fail;refine(Gg wb _ (.slice (some ⟨nb,0,none⟩) 3 3) (M.turned k0 k1 k2) (HQ7.o wb (iG.o.trans (kH.o.trans (lJ.o.trans (nO.o.trans eX))))) (fun _ h=>h)).mono ?_;rintro e wf ⟨rfl,hEf⟩;rw[M.KC SN.o,GR.o];have fP:=eX.trans hEf;go_wp2_with fail;refine kk aj ag fP ?_;clear ag K2;refine vI [_,_] rfl fun K hK=>?_;(repeat (go_big_quiet_step (fail)));refine qn hK ?_;clear hK K;go_wp2_with fail;go_ret;exact⟨rfl,HEW.o.trans ((lJ.o.trans nO.o).trans fP)⟩
open Go Go.ChangeShapes Go.WideShapes Go.ChangeAt Go.RowKit
theorem Tryz.own:ownKnob Tryz.prog.godebug=none:=by kernel_rfl
theorem Tryz.laidOut:laidOutB Tryz.prog=true:=by kernel_rfl
theorem Og:Tryz.prog.cellsOf 5=1:=by kernel_rfl
theorem bytes_at{H:Type}{enc:TypeId×Value→H}{W:World}{v:Value}{d:DataW H}{p:List MemPlace}(hv:∃a len cap,v=.slice a len cap)(h0:DataW.Trod enc Tryz.prog W 0 (fun _=>true) true 22 v d p):∃zs,BytesAt W v zs:=by
 obtain⟨a0,len,cap,rfl⟩:=hv;obtain⟨fuel,hf⟩:=h0;rcases open_ints Tryz.underlying22 Tryz.underlying5 Og hf with⟨cK,hx⟩|⟨a,len',cap',zs,cK,_,hl,hm,hz,hx,wU,Md⟩
 · simp[Value.cells]at cK;obtain⟨rfl,rfl,rfl⟩:=cK;exact⟨[],.inl ⟨rfl,rfl⟩⟩
 · simp[Value.cells]at cK;obtain⟨rfl,rfl,rfl⟩:=cK;simp only[if_true]at hz;refine⟨zs.take len,.inr ⟨a,cap,by rw[List.length_take,Nat.min_eq_left Wg],by rw[List.length_take];omega,fun i hi=>?_,fun n hn=>?_⟩⟩
   · rw[List.length_take]at hi;have:=wU i Wg;rw[this];congr 2;simp only[List.getD,List.getElem?_take];rw[if_pos Wg]
   · have:=Md n (List.mem_of_mem_take hn);simp[Lit.wf,IntKind.min,IntKind.max,IntKind.bits,IntKind.signed]at this;omega
theorem VF{H:Type}{enc:TypeId×Value→H}{fn:Func}{s:ChangeSpec}{W W':World}{v:Value}{d:DataW H}{before:List MemPlace}(hp:fn.params=#[22])(hr:fn.resultTypes=#[4])(hv:s.vars=[])
    (hs:s.fn H ([d]++[])={results:=[.lit (.bool true)],args:=[d]}) (hW:DataW.Whole enc Tryz.prog fn.params.toList s.vars false W [v] [d] [] before)
    (h0:DataW.Trod enc Tryz.prog W 0 (fun _=>true) true 22 v d before) (hE:Ext W W'):s.post enc Tryz.prog fn false true false false W #[v] (.bool true) W':=by
 have bY:∀x∈before,x.block<W.heap.size:=fun x hx=>by simpa using hW.lt x hx
 have bel:=Ext.Wq hE;refine⟨[d],[],before,[],before,[],hW,?_,?_,?_,bel.frame _,fun h=>by cases h⟩
 · rw[hs,hr];exact trodAll_mk1 (shut_bool Tryz.underlying4 true)
 · rw[hs,hp];exact trodAll_mk1 (Below.trod Tryz.laidOut Wr (of_decide_eq_true Wr) h0 bel bY)
 · rw[hs,hv];exact(rfl:([]:List MemPlace)=[])
end Go.Proofs.YtkmclfpjpajjeaaGreat
namespace Go.Proofs.YtkmclfpjpajjeaaGreat
open Go Go.ChangeShapes Go.WideShapes Go.ChangeAt Go.RowKit
theorem Ao(os:Os)(started:os.Started)(H:Type)(enc:TypeId×Value→H):
    ReturnsInHanded {} Tryz.checked os 3 .any (Rows.fnVmTurnedSpec.pre6 enc Tryz.prog Tryz.f3 Rows.fnVmTurnedRow.domain false) (Rows.fnVmTurnedSpec.post enc Tryz.prog Tryz.f3 false true false false):=by
 refine returnsInHanded_of_change (C:=Tryz.checked) Tryz.own started Wr Tryz.func3
  (ChangeSpec.witness6 (enc:=enc) (C:=Tryz.checked) false ⟨#[],#[.slice none 0 0],[]⟩ 8 Wr Wr Wr Wr) ?_
 intro W base args ds gs before aeF hW hcnd _;have aeE:∀(j:Nat) t v,Tryz.f3.params[j]?=some t→args[j]?=some v→Value.okWide Tryz.prog W .any base t v:=aeF;have yP:=hW;obtain⟨p,q,hA0,hV,rfl,hfz,IW⟩:=hW;have hA:DataW.TrodAll enc Tryz.prog W 0 (fun _=>true) true Tryz.f3.params.toList args.toList ds p:=hA0;rw[Tryz.params3]at hA aeE;obtain⟨v0,d0,rfl,rfl,h0⟩:=trodAll_one hA;obtain⟨rfl,rfl⟩:=trodVars_none hV;simp only[List.append_nil]at yP;obtain⟨zs,hb⟩:=bytes_at (okWide_slice Tryz.underlying22 (aeE 0 22 v0 rfl rfl)) h0;refine(OW W v0 zs hb).mono fun e W' ⟨he,hE⟩=>?_;subst he;exact⟨_,rfl,VF (fn:=Tryz.f3) Tryz.params3 rfl rfl rfl yP h0 hE⟩
theorem fnVmTurned_holds:Rows.FnVmTurnedSaid:=
 OpenClaim.holds_of_wide 3 Tryz.f3 rfl rfl rfl rfl rfl rfl rfl ⟨rfl,rfl,rfl,rfl,rfl⟩ rfl rfl rfl rfl rfl Wr Tryz.func3 Wr
  (of_decide_eq_true Wr) (by unfold Func.isWrapper;rw[if_neg (by decide+kernel)];exact⟨rfl,rfl⟩)
  (fun os started H enc _=>Ao os started H enc)
#print axioms fnVmTurned_holds
end Go.Proofs.YtkmclfpjpajjeaaGreat
