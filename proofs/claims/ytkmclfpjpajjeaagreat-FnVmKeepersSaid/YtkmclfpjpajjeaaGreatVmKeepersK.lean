/- FnVmKeepers: for every input the program returns true, and the input reads as it did. No condition. -/
import Derived.Test.YtkmclfpjpajjeaaGreatTnCoreLv
import Derived.Test.YtkmclfpjpajjeaaGreatRows
import Derived.ProofKit
import Derived.Carry
set_option maxRecDepth 100000
set_option maxHeartbeats 4000000
set_option linter.all false
namespace Go.Proofs.YtkmclfpjpajjeaaGreat.M
theorem yx.link{p:ax}:yx p ky:=⟨⟨by simp[ky,jI],by simp[ky],by simp[ky],by simp[ky],by simp[ky],by simp[ky,bD,eU]⟩,by simp[ky],by simp[ky]⟩
theorem Good.one{p:ax}{q:Ref}(hq:bu p q=true):Good p ⟨1,[],[fresh p q],[],eU⟩:=by
 have h0:Good p ⟨1,[],[],[],eU⟩:=⟨by simp[jI],by simp,by simp,by simp,by simp,by simp[bD,eU]⟩;exact h0.grow hq Wf
theorem Py{p:ax}(jM:dF p=true){lk:Bool}{k:Int}{n m:ByteArray}{args:List Int}(ha:args.all iH=true):yx p (start p lk k n m args):=by
 unfold start;split
 · rename_i hf;split
   · rename_i hc;obtain⟨rr,Xg⟩:=l7 hc.1;have hx:=kW Xg;have hlen:(method p (call p k n m).1).args.length=args.length:=by
      have:=hc.2;unfold kg at this;simp only[Bool.and_eq_true,decide_eq_true_eq]at this;exact this.1
     refine l5.runs (zo jM (Good.one hf.2) rfl hx ?_ ?_)
     · intro v hv;rcases List.mem_cons.1 hv with rfl|hv
       · exact tF _ Wg Wf
       · obtain⟨x,hx,rfl⟩:=List.mem_map.1 hv;exact il _ (List.all_eq_true.1 ha x hx)
     · have:=(pG (ji jM hx).1).args;simp;omega
   · exact yx.link
 · exact yx.link
theorem Nb{p:ax}{lk:Bool}{s:St}{f:Nat}(jM:dF p=true)(hs:yx p s)(hf:f≤400):oQ p lk s f=steps p lk f s:=by
 unfold oQ;rw[decide_eq_true Wg,jM,Gp.2 hs];rfl
open Go
section
variable {p:ax} {s s1:St} {r:List Fr} {t t1:Fr} {op:Int}
end
theorem Dv{p:ax}{k:Int}{n m:ByteArray}{args:List Int}:(∀lk,jC p lk k n m args=D9)∨(dF p=true∧∀lk,jC p lk k n m args=start p lk k n m args∧yx p (jC p lk k n m args)):=by
 unfold jC;by_cases h:(dF p&&has p k&&aT n&&aT m&&args.all iH)=true
 · right;simp only[Bool.and_eq_true]at h;refine⟨h.1.1.1.1,fun lk=>?_⟩;rw[h.1.1.1.1,h.1.1.1.2,h.1.1.2,h.1.2,h.2];exact⟨rfl,Py h.1.1.1.1 h.2⟩
 · left;intro lk;rw[if_neg h]
end Go.Proofs.YtkmclfpjpajjeaaGreat.M
namespace Go.Proofs.YtkmclfpjpajjeaaGreat
open Go Go.RowKit
theorem dU.inside{w:World}{I:Nat→Prop}{s:M.St}{cs:List Value}(h:dU w I s cs):dU w (fun b=>b<w.heap.size) s cs:=by
 obtain⟨vf,vh,vo,e,h1,h2,h3⟩:=h;have hI:∀b,I b∧b<w.heap.size→b<w.heap.size:=fun b h=>h.2;have keep:∀{α:Type} {k:Nat} {R:iJ α} (hS:bQ R) {v:Value} {xs:List α},SliceOf k R w (fun b=>I b∧b<w.heap.size) v xs→SliceOf k R w (fun b=>b<w.heap.size) v xs:=fun hS _ _ h=>h.keep hS (fun _ _ _ _ h=>h) hI;refine⟨vf,vh,vo,e,keep QK.stays (h1.inside (fun w I x cs h=>?_) Wg),keep yw.stays (h2.inside (fun w I x cs h=>?_) Wg),keep jQ.stays (h3.inside (fun _ _ _ _ h=>h) Wg)⟩
 · obtain⟨vl,vs,e,a,b⟩:=h;exact⟨vl,vs,e,a.inside (fun _ _ _ _ h=>h) Wg,b.inside (fun _ _ _ _ h=>h) Wg⟩
 · obtain⟨vf,e,a⟩:=h;exact⟨vf,e,a.inside (fun _ _ _ _ h=>h) Wg⟩
theorem dU.parts{w:World}{I:Nat→Prop}{s:M.St}{c0 v1 v2 v3 c4 c5:Value}(h:dU w I s [c0,v1,v2,v3,c4,c5]):SliceOf 6 QK w I v1 s.frames∧SliceOf 3 yw w I v2 s.heap∧SliceOf 1 jQ w I v3 s.outs:=by
 obtain⟨_,_,_,e,h1,h2,h3⟩:=h;cases e;exact⟨h1,h2,h3⟩
theorem aaq(w:World):Calls Tryz.prog 6 #[] w fun e w'=>e=.returned (.bool true)∧w'=w:=by
 have hn:M.aT ⟨#[97]⟩=true:=by decide+kernel
 have HN:=Z3 (iK ⟨#[97]⟩ w);rw[hn]at HN;go_enter Tryz.func6,Tryz.ntmps6;go_wp2_with fail;refine HN.o.mono ?_;rintro e w1 ⟨rfl,rfl⟩;go_wp2_with fail;go_ret;exact⟨rfl,rfl⟩
end Go.Proofs.YtkmclfpjpajjeaaGreat
namespace Go.Proofs.YtkmclfpjpajjeaaGreat.M
theorem all_eq{α:Type}{f g:α→Bool}:∀{l:List α},(∀x∈l,f x=g x)→l.all f=l.all g
 |[],_=>rfl
 |x::l,h=>by rw[List.all_cons,List.all_cons,h x Wf,all_eq fun y hy=>h y (by simp[hy])]
def Said(c:Class)(n:ByteArray):Prop:=
 n=c.aL∨(∃f∈c.fields,n=f.kind.name)∨∃m∈c.methods,n=m.ret.name∨(∃a∈m.args,n=a.name)∨(∃i∈m.code,n=i.name)∨∃f∈m.maps,∃t∈f.locals++f.stack,n=t.name
structure gB(p q:ax)(ρ:Ref→Ref)(S:Int→Int→ByteArray→Prop):Prop where
 has:∀{k k' n},S k k' n→has q k'=has p k
 res:∀{k k' n},S k k' n→((resolve q k' n).2=1↔(resolve p k n).2=1)∧((resolve p k n).2=1→(resolve q k' n).1=ρ (resolve p k n).1)
 own:∀{r c},cls? p r=some c→cls? q (ρ r)=some c∧(∀n,Said c n→S r.keeper (ρ r).keeper n)∧S r.keeper (ρ r).keeper r.name
 clo:∀{k k' n},S k k' n→(resolve p k n).2=1→∀l,jw p (resolve p k n).1=some l→∀x∈l,∀c,cls? p x=some c→∀n',Said c n'→S k k' n'
 name:∀r,(ρ r).name=r.name
 inj:∀{r r' c c'},cls? p r=some c→cls? p r'=some c'→ρ r=ρ r'→r=r'
section
variable {p q:ax} {ρ:Ref→Ref} {S:Int→Int→ByteArray→Prop}
theorem gB.cls(h:gB p q ρ S){r:Ref}{c:Class}(hc:cls? p r=some c):M.cls q (ρ r)=M.cls p r:=by
 unfold M.cls;rw[(h.own hc).1,hc]
theorem gB.aL(h:gB p q ρ S){r:Ref}{c:Class}(hc:cls? p r=some c):M.aL q (ρ r)=M.aL p r:=by
 unfold M.aL;rw[(h.own hc).1,hc]
theorem gB.jw(h:gB p q ρ S):∀(f:Nat) {r:Ref} {c:Class},cls? p r=some c→bT q f (ρ r)=(bT p f r).map (List.map ρ)
 |0,_,_,_=>rfl
 |f+1,r,c,hc=>by
  have hs:=h.aL hc;have hS:S r.keeper (ρ r).keeper (M.aL p r):=(h.own hc).2.1 _ (.inl (by unfold M.aL;rw[hc];rfl));unfold bT;rw[hs];by_cases h0:M.aL p r=none_
  · rw[if_pos h0,if_pos h0];rfl
  rw[if_neg h0,if_neg h0];have h1:=h.res hS;by_cases h2:(resolve p r.keeper (M.aL p r)).2=1
  · obtain⟨c2,yQ⟩:=fu h2;rw[if_pos (h1.1.2 h2),if_pos h2,h1.2 h2,h.jw f yQ];cases bT p f (resolve p r.keeper (M.aL p r)).1<;>rfl
  · rw[if_neg (fun e=>h2 (h1.1.1 e)),if_neg h2];rfl
theorem gB.find(h:gB p q ρ S){k k':Int}{n:ByteArray}(hS:S k k' n):((find q k' n).2=1↔(find p k n).2=1)∧((find p k n).2=1→(find q k' n).1=ρ (find p k n).1∧∃c,cls? p (find p k n).1=some c):=by
 have h1:=h.res hS;unfold M.find;by_cases h2:(resolve p k n).2=1
 · obtain⟨c2,yQ⟩:=fu h2;have h3:M.jw q (resolve q k' n).1=(M.jw p (resolve p k n).1).map (List.map ρ):=by unfold M.jw;rw[h1.2 h2,h.jw 6 yQ]
   rw[if_pos (h1.1.2 h2),if_pos h2,h3];cases he:M.jw p (resolve p k n).1 with
   |none=>simp
   |some l=>simpa using⟨h1.2 h2,c2,yQ⟩
 · have h3:¬(resolve q k' n).2=1:=fun e=>h2 (h1.1.1 e);rw[if_neg h3,if_neg h2];exact⟨⟨fun e=>absurd e h3,fun e=>absurd e h2⟩,fun e=>absurd e h2⟩
theorem Om{k:Int}{n:ByteArray}(h:(find p k n).2=1):(resolve p k n).2=1∧(find p k n).1=(resolve p k n).1∧∃l,jw p (resolve p k n).1=some l:=by
 unfold find at h ⊢;by_cases h2:(resolve p k n).2=1
 · rw[if_pos h2]at h ⊢;cases he:jw p (resolve p k n).1 with
   |none=>rw[he]at h;simp at h
   |some l=>exact⟨h2,by simp,l,rfl⟩
 · rw[if_neg h2]at h;exact absurd h h2
theorem gB.fo(h:gB p q ρ S){r:Ref}{c:Class}(hc:cls? p r=some c):fo q (ρ r)=fo p r:=by
 have hf:=h.find (h.own hc).2.2;rw[←h.name r]at hf;unfold M.fo;rw[h.name r]at hf ⊢;by_cases h2:(M.find p r.keeper r.name).2=1
 · obtain⟨h3,c3,DT⟩:=hf.2 h2;rw[decide_eq_true (hf.1.2 h2),decide_eq_true h2,h3];congr 1;exact decide_eq_decide.2 ⟨fun e=>h.inj DT hc e,fun e=>by rw[e]⟩
 · rw[decide_eq_false (fun e=>h2 (hf.1.1 e)),decide_eq_false h2];simp
theorem gB.chain(h:gB p q ρ S){r:Ref}{c:Class}(hc:cls? p r=some c):chain q (ρ r)=(chain p r).map ρ:=by
 unfold M.chain;rw[h.fo hc];by_cases hl:M.fo p r=true
 · rw[if_pos hl,if_pos hl];unfold M.jw;rw[h.jw 6 hc];cases bT p 6 r<;>rfl
 · rw[if_neg hl,if_neg hl];rfl
theorem gB.under(h:gB p q ρ S){r t:Ref}{c d:Class}(hc:cls? p r=some c)(hd:cls? p t=some d):under q (ρ r) (ρ t)=under p r t:=by
 unfold M.under;rw[h.chain hc];refine Bool.eq_iff_iff.2 ⟨fun e=>?_,fun e=>?_⟩
 · obtain⟨x,hx,he⟩:=List.mem_map.1 (List.contains_iff_mem.1 e);obtain⟨cx,BU⟩:=dM hx;exact List.contains_iff_mem.2 (h.inj BU hd he▸hx)
 · exact List.contains_iff_mem.2 (List.mem_map.2 ⟨_,List.contains_iff_mem.1 e,rfl⟩)
theorem gB.agree(h:gB p q ρ S){a a' b b':Int}{k:Kind}(ha:S a a' k.name)(hb:S b b' k.name):agree q a' b' k=agree p a b k:=by
 have h1:=h.find ha;have h2:=h.find hb;unfold M.agree;congr 1;by_cases e1:(M.find p a k.name).2=1
 · obtain⟨f1,c1,mE⟩:=h1.2 e1;by_cases e2:(M.find p b k.name).2=1
   · obtain⟨f2,c2,yQ⟩:=h2.2 e2;rw[if_pos ⟨h1.1.2 e1,h2.1.2 e2⟩,if_pos ⟨e1,e2⟩,f1,f2];exact decide_eq_decide.2 ⟨fun e=>h.inj mE yQ e,fun e=>by rw[e]⟩
   · have e3:¬(M.find q b' k.name).2=1:=fun e=>e2 (h2.1.1 e);rw[if_neg (fun e=>e3 e.2),if_neg (fun e=>e2 e.2)];simp[e1,h1.1.2 e1]
 · have e3:¬(M.find q a' k.name).2=1:=fun e=>e1 (h1.1.1 e);rw[if_neg (fun e=>e3 e.1),if_neg (fun e=>e1 e.1)];by_cases e2:(M.find p b k.name).2=1
   · simp[e1,e2,e3,h2.1.2 e2]
   · have e4:¬(M.find q b' k.name).2=1:=fun e=>e2 (h2.1.1 e);simp[e1,e2,e3,e4]
theorem gB.bX(h:gB p q ρ S){a a' b b':Int}{m:Method}(ha:∀n,(n=m.ret.name∨∃k∈m.args,n=k.name)→S a a' n)(hb:∀n,(n=m.ret.name∨∃k∈m.args,n=k.name)→S b b' n):bX q a' b' m=bX p a b m:=by
 unfold M.bX;rw[h.agree (ha _ (.inl rfl)) (hb _ (.inl rfl))];congr 1;exact all_eq fun k hk=>h.agree (ha _ (.inr ⟨k,hk,rfl⟩)) (hb _ (.inr ⟨k,hk,rfl⟩))
theorem Said.method{c:Class}{m:Method}(hm:m∈c.methods){n:ByteArray}(h:n=m.ret.name∨∃k∈m.args,n=k.name):Said c n:=.inr (.inr ⟨m,hm,h.imp id .inl⟩)
theorem gB.dV(h:gB p q ρ S){r t:Ref}{c d:Class}(hc:cls? p r=some c)(hd:cls? p t=some d){m:Method}(hm:m∈c.methods):dV q (ρ r) (ρ t) m=dV p r t m:=by
 unfold M.dV;rw[h.cls hd];have e:M.cls p t=d:=by unfold M.cls;rw[hd];rfl
 rw[e];cases hf:d.methods.find? (fun n=>decide (n.name=m.name))with
 |none=>rfl
 |some x=>
  have hx:=List.mem_of_find?_eq_some hf;simp only;by_cases e1:m.ret=x.ret
  · by_cases e2:m.args=x.args
    · rw[decide_eq_true e1,decide_eq_true e2];simp only[Bool.true_and];exact h.bX (fun n hn=>(h.own hc).2.1 n (Said.method hm hn)) (fun n hn=>(h.own hd).2.1 n (Said.method hx (by rw[←e1,←e2];exact hn)))
    · rw[decide_eq_false e2];simp
  · rw[decide_eq_false e1];simp
theorem gB.ja(h:gB p q ρ S){r t:Ref}{c d:Class}(hc:cls? p r=some c)(hd:cls? p t=some d):ja q (ρ r) (ρ t)=ja p r t:=by
 unfold M.ja;rw[h.cls hc,h.cls hd];have e:M.cls p r=c:=by unfold M.cls;rw[hc];rfl
 congr 1;exact all_eq fun m hm=>h.dV hc hd (by rw[←e];exact hm)
theorem gB.ek(h:gB p q ρ S):∀{l:List Ref},(∀x∈l,∃c,cls? p x=some c)→ek q (l.map ρ)=ek p l
 |[],_=>rfl
 |r::l,ho=>by
  obtain⟨c,hc⟩:=ho r Wf;rw[List.map_cons];unfold M.ek;rw[h.ek fun x hx=>ho x (by simp[hx]),List.all_map];congr 1;exact all_eq fun x hx=>by obtain⟨d,hd⟩:=ho x (by simp[hx]);exact h.ja hc hd
theorem gB.bu(h:gB p q ρ S){r:Ref}{c:Class}(hc:cls? p r=some c):bu q (ρ r)=bu p r:=by
 unfold M.bu;rw[h.chain hc,h.ek fun x hx=>dM hx];simp
def mapM(ρ:Ref→Ref)(x:kI):kI:=⟨ρ x.of,x.at_⟩
def vV(ρ:Ref→Ref)(x:ko):ko:=⟨ρ x.of,x.at_,x.kind⟩
theorem gB.jU(h:gB p q ρ S){n:ByteArray}:∀{l:List Ref},(∀x∈l,∃c,cls? p x=some c)→jU q n (l.map ρ)=(jU p n l).map (mapM ρ)
 |[],_=>rfl
 |r::l,ho=>by
  obtain⟨c,hc⟩:=ho r Wf;simp only[List.map_cons];unfold M.jU;rw[h.cls hc,h.jU fun x hx=>ho x (by simp[hx])];cases lM (M.cls p r) n<;>rfl
theorem gB.pick(h:gB p q ρ S){r:Ref}{c:Class}(hc:cls? p r=some c)(n:ByteArray):pick q (ρ r) n=(pick p r n).map (mapM ρ):=by
 unfold M.pick;rw[h.bu hc,h.chain hc,h.jU fun x hx=>dM hx];split<;>rfl
theorem ng{r:Ref}(h:bu p r=true):∃c,cls? p r=some c:=dM (pU h).2
theorem gB.aS(h:gB p q ρ S){k k':Int}{n:ByteArray}(hS:S k k' n)(m:ByteArray):
    (M.aS q k' n m).2=(M.aS p k n m).2∧((M.aS p k n m).2=1→(M.aS q k' n m).1=ρ (M.aS p k n m).1∧M.bu p (M.aS p k n m).1=true∧(M.aS p k n m).1=(M.find p k n).1∧(M.find p k n).2=1):=by
 have hf:=h.find hS;unfold M.aS;rw[h.has hS];split
 · by_cases h2:(M.find p k n).2=1
   · obtain⟨h3,c,hc⟩:=hf.2 h2;rw[if_pos (hf.1.2 h2),if_pos h2,h3,h.bu hc];by_cases h4:M.bu p (M.find p k n).1=true
     · rw[if_pos h4,if_pos h4];exact⟨rfl,fun _=>⟨rfl,h4,rfl,h2⟩⟩
     · rw[if_neg h4,if_neg h4];exact⟨rfl,fun e=>by simp at e⟩
   · rw[if_neg h2,if_neg (fun e=>h2 (hf.1.1 e))];exact⟨rfl,fun e=>by simp at e⟩
 · exact⟨rfl,fun e=>by simp at e⟩
theorem yK(ρ:Ref→Ref)(r:Ref):∀(fs:List Field) (acc:List ko),dx (ρ r) fs (acc.map (vV ρ))=(dx r fs acc).map (vV ρ)
 |[],_=>rfl
 |f::l,acc=>by
  unfold dx;rw[←yK ρ r l];simp[vV]
theorem gB.dB(h:gB p q ρ S):∀{l:List Ref},(∀x∈l,∃c,cls? p x=some c)→∀acc:List ko,dB q (l.map ρ) (acc.map (vV ρ))=(dB p l acc).map (vV ρ)
 |[],_,_=>rfl
 |r::l,ho,acc=>by
  obtain⟨c,hc⟩:=ho r Wf;simp only[List.map_cons];unfold M.dB;rw[h.cls hc,yK,h.dB fun x hx=>ho x (by simp[hx])]
theorem gB.layout(h:gB p q ρ S){r:Ref}{c:Class}(hc:cls? p r=some c):layout q (ρ r)=(layout p r).map (vV ρ):=by
 unfold M.layout;rw[h.bu hc,h.chain hc,←List.map_reverse];split
 · exact h.dB (fun x hx=>dM (List.mem_reverse.1 hx)) []
 · rfl
theorem gB.ig(h:gB p q ρ S){t:Ref}{d:Class}(hd:cls? p t=some d):∀{l:List Ref},(∀x∈l,∃c,cls? p x=some c)→∀n,ig q (ρ t) (l.map ρ) n=ig p t l n
 |[],_,_=>rfl
 |r::l,ho,n=>by
  obtain⟨c,hc⟩:=ho r Wf;simp only[List.map_cons];unfold M.ig;by_cases e:r=t
  · rw[if_pos e,if_pos (by rw[e])]
  · rw[if_neg e,if_neg (fun e'=>e (h.inj hc hd e')),h.cls hc,h.ig hd fun x hx=>ho x (by simp[hx])]
theorem gB.fieldName(h:gB p q ρ S){r:Ref}{c:Class}(hc:cls? p r=some c){f:ko}{d:Class}(hd:cls? p f.of=some d):fieldName q (ρ r) (vV ρ f)=fieldName p r f:=by
 have e:gT q (ρ f.of) (ρ r)=gT p f.of r:=by
  unfold gT;rw[h.chain hc,←List.map_reverse];exact h.ig hd (fun x hx=>dM (List.mem_reverse.1 hx)) 0
 simp only[M.fieldName,vV,h.cls hd,e]
theorem J2{r:Ref}{f:ko}(h:f∈layout p r):f.of∈chain p r∧∃d,cls? p f.of=some d∧∃x∈d.fields,f.kind=x.kind:=by
 obtain⟨i,hi⟩:=List.getElem?_of_mem h;obtain⟨-,h1, -,j,fd,h2, -,h4⟩:=xW hi;obtain⟨d,hd⟩:=dM h1;have e:M.cls p f.of=d:=by unfold M.cls;rw[hd];rfl
 rw[e]at h2;exact⟨h1,d,hd,fd,List.mem_of_getElem? h2,h4⟩
end
end Go.Proofs.YtkmclfpjpajjeaaGreat.M
namespace Go.Proofs.YtkmclfpjpajjeaaGreat.M
section
variable {p q:ax} {ρ:Ref→Ref} {S:Int→Int→ByteArray→Prop}
theorem Ls{r:Ref}{l:List Ref}(h:jw p r=some l){x:Ref}(hx:x∈chain p r):x∈l:=by
 unfold chain at hx;split at hx
 · rw[h]at hx;exact hx
 · cases hx
theorem gB.said(h:gB p q ρ S){k k':Int}{n:ByteArray}(hS:S k k' n)(hf:(M.find p k n).2=1){x:Ref}(hx:x∈M.chain p (M.find p k n).1){c:Class}(hc:cls? p x=some c){n':ByteArray}(hn:Said c n'):S k k' n':=by
 obtain⟨h1,h2,l,h3⟩:=Om hf;rw[h2]at hx;exact h.clo hS h1 l h3 x (Ls h3 hx) c hc n' hn
theorem gB.kE(h:gB p q ρ S){k k':Int}{m:ByteArray}{r:Ref}{c:Class}(hc:cls? p r=some c):∀{l:List ko},(∀f∈l,∃d,cls? p f.of=some d∧S k k' f.kind.name∧Said d f.kind.name)→
    (M.kE q k' m (ρ r) (l.map (vV ρ))).2=(M.kE p k m r l).2∧((M.kE p k m r l).2=1→(M.kE q k' m (ρ r) (l.map (vV ρ))).1=vV ρ (M.kE p k m r l).1)
 |[],_=>⟨rfl,fun e=>by simp[M.kE]at e⟩
 |f::l,ho=>by
  obtain⟨d,hd,hS,hn⟩:=ho f Wf;have ih:=h.kE (k:=k) (k':=k') (m:=m) hc (l:=l) fun x hx=>ho x (by simp[hx]);rw[List.map_cons];unfold M.kE;rw[h.fieldName hc hd];by_cases e:M.fieldName p r f=m
  · rw[if_pos e,if_pos e,show M.agree q k' (vV ρ f).of.keeper (vV ρ f).kind=M.agree p k f.of.keeper f.kind from h.agree hS ((h.own hd).2.1 _ hn)];split
    · exact⟨rfl,fun _=>rfl⟩
    · exact⟨rfl,fun e=>by simp at e⟩
  · rw[if_neg e,if_neg e];exact ih
theorem Q9{k:Int}{n m:ByteArray}(h:(get p k n m).2=1):(aS p k n m).2=1∧(get p k n m).1∈layout p (aS p k n m).1:=by
 unfold get at h ⊢;by_cases e:(aS p k n m).2=1
 · rw[if_pos e]at h ⊢;exact⟨e,wS h⟩
 · rw[if_neg e]at h;exact absurd h e
theorem gB.get(h:gB p q ρ S){k k':Int}{n:ByteArray}(hS:S k k' n)(m:ByteArray):
    (M.get q k' n m).2=(M.get p k n m).2∧((M.get p k n m).2=1→(M.get q k' n m).1=vV ρ (M.get p k n m).1∧(∃d,cls? p (M.get p k n m).1.of=some d∧Said d (M.get p k n m).1.kind.name)∧S k k' (M.get p k n m).1.kind.name):=by
 have hl:=h.aS hS m;have hfa:=Q9 (p:=p) (k:=k) (n:=n) (m:=m);revert hfa;unfold M.get;rw[hl.1];by_cases e:(M.aS p k n m).2=1
 · obtain⟨h1,h2,h3,h4⟩:=hl.2 e;obtain⟨c,hc⟩:=ng h2;have nW:∀f∈M.layout p (M.aS p k n m).1,∃d,cls? p f.of=some d∧S k k' f.kind.name∧Said d f.kind.name:=fun f hf=>by
    obtain⟨g1,d,g2,x,g3,g4⟩:=J2 hf;have hn:Said d f.kind.name:=.inr (.inl ⟨x,g3,by rw[g4]⟩);exact⟨d,g2,h.said hS h4 (h3▸g1) g2 hn,hn⟩
   rw[if_pos e,if_pos e,h1,h.layout hc];intro hfa;have hg:=h.kE (k:=k) (k':=k') (m:=m) hc nW;refine⟨hg.1,fun e2=>⟨hg.2 e2,?_⟩⟩;obtain⟨d,g1,g2,g3⟩:=nW _ (hfa e2).2;exact⟨⟨d,g1,g3⟩,g2⟩
 · rw[if_neg e,if_neg e];exact fun _=>⟨rfl,fun e2=>absurd e2 e⟩
theorem xA{x:kI}{m:Method}(h:method? p x=some m):∃c,cls? p x.of=some c∧m∈c.methods∧method p x=m:=by
 have h0:=h;unfold method? at h;split at h
 · unfold cls at h;cases hc:cls? p x.of with
   |none=>rw[hc]at h;simp[ack]at h
   |some c=>rw[hc]at h;exact⟨c,rfl,List.mem_of_getElem? h,by unfold method;rw[h0];rfl⟩
 · cases h
theorem gB.method(h:gB p q ρ S){x:kI}{c:Class}(hc:cls? p x.of=some c):M.method q (mapM ρ x)=M.method p x:=by
 unfold M.method method? mapM;rw[h.cls hc]
theorem gB.call(h:gB p q ρ S){k k':Int}{n:ByteArray}(hS:S k k' n)(m:ByteArray):
    (M.call q k' n m).2=(M.call p k n m).2∧((M.call p k n m).2=1→(M.call q k' n m).1=mapM ρ (M.call p k n m).1∧
     ∃c,cls? p (M.call p k n m).1.of=some c∧M.method p (M.call p k n m).1∈c.methods∧∀n',Said c n'→S k k' n'):=by
 have hl:=h.aS hS m;unfold M.call;rw[hl.1];by_cases e:(M.aS p k n m).2=1
 · obtain⟨h1,h2,h3,h4⟩:=hl.2 e;obtain⟨c,hc⟩:=ng h2;rw[if_pos e,if_pos e,h1,h.pick hc];cases hp:M.pick p (M.aS p k n m).1 m with
   |none=>exact⟨rfl,fun e=>by simp at e⟩
   | some x =>
    obtain⟨-,g1,i,d,mm,g2,g3,g4,g5,g6⟩:=uP hp;obtain⟨d',k1,k2,k3⟩:=xA g6;obtain rfl:d'=d:=Option.some.inj (k1.symm.trans g3);have hs:∀n',Said d' n'→S k k' n':=fun n' hn=>h.said hS h4 (h3▸g1) k1 hn;have ha:M.bX q k' (ρ x.of).keeper (M.method q (mapM ρ x))=M.bX p k x.of.keeper (M.method p x):=by
     rw[h.method k1,k3];exact h.bX (fun n' hn=>hs n' (Said.method k2 hn)) (fun n' hn=>(h.own k1).2.1 n' (Said.method k2 hn))
    simp only[Option.map_some];rw[show(mapM ρ x).of=ρ x.of from rfl,ha];split
    · exact⟨rfl,fun _=>⟨rfl,d',k1,by rw[k3];exact k2,hs⟩⟩
    · exact⟨rfl,fun e=>by simp at e⟩
 · rw[if_neg e,if_neg e];exact⟨rfl,fun e2=>absurd e2 e⟩
theorem gB.bP(h:gB p q ρ S){x:kI}{c:Class}(hc:cls? p x.of=some c):M.bP q (mapM ρ x)=M.bP p x:=by
 unfold M.bP mapM;rw[h.bu hc,h.cls hc]
def jE(T:ByteArray→Prop)(t:Tag):Prop:=t.kind=2→T t.name
def nT(T:ByteArray→Prop)(s:iY):Prop:=(∀t∈s.locals,jE T t)∧∀t∈s.stack,jE T t
variable {T:ByteArray→Prop} {k k':Int}
theorem jE.num:jE T iL:=fun e=>by simp[iL]at e
theorem jE.null:jE T AV:=fun e=>by simp[AV]at e
theorem jE.zero:jE T Cy:=fun e=>by simp[Cy]at e
theorem jE.cls{n:ByteArray}(h:T n):jE T (eP n):=fun _=>h
theorem jE.of{a:Kind}(h:T a.name):jE T (fJ a):=by
 unfold fJ;split
 · exact fun _=>h
 · exact jE.zero
theorem nT.take{s:iY}(h:nT T s){x:Tag×iY}(e:nD s=some x):jE T x.1∧nT T x.2:=by
 unfold nD at e;obtain⟨t,ht,rfl⟩:=Option.map_eq_some_iff.1 e;exact⟨h.2 _ (List.mem_of_getLast? ht),h.1,fun u hu=>h.2 u (List.dropLast_subset _ hu)⟩
theorem gB.may(h:gB p q ρ S){a b:Tag}(ha:jE (S k k') a)(hb:jE (S k k') b):M.may q k' a b=M.may p k a b:=by
 unfold M.may;split
 · rfl
 split
 · rfl
 split
 · rfl
 split
 · rfl
 rename_i e1 e2 e3 e4;have f1:=h.find (ha (by simpa using e4));have f2:=h.find (hb (by simpa using e2));by_cases g1:(M.find p k a.name).2=1
 · obtain⟨i1,c1,j1⟩:=f1.2 g1;by_cases g2:(M.find p k b.name).2=1
   · obtain⟨i2,c2,j2⟩:=f2.2 g2;rw[decide_eq_true g1,decide_eq_true g2,decide_eq_true (f1.1.2 g1),decide_eq_true (f2.1.2 g2),i1,i2,h.under j1 j2]
   · rw[decide_eq_false g2,decide_eq_false (fun e=>g2 (f2.1.1 e))];simp
 · rw[decide_eq_false g1,decide_eq_false (fun e=>g1 (f1.1.1 e))];simp
theorem gB.gK(h:gB p q ρ S){t:Tag}{s:iY}(ht:jE (S k k') t)(hs:nT (S k k') s):M.gK q k' t s=M.gK p k t s∧∀s',M.gK p k t s=some s'→nT (S k k') s':=by
 unfold M.gK;cases e:nD s with
 |none=>exact⟨rfl,fun _ e=>by cases e⟩
 |some x=>
  have hx:=hs.take e;simp only[Option.bind_some];rw[h.may hx.1 ht];refine⟨rfl,fun s' e'=>?_⟩;split at e'
  · cases e';exact hx.2
  · cases e'
theorem nT.obj{s s':iY}(h:nT T s)(e:sZ s=some s'):nT T s':=by
 unfold sZ at e;cases e1:nD s with
 |none=>rw[e1]at e;cases e
 |some x=>
  rw[e1]at e;simp only[Option.bind_some]at e;split at e
  · cases e;exact(h.take e1).2
  · cases e
theorem nT.put{m:Method}{t:Tag}{s s':iY}(h:nT T s)(ht:jE T t)(e:iB m t s=some s'):nT T s':=by
 unfold iB at e;split at e
 · cases e
 · cases e;refine⟨h.1,fun u hu=>?_⟩;rcases List.mem_append.1 hu with hu|hu
   · exact h.2 u hu
   · simp at hu;rw[hu];exact ht
theorem gB.fK(h:gB p q ρ S):∀{a b:List Tag},(∀t∈a,jE (S k k') t)→(∀t∈b,jE (S k k') t)→M.fK q k' a b=M.fK p k a b
 |a::r,b::l,ha,hb=>by
  unfold M.fK;rw[h.may (ha a Wf) (hb b Wf),h.fK (fun t ht=>ha t (by simp[ht])) (fun t ht=>hb t (by simp[ht]))]
 |[],_,_,_=>by unfold M.fK;rfl
 |_::_,[],_,_=>by unfold M.fK;rfl
def QX(T:ByteArray→Prop)(f:SMap):Prop:=∀t∈f.locals++f.stack,T t.name
theorem QX.DL{f:SMap}(h:QX T f):nT T ⟨f.locals,f.stack⟩:=⟨fun t ht _=>h t (List.mem_append.2 (.inl ht)),fun t ht _=>h t (List.mem_append.2 (.inr ht))⟩
theorem gB.dS(h:gB p q ρ S){s:iY}{f:SMap}(hs:nT (S k k') s)(hf:QX (S k k') f):M.dS q k' s f=M.dS p k s f:=by
 unfold M.dS;rw[h.fK hs.1 hf.DL.1,h.fK hs.2 hf.DL.2]
theorem gB.branch(h:gB p q ρ S){m:Method}{tgt:Int}{s:iY}(hm:∀f∈m.maps,QX (S k k') f)(hs:nT (S k k') s):M.fZ q k' m tgt s=M.fZ p k m tgt s∧∀s',M.fZ p k m tgt s=some s'→nT (S k k') s':=by
 unfold M.fZ;cases e:yV m tgt with
 |none=>exact⟨rfl,fun _ e=>by cases e⟩
 |some f=>
  simp only[Option.bind_some];rw[h.dS hs (hm f (List.mem_of_find?_eq_some e))];refine⟨rfl,fun s' e'=>?_⟩;split at e'
  · cases e';exact hs
  · cases e'
theorem gB.meet(h:gB p q ρ S){m:Method}{at_:Int}{goes:Bool}{s:iY}(hm:∀f∈m.maps,QX (S k k') f)(hs:nT (S k k') s):M.kC q k' m goes at_ s=M.kC p k m goes at_ s∧∀s',M.kC p k m goes at_ s=some s'→nT (S k k') s':=by
 unfold M.kC;cases e:yV m at_ with
 |none=>
  refine⟨rfl,fun s' e'=>?_⟩;simp only at e';split at e'
  · cases e';exact hs
  · cases e'
 |some f=>
  have hf:=hm f (List.mem_of_find?_eq_some e);simp only;rw[h.dS hs hf];refine⟨rfl,fun s' e'=>?_⟩;split at e'
  · cases e'
  · cases e';exact hf.DL
theorem gB.ZI(h:gB p q ρ S):∀{l:List Kind} {s:iY},(∀a∈l,S k k' a.name)→nT (S k k') s→M.iQ q k' l s=M.iQ p k l s∧∀s',M.iQ p k l s=some s'→nT (S k k') s'
 |[],s,_,hs=>⟨rfl,fun s' e=>by cases e;exact hs⟩
 |a::l,s,ha,hs=>by
  have h1:=h.gK (jE.of (ha a Wf)) hs;unfold M.iQ;rw[h1.1];cases e:M.gK p k (fJ a) s with
  |none=>exact⟨rfl,fun _ e=>by cases e⟩
  |some s1=>exact h.ZI (fun b hb=>ha b (by simp[hb])) (h1.2 s1 e)
structure BD(T:ByteArray→Prop)(m:Method):Prop where
 ret:T m.ret.name
 args:∀a∈m.args,T a.name
 code:∀i∈m.code,T i.name
 maps:∀f∈m.maps,QX T f
theorem BD.of{c:Class}{m:Method}(hm:m∈c.methods)(h:∀n,Said c n→T n):BD T m:=
 ⟨h _ (.inr (.inr ⟨m,hm,.inl rfl⟩)),fun a ha=>h _ (.inr (.inr ⟨m,hm,.inr (.inl ⟨a,ha,rfl⟩)⟩)),fun i hi=>h _ (.inr (.inr ⟨m,hm,.inr (.inr (.inl ⟨i,hi,rfl⟩))⟩)),
  fun f hf t ht=>h _ (.inr (.inr ⟨m,hm,.inr (.inr (.inr ⟨f,hf,t,ht,rfl⟩))⟩))⟩
theorem mZ{α β:Type}{P:α→Prop}{R:β→Prop}{x y:Option α}{f g:α→Option β}(h1:x=y∧∀a,y=some a→P a)(h2:∀a,P a→f a=g a∧∀b,g a=some b→R b):x.bind f=y.bind g∧∀b,y.bind g=some b→R b:=by
 obtain⟨rfl,h1⟩:=h1;cases x with
 |none=>exact⟨rfl,fun _ e=>by cases e⟩
 |some a=>exact h2 a (h1 a rfl)
theorem gB.put(T:ByteArray→Prop){m:Method}{t:Tag}(ht:jE T t):∀s:iY,nT T s→iB m t s=iB m t s∧∀s',iB m t s=some s'→nT T s':=fun _ hs=>⟨rfl,fun _ e=>hs.put ht e⟩
theorem gB.bJ(h:gB p q ρ S){m:Method}{i:Ins}{s:iY}(hm:BD (S k k') m)(hi:S k k' i.name)(hs:nT (S k k') s):M.bJ q k' m i s=M.bJ p k m i s∧∀s',M.bJ p k m i s=some s'→nT (S k k') s':=by
 have hg:=h.get hi i.member;have hc:=h.call hi i.member;unfold M.bJ;by_cases o1:i.op=1
 · rw[if_pos o1,if_pos o1];exact gB.put _ jE.num s hs
 rw[if_neg o1,if_neg o1];by_cases o2:i.op=2
 · rw[if_pos o2,if_pos o2];refine⟨rfl,fun s' e=>?_⟩;cases e1:s.locals[i.a.toNat]? with
   |none=>rw[e1]at e;cases e
   |some t=>
    rw[e1]at e;simp only[Option.bind_some]at e;split at e
    · cases e
    · exact hs.put (hs.1 t (List.mem_of_getElem? e1)) e
 rw[if_neg o2,if_neg o2];by_cases o3:i.op=3
 · rw[if_pos o3,if_pos o3];refine⟨rfl,fun s' e=>?_⟩;obtain⟨x,hx,rfl⟩:=Option.map_eq_some_iff.1 e;have:=hs.take hx;exact⟨fun t ht=>(List.mem_or_eq_of_mem_set ht).elim (this.2.1 t) (fun e=>e▸this.1),this.2.2⟩
 rw[if_neg o3,if_neg o3];by_cases o4:i.op=4
 · rw[if_pos o4,if_pos o4];exact mZ (h.gK jE.num hs) fun a ha=>mZ (h.gK jE.num ha) (gB.put _ jE.num)
 rw[if_neg o4,if_neg o4];by_cases o5:i.op=5
 · rw[if_pos o5,if_pos o5];exact gB.put _ jE.null s hs
 rw[if_neg o5,if_neg o5];by_cases o6:i.op=6
 · rw[if_pos o6,if_pos o6];exact gB.put _ (jE.cls hi) s hs
 rw[if_neg o6,if_neg o6];by_cases o7:i.op=7
 · rw[if_pos o7,if_pos o7];rw[hg.1];split
   · rename_i e;obtain⟨g1, -,g2⟩:=hg.2 e;rw[g1];exact mZ (h.gK (jE.cls hi) hs) (gB.put _ (jE.of g2))
   · exact⟨rfl,fun _ e=>by cases e⟩
 rw[if_neg o7,if_neg o7];by_cases o8:i.op=8
 · rw[if_pos o8,if_pos o8];rw[hg.1];split
   · rename_i e;obtain⟨g1, -,g2⟩:=hg.2 e;rw[g1];exact mZ (h.gK (jE.of g2) hs) fun a ha=>h.gK (jE.cls hi) ha
   · exact⟨rfl,fun _ e=>by cases e⟩
 rw[if_neg o8,if_neg o8];by_cases o9:i.op=9
 · rw[if_pos o9,if_pos o9];rw[hc.1];split
   · rename_i e;obtain⟨g1,c,g2,g3,g4⟩:=hc.2 e;rw[g1,h.method g2];have hn:=BD.of g3 g4;exact mZ (h.ZI (fun a ha=>hn.args a (List.mem_reverse.1 ha)) hs) fun a ha=>mZ (h.gK (jE.cls hi) ha) (gB.put _ (jE.of hn.ret))
   · exact⟨rfl,fun _ e=>by cases e⟩
 rw[if_neg o9,if_neg o9];by_cases o10:i.op=10
 · rw[if_pos o10,if_pos o10];exact h.gK (jE.of hm.ret) hs
 rw[if_neg o10,if_neg o10];by_cases o11:i.op=11
 · rw[if_pos o11,if_pos o11];exact mZ (h.gK jE.num hs) fun a ha=>h.branch hm.maps ha
 rw[if_neg o11,if_neg o11];by_cases o12:i.op=12
 · rw[if_pos o12,if_pos o12];exact mZ (P:=nT (S k k')) ⟨rfl,fun a e=>hs.obj e⟩ fun a ha=>h.branch hm.maps ha
 rw[if_neg o12,if_neg o12];by_cases o13:i.op=13
 · rw[if_pos o13,if_pos o13];exact h.branch hm.maps hs
 rw[if_neg o13,if_neg o13];by_cases o14:i.op=14
 · rw[if_pos o14,if_pos o14];exact h.gK jE.num hs
 · rw[if_neg o14,if_neg o14];exact mZ (P:=nT (S k k')) ⟨rfl,fun a e=>hs.obj e⟩ (gB.put _ (jE.cls hi))
theorem gB.eZ(h:gB p q ρ S){m:Method}(hm:BD (S k k') m):∀{l:List Ins} {at_:Nat} {goes:Bool} {s:iY} {known:List iY},(∀i∈l,S k k' i.name)→nT (S k k') s→M.eZ q k' m l at_ goes s known=M.eZ p k m l at_ goes s known
 |[],_,_,_,_,_,_=>rfl
 | i :: l, at_, goes, s, known, hl, hs => by
  have h1:=h.meet (at_:=(at_:Int)) (goes:=goes) hm.maps hs;unfold M.eZ;rw[h1.1];cases e:M.kC p k m goes at_ s with
  |none=>rfl
  |some s1=>
   have h2:=h.bJ hm (hl i Wf) (h1.2 s1 e);simp only;rw[h2.1];cases e2:M.bJ p k m i s1 with
   |none=>rfl
   |some s2=>exact h.eZ hm (fun j hj=>hl j (by simp[hj])) (h2.2 s2 e2)
theorem gB.look(h:gB p q ρ S){x:kI}{c:Class}(hc:cls? p x.of=some c)(hm:M.method p x∈c.methods):M.look q (mapM ρ x)=M.look p x:=by
 have ho:=(h.own hc).2;have hn:BD (S x.of.keeper (ρ x.of).keeper) (M.method p x):=BD.of hm ho.1;have hs:ry (mapM ρ x) (M.method p x)=ry x (M.method p x):=by unfold ry mapM;rw[h.name]
 have hf:nT (S x.of.keeper (ρ x.of).keeper) (ry x (M.method p x)):=by
  refine⟨fun t ht=>?_,fun t ht=>by cases ht⟩;rcases List.mem_append.1 ht with ht|ht
  · rcases List.mem_cons.1 ht with rfl|ht
    · exact jE.cls ho.2
    · obtain⟨a,ha,rfl⟩:=List.mem_map.1 ht;exact jE.of (hn.args a ha)
  · rw[(List.mem_replicate.1 ht).2];exact jE.zero
 unfold M.look;rw[h.method hc,hs,show(mapM ρ x).of.keeper=(ρ x.of).keeper from rfl,h.eZ hn hn.code hf]
theorem gB.right(h:gB p q ρ S){x:kI}{c:Class}(hc:cls? p x.of=some c)(hm:M.method p x∈c.methods):M.right q (mapM ρ x)=M.right p x:=by
 unfold M.right;rw[h.look hc hm]
theorem gB.eG(h:gB p q ρ S){r:Ref}{c:Class}(hc:cls? p r=some c):M.eG q (ρ r)=M.eG p r:=by
 unfold M.eG;have e:M.cls p r=c:=by unfold M.cls;rw[hc];rfl
 rw[h.bu hc,h.cls hc];congr 1;refine all_eq fun i hi=>?_;have hl:i<c.methods.length:=by rw[e]at hi;simpa using hi
 have hm:method? p ⟨r,i⟩=some c.methods[i]:=by unfold method?;simp[e,hl]
 obtain⟨c',h1,h2,h3⟩:=xA hm;exact h.right (x:=⟨r,i⟩) h1 (by rw[h3];exact h2)
end
end Go.Proofs.YtkmclfpjpajjeaaGreat.M
namespace Go.Proofs.YtkmclfpjpajjeaaGreat.M
def oM(ρ:Ref→Ref)(f:Fr):Fr:={f with of:=mapM ρ f.of}
def VT(ρ:Ref→Ref)(o:nP):nP:=⟨ρ o.of,o.fields⟩
def fA(ρ:Ref→Ref)(s:St):St:={s with frames:=s.frames.map (oM ρ),heap:=s.heap.map (VT ρ)}
def Mw(ρ:Ref→Ref)(x:Int×St):Int×St:=(x.1,fA ρ x.2)
section
variable {p q:ax} {ρ:Ref→Ref} {S:Int→Int→ByteArray→Prop} {s:St} {r:List Fr} {t:Fr}
theorem oN(h:s.frames=r++[t]):(fA ρ s).frames=r.map (oM ρ)++[oM ρ t]:=by simp[fA,h]
theorem uL(h:s.frames=r++[t]){f:Fr→Fr}(hf:f (oM ρ t)=oM ρ (f t)):Dl (fA ρ s) f=fA ρ (Dl s f):=by
 rw[j6 (oN h),j6 h,hf];simp[fA]
theorem Qj{x:kI}(h:bP p x=true):∃c,cls? p x.of=some c∧method p x∈c.methods:=by
 obtain⟨-,i,c,m, -,h2,h3,h4⟩:=pq h;obtain⟨c',k1,k2,k3⟩:=xA h4;exact⟨c',k1,by rw[k3];exact k2⟩
theorem xR{n:Nat}(h:dX p t n=true):∃c,cls? p t.of.of=some c∧method p t.of∈c.methods:=Qj (aM.1 h).1
theorem gB.jump(h:gB p q ρ S)(hG:Good p s)(hf:s.frames=r++[t])(k:Int):M.jump q k (fA ρ s)=Mw ρ (M.jump p k s):=by
 obtain⟨c,hc, -⟩:=xR (hG.top hf);unfold M.jump Mw;rw[iM (oN hf),iM hf,show(oM ρ t).of=mapM ρ t.of from rfl,h.method hc,uL hf (f:=fun f=>{f with pc:=k}) rfl];split<;>rfl
theorem gB.next(h:gB p q ρ S)(hG:Good p s)(hf:s.frames=r++[t]):M.next q (fA ρ s)=Mw ρ (M.next p s):=by
 unfold M.next;rw[iM (oN hf),iM hf];exact h.jump hG hf _
theorem gB.push(h:gB p q ρ S)(hG:Good p s)(hf:s.frames=r++[t]){v:Val}(hv:bD v s.heap.length=true):M.push q v (fA ρ s)=Mw ρ (M.push p v s):=by
 obtain⟨c,hc, -⟩:=xR (hG.top hf);have Az:=aM.1 (hG.top hf);unfold M.push;rw[iM (oN hf),iM hf,show(oM ρ t).of=mapM ρ t.of from rfl,h.method hc,uL hf (f:=fun f=>{f with stack:=f.stack++[v]}) rfl,show(oM ρ t).stack=t.stack from rfl];split
 · rfl
 · rename_i bY;rw[j6 hf];refine h.next (r:=r) (t:={t with stack:=t.stack++[v]}) (hG.turn hf (aM.2 ⟨Az.1,Az.2.1,Az.2.2.1,Az.2.2.2.1,by simp;omega,Az.2.2.2.2.2.1,?_⟩)) rfl;intro u hu;rcases List.mem_append.1 hu with hu|hu
   · exact Az.2.2.2.2.2.2 u hu
   · simp at hu;subst hu;exact hv
theorem rF(hf:s.frames=r++[t])(c:Nat):gG c (fA ρ s)=(gG c s).map fun x=>(x.1,fA ρ x.2):=by
 unfold gG;rw[iM (oN hf),iM hf,uL hf (f:=fun f=>{f with stack:=f.stack.take (f.stack.length - c)}) rfl,show(oM ρ t).stack=t.stack from rfl];split<;>rfl
theorem qP(hf:s.frames=r++[t]):pop (fA ρ s)=(pop s).map fun x=>(x.1,fA ρ x.2):=by
 unfold pop;rw[rF hf];cases gG 1 s<;>rfl
theorem LU(hG:Good p s){o:nP}(ho:o∈s.heap):∃c,cls? p o.of=some c:=ng ((fV.1 hG.heap).2 o ho).1
theorem MN{n:Int}(h0:0≤n)(h1:n<s.heap.length):oD (fA ρ s).heap n=ρ (oD s.heap n)∧∃o∈s.heap,oD s.heap n=o.of:=by
 obtain⟨o,h2,h3,h4, -⟩:=Qm (s:=s) h0 h1;refine⟨?_,o,h3,h4⟩;rw[h4];unfold oD fA;simp only[List.getElem?_map,h2];rfl
theorem gB.KD(h:gB p q ρ S)(hG:Good p s){v:Val}(hv:bD v s.heap.length=true)(hk:v.kind=2){x:Ref}{c:Class}(hx:cls? p x=some c):M.under q (oD (fA ρ s).heap v.n) (ρ x)=M.under p (oD s.heap v.n) x:=by
 obtain⟨h1,h2⟩:=lv hv hk;obtain⟨e,o,ho,eo⟩:=MN (ρ:=ρ) (s:=s) h1 h2;obtain⟨d,hd⟩:=LU hG ho;rw[e,eo];exact h.under hd hx
theorem gB.hasType(h:gB p q ρ S)(hG:Good p s){v:Val}(hv:bD v s.heap.length=true){k k':Int}{a:Kind}(ha:S k k' a.name):M.hasType q k' (fA ρ s).heap v a=M.hasType p k s.heap v a:=by
 have hf:=h.find ha;unfold M.hasType;split
 · rfl
 split
 · rfl
 split
 · rfl
 rename_i e1 e2 e3;by_cases g:(M.find p k a.name).2=1
 · obtain⟨i,c,hc⟩:=hf.2 g;rw[decide_eq_true g,decide_eq_true (hf.1.2 g),i,h.KD hG hv (by simpa using e3) hc]
 · rw[decide_eq_false g,decide_eq_false (fun e=>g (hf.1.1 e))];rfl
theorem gB.fH(h:gB p q ρ S)(hG:Good p s){k k':Int}:∀{vs:List Val} {l:List Kind},(∀v∈vs,bD v s.heap.length=true)→(∀a∈l,S k k' a.name)→M.fH q k' (fA ρ s).heap vs l=M.fH p k s.heap vs l
 |v::r,a::l,hv,ha=>by
  unfold M.fH;rw[h.hasType hG (hv v Wf) (ha a Wf),h.fH hG (fun u hu=>hv u (by simp[hu])) (fun b hb=>ha b (by simp[hb]))]
 |[],_,_,_=>by unfold M.fH;rfl
 |_::_,[],_,_=>by unfold M.fH;rfl
theorem gB.object(h:gB p q ρ S)(hG:Good p s){v:Val}(hv:bD v s.heap.length=true){x:Ref}{c:Class}(hx:cls? p x=some c):M.object q v (ρ x) (fA ρ s)=M.object p v x s:=by
 unfold M.object;split
 · rfl
 split
 · rfl
 rename_i e1 e2;rw[h.KD hG hv (by simpa using e2) hx]
theorem gB.fresh(h:gB p q ρ S){x:Ref}{c:Class}(hx:cls? p x=some c):M.fresh q (ρ x)=VT ρ (M.fresh p x):=by
 unfold M.fresh VT;rw[h.layout hx,List.map_map];rfl
theorem gB.fT(h:gB p q ρ S)(hf:s.frames=r++[t]){n:ByteArray}(hS:S t.of.of.keeper (ρ t.of.of).keeper n):
    (M.fT q n (fA ρ s)).2=(M.fT p n s).2∧((M.fT p n s).2=true→(M.fT q n (fA ρ s)).1=ρ (M.fT p n s).1∧M.bu p (M.fT p n s).1=true):=by
 have h1:=h.find hS;unfold M.fT;rw[iM (oN hf),iM hf,show(oM ρ t).of.of.keeper=(ρ t.of.of).keeper from rfl];by_cases g:(M.find p t.of.of.keeper n).2=1
 · obtain⟨i,c,hc⟩:=h1.2 g;simp only[decide_eq_true g,decide_eq_true (h1.1.2 g),i,h.bu hc,Bool.true_and];exact⟨trivial,fun e=>⟨trivial,e⟩⟩
 · simp only[decide_eq_false g,decide_eq_false (fun e=>g (h1.1.1 e)),Bool.false_and];exact⟨trivial,fun e=>by cases e⟩
theorem JA(n:Int):jG (fA ρ s).heap n=jG s.heap n:=by
 unfold jG fA;simp only[List.getElem?_map];cases s.heap[n.toNat]?<;>rfl
theorem Kq(n a:Int)(v:Val):iO (fA ρ s).heap n a v=(iO s.heap n a v).map (VT ρ):=by
 refine List.ext_getElem? fun i=>?_;simp only[iO,fA,List.getElem?_modify,List.getElem?_map];cases s.heap[i]? with
 |none=>rfl
 |some o=>
  simp only[Option.map_some];split<;>rfl
theorem gB.enter(h:gB p q ρ S)(hG:Good p s){lk:Bool}{x:kI}{vs:List Val}(hx:M.bP p x=true)(hv:∀v∈vs,bD v s.heap.length=true):M.enter q lk (mapM ρ x) vs (fA ρ s)=Mw ρ (M.enter p lk x vs s):=by
 obtain⟨c,hc,hm⟩:=Qj hx;have ho:=(h.own hc).2;have hn:BD (S x.of.keeper (ρ x.of).keeper) (M.method p x):=BD.of hm ho.1;unfold M.enter;rw[show(fA ρ s).frames.length=s.frames.length by simp[fA],h.right hc hm,h.method hc,show(mapM ρ x).of.keeper=(ρ x.of).keeper from rfl,show(mapM ρ x).of.name=x.of.name from h.name _,
  h.fH hG hv (fun a ha=>(List.mem_cons.1 ha).elim (fun e=>e▸ho.2) (hn.args a))]
 split
 · rfl
 split
 · rfl
 split
 · simp[Mw,fA,oM]
 · rfl
theorem gB.aO (h : gB p q ρ S) (hG : Good p s) (hf : s.frames = r ++ [t]) {lk : Bool} {i : Ins} (hi : iZ (M.method p t.of) i = true) (hS : S t.of.of.keeper (ρ t.of.of).keeper i.name) : M.aO q lk i (fA ρ s) = Mw ρ (M.aO p lk i s) := by
 obtain⟨_,i2,i3,i4,i5,_,_⟩:=lL hi;have ht:=aM.1 (hG.top hf);obtain⟨c,hc,hmc⟩:=xR (hG.top hf);have hn:BD (S t.of.of.keeper (ρ t.of.of).keeper) (M.method p t.of):=BD.of hmc (h.own hc).2.1;have hg:=h.get hS i.member;have fU:=h.call hS i.member;have zD:∀{v s1},M.pop s=some (v,s1)→bD v s1.heap.length=true∧Good p s1∧s1.frames=r++[{t with stack:=t.stack.take (t.stack.length - 1)}]:=fun hp=>by
  obtain⟨a1,a2,a3,a4,a5,a6,a7⟩:=MS hG hf hp;exact⟨by rw[a4];exact a1,a2,a3⟩
 have nW:∀{c vs s1},M.gG c s=some (vs,s1)→(∀v∈vs,bD v s1.heap.length=true)∧Good p s1∧s1.frames=r++[{t with stack:=t.stack.take (t.stack.length - c)}]:=fun hp=>by
  obtain⟨a1,a2,a3,a4,a5, -⟩:=oO hG hf hp;exact⟨by rw[a5];exact a2,a3,a4⟩
 have eT:M.top (fA ρ s)=oM ρ t:=iM (oN hf);have eK:(oM ρ t).of.of.keeper=(ρ t.of.of).keeper:=rfl;unfold M.aO;by_cases e1:i.op=1
 · rw[if_pos e1,if_pos e1];exact h.push hG hf (il _ (i4 e1))
 rw[if_neg e1,if_neg e1];by_cases e2:i.op=2
 · rw[if_pos e2,if_pos e2,eT,iM hf,show(oM ρ t).locals=t.locals from rfl];split
   · rfl
   · refine h.push hG hf ?_;have bY:i.a.toNat<t.locals.length:=by have:=i2 (.inl e2);omega
     rw[List.getElem?_eq_getElem bY];exact ht.2.2.2.2.2.1 _ (List.getElem_mem _)
 rw[if_neg e2,if_neg e2];by_cases e3:i.op=3
 · rw[if_pos e3,if_pos e3,qP hf];cases hp:M.pop s with
   |none=>rfl
   |some x=>
    obtain⟨v,s1⟩:=x;obtain⟨a1,a2,a3⟩:=zD hp;have NH:=aM.1 (a2.top a3);simp only[Option.map_some];rw[uL a3 (f:=fun f=>{f with locals:=f.locals.set i.a.toNat v}) rfl,j6 a3];refine h.next (r:=r) (a2.turn a3 (aM.2 ⟨NH.1,NH.2.1,NH.2.2.1,by simp;exact ht.2.2.2.1,NH.2.2.2.2.1,?_,NH.2.2.2.2.2.2⟩)) rfl;intro u hu;rcases List.mem_or_eq_of_mem_set hu with hu|rfl
    · exact NH.2.2.2.2.2.1 u hu
    · exact a1
 rw[if_neg e3,if_neg e3];by_cases e4:i.op=4
 · rw [if_pos e4, if_pos e4, rF hf]; cases hp : M.gG 2 s with
   |none=>rfl
   | some x =>
    obtain⟨vs,s1⟩:=x;obtain⟨a1,a2,a3⟩:=nW hp;simp only[Option.map_some];match vs with
    |[]=>rfl
    |[_]=>rfl
    |_::_::_::_=>rfl
    | [a, b] =>
     simp only;split
     · split
       · rename_i hn;exact h.push a2 a3 (il _ hn)
       · rfl
     · rfl
 rw[if_neg e4,if_neg e4];by_cases e5:i.op=5
 · rw[if_pos e5,if_pos e5];exact h.push hG hf (uW _)
 rw[if_neg e5,if_neg e5];by_cases e6:i.op=6
 · have hk := h.fT (s := s) hf hS; rw [if_pos e6, if_pos e6, hk.1, show (fA ρ s).heap.length = s.heap.length by simp [fA]]; split
   · rename_i yQ;obtain⟨k1,k2⟩:=hk.2 yQ;obtain⟨d,hd⟩:=ng k2;split
     · rfl
     · rename_i ZN;rw[k1];have e:M.create q (ρ (M.fT p i.name s).1) (fA ρ s)=((M.create p (M.fT p i.name s).1 s).1,fA ρ (M.create p (M.fT p i.name s).1 s).2):=by
        unfold M.create;rw[h.fresh hd];simp[fA]
       rw[e];exact h.push (r:=r) (t:=t) (hG.grow k2 Wg) hf (tF _ Wf X2)
   · rfl
 rw[if_neg e6,if_neg e6];by_cases e7:i.op=7
 · rw [if_pos e7, if_pos e7, eT, iM hf, eK, hg.1]; split
   · rename_i KO;obtain⟨g1,⟨d,g2, -⟩, -⟩:=hg.2 KO;rw[g1,qP hf];cases hp:M.pop s with
     |none=>rfl
     |some x=>
      obtain⟨v,s1⟩:=x;obtain⟨a1,a2,a3⟩:=zD hp;simp only[Option.map_some];rw[show(vV ρ (M.get p t.of.of.keeper i.name i.member).1).of=ρ (M.get p t.of.of.keeper i.name i.member).1.of from rfl,h.object a2 a1 g2,JA];split
      · rename_i ho;obtain⟨_,_,_,o,b1,b2,b3,b4⟩:=q9 a2 KO a1 ho;refine h.push a2 a3 ?_;rw[b3,show(vV ρ (M.get p t.of.of.keeper i.name i.member).1).at_=(M.get p t.of.of.keeper i.name i.member).1.at_ from rfl,List.getElem?_eq_getElem b4];exact((fV.1 a2.heap).2 o b2).2.2 _ (List.getElem_mem _)
      · rfl
   · rfl
 rw[if_neg e7,if_neg e7];by_cases e8:i.op=8
 · rw [if_pos e8, if_pos e8, eT, iM hf, eK, hg.1]; split
   · rename_i KO;obtain⟨g1,⟨d,g2,g3⟩, -⟩:=hg.2 KO;rw[g1,rF hf];cases hp:M.gG 2 s with
     |none=>rfl
     | some x =>
      obtain⟨vs,s1⟩:=x;obtain⟨a1,a2,a3⟩:=nW hp;simp only[Option.map_some];match vs,a1 with
      |[],_=>rfl
      |[_],_=>rfl
      |_::_::_::_,_=>rfl
      | [o, v], a1 =>
       simp only;rw[show(vV ρ (M.get p t.of.of.keeper i.name i.member).1).of=ρ (M.get p t.of.of.keeper i.name i.member).1.of from rfl,show(vV ρ (M.get p t.of.of.keeper i.name i.member).1).kind=(M.get p t.of.of.keeper i.name i.member).1.kind from rfl,
        h.hasType a2 (a1 v Wf) ((h.own g2).2.1 _ g3),h.object a2 (a1 o Wf) g2,Kq]
       split
       · split
         · exact h.next (r:=r) (a2.set (a1 v Wf)) a3
         · rfl
       · rfl
   · rfl
 rw[if_neg e8,if_neg e8];by_cases e9:i.op=9
 · rw [if_pos e9, if_pos e9, eT, iM hf, eK, fU.1]; split
   · rename_i mE;obtain⟨g1,d,g2,g3,g4⟩:=fU.2 mE;rw[g1,h.method g2,rF hf];cases hp:M.gG ((M.method p (M.call p t.of.of.keeper i.name i.member).1).args.length+1) s with
     |none=>rfl
     | some x =>
      obtain⟨vs,s1⟩:=x;obtain⟨a1,a2,a3⟩:=nW hp;simp only[Option.map_some];have hh:bD (vs.headD eU) s1.heap.length=true:=by
       cases vs with
       |nil=>exact GI _
       |cons u l=>exact a1 u Wf
      rw[show(mapM ρ (M.call p t.of.of.keeper i.name i.member).1).of=ρ (M.call p t.of.of.keeper i.name i.member).1.of from rfl,h.object a2 hh g2];split
      · rename_i ho;obtain⟨o1,o2⟩:=oC ho;obtain⟨v1,v2⟩:=lv hh o1;obtain⟨f1,o,ho',f2⟩:=MN (ρ:=ρ) (s:=s1) v1 v2;obtain⟨dd,hdd⟩:=LU a2 ho';rw[f1,f2,h.pick hdd];cases hx:M.pick p o.of i.member with
        |none=>rfl
        |some x=>exact h.enter a2 (kW hx) a1
      · rfl
   · rfl
 rw[if_neg e9,if_neg e9];by_cases e10:i.op=10
 · rw [if_pos e10, if_pos e10, eT, iM hf, eK, qP hf]; cases hp : M.pop s with
   |none=>rfl
   |some x=>
    obtain⟨v,s1⟩:=x;obtain⟨a1,a2,a3⟩:=zD hp;simp only[Option.map_some];rw[show(oM ρ t).of=mapM ρ t.of from rfl,h.method hc,h.hasType a2 a1 hn.ret,show(fA ρ s1).frames.length=s1.frames.length by simp[fA]];split
    · split
      · rfl
      · rename_i mR;have hr:r≠[]:=by
         rintro rfl;rw[a3]at mR;simp at mR
        obtain⟨r',t',rfl⟩:∃r' t',r=r'++[t']:=⟨r.dropLast,r.getLast hr,(List.dropLast_concat_getLast hr).symm⟩;have hd:s1.frames.dropLast=r'++[t']:=by rw[a3];simp
        have e:({fA ρ s1 with frames:=(fA ρ s1).frames.dropLast}:St)=fA ρ {s1 with frames:=s1.frames.dropLast}:=by simp[fA,List.map_dropLast]
        rw[e];refine h.push (s:={s1 with frames:=s1.frames.dropLast}) (r:=r') (t:=t') ⟨a2.heap,?_,?_,a2.outs,a2.l9,a2.back⟩ hd a1
        · intro f hf;exact a2.frames f (List.dropLast_subset _ hf)
        · have:=a2.nf;simp only[List.length_dropLast];omega
    · rfl
 rw[if_neg e10,if_neg e10];by_cases e11:i.op=11
 · rw [if_pos e11, if_pos e11, qP hf]; cases hp : M.pop s with
   |none=>rfl
   |some x=>
    obtain⟨v,s1⟩:=x;obtain⟨a1,a2,a3⟩:=zD hp;simp only[Option.map_some];split
    · split
      · exact h.jump a2 a3 _
      · exact h.next a2 a3
    · rfl
 rw[if_neg e11,if_neg e11];by_cases e12:i.op=12
 · rw [if_pos e12, if_pos e12, qP hf]; cases hp : M.pop s with
   |none=>rfl
   |some x=>
    obtain⟨v,s1⟩:=x;obtain⟨a1,a2,a3⟩:=zD hp;simp only[Option.map_some];split
    · split
      · exact h.jump a2 a3 _
      · exact h.next a2 a3
    · rfl
 rw[if_neg e12,if_neg e12];by_cases e13:i.op=13
 · rw[if_pos e13,if_pos e13];exact h.jump hG hf _
 rw[if_neg e13,if_neg e13];by_cases e14:i.op=14
 · rw [if_pos e14, if_pos e14, qP hf]; cases hp : M.pop s with
   |none=>rfl
   |some x=>
    obtain⟨v,s1⟩:=x;obtain⟨a1,a2,a3⟩:=zD hp;simp only[Option.map_some];rw[show(fA ρ s1).outs=s1.outs from rfl];split
    · rename_i hk;split
      · rename_i ho;refine h.next (r:=r) (s:={s1 with outs:=s1.outs++[v.n]}) ⟨a2.heap,a2.frames,a2.nf,by simp;omega,?_,a2.back⟩ a3;intro n hn;rcases List.mem_append.1 hn with hn|hn
        · exact a2.l9 n hn
        · simp at hn;subst hn;have:=tH a1 hk;unfold iH;simp;omega
      · exact h.next a2 a3
    · rfl
 rw[if_neg e14,if_neg e14,qP hf];cases hp:M.pop s with
 |none=>rfl
 | some x =>
  obtain⟨v,s1⟩:=x;obtain⟨a1,a2,a3⟩:=zD hp;simp only[Option.map_some];have hk:=h.fT (s:=s1) a3 hS;rw[hk.1];split
  · split
    · exact h.push a2 a3 a1
    · split
      · rename_i sM qy yQ;obtain⟨k1,k2⟩:=hk.2 yQ;obtain⟨d,hd⟩:=ng k2;rw[k1,h.KD a2 a1 (sM.resolve_right qy) hd];split
        · exact h.push a2 a3 a1
        · rfl
      · rfl
  · rfl
theorem Mv(c:Int):end_ c (fA ρ s)=fA ρ (end_ c s):=by
 unfold end_;split<;>rfl
theorem gB.step(h:gB p q ρ S)(jM:dF p=true)(hR:yx p s)(lk:Bool):M.step q lk (fA ρ s)=fA ρ (M.step p lk s):=by
 unfold M.step;rw[show(fA ρ s).status=s.status from rfl];by_cases hs:s.status=1
 · rw[if_pos hs,if_pos hs];obtain⟨r,t,i,hf,ht,hi,DU⟩:=M4 jM hR hs;obtain⟨c,hc,hmc⟩:=xR ht;have hn:BD (S t.of.of.keeper (ρ t.of.of).keeper) (M.method p t.of):=BD.of hmc (h.own hc).2.1;have e:stepped q lk (fA ρ s)=Mw ρ (stepped p lk s):=by
    unfold stepped;rw[iM (oN hf),iM hf,show(oM ρ t).of=mapM ρ t.of from rfl,h.method hc,show(oM ρ t).pc=t.pc from rfl,hi];exact h.aO hR.good hf DU (hn.code i (List.mem_of_getElem? hi))
   rw[e];exact Mv _
 · rw[if_neg hs,if_neg hs]
theorem gB.steps(h:gB p q ρ S)(jM:dF p=true)(lk:Bool):∀(f:Nat) {s:St},yx p s→M.steps q lk f (fA ρ s)=fA ρ (M.steps p lk f s)
 |0,_,_=>rfl
 |f+1,s,hR=>by
  unfold M.steps;rw[show(fA ρ s).status=s.status from rfl];split
  · rw[h.step jM hR lk];exact h.steps jM lk f (Jd jM hR lk)
  · rfl
theorem gB.start(h:gB p q ρ S){k k':Int}{n:ByteArray}(hS:S k k' n)(lk:Bool)(m:ByteArray){args:List Int}(ha:args.all iH=true):M.start q lk k' n m args=fA ρ (M.start p lk k n m args):=by
 have hf:=h.find hS;have hc:=h.call hS m;unfold M.start;by_cases g:(M.find p k n).2=1
 · obtain ⟨i, c, fU⟩ := hf.2 g; rw [i, h.bu fU]; by_cases g2 : M.bu p (M.find p k n).1 = true
   · rw [if_pos (show (M.find q k' n).2 = 1 ∧ M.bu p (M.find p k n).1 = true from ⟨hf.1.2 g, g2⟩), if_pos (show (M.find p k n).2 = 1 ∧ M.bu p (M.find p k n).1 = true from ⟨g, g2⟩), hc.1]; by_cases g3 : (M.call p k n m).2 = 1
     · obtain⟨j1,d,j2,j3,j4⟩:=hc.2 g3;rw[j1,h.method j2,h.fresh fU];split
       · obtain⟨r,hr⟩:=l7 g3;have e:=h.enter (s:=⟨1,[],[M.fresh p (M.find p k n).1],[],eU⟩) (Good.one g2) (lk:=lk) (kW hr) (vs:=⟨2,0⟩::args.map gF) (fun v hv=>by
          rcases List.mem_cons.1 hv with rfl|hv
          · exact tF _ Wf Wf
          · obtain⟨a,Xa,rfl⟩:=List.mem_map.1 hv;exact il _ (List.all_eq_true.1 ha a Xa))
         have e2:fA ρ ⟨1,[],[M.fresh p (M.find p k n).1],[],eU⟩=⟨1,[],[VT ρ (M.fresh p (M.find p k n).1)],[],eU⟩:=rfl;rw[e2]at e;rw[e];exact Mv _
       · rfl
     · rw[if_neg (fun e=>g3 e.1),if_neg (fun e=>g3 e.1)];rfl
   · rw[if_neg (fun e=>g2 e.2),if_neg (fun e=>g2 e.2)];rfl
 · rw[if_neg (fun e=>g (hf.1.1 e.1)),if_neg (fun e=>g e.1)];rfl
end
end Go.Proofs.YtkmclfpjpajjeaaGreat.M
namespace Go.Proofs.YtkmclfpjpajjeaaGreat.M
section
variable {p q:ax} {ρ:Ref→Ref} {S:Int→Int→ByteArray→Prop}
theorem rG{p:ax}{r:Ref}:r∈classes p↔(∃c,cls? p r=some c)∧0<(chain p r).length:=by
 unfold classes;simp only[List.mem_flatMap,List.mem_filter,List.mem_range,decide_eq_true_eq];constructor
 · rintro⟨k,hk,h1,h2⟩;refine⟨?_,h2⟩;rw[List.getElem?_eq_getElem hk]at h1;simp only[Option.map_some,Option.getD_some,List.mem_map]at h1;obtain⟨c,hc,rfl⟩:=h1;have e:fw p (k:Int)=some p[k]:=by unfold fw;simp[hk]
   unfold cls?;rw[e,Option.bind_some];cases hf:p[k].owns.find? (fun x=>decide (x.name=c.name))with
   |none=>exact absurd (List.find?_eq_none.1 hf c hc) Wf
   |some d=>exact⟨d,rfl⟩
 · rintro⟨⟨c,hc⟩,h2⟩;obtain⟨k1,k2⟩:=Ej hc;have hn:=Ud hc;unfold cls? fw at hc;rw[if_pos k1]at hc;have bY:r.keeper.toNat<p.length:=by omega
   rw[List.getElem?_eq_getElem bY,Option.bind_some]at hc;refine⟨r.keeper.toNat,bY,?_,h2⟩;rw[List.getElem?_eq_getElem bY];simp only[Option.map_some,Option.getD_some,List.mem_map];exact⟨c,List.mem_of_find?_eq_some hc,Ref.gJ.2 ⟨by simp only;omega,hn⟩⟩
theorem gB.iI(h:gB p q ρ S)(jM:dF q=dF p)(hs:∀r' c,cls? q r'=some c→(∃r d,cls? p r=some d∧ρ r=r')∨M.eG q r'=true):M.iI q=M.iI p:=by
 unfold M.iI;rw[jM];congr 1;refine Bool.eq_iff_iff.2 ?_;rw[List.all_eq_true,List.all_eq_true];constructor
 · intro hq r hr;obtain⟨⟨c,hc⟩,h1⟩:=rG.1 hr;rw[←h.eG hc];refine hq _ (rG.2 ⟨⟨c,(h.own hc).1⟩,?_⟩);rw[h.chain hc,List.length_map];exact h1
 · intro hp r' Eo;obtain⟨⟨c,hc⟩,h1⟩:=rG.1 Eo;rcases hs r' c hc with⟨r,d,hd,rfl⟩|e
   · rw[h.eG hd];refine hp _ (rG.2 ⟨⟨d,hd⟩,?_⟩);rw[h.chain hd,List.length_map]at h1;exact h1
   · exact e
end
section
variable {a b c:eY}
end
end Go.Proofs.YtkmclfpjpajjeaaGreat.M
namespace Go.Proofs.YtkmclfpjpajjeaaGreat.M
def aiW:ByteArray:=⟨#[116,111,112]⟩
def tT:ByteArray:=⟨#[99,101,108,108]⟩
def two(n:ByteArray):Bool:=decide (n=aiW)|| decide (n=tT)
def known(n:ByteArray):Bool:=decide (n=none_)|| two n
def knows(c:Class):Bool:=
 known c.aL&&c.fields.all (fun f=>known f.kind.name)&&c.methods.all fun m=>
  known m.ret.name&&m.args.all (fun a=>known a.name)&&m.code.all (fun i=>known i.name)&&m.maps.all fun f=>f.locals.all (fun t=>known t.name)&&f.stack.all (fun t=>known t.name)
theorem aiU{c:Class}(h:knows c=true){n:ByteArray}(hn:Said c n):known n=true:=by
 unfold knows at h;simp only[Bool.and_eq_true,List.all_eq_true]at h;obtain⟨⟨h1,h2⟩,h3⟩:=h;rcases hn with rfl|⟨f,hf,rfl⟩|⟨m,hm,hn⟩
 · exact h1
 · exact h2 f hf
 · obtain⟨⟨⟨a1,a2⟩,a3⟩,a4⟩:=h3 m hm;rcases hn with rfl|⟨x,hx,rfl⟩|⟨x,hx,rfl⟩|⟨x,hx,t,ht,rfl⟩
   · exact a1
   · exact a2 x hx
   · exact a3 x hx
   · exact(List.mem_append.1 ht).elim ((a4 x hx).1 t) ((a4 x hx).2 t)
def ai(os:List Class):List Class:=os.filter fun c=> !two c.name
def cO(os:List Class):List Class:=os.filter fun c=>two c.name
def moved(os:List Class):ax:=[⟨ai os,[⟨aiW,1⟩,⟨tT,1⟩]⟩,⟨cO os,[]⟩]
def one(os:List Class):ax:=[⟨os,[]⟩]
def dn(r:Ref):Ref:=if two r.name=true∧r.keeper=0 then⟨1,r.name⟩else r
def KnS(k k':Int)(n:ByteArray):Prop:=k=0∧(k'=0∨(k'=1∧known n=true))
section
variable {os:List Class}
theorem Y0{α:Type}{f g:α→Bool}:∀{l:List α},(∀x∈l,f x=true→g x=true)→(l.filter g).find? f=l.find? f
 |[],_=>rfl
 | x :: l, h => by
  have ih:=Y0 (l:=l) fun y hy=>h y (by simp[hy]);rw[List.filter_cons];cases hg:g x with
  |true=>simp only[if_true,List.find?_cons];rw[ih]
  | false =>
   have:f x=false:=by
    cases hf:f x with
    |true=>rw[h x Wf hf]at hg;cases hg
    |false=>rfl
   simp[this,ih]
theorem dR{r:Ref}:cls? (one os) r=if r.keeper=0 then os.find? (fun c=>decide (c.name=r.name))else none:=by
 unfold cls? fw one;by_cases h0:r.keeper=0
 · rw[if_pos h0,h0];rfl
 · rw[if_neg h0];by_cases h1:0≤r.keeper
   · rw[if_pos h1,List.getElem?_eq_none X2];rfl
   · rw[if_neg h1];rfl
theorem aiV{n:ByteArray}(h:two n=false):cls? (moved os) ⟨0,n⟩=os.find? fun c=>decide (c.name=n):=by
 show(ai os).find? _=_
 exact Y0 fun c _ hc=>by rw[of_decide_eq_true hc,h];rfl
theorem rT{n:ByteArray}(h:two n=true):cls? (moved os) ⟨1,n⟩=os.find? fun c=>decide (c.name=n):=by
 show(cO os).find? _=_
 exact Y0 fun c _ hc=>by rw[of_decide_eq_true hc,h]
theorem ai5{α:Type}{f g:α→Bool}{l:List α}(h:∀x∈l,f x=true→g x=false):(l.filter g).find? f=none:=by
 rw[List.find?_eq_none];intro x hx hf;obtain⟨h1,h2⟩:=List.mem_filter.1 hx;rw[h x h1 hf]at h2;cases h2
theorem ai7{n:ByteArray}(h:two n=true):cls? (moved os) ⟨0,n⟩=none:=by
 show(ai os).find? _=_
 exact ai5 fun c _ hc=>by rw[of_decide_eq_true hc,h];rfl
theorem aiZ{n:ByteArray}(h:two n=false):cls? (moved os) ⟨1,n⟩=none:=by
 show(cO os).find? _=_
 exact ai5 fun c _ hc=>by rw[of_decide_eq_true hc,h]
theorem je(n:ByteArray):resolve (one os) 0 n=if(os.find? fun c=>decide (c.name=n)).isSome then(⟨0,n⟩,1)else(qg,2):=by
 have e:path (one os) 0 n=if(os.find? fun c=>decide (c.name=n)).isSome then([0],1)else([],2):=rfl;unfold resolve;rw[e];cases (os.find? fun c=>decide (c.name=n)).isSome<;>rfl
theorem ai0(n:ByteArray):resolve (moved os) 0 n=if(os.find? fun c=>decide (c.name=n)).isSome then(dn ⟨0,n⟩,1)else(qg,2):=by
 by_cases h:two n=true
 · have ajo:ug (moved os) 0 n=some 1:=by
    show(List.find? (fun a=>decide (a.name=n)) [(⟨aiW,1⟩:Ask),⟨tT,1⟩]).map Ask.keeper=some 1
    unfold two at h;rw[List.find?_cons];cases e:decide (n=aiW)with
    |true=>rw[show decide (aiW=n)=true from decide_eq_true (of_decide_eq_true e).symm];rfl
    |false=>
     rw[e,Bool.false_or]at h;rw[show decide (aiW=n)=false from decide_eq_false fun h'=>of_decide_eq_false e h'.symm,List.find?_cons,show decide (tT=n)=true from decide_eq_true (of_decide_eq_true h).symm];rfl
   have dY:owned (moved os) ⟨1,n⟩=(os.find? fun c=>decide (c.name=n)).isSome:=by unfold owned;rw[rT h]
   have hp:path (moved os) 0 n=if(os.find? fun c=>decide (c.name=n)).isSome then([0,1],1)else([],2):=by
    show gX (moved os) n 4 [0] 0=_
    unfold gX;rw[ajo];simp only[show([0]:List Int).contains 1=false from rfl];unfold gX;rw[show ug (moved os) 1 n=none from rfl];simp only[dY];rfl
   unfold resolve;rw[hp,show dn ⟨0,n⟩=⟨1,n⟩from if_pos ⟨h,rfl⟩];cases (os.find? fun c=>decide (c.name=n)).isSome<;>rfl
 · have h':two n=false:=by simpa using h
   have ajo:ug (moved os) 0 n=none:=by
    show(List.find? (fun a=>decide (a.name=n)) [(⟨aiW,1⟩:Ask),⟨tT,1⟩]).map Ask.keeper=none
    unfold two at h';rw[Bool.or_eq_false_iff]at h';rw[List.find?_cons,show decide (aiW=n)=false from decide_eq_false fun h=>of_decide_eq_false h'.1 h.symm,List.find?_cons,show decide (tT=n)=false from decide_eq_false fun h=>of_decide_eq_false h'.2 h.symm];rfl
   have dY:owned (moved os) ⟨0,n⟩=(os.find? fun c=>decide (c.name=n)).isSome:=by unfold owned;rw[aiV h']
   have hp:path (moved os) 0 n=if(os.find? fun c=>decide (c.name=n)).isSome then([0],1)else([],2):=by
    show gX (moved os) n 4 [0] 0=_
    unfold gX;rw[ajo];simp only[dY]
   unfold resolve;rw[hp,show dn ⟨0,n⟩=⟨0,n⟩from if_neg fun h2=>h h2.1];cases (os.find? fun c=>decide (c.name=n)).isSome<;>rfl
theorem ai1(n:ByteArray):resolve (moved os) 1 n=if two n&&(os.find? fun c=>decide (c.name=n)).isSome then(⟨1,n⟩,1)else(qg,2):=by
 have dY:owned (moved os) ⟨1,n⟩=(two n&&(os.find? fun c=>decide (c.name=n)).isSome):=by
  unfold owned;cases h:two n with
  |true=>rw[rT h];simp
  |false=>rw[aiZ h];rfl
 have hp:path (moved os) 1 n=if two n&&(os.find? fun c=>decide (c.name=n)).isSome then([1],1)else([],2):=by
  show gX (moved os) n 4 [1] 1=_
  unfold gX;rw[show ug (moved os) 1 n=none from rfl];simp only[dY]
 unfold resolve;rw[hp];cases two n&&(os.find? fun c=>decide (c.name=n)).isSome<;>rfl
theorem aje(jM:dF (one os)=true):∀c∈os,aT c.name=true:=fun c hc=>by
 have h:=qA jM (k:=0) (q:=⟨os,[]⟩) rfl;unfold bA at h;simp only[Bool.and_eq_true]at h;have:=mD h.1.2 c hc;unfold jF at this;simp only[Bool.and_eq_true]at this;exact this.1.1.1.1.1
theorem ai9(jM:dF (one os)=true):(os.find? fun c=>decide (c.name=none_))=none:=by
 rw[List.find?_eq_none];intro c hc he;have:=aje jM c hc;rw[of_decide_eq_true he]at this;exact absurd this Wk
theorem ai3 (hk : ∀ c ∈ os, two c.name = true → knows c = true) : ∀ (f : Nat) (r : Ref) (l : List Ref), bT (one os) f r = some l → two r.name = true → r.keeper = 0 → ∀ x ∈ l, two x.name = true
 |0,_,_,h,_,_=>by simp[bT]at h
 | f + 1, r, l, h, h2, h0 => by
  unfold bT at h;split at h
  · cases h;intro x hx;simp at hx;rw[hx];exact h2
  · rename_i hs;split at h
    · rename_i hr;obtain⟨l',hl',rfl⟩:=Option.map_eq_some_iff.1 h;intro x hx;rcases List.mem_cons.1 hx with rfl|hx
      · exact h2
      · have qy:two (aL (one os) r)=true:=by
         unfold aL at hs ⊢;cases hc:cls? (one os) r with
         |none=>rw[hc]at hs;exact absurd rfl hs
         |some c=>
          have hn:=Ud hc;rw[dR,if_pos h0]at hc;have:=aiU (hk c (List.mem_of_find?_eq_some hc) (by rw[hn];exact h2)) (n:=c.aL) (.inl rfl);rw[dR,if_pos h0,hc]at hs;unfold known at this;cases hd:decide (c.aL=none_)with
          |true=>exact absurd (of_decide_eq_true hd) hs
          |false=>rw[hd]at this;simpa using this
        rw[h0,je]at hl' hr;split at hr
        · rename_i hso;rw[if_pos hso]at hl';exact ai3 hk f _ l' hl' qy rfl x hx
        · simp at hr
    · cases h
theorem aiY(jM:dF (one os)=true)(hk:∀c∈os,two c.name=true→knows c=true):gB (one os) (moved os) dn KnS where
 has:=fun{k k' n} h=>by
  obtain⟨rfl,rfl|⟨rfl, -⟩⟩:=h<;>rfl
 res := fun {k k' n} h => by
  obtain⟨rfl,rfl|⟨rfl,hn⟩⟩:=h
  · rw[je,ai0];split<;>simp
  · rw[je,ai1];unfold known at hn;cases h2:two n with
    |true=>
     rw[Bool.true_and,show dn=dn from rfl];split
     · simp[dn,h2]
     · simp
    |false=>
     rw[h2,Bool.or_false]at hn;rw[of_decide_eq_true hn,ai9 jM];simp
 own := fun {r c} h => by
  have hn:=Ud h;obtain⟨rk,rn⟩:=r;rw[dR]at h;simp only at h hn;split at h
  · rename_i h0;subst h0;cases h2:two rn with
    |true=>
     have e:dn ⟨0,rn⟩=⟨1,rn⟩:=if_pos ⟨h2,rfl⟩;rw[e];exact⟨(rT h2).trans h,fun n hs=>⟨rfl,.inr ⟨rfl,aiU (hk c (List.mem_of_find?_eq_some h) (by rw[hn];exact h2)) hs⟩⟩,rfl,.inr ⟨rfl,by unfold known;rw[h2];simp⟩⟩
    |false=>
     have e:dn ⟨0,rn⟩=⟨0,rn⟩:=if_neg fun h=>by rw[h2]at h;cases h.1
     rw[e];exact⟨(aiV h2).trans h,fun n hs=>⟨rfl,.inl rfl⟩,rfl,.inl rfl⟩
  · cases h
 clo:=fun{k k' n} h hr l hl x hx c hc n' hn=>by
  obtain⟨rfl,rfl|⟨rfl,h1⟩⟩:=h
  · exact⟨rfl,.inl rfl⟩
  · refine⟨rfl,.inr ⟨rfl,?_⟩⟩;rw[je]at hr hl;split at hr
    · rename_i hso;rw[if_pos hso]at hl;have h2:two n=true:=by
       unfold known at h1;cases hd:decide (n=none_)with
       |true=>rw[of_decide_eq_true hd,ai9 jM]at hso;cases hso
       |false=>rw[hd]at h1;simpa using h1
      have Me:=ai3 hk 6 _ l hl h2 rfl x hx;have yF:=Ud hc;rw[dR]at hc;split at hc
      · exact aiU (hk c (List.mem_of_find?_eq_some hc) (by rw[yF];exact Me)) hn
      · cases hc
    · simp at hr
 name:=fun r=>by unfold dn;split<;>rfl
 inj:=fun{r r' c c'} h h' e=>by
  have h0:r.keeper=0:=by rw[dR]at h;split at h;assumption;cases h
  have h1:r'.keeper=0:=by rw[dR]at h';split at h';assumption;cases h'
  have e2:(dn r).name=(dn r').name:=by rw[e]
  have hn:∀r:Ref,(dn r).name=r.name:=fun r=>by unfold dn;split<;>rfl
  rw[hn,hn]at e2;exact Ref.gJ.2 ⟨h0.trans h1.symm,e2⟩
theorem ai8(jM:dF (one os)=true)(hq:dF (moved os)=true)(hk:∀c∈os,two c.name=true→knows c=true):iI (moved os)=iI (one os):=by
 refine(aiY jM hk).iI (hq.trans jM.symm) fun r' d hd=>.inl ?_;obtain⟨k1,k2⟩:=Ej hd;obtain⟨rk,rn⟩:=r';have hl:rk<2:=k2;cases h2:two rn with
 | true =>
  have:rk=1:=by
   rcases(show rk=0∨rk=1 by simp only at k1;omega)with rfl|h
   · rw[ai7 h2]at hd;cases hd
   · exact h
  subst this;exact⟨⟨0,rn⟩,d,by rw[dR,if_pos rfl,←rT h2];exact hd,if_pos ⟨h2,rfl⟩⟩
 | false =>
  have:rk=0:=by
   rcases(show rk=0∨rk=1 by simp only at k1;omega)with h|rfl
   · exact h
   · rw[aiZ h2]at hd;cases hd
  subst this;exact⟨⟨0,rn⟩,d,by rw[dR,if_pos rfl,←aiV h2];exact hd,if_neg fun h=>by simp only[h2]at h;cases h.1⟩
theorem aiS(jM:dF (one os)=true)(hq:dF (moved os)=true)(hk:∀c∈os,two c.name=true→knows c=true)(lk:Bool)(n m:ByteArray)(args:List Int):jC (moved os) lk 0 n m args=fA dn (jC (one os) lk 0 n m args):=by
 unfold jC;rw[jM,hq,show has (moved os) 0=has (one os) 0 from rfl];split
 · rename_i h;simp only[Bool.and_eq_true]at h;exact(aiY jM hk).start (k:=0) (k':=0) ⟨rfl,.inl rfl⟩ lk m h.2
 · rfl
theorem ajd(jM:dF (one os)=true)(hq:dF (moved os)=true)(hk:∀c∈os,two c.name=true→knows c=true)(lk:Bool)(n m:ByteArray)(args:List Int){f:Nat}(hf:f≤400):
    oQ (moved os) lk (jC (moved os) lk 0 n m args) f=fA dn (oQ (one os) lk (jC (one os) lk 0 n m args) f):=by
 rcases Dv (p:=one os) (k:=0) (n:=n) (m:=m) (args:=args)with h|⟨-,h⟩
 · rw[aiS jM hq hk,h lk];have e:∀p:ax,oQ p lk D9 f=D9:=fun p=>by unfold oQ;rw[show Cx p D9=false from by simp[Cx,D9]];simp
   rw[show fA dn D9=D9 from rfl,e,e];rfl
 · obtain⟨-,hR⟩:=h lk;have ZW:yx (moved os) (jC (moved os) lk 0 n m args):=by
    rcases Dv (p:=moved os) (k:=0) (n:=n) (m:=m) (args:=args)with h'|⟨-,h'⟩
    · have e2:=congrArg St.status (h' lk);rw[aiS jM hq hk]at e2;have e3:(jC (one os) lk 0 n m args).status=0:=e2;have:=hR.st;omega
    · exact(h' lk).2
   rw[Nb jM hR hf,Nb hq ZW hf,aiS jM hq hk];exact(aiY jM hk).steps jM lk f hR
end
end Go.Proofs.YtkmclfpjpajjeaaGreat.M
namespace Go.Proofs.YtkmclfpjpajjeaaGreat
open Go Go.RowKit
theorem aja(n:ByteArray):M.two n=(n.toList==[116,111,112]|| n.toList==[99,101,108,108]):=by
 have h1:(n.toList==[116,111,112])=decide (n=M.aiW):=by rw[←iV,show M.aiW.toList=[116,111,112]from by rw[ByteArray.toList_eq];rfl]
 have h2:(n.toList==[99,101,108,108])=decide (n=M.tT):=by rw[←iV,show M.tT.toList=[99,101,108,108]from by rw[ByteArray.toList_eq];rfl]
 rw[h1,h2];rfl
theorem ajb(n:ByteArray):M.known n=(n.toList.isEmpty || n.toList==[116,111,112]|| n.toList==[99,101,108,108]):=by
 have h3:n.toList.isEmpty=decide (n=M.none_):=by rw[Bool.eq_iff_iff,List.isEmpty_iff,toList_nil,decide_eq_true_iff]
 rw[h3,Bool.or_assoc,←aja];rfl
theorem kN(n:ByteArray)(w:World):Calls Tryz.prog 72 #[.string n] w fun e w'=>e=.returned (.bool (M.known n))∧w=w':=by
 have HK:=Z3 (ajb n);go_enter Tryz.func72,Tryz.ntmps72;go_wp2_with fail
 · rename_i h;go_ret;exact⟨by rw[HK.o,h];rfl,rfl⟩
 · rename_i h;go_ret;exact⟨by rw[HK.o,h];rfl,rfl⟩
 · go_ret;exact⟨by rw[HK.o];rfl,rfl⟩
theorem EU{α:Type}{xs:List α}{k:Nat}{x:α}{f:α→Bool}(h:xs[k]?=some x):(xs.take (k+1)).all f=((xs.take k).all f&&f x):=by
 rw[List.take_add_one,h];simp[List.all_append]
theorem ajj (w : World) (I : Nat → Prop) (cs : List Value) (c : M.Class) (h : aP w I c cs) :
    Calls Tryz.prog 28 #[.agg cs.toArray] w fun e w'=>e=.returned (.bool (M.knows c))∧Ext w w':=by
 obtain⟨vf,vm,rfl,h0,h1⟩:=h;obtain⟨a1,m1,rfl,mR,Bo⟩:=h0.form;obtain⟨a2,m2,rfl,yD,Hw⟩:=h1.form;obtain⟨w1,jX,bH,hb⟩:=nu w #[.string c.name,.string c.aL,.slice a1 c.fields.length m1,.slice a2 c.methods.length m2] 75;obtain⟨cz,c0,c1,c2,c3, -⟩:=hb.ca;have⟨HF,HM,eQ,BB⟩:=gD (h0.ext eF.stays bH) (h1.ext aG.stays bH) bH jX;clear bH hb jX h0 h1;go_enter Tryz.func28,Tryz.ntmps28;go_upto_region 1 with(fail);rw[←BB.o];go_wp2_with (go_at_call 72;refine(kN _ _).mono ?_;rintro e w' ⟨rfl,rfl⟩);obtain⟨q0,hq0⟩:∃q,M.known c.aL=q:=⟨_,rfl⟩;have HQ0:=Z3 hq0;rw[hq0];clear hq0;obtain⟨wo,rfl⟩:∃wo:World,wo=w1:=⟨_,rfl⟩;go_loopw [3,4] (fun b i wr=>∃(k:Nat) (q:Bool),k≤c.fields.length∧b=.bool q∧i=.int .i64 k∧Zs ((q0&&(c.fields.take k).all (fun f=>M.known f.kind.name))=q)∧wr=wo) (fun _ i _=>c.fields.length - (intOf i).toNat)
 case atStart=>exact⟨0,q0,Nat.zero_le _,rfl,rfl,Z3 Wf,rfl⟩
 case round =>
  obtain⟨kF,q1,hkF,rfl,rfl,HRF,hwr⟩:=hrel;subst hwr;by_cases ajz:kF<c.fields.length
  · have dkF:(kF:Int)<c.fields.length:=by omega
    obtain⟨xF,hxF⟩:∃el,c.fields[kF]?=some el:=⟨c.fields[kF]'ajz,List.getElem?_eq_getElem ajz⟩;obtain⟨bbF,aj9,csF,rfl, -,rfl, -,hcF⟩:=HF.o.get hxF;obtain⟨g0F,g1F,g2F⟩:=hcF.three;have gzF:=aF g0F;have ajP:=Z3 (EU (f:=(fun f=>M.known f.kind.name)) hxF);clear hcF hxF;cases q1<;>(go_wp2_with (go_at_call 72;refine(kN _ _).mono ?_;rintro e w' ⟨rfl,rfl⟩);go_round;(case rel=>exact⟨kF+1,_,by omega,rfl,by go_num,Z3 (by rw[ajP.o,←Bool.and_assoc,HRF.o];rfl),by trivial⟩);(case measure=>simp[intOf];omega))
  · have dkF : ¬ (kF : Int) < c.fields.length := by omega
    have Hq1:Zs ((q0&&c.fields.all (fun f=>M.known f.kind.name))=q1):=Z3 (by have:=HRF.o;rwa[List.take_of_length_le Wg]at this);obtain⟨wo,rfl⟩:∃wo:World,wo=wr:=⟨_,rfl⟩;clear hkF HRF;go_wp2_with fail;go_loopw [3,5] (fun b i wr=>∃(k:Nat) (q:Bool),k≤c.methods.length∧b=.bool q∧i=.int .i64 k∧Zs ((q1&&(c.methods.take k).all (fun m=>M.known m.ret.name&&m.args.all (fun a=>M.known a.name)&&m.code.all (fun i=>M.known i.name)&&m.maps.all fun f=>f.locals.all (fun t=>M.known t.name)&&f.stack.all (fun t=>M.known t.name)))=q)∧Ext wo wr) (fun _ i _=>c.methods.length - (intOf i).toNat)
    case atStart=>exact⟨0,q1,Nat.zero_le _,rfl,rfl,Z3 Wf,Kp.rr⟩
    case round =>
     obtain⟨k,qm,hk,rfl,rfl,HR,hE⟩:=hrel;have c3r:=hE.aD c3;have czr:=aF c3r;clear c0 c1 c2 c3 cz;have HE:=Z3 hE;by_cases bY:k<c.methods.length;rotate_left
     · have dk:¬(k:Int)<c.methods.length:=by omega
       have HQ:=HR.o;rw[List.take_of_length_le Wg]at HQ;have HQ:=Z3 HQ;clear HR hE;go_wp2_with fail;go_ret;exact⟨af (by rw[←HQ.o,←Hq1.o,←HQ0.o];rfl),eQ.o.trans HE.o⟩
     have dk:(k:Int)<c.methods.length:=by omega
     obtain⟨x,hx⟩:∃x,c.methods[k]?=some x:=⟨c.methods[k]'bY,List.getElem?_eq_getElem bY⟩;obtain⟨b',off,cs,rfl, -,hM, -,hc⟩:=HM.o.get hx;obtain⟨va,vc,vp,rfl,ha,Yr,hmp⟩:=hM;obtain⟨aa,ac,rfl,UY,LP⟩:=ha.form;obtain⟨ca,cc,rfl,aj3,aj4⟩:=Yr.form;obtain⟨pa,pc,rfl,aj5,aj6⟩:=hmp.form;obtain⟨g0,g1,g2,g3,g4,g5,g6,g7⟩:=(hc.ext hE).eight;have gz:=aF g0;obtain⟨w5,iA,cZ,b5⟩:=nu wr #[.string x.name,.slice aa x.args.length ac,.int .i64 x.ret.kind,.string x.ret.name,.int .i64 x.locals,.int .i64 x.stack,.slice ca x.code.length cc,.slice pa x.maps.length pc] 106;have⟨HA,HC,HP⟩:=bg ((ha.ext jv.stays hE).ext jv.stays cZ) ((Yr.ext tZ.stays hE).ext tZ.stays cZ) ((hmp.ext gY.stays hE).ext gY.stays cZ);obtain⟨mz', -,m1', -,m3', -, -,m6',m7', -⟩:=b5.ca;have d3:=cZ.aD c3r;have dz:=aF d3;have⟨tN,gy,EE⟩:=bg iA (HE.o.trans cZ) (EU (f:=(fun m=>M.known m.ret.name&&m.args.all (fun a=>M.known a.name)&&m.code.all (fun i=>M.known i.name)&&m.maps.all fun f=>f.locals.all (fun t=>M.known t.name)&&f.stack.all (fun t=>M.known t.name))) hx);clear ha Yr hmp hc hx hE cZ b5 iA HE;go_upto_region 10 with(fail);rw[←tN.o];clear g0 g1 g2 g3 g4 g5 g6 g7 gz c3r czr tN;go_cut [3] (fun s wx=>s=.bool (qm&&M.known x.ret.name)∧wx=w5)
     case first=>
      cases qm
      · go_wp2_with fail;go_meet;exact⟨rfl,rfl⟩
      · go_wp2_with (go_at_call 72;refine(kN _ _).mono ?_;rintro e w' ⟨rfl,rfl⟩);go_meet;exact⟨rfl,rfl⟩
     obtain⟨rfl,kG⟩:=hcut;rw[kG];clear kG;obtain⟨q2,pY⟩:∃q,(qm&&M.known x.ret.name)=q:=⟨_,rfl⟩;have Ed:=Z3 pY;rw[pY];clear pY;obtain⟨wo,rfl⟩:∃wo:World,wo=w5:=⟨_,rfl⟩;go_wp2_with fail;go_loopw [3,7] (fun b i wr=>∃(k:Nat) (q:Bool),k≤x.args.length∧b=.bool q∧i=.int .i64 k∧Zs ((q2&&(x.args.take k).all (fun a=>M.known a.name))=q)∧wr=wo) (fun _ i _=>x.args.length - (intOf i).toNat)
     case atStart=>exact⟨0,q2,Nat.zero_le _,rfl,rfl,Z3 Wf,rfl⟩
     case round =>
      obtain⟨kA,q3,hkA,rfl,rfl,HRA,hwr⟩:=hrel;subst hwr;by_cases ajx:kA<x.args.length
      · have dkA:(kA:Int)<x.args.length:=by omega
        obtain⟨xA,hxA⟩:∃el,x.args[kA]?=some el:=⟨x.args[kA]'ajx,List.getElem?_eq_getElem ajx⟩;obtain⟨bbA,aj7,csA,rfl, -,rfl, -,hcA⟩:=HA.o.get hxA;obtain⟨g0A,g1A⟩:=hcA.two;have gzA:=aF g0A;have ajN:=Z3 (EU (f:=(fun a=>M.known a.name)) hxA);clear hcA hxA;cases q3<;>(go_wp2_with (go_at_call 72;refine(kN _ _).mono ?_;rintro e w' ⟨rfl,rfl⟩);go_round;(case rel=>exact⟨kA+1,_,by omega,rfl,by go_num,Z3 (by rw[ajN.o,←Bool.and_assoc,HRA.o];rfl),by trivial⟩);(case measure=>simp[intOf];omega))
      · have dkA : ¬ (kA : Int) < x.args.length := by omega
        have Hq3:Zs ((q2&&x.args.all (fun a=>M.known a.name))=q3):=Z3 (by have:=HRA.o;rwa[List.take_of_length_le Wg]at this);obtain⟨wo,rfl⟩:∃wo:World,wo=wr:=⟨_,rfl⟩;clear hkA HRA;go_wp2_with fail;go_loopw [3,8] (fun b i wr=>∃(k:Nat) (q:Bool),k≤x.code.length∧b=.bool q∧i=.int .i64 k∧Zs ((q3&&(x.code.take k).all (fun i=>M.known i.name))=q)∧wr=wo) (fun _ i _=>x.code.length - (intOf i).toNat)
        case atStart=>exact⟨0,q3,Nat.zero_le _,rfl,rfl,Z3 Wf,rfl⟩
        case round =>
         obtain⟨kC,q4,hkC,rfl,rfl,HRC,hwr⟩:=hrel;subst hwr;by_cases ajy:kC<x.code.length
         · have dkC:(kC:Int)<x.code.length:=by omega
           obtain⟨xC,hxC⟩:∃el,x.code[kC]?=some el:=⟨x.code[kC]'ajy,List.getElem?_eq_getElem ajy⟩;obtain⟨bbC,aj8,csC,rfl, -,rfl, -,hcC⟩:=HC.o.get hxC;obtain⟨g0C,g1C,g2C,g3C⟩:=hcC.four;have gzC:=aF g0C;have ajO:=Z3 (EU (f:=(fun i=>M.known i.name)) hxC);clear hcC hxC;cases q4<;>(go_wp2_with (go_at_call 72;refine(kN _ _).mono ?_;rintro e w' ⟨rfl,rfl⟩);go_round;(case rel=>exact⟨kC+1,_,by omega,rfl,by go_num,Z3 (by rw[ajO.o,←Bool.and_assoc,HRC.o];rfl),by trivial⟩);(case measure=>simp[intOf];omega))
         · have dkC : ¬ (kC : Int) < x.code.length := by omega
           have Hq4:Zs ((q3&&x.code.all (fun i=>M.known i.name))=q4):=Z3 (by have:=HRC.o;rwa[List.take_of_length_le Wg]at this);obtain⟨wo,rfl⟩:∃wo:World,wo=wr:=⟨_,rfl⟩;clear hkC HRC;go_wp2_with fail;go_loopw [3,9] (fun b i wr=>∃(k:Nat) (q:Bool),k≤x.maps.length∧b=.bool q∧i=.int .i64 k∧Zs ((q4&&(x.maps.take k).all (fun f=>f.locals.all (fun t=>M.known t.name)&&f.stack.all (fun t=>M.known t.name)))=q)∧wr=wo) (fun _ i _=>x.maps.length - (intOf i).toNat)
           case atStart=>exact⟨0,q4,Nat.zero_le _,rfl,rfl,Z3 Wf,rfl⟩
           case round =>
            obtain⟨j,q5,hj,rfl,rfl,HRJ,hwr⟩:=hrel;subst hwr;by_cases ajC:j<x.maps.length;rotate_left
            · have dj:¬(j:Int)<x.maps.length:=by omega
              have Jn:Zs ((q4&&x.maps.all (fun f=>f.locals.all (fun t=>M.known t.name)&&f.stack.all (fun t=>M.known t.name)))=q5):=Z3 (by have:=HRJ.o;rwa[List.take_of_length_le Wg]at this);go_wp2_with fail;go_round
              case rel=>exact⟨k+1,q5,by omega,rfl,by go_num,Z3 (by rw[EE.o,←Jn.o,←Hq4.o,←Hq3.o,←Ed.o,←HR.o];simp only[Bool.and_assoc]),gy.o⟩
              case measure=>simp[intOf];omega
            have dj:(j:Int)<x.maps.length:=by omega
            obtain⟨y,hy⟩:∃el,x.maps[j]?=some el:=⟨x.maps[j]'ajC,List.getElem?_eq_getElem ajC⟩;obtain⟨bj,akc,csj,rfl, -,hS, -,hcj⟩:=HP.o.get hy;obtain⟨vl,vs,rfl,hl,hs⟩:=hS;obtain⟨la,lc,rfl,Bo,Hw⟩:=hl.form;obtain⟨sa,sc,rfl,Ep,L8⟩:=hs.form;obtain⟨u0,u1,u2⟩:=hcj.three;have uz:=aF u0;have⟨HL,HS,HNJ⟩:=bg hl hs (EU (f:=(fun f=>f.locals.all (fun t=>M.known t.name)&&f.stack.all (fun t=>M.known t.name))) hy);clear hl hs hy hcj;obtain⟨wo,rfl⟩:∃wo:World,wo=wr:=⟨_,rfl⟩;go_wp2_with fail;go_loopw [3,10] (fun b i wr=>∃(k:Nat) (q:Bool),k≤y.locals.length∧b=.bool q∧i=.int .i64 k∧Zs ((q5&&(y.locals.take k).all (fun t=>M.known t.name))=q)∧wr=wo) (fun _ i _=>y.locals.length - (intOf i).toNat)
            case atStart=>exact⟨0,q5,Nat.zero_le _,rfl,rfl,Z3 Wf,rfl⟩
            case round=>
             obtain⟨kL,q6,hkL,rfl,rfl,HRL,hwr⟩:=hrel;subst hwr;by_cases ajA:kL<y.locals.length
             · have dkL:(kL:Int)<y.locals.length:=by omega
               obtain⟨xL,hxL⟩:∃el,y.locals[kL]?=some el:=⟨y.locals[kL]'ajA,List.getElem?_eq_getElem ajA⟩;obtain⟨bbL,aka,csL,rfl, -,rfl, -,hcL⟩:=HL.o.get hxL;obtain⟨g0L,g1L⟩:=hcL.two;have gzL:=aF g0L;have ajQ:=Z3 (EU (f:=(fun t=>M.known t.name)) hxL);clear hcL hxL;cases q6<;>(go_wp2_with (go_at_call 72;refine(kN _ _).mono ?_;rintro e w' ⟨rfl,rfl⟩);go_round;(case rel=>exact⟨kL+1,_,by omega,rfl,by go_num,Z3 (by rw[ajQ.o,←Bool.and_assoc,HRL.o];rfl),by trivial⟩);(case measure=>simp[intOf];omega))
             · have dkL:¬(kL:Int)<y.locals.length:=by omega
               have Hq6:Zs ((q5&&y.locals.all (fun t=>M.known t.name))=q6):=Z3 (by have:=HRL.o;rwa[List.take_of_length_le Wg]at this);obtain⟨wo,rfl⟩:∃wo:World,wo=wr:=⟨_,rfl⟩;clear hkL HRL;go_wp2_with fail;go_loopw [3,11] (fun b i wr=>∃(k:Nat) (q:Bool),k≤y.stack.length∧b=.bool q∧i=.int .i64 k∧Zs ((q6&&(y.stack.take k).all (fun t=>M.known t.name))=q)∧wr=wo) (fun _ i _=>y.stack.length - (intOf i).toNat)
               case atStart=>exact⟨0,q6,Nat.zero_le _,rfl,rfl,Z3 Wf,rfl⟩
               case round=>
                obtain⟨kS,q7,hkS,rfl,rfl,HRS,hwr⟩:=hrel;subst hwr;by_cases ajB:kS<y.stack.length
                · have dkS:(kS:Int)<y.stack.length:=by omega
                  obtain⟨xS,hxS⟩:∃el,y.stack[kS]?=some el:=⟨y.stack[kS]'ajB,List.getElem?_eq_getElem ajB⟩;obtain⟨bbS,akb,csS,rfl, -,rfl, -,hcS⟩:=HS.o.get hxS;obtain⟨g0S,g1S⟩:=hcS.two;have gzS:=aF g0S;have ajR:=Z3 (EU (f:=(fun t=>M.known t.name)) hxS);clear hcS hxS;cases q7<;>(go_wp2_with (go_at_call 72;refine(kN _ _).mono ?_;rintro e w' ⟨rfl,rfl⟩);go_round;(case rel=>exact⟨kS+1,_,by omega,rfl,by go_num,Z3 (by rw[ajR.o,←Bool.and_assoc,HRS.o];rfl),by trivial⟩);(case measure=>simp[intOf];omega))
                · have dkS:¬(kS:Int)<y.stack.length:=by omega
                  have Hq7:Zs ((q6&&y.stack.all (fun t=>M.known t.name))=q7):=Z3 (by have:=HRS.o;rwa[List.take_of_length_le Wg]at this);obtain⟨wo,rfl⟩:∃wo:World,wo=wr:=⟨_,rfl⟩;clear hkS HRS;go_wp2_with fail;go_round
                  case rel=>exact⟨j+1,q7,by omega,rfl,by go_num,Z3 (by rw[HNJ.o,←Hq7.o,←Hq6.o,←HRJ.o];simp only[Bool.and_assoc]),by trivial⟩
                  case measure=>simp[intOf];omega
structure MvI(w we wr:World)(D E:Nat)(os:List M.Class)(q:Nat)(va vb av:Value):Prop where
 da:ay wr D 33 #[va,av]
 db:ay wr E 33 #[vb,.slice none 0 0]
 row:∃cA cB,wr.ownsRow we.heap.size 75 4 va (M.ai (os.take q)).length cA.flatten∧wr.ownsRow we.heap.size 75 4 vb (M.cO (os.take q)).length cB.flatten∧(∀c∈cA,c.length=4)∧(∀c∈cB,c.length=4)∧
  dG aP w (fun b=>b<w.heap.size) (M.ai (os.take q)) cA∧dG aP w (fun b=>b<w.heap.size) (M.cO (os.take q)) cB
 dis:∀b,va.ownBlock=some b→vb.ownBlock≠some b
 kp:Kp (fun b=>b=D∨b=E) we wr
 kn:∀c∈os.take q,M.two c.name=true→M.knows c=true
theorem aiQ{os:List M.Class}{q:Nat}{x:M.Class}(hx:os[q]?=some x):M.ai (os.take (q+1))=M.ai (os.take q)++(if M.two x.name then []else [x]):=by
 unfold M.ai;rw[List.take_add_one,hx,List.filter_append];cases hh:M.two x.name<;>simp[hh]
theorem aiR{os:List M.Class}{q:Nat}{x:M.Class}(hx:os[q]?=some x):M.cO (os.take (q+1))=M.cO (os.take q)++(if M.two x.name then [x]else []):=by
 unfold M.cO;rw[List.take_add_one,hx,List.filter_append];cases hh:M.two x.name<;>simp[hh]
theorem ai2(c:List (List Value))(d:List Value):(c++[d]).flatten=c.flatten++d:=by simp
theorem MvI.ajH{w we wr w6 w9:World}{D E:Nat}{os:List M.Class}{q n g c':Nat}{va vb av:Value}{x:M.Class}{cs:List Value}{cA cB:List (List Value)}(hx:os[q]?=some x)(Rp:M.two x.name=false)(h:MvI w we wr D E os q va vb av)(hD:D<we.heap.size)(hE:E<we.heap.size)(hDE:D≠E)
    (hn:(M.ai (os.take q)).length=n) (hA:wr.ownsRow we.heap.size 75 4 va n cA.flatten) (hB:wr.ownsRow we.heap.size 75 4 vb (M.cO (os.take q)).length cB.flatten) (hcA:∀c∈cA,c.length=4) (hcB:∀c∈cB,c.length=4)
    (hlA:dG aP w (fun b=>b<w.heap.size) (M.ai (os.take q)) cA) (hlB:dG aP w (fun b=>b<w.heap.size) (M.cO (os.take q)) cB) (hC:aP w (fun b=>b<w.heap.size) x cs) (cK:cs.length=4)
    (dC:Ext wr w6) (fM:Kp (fun b=>va.ownBlock=some b) w6 w9) (hg:va.ownBlock=some g∨w6.heap.size=g) (pO:w9.ownsRow we.heap.size 75 4 (.slice (some ⟨g,0,none⟩) (n+1) c') (n+1) (cA.flatten++cs)):
    MvI w we (w9.setCell ⟨D,0,none⟩ (.slice (some ⟨g,0,none⟩) (n+1) c')) D E os (q+1) (.slice (some ⟨g,0,none⟩) (n+1) c') vb av:=by
 have hP:Kp (·=D) w9 (w9.setCell ⟨D,0,none⟩ (.slice (some ⟨g,0,none⟩) (n+1) c')):=(Kp.refl (·=D) w9).setCell (p:=⟨D,0,none⟩) (fun _=>rfl) _;have hda:=(h.da.ext dC).kp fM (fun e=>by have:=(hA.lt _ e).1;omega);have hdb:=(h.db.ext dC).kp fM (fun e=>by have:=(hA.lt _ e).1;omega);have P9:=aA (D:=fun _=>False) hB dC fun _ _ _ x=>x;have vQ:=aA P9 fM (fun b e _ e2=>h.dis b e2 e);have hgs:we.heap.size≤g:=(pO.lt g rfl).1;have hlen:(M.ai (os.take (q+1))).length=n+1:=by rw[aiQ hx,Rp,List.length_append,hn];rfl
 have hbl:M.cO (os.take (q+1))=M.cO (os.take q):=by rw[aiR hx,Rp];simp
 refine⟨by simpa using hda.bE 0 (.slice (some ⟨g,0,none⟩) (n+1) c'),hdb.kp hP (fun e=>hDE e.symm),⟨cA++[cs],cB,?_,?_,?_,hcB,?_,?_⟩,?_,?_,?_⟩
 · rw[ai2,hlen];exact aA pO hP (fun b _ h2 e=>by omega)
 · rw[hbl];exact aA vQ hP (fun b _ h2 e=>by omega)
 · intro c hc;rcases List.mem_append.1 hc with hc|hc
   · exact hcA c hc
   · rw[List.mem_singleton.1 hc];exact cK
 · rw[aiQ hx,Rp];exact hlA.snoc hC
 · rw[hbl];exact hlB
 · intro b e e2;have hbg:g=b:=by simpa [Value.ownBlock]using e
   subst hbg;rcases hg with hg|hg
   · exact h.dis _ hg e2
   · have:=(hB.lt _ e2).2;have:=dC.size;omega
 · exact((h.kp.trans dC.any).own' fM (fun b e=>.inr (hA.lt _ e).1)).trans (hP.weak fun b _ e=>.inl e)
 · intro c hc htc;rw[List.take_add_one,hx]at hc;rcases List.mem_append.1 hc with hc|hc
   · exact h.kn c hc htc
   · rw[show c=x from by simpa using hc,Rp]at htc;cases htc
theorem MvI.ajI{w we wr w6 w9:World}{D E:Nat}{os:List M.Class}{q n g c':Nat}{va vb av:Value}{x:M.Class}{cs:List Value}{cA cB:List (List Value)}(hx:os[q]?=some x)(Rp:M.two x.name=true)(Tj:M.knows x=true)(h:MvI w we wr D E os q va vb av)(hD:D<we.heap.size)(hE:E<we.heap.size)(hDE:D≠E)
    (hn:(M.cO (os.take q)).length=n) (hA:wr.ownsRow we.heap.size 75 4 va (M.ai (os.take q)).length cA.flatten) (hB:wr.ownsRow we.heap.size 75 4 vb n cB.flatten) (hcA:∀c∈cA,c.length=4) (hcB:∀c∈cB,c.length=4)
    (hlA:dG aP w (fun b=>b<w.heap.size) (M.ai (os.take q)) cA) (hlB:dG aP w (fun b=>b<w.heap.size) (M.cO (os.take q)) cB) (hC:aP w (fun b=>b<w.heap.size) x cs) (cK:cs.length=4)
    (dC:Ext wr w6) (fM:Kp (fun b=>vb.ownBlock=some b) w6 w9) (hg:vb.ownBlock=some g∨w6.heap.size=g) (pO:w9.ownsRow we.heap.size 75 4 (.slice (some ⟨g,0,none⟩) (n+1) c') (n+1) (cB.flatten++cs)):
    MvI w we (w9.setCell ⟨E,0,none⟩ (.slice (some ⟨g,0,none⟩) (n+1) c')) D E os (q+1) va (.slice (some ⟨g,0,none⟩) (n+1) c') av:=by
 have hP:Kp (·=E) w9 (w9.setCell ⟨E,0,none⟩ (.slice (some ⟨g,0,none⟩) (n+1) c')):=(Kp.refl (·=E) w9).setCell (p:=⟨E,0,none⟩) (fun _=>rfl) _;have hda:=(h.da.ext dC).kp fM (fun e=>by have:=(hB.lt _ e).1;omega);have hdb:=(h.db.ext dC).kp fM (fun e=>by have:=(hB.lt _ e).1;omega);have Ho:=aA (D:=fun _=>False) hA dC fun _ _ _ x=>x;have hA9:=aA Ho fM (fun b e _ e2=>h.dis b e e2);have hgs:we.heap.size≤g:=(pO.lt g rfl).1;have hlen:(M.cO (os.take (q+1))).length=n+1:=by rw[aiR hx,Rp,List.length_append,hn];rfl
 have hal:M.ai (os.take (q+1))=M.ai (os.take q):=by rw[aiQ hx,Rp];simp
 refine⟨hda.kp hP (fun e=>hDE e),by simpa using hdb.bE 0 (.slice (some ⟨g,0,none⟩) (n+1) c'),⟨cA,cB++[cs],?_,?_,hcA,?_,?_,?_⟩,?_,?_,?_⟩
 · rw[hal];exact aA hA9 hP (fun b _ h2 e=>by omega)
 · rw[ai2,hlen];exact aA pO hP (fun b _ h2 e=>by omega)
 · intro c hc;rcases List.mem_append.1 hc with hc|hc
   · exact hcB c hc
   · rw[List.mem_singleton.1 hc];exact cK
 · rw[hal];exact hlA
 · rw[aiR hx,Rp];exact hlB.snoc hC
 · intro b e2 e;have hbg:g=b:=by simpa [Value.ownBlock]using e
   subst hbg;rcases hg with hg|hg
   · exact h.dis _ e2 hg
   · have:=(hA.lt _ e2).2;have:=dC.size;omega
 · exact((h.kp.trans dC.any).own' fM (fun b e=>.inr (hB.lt _ e).1)).trans (hP.weak fun b _ e=>.inr e)
 · intro c hc htc;rw[List.take_add_one,hx]at hc;rcases List.mem_append.1 hc with hc|hc
   · exact h.kn c hc htc
   · rw[show c=x from by simpa using hc];exact Tj
def ajv:List Value:=[.string M.aiW,.int .i64 1,.string M.tT,.int .i64 1]
def aiX(w':World)(p:M.ax)(e:Ending):Prop:=∃a n c ok,e=.returned (.tuple #[.agg #[.slice a n c],.bool ok])∧(ok=true→∃os,p=M.one os∧(∀c∈os,M.two c.name=true→M.knows c=true)∧SliceOf 2 aB w' (fun b=>b<w'.heap.size) (.slice a n c) (M.moved os))
theorem aiX.no{w':World}{p:M.ax}{a:Option Addr}{n c:Nat}:aiX w' p (.returned (.tuple #[.agg #[.slice a n c],.bool false])):=⟨a,n,c,false,rfl,fun h=>by cases h⟩
theorem ajk(w:World)(v:Value)(p:M.ax)(hp:SliceOf 2 aB w (fun b=>b<w.heap.size) v p):
    Calls Tryz.prog 12 #[.agg #[v]] w fun e w'=>aiX w' p e∧Ext w w':=by
 obtain⟨pa,pc,rfl,hn,dm⟩:=hp.form;obtain⟨wa,fO,hEa,ba⟩:=nu w #[.slice pa p.length pc] 25;obtain⟨wb,gV,hEb,bb⟩:=nu wa #[.slice none 0 0] 25;have hza:wa.heap.size=w.heap.size+1:=by rw[fO];simp
 have hzb:wb.heap.size=w.heap.size+2:=by rw[gV];simp[hza]
 rw[hza]at bb;have ajw:=hEa.trans hEb;have bab:=ba.ext hEb;obtain⟨yz,y0, -⟩:=bab.ca;obtain⟨tz,t0, -⟩:=bb.ca;have tf:=bb.frozen 0;have⟨HWA,HWB,HBB,HBA,ajm,HZA,HZB,HP⟩:=JI fO gV bb bab ajw hza hzb hp;clear fO gV hEa hEb ajw ba bb bab hza hzb hp;have NO:∀W',Ext wb W'→Zs (Ext w (W'.setCell ⟨w.heap.size+1,0,none⟩ (.slice none 0 0))):=fun W' h=>Z3 ((ajm.o.trans h).own ((Kp.refl (·=w.heap.size+1) W').setCell (p:=⟨w.heap.size+1,0,none⟩) (fun _=>rfl) _) (fun b e=>by omega));by_cases h1:p.length=1;rotate_left
 · have h1b:((p.length:Int) !=1)=true:=by simp;omega
   clear h1;go_enter Tryz.func12,Tryz.ntmps12;go_upto_region 1 with(fail);rw[←HWA.o,←HWB.o];go_wp2_with fail;refine bodyPost_ret (au lV rfl _ _ (w.heap.size+1) rfl [.slice none 0 0] (ae.gM (HBB.o.bE 0 _)) rfl) rfl ?_;exact⟨aiX.no,(NO wb Kp.rr).o⟩
 obtain⟨k,rfl⟩:=List.length_eq_one_iff.1 h1;have h1b:(((1:Nat):Int) !=1)=false:=by simp
 obtain⟨bk,off,ks,rfl, -,⟨vo,va,rfl,ho,ha⟩, -,hc⟩:=HP.o.get (i:=0) (x:=k) rfl;obtain⟨oa,oc,rfl,KP,ho2⟩:=ho.form;obtain⟨aa,ac,rfl, -, -⟩:=ha.form;obtain⟨p0,p1⟩:=hc.two;have hkz:=aF p0;have q0:=ajm.o.aD (by simpa using p0);have q1:=ajm.o.aD (by simpa using p1);have qz:=aF q0;obtain⟨os,aks⟩:=k;simp only[List.length_cons,List.length_nil,Nat.zero_add]at y0 h1 HBA ⊢;by_cases h2:0<aks.length
 · have h2b:(0:Int)<aks.length:=by omega
   clear hc ho ha;go_enter Tryz.func12,Tryz.ntmps12;go_upto_region 1 with(fail);simp only[List.length_cons,List.length_nil,Nat.zero_add]at HWA;rw[←HWA.o,←HWB.o];go_wp2_with fail;refine bodyPost_ret (au lV rfl _ _ (w.heap.size+1) rfl [.slice none 0 0] (ae.gM (HBB.o.bE 0 _)) rfl) rfl ?_;exact⟨aiX.no,(NO wb Kp.rr).o⟩
 have IV:aks.length=0:=by omega
 have has:aks=[]:=List.eq_nil_of_length_eq_zero IV;subst has;clear h2 IV ha;obtain⟨wc,kG,Hs,bc⟩:=nu wb ajv.toArray 55;obtain⟨wd,hwd,hEd,bd⟩:=nu wc #[.slice none 0 0,.slice (some ⟨wb.heap.size,0,none⟩) 2 2] 33;obtain⟨we,hwe,hEe,be⟩:=nu wd #[.slice none 0 0,.slice none 0 0] 33;have⟨HWC,HWD,HWE⟩:=bg kG hwd hwe;have HZC:Zs (wc.heap.size=w.heap.size+3):=Z3 (by rw[kG];simp[HZB.o]);have HZD:Zs (wd.heap.size=w.heap.size+4):=Z3 (by rw[hwd];simp[HZC.o]);have HZE:Zs (we.heap.size=w.heap.size+5):=Z3 (by rw[hwe];simp[HZD.o]);rw[show wc.heap.size=wb.heap.size+1 from by rw[kG];simp]at bd;have⟨HBC,QM,HBE⟩:=bg (bc.ext (hEd.trans hEe)) (bd.ext hEe) be;have ajr:=Z3 (HBB.o.ext (Hs.trans (hEd.trans hEe)));have ajL:=Z3 (HBA.o.ext (Hs.trans (hEd.trans hEe)));have HEe:=Z3 (ajm.o.trans (Hs.trans (hEd.trans hEe)));have aji:=Hs.trans (hEd.trans hEe);have HO:=Z3 ho;clear kG hwd hwe Hs hEd hEe bc bd be hc ho;go_enter Tryz.func12,Tryz.ntmps12;go_upto_region 1 with(fail);simp only[List.length_cons,List.length_nil,Nat.zero_add]at HWA;rw[←HWA.o,←HWB.o];go_upto_region 4 with(fail);rw[show(#[.string ⟨#[116,111,112]⟩,.int .i64 1,.string ⟨#[99,101,108,108]⟩,.int .i64 1]:Array Value)=ajv.toArray from rfl,←HWC.o,←HWD.o];go_upto_region 5 with(fail);rw[←HWE.o];have⟨HEE,HQ0,HKZ⟩:=bg (aji) (aji.aD q0) hkz;clear y0 yz t0 tf tz q0 q1 qz p0 p1 hkz NO aji;go_wp2_with fail;go_loopw [6] (fun i wr=>∃(q:Nat) (va vb:Value),q≤os.length∧i=.int .i64 q∧Zs (MvI w we wr (wb.heap.size+1) wd.heap.size os q va vb (.slice (some ⟨wb.heap.size,0,none⟩) 2 2))) (fun i _=>os.length - (intOf i).toNat)
 case atStart=>exact⟨0,_,_,Nat.zero_le _,rfl,Z3 ⟨QM.o,HBE.o,⟨[],[],⟨rfl,.inl ⟨rfl,rfl⟩⟩,⟨rfl,.inl ⟨rfl,rfl⟩⟩,by simp,by simp,trivial,trivial⟩,(fun _ h=>by cases h),Kp.rr,by simp⟩⟩
 case round=>
  obtain⟨q,va,vb,hq,rfl,HI⟩:=hrel;obtain⟨cA,cB,hA,hB,hcA,hcB,hlA,hlB⟩:=HI.o.row;obtain⟨nA,hnA⟩:∃n,(M.ai (os.take q)).length=n:=⟨_,rfl⟩;obtain⟨nB,hnB⟩:∃n,(M.cO (os.take q)).length=n:=⟨_,rfl⟩;have hA':=hA;have hB':=hB;rw[hnA]at hA';rw[hnB]at hB';obtain⟨a1,c1,rfl⟩:=bO hA';obtain⟨a2,c2,rfl⟩:=bO hB';have HKP:=Z3 HI.o.kp;have zl:Zs (Same (fun b=>b<w.heap.size) w wr):=Z3 fun b o v hb h=>HKP.o.jg (HEe.o.aD h) (by have:=HZB.o;have:=HZD.o;have hb:b<w.heap.size:=hb;omega);have yA:=ajL.o.kp HKP.o (by have:=HZB.o;have:=HZD.o;omega);obtain⟨yz,y0, -⟩:=yA.ca;have r0:=HKP.o.jg HQ0.o (by have:=HZB.o;have:=HZD.o;have:=HKZ.o;omega);have rz:=aF r0;have⟨HHA,HHB⟩:=aJ hA hB;have HA':=Z3 hA';have HB':=Z3 hB';have⟨HNA,HNB⟩:=aJ hnA hnB;clear hA hB hA' hB' hnA hnB yA;by_cases bY:q<os.length;rotate_left
  · have dk:¬(q:Int)<os.length:=by omega
    have ht:os.take q=os:=List.take_of_length_le Wg;have Tj:=HI.o.kn;rw[ht]at hlA hlB Tj;have ajg:=HNA.o;have ajh:=HNB.o;rw[ht]at ajg ajh;have⟨WK,HLA,HLB,ajg,ajh⟩:=kL Tj hlA hlB ajg ajh;have Z5:=ajr.o.kp HKP.o (by have:=HZB.o;have:=HZD.o;omega);obtain⟨ws,hws⟩:∃x,x=wr.setCell ⟨w.heap.size+1,0,none⟩ (.slice (some ⟨wr.heap.size,0,none⟩) 2 2):=⟨_,rfl⟩;have Yy:Kp (·=w.heap.size+1) wr ws:=by rw[hws];exact(Kp.refl (·=w.heap.size+1) wr).setCell (p:=⟨w.heap.size+1,0,none⟩) (fun _=>rfl) _
    have Rt:ws.heap.size=wr.heap.size:=by rw[hws];simp
    have hbs:ay ws (w.heap.size+1) 25 #[.slice (some ⟨wr.heap.size,0,none⟩) 2 2]:=by rw[hws];exact Z5.bE 0 _
    obtain⟨wf,hwf,hEf,bf⟩:=nu ws #[.slice a1 nA c1,.slice (some ⟨wb.heap.size,0,none⟩) 2 2,.slice a2 nB c2,.slice none 0 0] 33;have hzf:Zs (wf.heap.size=wr.heap.size+1):=Z3 (by rw[hwf];simp[Rt]);rw[Rt]at bf;have HWS:=Z3 hws;obtain⟨tz,t0, -⟩:=Z5.ca;have tf:=Z5.frozen 0;obtain⟨dz,d0,d1, -⟩:=HI.o.da.ca;obtain⟨ez,e0,e1, -⟩:=HI.o.db.ca;have⟨HWF,HEF,Xw,HBW⟩:=gD hwf (Yy.trans hEf.any) bf (hbs.ext hEf);clear hwf hEf bf Z5 ht Tj hlA hlB Yy Rt hbs hws;go_wp2_with fail;rw[←HWS.o,←HWF.o];refine bodyPost_ret (au lV rfl _ _ (w.heap.size+1) rfl [.slice (some ⟨wr.heap.size,0,none⟩) 2 2] (ae.gM HBW.o) rfl) rfl ?_;have hzf:=hzf.o;have Tp:=HKP.o.size;have vS:Same (fun b=>b<w.heap.size) w wf:=fun b o v hb h=>HEF.o.jg (zl.o b o v hb h) (by have hb:b<w.heap.size:=hb;omega);have zB:=HZB.o;have zE:=HZE.o;have hoA:=aA HA'.o HEF.o fun b _ h e=>by omega
    have hoB:=aA HB'.o HEF.o fun b _ h e=>by omega
    have hlen:os.length≤4294967296:=ho2;have hlA:nA≤os.length:=by rw[←ajg.o];exact List.length_filter_le _ _
    have hlB:nB≤os.length:=by rw[←ajh.o];exact List.length_filter_le _ _
    have sA:SliceOf 4 aP wf (fun b=>b<wf.heap.size∧b≠w.heap.size+1) (.slice a1 nA c1) (M.ai os):=SliceOf.owned hoA hcA Wg (HLA.o.keep aP.stays vS (fun b hb=>⟨by omega,by omega⟩)) (fun b h1 h2=>⟨h2,by omega⟩) (by rw[ajg.o];omega);have sB:SliceOf 4 aP wf (fun b=>b<wf.heap.size∧b≠w.heap.size+1) (.slice a2 nB c2) (M.cO os):=SliceOf.owned hoB hcB Wg (HLB.o.keep aP.stays vS (fun b hb=>⟨by omega,by omega⟩)) (fun b h1 h2=>⟨h2,by omega⟩) (by rw[ajh.o];omega);have bc:=(HBC.o.kp HKP.o (by have:=HZD.o;omega)).kp HEF.o Wg;have sK:SliceOf 2 eu wf (fun b=>b<wf.heap.size∧b≠w.heap.size+1) (.slice (some ⟨wb.heap.size,0,none⟩) 2 2) [⟨M.aiW,1⟩,⟨M.tT,1⟩]:=SliceOf.row (R:=eu) (xs:=[⟨M.aiW,1⟩,⟨M.tT,1⟩]) [[.string M.aiW,.int .i64 1],[.string M.tT,.int .i64 1]] (ae.gM bc) rfl Wf ⟨rfl,rfl,trivial⟩ ⟨by omega,by omega⟩ Wf Wf;have sN:SliceOf 2 eu wf (fun b=>b<wf.heap.size∧b≠w.heap.size+1) (.slice none 0 0) []:=⟨none,0,rfl,Nat.le_refl _,by simp,fun i x h=>by simp at h⟩;have sP:SliceOf 2 aB wf (fun b=>b<wf.heap.size∧b≠w.heap.size+1) (.slice (some ⟨wr.heap.size,0,none⟩) 2 2) (M.moved os):=SliceOf.row (R:=aB) (xs:=M.moved os) [[.slice a1 nA c1,.slice (some ⟨wb.heap.size,0,none⟩) 2 2],[.slice a2 nB c2,.slice none 0 0]] (ae.gM Xw.o) rfl Wf ⟨⟨_,_,rfl,sA,sK⟩,⟨_,_,rfl,sB,sN⟩,trivial⟩ ⟨by omega,by omega⟩ (by simp[M.moved]) (by simp[M.moved]);refine⟨⟨_,_,_,true,rfl,fun _=>⟨os,rfl,WK.o,sP.keep aB.stays (fun _ _ _ _ h=>h) (fun b hb=>hb.1)⟩⟩,?_⟩;exact(HEe.o.own HKP.o fun b e=>by have:=HZD.o;omega).own HEF.o (fun b e=>by omega)
  have dk:(q:Int)<os.length:=by omega
  obtain⟨x,hx⟩:∃el,os[q]?=some el:=⟨os[q]'bY,List.getElem?_eq_getElem bY⟩;obtain⟨bx,akd,cs,rfl,hIx,hC, -,hc⟩:=HO.o.get hx;obtain⟨f1,m1,f2,m2,rfl⟩:=hC.form;obtain⟨g0,g1,g2,g3⟩:=(hc.keep fun o v h=>zl.o _ o v hIx h).four;have gz:=aF g0;obtain⟨w5,iA,cZ,b5⟩:=nu wr #[.string x.name,.string x.aL,.slice f1 x.fields.length m1,.slice f2 x.methods.length m2] 75;obtain⟨nz,n0,n1,n2,n3, -⟩:=b5.ca;have⟨tN,gy,HX,HC⟩:=gD iA cZ hx hC;have rX:Zs (aP w5 (fun b=>b<w.heap.size) x [.string x.name,.string x.aL,.slice f1 x.fields.length m1,.slice f2 x.methods.length m2]):=Z3 (aP.stays _ _ _ _ _ _ (Ext.same cZ) (fun _ h=>h) (aP.stays _ _ _ _ _ _ zl.o (fun _ h=>h) hC));clear iA cZ b5 hc hx hC;go_upto_region 9 with(fail);rw[←tN.o];clear g0 g1 g2 g3 gz r0 rz y0 yz;have XI:=Z3 (aja x.name);go_cut [52] (fun s wx=>s=.bool (!M.two x.name)∧wx=w5)
  case first=>
   by_cases e1:x.name.toList=[116,111,112]
   · go_wp2_with fail;go_meet;exact⟨by rw[XI.o,e1];rfl,rfl⟩
   · go_wp2_with fail
     all_goals (go_meet;exact⟨by rw[XI.o];simp[*],rfl⟩)
  obtain⟨rfl,kG⟩:=hcut;rw[kG];clear kG;obtain⟨tw,Rp⟩:∃t,M.two x.name=t:=⟨_,rfl⟩;have HTB:=Z3 Rp;rw[Rp];clear Rp;have hqA:nA≤q:=by rw[←HNA.o];exact Nat.le_trans (List.length_filter_le _ _) (by rw[List.length_take];omega)
  have hqB:nB≤q:=by rw[←HNB.o];exact Nat.le_trans (List.length_filter_le _ _) (by rw[List.length_take];omega)
  have hDE:wb.heap.size+1<we.heap.size∧wd.heap.size<we.heap.size∧wb.heap.size+1≠wd.heap.size:=by have:=HZB.o;have:=HZD.o;have:=HZE.o;omega
  have HZR:Zs (we.heap.size≤w5.heap.size):=Z3 (by have:=HKP.o.size;have:=gy.o.size;omega);cases tw
  · simp only[Bool.not_false];obtain⟨w6,nS,dC,b6⟩:=nu w5 #[.string x.name,.string x.aL,.slice f1 x.fields.length m1,.slice f2 x.methods.length m2] 75;have⟨CJ,HD6,zg⟩:=bg (aA (D:=fun _=>False) HA'.o (gy.o.trans dC) fun _ _ _ x=>x) (HI.o.da.ext (gy.o.trans dC)) (ae.gM b6);obtain⟨dz,d0, -⟩:=(HI.o.da.ext gy.o).ca;have TS:Zs (we.heap.size≤w6.heap.size):=Z3 (by have:=HZR.o;have:=dC.size;omega);have⟨kH,CK⟩:=aJ (gy.o.trans dC) nS;clear nS dC b6;go_wp2_with (rw[←CK.o];refine az jZ rfl (.tmp 54) (.tmp 56) rfl we.heap.size (.slice a1 nA c1) nA _ rfl CJ.o w5.heap.size 1 [.string x.name,.string x.aL,.slice f1 x.fields.length m1,.slice f2 x.methods.length m2] rfl rfl zg.o Ys Wg TS.o ?_;rintro g9 c9 w9 pO fM wW;have GY:=HD6.o.kp fM (fun e=>by have:=(CJ.o.lt _ e).1;omega);have p0:=GY.c 0 (.slice a1 nA c1) rfl;have pf:=GY.frozen 0;have pz:=GY.lt);go_round
    case rel=>exact⟨q+1,_,_,by omega,by go_num,Z3 (MvI.ajH HX.o HTB.o HI.o hDE.1 hDE.2.1 hDE.2.2 HNA.o HA'.o HHB.o hcA hcB hlA hlB HC.o rfl kH.o fM wW pO)⟩
    case measure=>simp[intOf];omega
  simp only[Bool.not_true];go_wp2_with fail;refine(ajj w5 _ _ x rX.o).mono ?_;rintro e w6 ⟨rfl,dC⟩;obtain⟨kb,hkb⟩:∃b,M.knows x=b:=⟨_,rfl⟩;have XB:=Z3 hkb;rw[hkb];clear hkb;have kH:=Z3 (gy.o.trans dC);have N0:=dC.aD n0;have N1:=dC.aD n1;have N2:=dC.aD n2;have N3:=dC.aD n3;have Nz:=aF N0;clear n0 n1 n2 n3 nz;cases kb
  · have Z5:=(ajr.o.kp HKP.o (by have:=HZB.o;have:=HZD.o;omega)).ext kH.o;obtain⟨tz,t0, -⟩:=Z5.ca;have tf:=Z5.frozen 0;have dL:=Z3 Z5;clear Z5;go_wp2_with fail;refine bodyPost_ret (au lV rfl _ _ (w.heap.size+1) rfl [.slice none 0 0] (ae.gM (dL.o.bE 0 _)) rfl) rfl ?_;exact⟨aiX.no,((HEe.o.own HKP.o fun b e=>by have:=HZB.o;have:=HZD.o;omega).trans kH.o).own ((Kp.refl (·=w.heap.size+1) w6).setCell (p:=⟨w.heap.size+1,0,none⟩) (fun _=>rfl) _) (fun b e=>by omega)⟩
  obtain⟨w7,Da,r9,b7⟩:=nu w6 #[.string x.name,.string x.aL,.slice f1 x.fields.length m1,.slice f2 x.methods.length m2] 75;have⟨HO7,HD7,wD⟩:=bg (aA (D:=fun _=>False) HB'.o (kH.o.trans r9) fun _ _ _ x=>x) (HI.o.db.ext (kH.o.trans r9)) (ae.gM b7);obtain⟨dz,d0, -⟩:=(HI.o.db.ext kH.o).ca;have HZ7:Zs (we.heap.size≤w7.heap.size):=Z3 (by have:=HZR.o;have:=dC.size;have:=r9.size;omega);have⟨DD,SX⟩:=aJ (kH.o.trans r9) Da;clear Da r9 b7 dC;go_wp2_with (rw[←SX.o];refine az jZ rfl (.tmp 64) (.tmp 66) rfl we.heap.size (.slice a2 nB c2) nB _ rfl HO7.o w6.heap.size 1 [.string x.name,.string x.aL,.slice f1 x.fields.length m1,.slice f2 x.methods.length m2] rfl rfl wD.o Ys Wg HZ7.o ?_;rintro g9 c9 w9 pO fM wW;have GY:=HD7.o.kp fM (fun e=>by have:=(HO7.o.lt _ e).1;omega);have p0:=GY.c 0 (.slice a2 nB c2) rfl;have pf:=GY.frozen 0;have pz:=GY.lt);go_round
  case rel=>exact⟨q+1,_,_,by omega,by go_num,Z3 (MvI.ajI HX.o HTB.o XB.o HI.o hDE.1 hDE.2.1 hDE.2.2 HNB.o HHA.o HB'.o hcA hcB hlA hlB HC.o rfl DD.o fM wW pO)⟩
  case measure=>simp[intOf];omega
theorem QC:wJ:=fun w l p h x hx=>Df w l p h x hx
theorem acf(w:World)(I:Nat→Prop)(v:Value)(p:M.ax)(hp:SliceOf 2 aB w I v p)(hI:∀b,I b→b<w.heap.size)(lk:Bool)(k:Int)(n m:ByteArray)(args:List Int)(va:Option Addr)(ac:Nat)(vB:SliceOf 1 jQ w I (.slice va args.length ac) args):
    Calls Tryz.prog 8 #[.agg #[v],.bool lk,.int .i64 k,.string n,.string m,.slice va args.length ac] w fun e w'=>
     (∃cs,e=.returned (.agg cs.toArray)∧dU w' (fun b=>w.heap.size≤b) (M.jC p lk k n m args) cs)∧Ext w w':=Y8 w I v p hp hI lk (Z3 fun _=>QC) k n m args va ac vB
theorem Ww(w:World)(I:Nat→Prop)(v:Value)(p:M.ax)(hp:SliceOf 2 aB w I v p)(hI:∀b,I b→b<w.heap.size)(lk:Bool)(s:M.St)(cs:List Value)(hs:dU w I s cs)(fuel:Int):
    Calls Tryz.prog 9 #[.agg #[v],.bool lk,.agg cs.toArray,.int .i64 fuel] w fun e w'=>
     (∃cs',e=.returned (.agg cs'.toArray)∧dU w' (fun b=>w.heap.size≤b) (M.oQ p lk s fuel) cs')∧Ext w w':=Y9 w I v p hp hI lk (Z3 fun _=>QC) s cs hs fuel
namespace M
end M
theorem YR(w:World)(I J:Nat→Prop)(va vb:Value)(a b:List Int)(ha:SliceOf 1 jQ w I va a)(hb:SliceOf 1 jQ w J vb b):
    Calls Tryz.prog 10 #[va,vb] w fun e w'=>e=.returned (.bool (decide (a=b)))∧Ext w w':=by
 obtain⟨a1,c1,rfl, -,hla⟩:=ha.form;obtain⟨a2,c2,rfl, -,hlb⟩:=hb.form;by_cases hl:a.length=b.length;rotate_left
 · have e1:((a.length:Int) !=b.length)=true:=bne_iff_ne.2 Wg;have HV:Zs (decide (a=b)=false):=Z3 (decide_eq_false fun e=>hl (by rw[e]));clear hl;go_enter Tryz.func10,Tryz.ntmps10;go_wp2_with fail;go_ret;exact⟨af HV.o.symm,kx⟩
 have e1:((a.length:Int) !=b.length)=false:=by simp[hl]
 have XC:=Z3 hl;clear hl;go_enter Tryz.func10,Tryz.ntmps10;go_wp2_with fail;go_loopw [5] (fun i wr=>∃q:Nat,q≤a.length∧i=.int .i64 q∧Ext w wr∧Zs (a.take q=b.take q)) (fun i _=>a.length - (intOf i).toNat)
 case atStart=>exact⟨0,Nat.zero_le _,rfl,Kp.rr,Z3 Wf⟩
 case round =>
  obtain⟨q,hq,rfl,hE,HQ⟩:=hrel;by_cases bY:q<a.length
  · have ag3:q<b.length:=by have:=XC.o;omega
    obtain⟨x,hx⟩:=iT a q bY;obtain⟨y,hy⟩:=iT b q ag3;obtain⟨b1,o1,cs1,rfl, -,rfl, -,mE⟩:=(ha.ext jQ.stays hE).get hx;obtain⟨b2,o2,cs2,rfl, -,rfl, -,yQ⟩:=(hb.ext jQ.stays hE).get hy;rw[Nat.mul_one]at mE yQ;have g1:=fun d=>((Kp.refl _ wr).drewN d:Ext wr _).aD mE.one;have g2:=fun d=>((Kp.refl _ wr).drewN d:Ext wr _).aD yQ.one;have⟨HX,HY,HE⟩:=bg hx hy hE;have pY:(q:Int)<a.length:=by omega
    have hq3:(q:Int)<b.length:=by omega
    clear hx hy mE yQ hE;by_cases hxy:x=y
    · subst hxy;go_wp2_with fail;go_quiet (fail);go_wp2_with fail;refine⟨⟨q+1,by omega,by go_num,HE.o.trans kx,Z3 ?_⟩,by simp[intOf];omega⟩;rw[List.take_add_one,List.take_add_one,HQ.o,HX.o,HY.o]
    · have e2:((x:Int) !=y)=true:=bne_iff_ne.2 hxy;have HV:Zs (decide (a=b)=false):=Z3 (decide_eq_false fun e=>hxy (by
       have h1:=HX.o;rw[e,HY.o]at h1;cases h1;rfl))
      clear hxy;go_wp2_with fail;go_quiet (fail);go_wp2_with fail;go_ret;exact⟨af HV.o.symm,HE.o.trans kx⟩
  · have HV:Zs (decide (a=b)=true):=Z3 (decide_eq_true (by
     have h1:=HQ.o;have h2:=XC.o;rwa[List.take_of_length_le Wg,List.take_of_length_le Wg]at h1))
    have HE:=Z3 hE;clear hE;go_wp2_with fail;go_ret;exact⟨af HV.o.symm,HE.o⟩
theorem ai6:ac8 4:=by
 intro W v zs hb;by_cases hl:zs.length≤1048576;rotate_left
 · obtain⟨va,vc,rfl⟩:=hb.form;have hl':decide ((1048576:Int)<zs.length)=true:=decide_eq_true Wg;have Hw:(1048576:Int)<zs.length:=by omega
   clear hb hl;go_enter Tryz.func4,Tryz.ntmps4;go_wp2_with fail;go_ret;exact⟨rfl,Kp.rr⟩
 have HD:=Z3 (Pn W v zs hb);obtain⟨va,vc,rfl⟩:=hb.form;have Hw:((1048576:Int)<zs.length)=False:=eq_false Wg;clear hb hl;go_enter Tryz.func4,Tryz.ntmps4;go_wp2_with fail;refine HD.o.mono ?_;rintro e w1 ⟨⟨p,pa,pc,n,m,ga,gc,args,rfl,hp,ha,jM⟩,bH⟩;obtain⟨w2,ny,bZ,b2⟩:=nu w1 #[.slice pa p.length pc] 25;have K6:Zs (∀W',Ext w2 W'→SliceOf 2 aB W' (fun b=>b<W'.heap.size) (.slice pa p.length pc) p):=Z3 fun W' yP=>((hp.ext aB.stays bZ).ext aB.stays yP).keep aB.stays (fun _ _ _ _ h=>h) (fun b hb=>by have:=hb.2;have:=bZ.size;have:=yP.size;omega);have zQ:Zs (∀W',Ext w2 W'→SliceOf 1 jQ W' (fun b=>b<W'.heap.size) (.slice ga args.length gc) args):=Z3 fun W' yP=>(((ha.ext jQ.stays bZ).ext jQ.stays yP).inside (fun _ _ _ _ h=>h) Wg).keep jQ.stays (fun _ _ _ _ h=>h) (fun b hb=>hb.2);have acU:Zs (∀(W':World) (x:Value) (q:M.ax) (lk:Bool),SliceOf 2 aB W' (fun b=>b<W'.heap.size) x q→Ext w2 W'→Calls Tryz.prog 8 #[.agg #[x],.bool lk,.int .i64 0,.string n,.string m,.slice ga args.length gc] W' fun e w'=>(∃cs,e=.returned (.agg cs.toArray)∧dU w' (fun b=>W'.heap.size≤b) (M.jC q lk 0 n m args) cs)∧Ext W' w'):=Z3 fun W' x q lk hq yP=>
  acf W' (fun b=>b<W'.heap.size) x q hq (fun _ h=>h) lk 0 n m args ga gc (zQ.o W' yP)
 have⟨mQ,Bi,gL,Ny,HMV⟩:=kL b2 ny (bH.trans bZ) jM (ajk w2 (.slice pa p.length pc) p (K6.o w2 Kp.rr));obtain⟨yz,y0, -⟩:=b2.ca;clear hp ha bH ny bZ b2 jM;go_upto_region 4 with(fail);rw[←Bi.o];go_wp2_with fail;refine HMV.o.mono ?_;rintro e w3 ⟨⟨qa,qn,qc,ok,rfl,hmv⟩,dK⟩;obtain⟨w4,vT,dI,b4⟩:=nu w3 #[.slice qa qn qc] 25;have⟨EN,TK,ajs,kP,HMO⟩:=kL vT (dK.trans dI) dI b4 hmv;obtain⟨zz,z0, -⟩:=b4.ca;clear vT dK dI b4 hmv y0 yz;go_upto_region 5 with(fail);rw[←EN.o];cases ok
 · go_wp2_with (first|(go_at_call 6;refine(aaq _).mono ?_;rintro e w8 ⟨rfl,rfl⟩)|fail);go_ret;exact⟨rfl,gL.o.trans TK.o⟩
 obtain⟨os,rfl,Tj,hq⟩:=HMO.o rfl;have jM:=Ny.o.resolve_left (by simp[M.one]);obtain⟨_,_,e1, -, -⟩:=hq.form;obtain rfl:qn=2:=by injection e1
 clear e1;have HQ4:Zs (∀W',Ext w4 W'→SliceOf 2 aB W' (fun b=>b<W'.heap.size) (.slice qa 2 qc) (M.moved os)):=Z3 fun W' yP=>(hq.ext aB.stays (ajs.o.trans yP)).keep aB.stays (fun _ _ _ _ h=>h) (fun b hb=>by have:=(ajs.o.trans yP).size;have hb:b<w3.heap.size:=hb;omega);have⟨Ny,WK⟩:=aJ jM Tj;clear jM Tj hq HMO;go_wp2_with fail;refine(Wl w4 _ (.slice qa 2 qc) (M.moved os) (HQ4.o w4 Kp.rr)).mono ?_;rintro e w5 ⟨rfl,cZ⟩;obtain⟨kb,hkb⟩:∃b,M.dF (M.moved os)=b:=⟨_,rfl⟩;rw[hkb];have XB:=Z3 hkb;clear hkb;have⟨qE,ajM⟩:=aJ (TK.o.trans cZ) cZ;clear cZ z0 zz;cases kb
 · go_wp2_with (first|(go_at_call 6;refine(aaq _).mono ?_;rintro e w8 ⟨rfl,rfl⟩)|fail);go_ret;exact⟨rfl,gL.o.trans qE.o⟩
 have HNQ:=Z3 fun lk:Bool=>M.aiS Ny.o XB.o WK.o lk n m args;have HRQ:=Z3 fun lk:Bool=>M.ajd Ny.o XB.o WK.o lk n m args (Nat.le_refl 400);go_wp2_with fail;go_loopw [9] (fun i wr=>∃k:Nat,k≤2∧i=.int .i64 k∧Ext w5 wr) (fun i _=>2 - (intOf i).toNat)
 case atStart=>exact⟨0,by omega,rfl,Kp.rr⟩
 case round=>
  obtain⟨k,hk,rfl,hEr⟩:=hrel;have⟨ajc,HER,ai4,HEW⟩:=gD (ajM.o.trans hEr) hEr (qE.o.trans hEr) (gL.o.trans (qE.o.trans hEr));clear hEr;by_cases bY:k<2;rotate_left
  · have dk:¬(k:Int)<2:=by omega
    go_upto_region 20 with(fail);obtain⟨T,f,dA,HT⟩:=iN.ex (fun W'=>Ext wr W') wr Kp.rr;have P0:=fun z=>(mQ.o.ext (ai4.o.trans (HT.aW z))).c 0 (.slice pa (M.one os).length pc) rfl;have Q0:=fun z=>(kP.o.ext (ajc.o.trans (HT.aW z))).c 0 (.slice qa 2 qc) rfl;have aj:=Z3 HT;clear HT;refine eO aj 5 [([0,2],1),([],3)] [4] ?_ ?_
    · exact Kp.rr.drew
    have jq:Ext wr wr.drew:=Kp.rr.drew;generalize wr.drew=wd at jq ⊢;refine iX ?_;intro K2 ag;go_wp2_with fail;refine(Gg wd _ (.slice pa (M.one os).length pc) (M.one os) (K6.o wd (ai4.o.trans jq)) (fun _ h=>h)).mono ?_;rintro e wa ⟨rfl,hEa⟩;obtain⟨q1,Bq⟩:∃q,M.iI (M.one os)=q:=⟨_,rfl⟩;have GR:=Z3 Bq;rw[Bq];clear Bq;have iF:=jq.trans hEa;go_wp2_with fail;refine kk aj ag iF ?_;clear ag K2;refine gZ rfl fun K2 ag=>?_;go_wp2_with fail;refine(Gg wa _ (.slice qa 2 qc) (M.moved os) (HQ4.o wa (ajc.o.trans iF)) (fun _ h=>h)).mono ?_;rintro e wf ⟨rfl,hEf⟩;rw[M.ai8 Ny.o XB.o WK.o,GR.o];have fP:=iF.trans hEf;go_wp2_with fail;refine kk aj ag fP ?_;clear ag K2;refine vI [_] rfl fun K hK=>?_;(repeat (go_big_quiet_step (fail)));refine qn hK ?_;clear hK K;go_wp2_with fail;go_ret;exact⟨rfl,HEW.o.trans fP⟩
  have dk:(k:Int)<2:=by omega
  obtain⟨lk,G6⟩:∃b,((k:Int)==0)=b:=⟨_,rfl⟩;obtain⟨yz,y0, -⟩:=(mQ.o.ext ai4.o).ca;go_wp2_with fail;refine(acU.o wr _ _ lk (K6.o wr ai4.o) ai4.o).mono ?_;rintro e w13 ⟨⟨cs,rfl,hs⟩,dK⟩;obtain⟨s,hsn⟩:∃s,M.jC (M.one os) lk 0 n m args=s:=⟨_,rfl⟩;rw[hsn]at hs;obtain⟨a1,c1,a2,c2,a3,c3,rfl, -, -, -⟩:=hs.form;obtain⟨w14,ajD,Yh,b14⟩:=nu w13 #[.int .i64 s.status,.slice a1 s.frames.length c1,.slice a2 s.heap.length c2,.slice a3 s.outs.length c3,.int .i64 s.back.kind,.int .i64 s.back.n] 40;have HSN:=Z3 hsn;have ajT:Zs (∀W',Ext w14 W'→dU W' (fun b=>b<W'.heap.size) s [.int .i64 s.status,.slice a1 s.frames.length c1,.slice a2 s.heap.length c2,.slice a3 s.outs.length c3,.int .i64 s.back.kind,.int .i64 s.back.n]):=Z3 fun W' yP=>dU.inside (dU.stays _ _ _ _ _ _ (Ext.same (Yh.trans yP)) (fun _ h=>h) hs);have⟨ajJ,ajl,ajW⟩:=bg b14 (dK.trans Yh) ajD;clear hs hsn dK Yh ajD b14 y0 yz;obtain⟨yz,y0, -⟩:=(kP.o.ext (ajc.o.trans ajl.o)).ca;go_upto_region 11 with(fail);rw[←ajW.o];go_wp2_with fail;refine(acU.o w14 _ _ lk (HQ4.o w14 (ajc.o.trans ajl.o)) (ai4.o.trans ajl.o)).mono ?_;rintro e Jf ⟨⟨cs,rfl,ht⟩,cZ⟩;rw[HNQ.o lk,HSN.o]at ht;obtain⟨e1,g1,e2,g2,e3,g3,rfl, -, -, -⟩:=ht.form;simp only[M.fA,List.length_map]at ht ⊢;obtain⟨w16,ajE,dC,b16⟩:=nu Jf #[.int .i64 s.status,.slice e1 s.frames.length g1,.slice e2 s.heap.length g2,.slice e3 s.outs.length g3,.int .i64 s.back.kind,.int .i64 s.back.n] 40;have Fs:=cZ.trans dC;have ajU:Zs (∀W',Ext w16 W'→dU W' (fun b=>b<W'.heap.size) (M.fA M.dn s) [.int .i64 s.status,.slice e1 s.frames.length g1,.slice e2 s.heap.length g2,.slice e3 s.outs.length g3,.int .i64 s.back.kind,.int .i64 s.back.n]):=Z3 fun W' yP=>dU.inside (dU.stays _ _ _ _ _ _ (Ext.same (dC.trans yP)) (fun _ h=>h) ht);have⟨ajp,aaM,kH,ajf,ajX⟩:=kL b16 (ajJ.o.ext Fs) Fs (ajl.o.trans Fs) ajE;clear ht cZ dC Fs ajE b16 y0 yz;obtain⟨sz,s0,s1,s2,s3,s4,s5, -⟩:=(aaM.o).ca;obtain⟨tz,t0,t1,t2,t3,t4,t5, -⟩:=(ajp.o).ca;go_upto_region 12 with(fail);rw[←ajX.o];by_cases h0:s.status=0
  · have k0':(s.status==0)=true:=beq_iff_eq.2 h0;have kne:(s.status !=s.status)=false:=by simp
    clear h0;go_wp2_with (first|(go_at_call 6;refine(aaq _).mono ?_;rintro e w8 ⟨rfl,rfl⟩)|fail);go_ret;exact⟨rfl,HEW.o.trans ajf.o⟩
  have k0':(s.status==0)=false:=beq_eq_false_iff_ne.2 h0;have kne:(s.status !=s.status)=false:=by simp
  clear h0;obtain⟨yz,y0, -⟩:=(mQ.o.ext (ai4.o.trans ajf.o)).ca;go_wp2_with fail;refine(Ww w16 (fun b=>b<w16.heap.size) _ _ (K6.o w16 (ai4.o.trans ajf.o)) (fun _ h=>h) lk s _ (ajT.o w16 kH.o) 400).mono ?_;rintro e w17 ⟨⟨cs,rfl,hx⟩,r9⟩;obtain⟨x,hxn⟩:∃x,M.oQ (M.one os) lk s 400=x:=⟨_,rfl⟩;rw[hxn]at hx;have HXN:=Z3 hxn;obtain⟨b1,d1,b2,d2,b3,d3,rfl, -, -, -⟩:=hx.form;obtain⟨w18,ajF,lK,b18⟩:=nu w17 #[.int .i64 x.status,.slice b1 x.frames.length d1,.slice b2 x.heap.length d2,.slice b3 x.outs.length d3,.int .i64 x.back.kind,.int .i64 x.back.n] 40;have Rc:=r9.trans lK;have aj0:Zs (∀W',Ext w18 W'→SliceOf 1 jQ W' (fun _=>True) (.slice b3 x.outs.length d3) x.outs):=Z3 fun W' yP=>(dU.parts hx).2.2.keep jQ.stays (Ext.same (lK.trans yP)) (fun _ _=>trivial);have⟨ajK,Xt,lJ,ajY,aju,ajV,ajS⟩:=pX b18 (ajp.o.ext Rc) Rc ajF (ajf.o.trans Rc) (ajU.o w18 Rc) (HQ4.o w18 (ajc.o.trans (ajf.o.trans Rc)));clear hx hxn r9 lK Rc ajF b18 y0 yz k0' kne s0 t0 s1 t1 s2 t2 s3 t3 s4 t4 s5 t5 sz tz;obtain⟨tz,t0,t1,t2,t3,t4,t5, -⟩:=(Xt.o).ca;obtain⟨yz,y0, -⟩:=(kP.o.ext (ajc.o.trans aju.o)).ca;go_upto_region 17 with(fail);rw[←ajY.o];go_wp2_with fail;have OP:=Ww w18 (fun b=>b<w18.heap.size) _ _ ajS.o (fun _ h=>h) lk (M.fA M.dn s) _ ajV.o 400;refine OP.mono ?_;rintro e w19 ⟨⟨cs,rfl,hy⟩,nk⟩;have aeN:M.oQ (M.moved os) lk (M.fA M.dn s) 400=M.fA M.dn x:=by
   have:=HRQ.o lk;rw[HNQ.o lk,HSN.o,show((400:Nat):Int)=400 from rfl,HXN.o]at this;exact this
  rw[aeN]at hy;obtain⟨i1,j1,i2,j2,i3,j3,rfl, -, -, -⟩:=hy.form;simp only[M.fA,List.length_map]at hy ⊢;obtain⟨w20,ajG,kK,b20⟩:=nu w19 #[.int .i64 x.status,.slice i1 x.frames.length j1,.slice i2 x.heap.length j2,.slice i3 x.outs.length j3,.int .i64 x.back.kind,.int .i64 x.back.n] 40;have UH:=nk.trans kK;have aj2:Zs (∀W',Ext w20 W'→SliceOf 1 jQ W' (fun _=>True) (.slice i3 x.outs.length j3) x.outs):=Z3 fun W' yP=>(dU.parts hy).2.2.keep jQ.stays (Ext.same (kK.trans yP)) (fun _ _=>trivial);have⟨ajq,ajn,aj1,ajZ,ajt⟩:=kL b20 (ajK.o.ext UH) (aj0.o w20 UH) ajG (aju.o.trans UH);clear hy aeN OP nk kK UH ajG b20 y0 yz t0 t1 t2 t3 t4 t5 tz;obtain⟨xz,x0,x1,x2,x3,x4,x5, -⟩:=(ajn.o).ca;obtain⟨yz,y0,y1,y2,y3,y4,y5, -⟩:=(ajq.o).ca;have kne:(x.status !=x.status)=false:=by simp
  have kna:(x.back.kind !=x.back.kind)=false:=by simp
  have knb:(x.back.n !=x.back.n)=false:=by simp
  go_upto_region 18 with(fail);rw[←ajZ.o];go_wp2_with fail;refine(YR w20 _ _ (.slice b3 x.outs.length d3) (.slice i3 x.outs.length j3) x.outs x.outs aj1.o (aj2.o w20 Kp.rr)).mono ?_;rintro e wa ⟨rfl,hEa⟩;rw[show decide (x.outs=x.outs)=true from decide_eq_true rfl];have HEa:=Z3 hEa;clear x0 y0 x1 y1 x2 y2 x3 y3 x4 y4 x5 y5 xz yz;obtain⟨xz,x0,x1,x2,x3,x4,x5, -⟩:=(ajn.o.ext HEa.o).ca;obtain⟨yz,y0,y1,y2,y3,y4,y5, -⟩:=(ajq.o.ext HEa.o).ca;go_wp2_with fail;go_round
  case rel=>exact⟨k+1,by omega,by go_num,HER.o.trans (ajt.o.trans HEa.o)⟩
  case measure=>simp[intOf];omega
open Go Go.ChangeShapes Go.WideShapes Go.ChangeAt Go.RowKit
theorem Tryz.own:ownKnob Tryz.prog.godebug=none:=by kernel_rfl
theorem Tryz.laidOut:laidOutB Tryz.prog=true:=by kernel_rfl
theorem Og:Tryz.prog.cellsOf 5=1:=by kernel_rfl
theorem bytes_at{H:Type}{enc:TypeId×Value→H}{W:World}{v:Value}{d:DataW H}{p:List MemPlace}(hv:∃a len cap,v=.slice a len cap)(h0:DataW.Trod enc Tryz.prog W 0 (fun _=>true) true 22 v d p):∃zs,BytesAt W v zs:=by
 obtain⟨a0,len,cap,rfl⟩:=hv;obtain⟨fuel,hf⟩:=h0;rcases open_ints Tryz.underlying22 Tryz.underlying5 Og hf with⟨cK,hx⟩|⟨a,len',cap',zs,cK,_,hl,hm,hz,hx,wU,Md⟩
 · simp[Value.cells]at cK;obtain⟨rfl,rfl,rfl⟩:=cK;exact⟨[],.inl ⟨rfl,rfl⟩⟩
 · simp[Value.cells]at cK;obtain⟨rfl,rfl,rfl⟩:=cK;simp only[if_true]at hz;refine⟨zs.take len,.inr ⟨a,cap,by rw[List.length_take,Nat.min_eq_left Wg],by rw[List.length_take];omega,fun i hi=>?_,fun n hn=>?_⟩⟩
   · rw[List.length_take]at hi;have:=wU i Wg;rw[this];congr 2;simp only[List.getD,List.getElem?_take];rw[if_pos Wg]
   · have:=Md n (List.mem_of_mem_take hn);simp[Lit.wf,IntKind.min,IntKind.max,IntKind.bits,IntKind.signed]at this;omega
theorem VF{H:Type}{enc:TypeId×Value→H}{fn:Func}{s:ChangeSpec}{W W':World}{v:Value}{d:DataW H}{before:List MemPlace}(hp:fn.params=#[22])(hr:fn.resultTypes=#[4])(hv:s.vars=[])
    (hs:s.fn H ([d]++[])={results:=[.lit (.bool true)],args:=[d]}) (hW:DataW.Whole enc Tryz.prog fn.params.toList s.vars false W [v] [d] [] before)
    (h0:DataW.Trod enc Tryz.prog W 0 (fun _=>true) true 22 v d before) (hE:Ext W W'):s.post enc Tryz.prog fn false true false false W #[v] (.bool true) W':=by
 have bY:∀x∈before,x.block<W.heap.size:=fun x hx=>by simpa using hW.lt x hx
 have bel:=Ext.Wq hE;refine⟨[d],[],before,[],before,[],hW,?_,?_,?_,bel.frame _,fun h=>by cases h⟩
 · rw[hs,hr];exact trodAll_mk1 (shut_bool Tryz.underlying4 true)
 · rw[hs,hp];exact trodAll_mk1 (Below.trod Tryz.laidOut Wr (of_decide_eq_true Wr) h0 bel bY)
 · rw[hs,hv];exact(rfl:([]:List MemPlace)=[])
end Go.Proofs.YtkmclfpjpajjeaaGreat
namespace Go.Proofs.YtkmclfpjpajjeaaGreat
open Go Go.ChangeShapes Go.WideShapes Go.ChangeAt Go.RowKit
theorem aiT(os:Os)(started:os.Started)(H:Type)(enc:TypeId×Value→H):
    ReturnsInHanded {} Tryz.checked os 4 .any (Rows.fnVmKeepersSpec.pre6 enc Tryz.prog Tryz.f4 Rows.fnVmKeepersRow.domain false) (Rows.fnVmKeepersSpec.post enc Tryz.prog Tryz.f4 false true false false):=by
 refine returnsInHanded_of_change (C:=Tryz.checked) Tryz.own started Wr Tryz.func4
  (ChangeSpec.witness6 (enc:=enc) (C:=Tryz.checked) false ⟨#[],#[.slice none 0 0],[]⟩ 8 Wr Wr Wr Wr) ?_
 intro W base args ds gs before aeF hW hcnd _;have aeE:∀(j:Nat) t v,Tryz.f4.params[j]?=some t→args[j]?=some v→Value.okWide Tryz.prog W .any base t v:=aeF;have yP:=hW;obtain⟨p,q,hA0,hV,rfl,hfz,IW⟩:=hW;have hA:DataW.TrodAll enc Tryz.prog W 0 (fun _=>true) true Tryz.f4.params.toList args.toList ds p:=hA0;rw[Tryz.params4]at hA aeE;obtain⟨v0,d0,rfl,rfl,h0⟩:=trodAll_one hA;obtain⟨rfl,rfl⟩:=trodVars_none hV;simp only[List.append_nil]at yP;obtain⟨zs,hb⟩:=bytes_at (okWide_slice Tryz.underlying22 (aeE 0 22 v0 rfl rfl)) h0;refine(ai6 W v0 zs hb).mono fun e W' ⟨he,hE⟩=>?_;subst he;exact⟨_,rfl,VF (fn:=Tryz.f4) Tryz.params4 rfl rfl rfl yP h0 hE⟩
theorem fnVmKeepers_holds:Rows.FnVmKeepersSaid:=
 OpenClaim.holds_of_wide 4 Tryz.f4 rfl rfl rfl rfl rfl rfl rfl ⟨rfl,rfl,rfl,rfl,rfl⟩ rfl rfl rfl rfl rfl Wr Tryz.func4 Wr
  (of_decide_eq_true Wr) (by unfold Func.isWrapper;rw[if_neg (by decide+kernel)];exact⟨rfl,rfl⟩)
  (fun os started H enc _=>aiT os started H enc)
#print axioms fnVmKeepers_holds
end Go.Proofs.YtkmclfpjpajjeaaGreat
