/- Walks. -/
import Derived.Test.YtmcmhalhieejaaaGreatDoorChgTexta
import Derived.Deep.Quiet
import Derived.Deep.RegionWith
import Derived.Deep.RegionHeld3
import Derived.StillTailTactics
set_option maxRecDepth 100000
set_option maxHeartbeats 4000000
set_option linter.unusedSimpArgs false
set_option linter.unusedVariables false
namespace Go.Proofs.YtmcmhalhieejaaaGreatDoor
open Go Go.RowKit
def Gx(v:M.Val):List Value:=[.int .i64 v.kind,.int .i64 v.n]
def Fh:dD M.Val:=fun _ _ x cs=>cs=Gx x
theorem Fh.stays:eU Fh:=fun _ _ _ _ _ _ _ _ h=>h
def jW(t:M.Tag):List Value:=[.int .i64 t.kind,.string t.name]
theorem nG:Elem 109 133 2:=fT (z:=.agg #[.int .i64 0,.string ⟨#[]⟩]) (bytes:=24) Tryz.underlying109 (by kernel_rfl) rfl (by decide) (by decide)
theorem flat_get{α:Type}{enc:α→List Value}{k:Nat}(zB:∀x,(enc x).length=k):∀(l:List α) (j:Nat) (u:Value),(l.flatMap enc)[j]?=some u→∃i r x,l[i]?=some x∧(enc x)[r]?=some u∧j=i*k+r:=by
 intro l;induction l with
 |nil=>intro j u h;simp at h
 |cons x t ih=>
  intro j u h;rw[List.flatMap_cons]at h;rcases Nat.lt_or_ge j (enc x).length with hj|hj
  · rw[List.getElem?_append_left hj]at h;exact⟨0,j,x,rfl,h,by omega⟩
  · rw[List.getElem?_append_right hj]at h;obtain⟨i,r,y,h1,h2,h3⟩:=ih _ _ h;refine⟨i+1,r,y,by simpa using h1,h2,?_⟩;rw[zB]at h3 hj;rw[Nat.succ_mul];omega
theorem y8{α:Type}{enc:α→List Value}{k:Nat}(zB:∀x,(enc x).length=k)(l:List α):(l.flatMap enc).length=l.length*k:=by
 induction l with
 |nil=>simp
 |cons x t ih=>rw[List.flatMap_cons,List.length_append,ih,zB,List.length_cons,Nat.succ_mul];omega
theorem y9{α:Type}{enc:α→List Value}(h1:∀x,∀u∈enc x,u.oneCell'=true)(l:List α):∀u∈l.flatMap enc,u.oneCell'=true:=by
 intro u hu;obtain⟨x,_,hx⟩:=List.mem_flatMap.1 hu;exact h1 x u hx
theorem SliceOf.flat{α:Type}{k:Nat}{R:dD α}{enc:α→List Value}(hR:∀w I x cs,R w I x cs→cs=enc x)(zB:∀x,(enc x).length=k){w:World}{I:Nat→Prop}{ad:Addr}{n cap:Nat}{xs:List α}
    (h:SliceOf k R w I (.slice (some ad) n cap) xs):∀j u,(xs.flatMap enc)[j]?=some u→w.cell? (ad.add j)=some u:=by
 intro j u hu;obtain⟨i,r,x,h1,h2,rfl⟩:=flat_get zB xs j u hu;obtain⟨b,off,cs,e,_,hr,hl,hc⟩:=h.get h1;cases e;have e2:=hR _ _ _ _ hr;subst e2;have:=hc r u h2;unfold Addr.add;split
 · rename_i h0;have e1:i*k=0:=by omega
   have e3:r=0:=by omega
   rw[e1,e3]at this;exact this
 · simpa [Nat.add_assoc]using this
structure Flat(w:World)(k:Nat)(v:Value)(n:Nat)(xs:List Value):Prop where
 len:xs.length=n*k
 ex:∃a c,v=.slice a n c∧(a=none→n=0)∧∀ad,a=some ad→∀j u,xs[j]?=some u→w.cell? (ad.add j)=some u
 one:∀u∈xs,u.oneCell'=true
theorem SliceOf.toFlat{α:Type}{k:Nat}{R:dD α}{enc:α→List Value}(hR:∀w I x cs,R w I x cs→cs=enc x)(zB:∀x,(enc x).length=k)(h1:∀x,∀u∈enc x,u.oneCell'=true){w:World}{I:Nat→Prop}{v:Value}{xs:List α}
    (h:SliceOf k R w I v xs):Flat w k v xs.length (xs.flatMap enc):=by
 obtain⟨a,c,rfl,_⟩:=h.form;refine⟨y8 zB xs,⟨a,c,rfl,?_,?_⟩,y9 h1 xs⟩
 · rintro rfl;cases xs with
   |nil=>rfl
   |cons x r=>
    obtain⟨_,_,_,e,_⟩:=h.get (i:=0) (x:=x) rfl;cases e
 · rintro ad rfl;exact h.flat hR zB
theorem yS{w:World}{ad:Addr}{v:Value}(h:w.cell? ad=some v):ad.block<w.heap.size:=by
 rcases Nat.lt_or_ge ad.block w.heap.size with h1|h1
 · exact h1
 · simp[World.cell?,Array.getElem?_eq_none h1]at h
theorem Flat.ext{w w':World}{k n:Nat}{v:Value}{xs:List Value}(h:Flat w k v n xs)(hE:Ext w w'):Flat w' k v n xs:=by
 obtain⟨h1,⟨a,c,e,h2,h3⟩,h4⟩:=h;exact⟨h1,⟨a,c,e,h2,fun ad ea j u hu=>(World.cell?_of_block (hE.block _ (yS (h3 ad ea j u hu)) fun x=>x)).trans (h3 ad ea j u hu)⟩,h4⟩
theorem kD{t e k:Nat}(E:Elem t e k)(w:World){ops:Array Oper}{rest:List Oper}{o:Oper}{a:Act}{Q:Exit→Act→World→Prop}(Cu:o.guard=none)(s x:Operand)
    (ho:o.op=.call {callee:=.builtin .append,args:=#[s,x],argTypes:=#[t,t]}) (base:Nat) (v:Value) (n:Nat) (xs:List Value) (hs:a.eval s=v) (jg:w.ownsRow base e k v n xs)
    (ad:Addr) (m c:Nat) (news:List Value) (hx:a.eval x=.slice (some ad) m c) (hf:Flat w k (.slice (some ad) m c) m news)
    (hn:n+m≤8589934592) (iC:base≤w.heap.size)
    (h:∀v' w',w'.ownsRow base e k v' (n+m) (xs++news)→Kp (fun b=>v.ownBlock=some b) w w'→wpList Tryz.prog ops Q rest (a.put o.dst v') w'):
    wpList Tryz.prog ops Q (o::rest) a w:=by
 obtain⟨i,z,bytes,ht,hi,hz,gL,Hj,Hu,hk,hb⟩:=E;obtain⟨f1,⟨a1,c1,e1,_,f2⟩,f3⟩:=hf;cases e1;refine wpList_append_own w Cu s x t ho base e i z k bytes ht hi hz gL Hj Hu hk v n xs hs jg ad m c news hx f1 (f2 ad rfl) f3 (by unfold maxLen;omega) ?_ iC ?_
 · have:(n+m)*bytes≤8589934592*4096:=Nat.mul_le_mul hn hb;omega
 · intro v' w' h2 h3 _;exact h v' w' h2 ⟨h3.os,h3.tape,h3.output,h3.size,fun k hk hd=>h3.block k hk (fun e=>hd e.symm)⟩
theorem aR(W:World)(e k:Nat)(B:Nat)(hB:B≤W.heap.size)(g:Nat)(hg:W.heap.size=g):(W.alloc (.cells #[] e)).ownsRow B e k (.slice (some ⟨g,0,none⟩) 0 0) 0 []:=by
 subst hg;exact⟨by simp,.inr ⟨_,0,#[],rfl,hB,heap_alloc_new W _,Nat.le_refl _,by simp,by simp,by simp⟩⟩
end Go.Proofs.YtmcmhalhieejaaaGreatDoor
namespace Go.Proofs.YtmcmhalhieejaaaGreatDoor
open Go Go.RowKit
def gI(s:ByteArray):List Value:=[.string s]
def aY:dD ByteArray:=fun _ _ x cs=>cs=gI x
theorem aY.stays:eU aY:=fun _ _ _ _ _ _ _ _ h=>h
theorem rD(x:ByteArray):∀u∈gI x,u.oneCell'=true:=by simp[gI,Value.oneCell']
theorem nE:Elem 43 9 1:=fT (z:=.string ⟨#[]⟩) (bytes:=16) Tryz.underlying43 (by kernel_rfl) rfl (by decide) (by decide)
namespace M
theorem Dn(a b:List UInt8):bs a++bs b=bs (a++b):=by
 apply ByteArray.ext;apply Array.toList_inj.1;simp[bs]
theorem Dp(s:ByteArray)(k:Nat)(h:k<s.size):s.extract k (k+1)=bs [s[k]]:=by
 apply ByteArray.ext;apply Array.toList_inj.1;rw[Lib.extract_data];have hl:k<s.data.toList.length:=by simpa using h
 rw[List.drop_eq_getElem_cons hl];simp[bs];rfl
theorem vN{s:ByteArray}{k:Nat}(h:k<s.size):s.data.toList.drop k=s[k]::s.data.toList.drop (k+1):=by
 have hl:k<s.data.toList.length:=by simpa using h
 rw[List.drop_eq_getElem_cons hl];rfl
end M
theorem jJ (s : ByteArray) (w : World) (hs : s.size ≤ 4000000000) :
    Calls Tryz.prog 20 #[.string s] w fun e w'=>(∃v,e=.returned v∧SliceOf 1 aY w' (fun b=>w.heap.size≤b∧b<w'.heap.size) v (M.words s))∧Ext w w':=by
 have hO:(w.alloc (.cells #[] 9)).ownsRow w.heap.size 9 1 (.slice (some ⟨w.heap.size,0,none⟩) 0 0) 0 []:=aR w 9 1 w.heap.size (Nat.le_refl _) _ rfl;have HO:=Zy hO;clear hO;go_enter Tryz.func20,Tryz.ntmps20;go_wp2_with fail;go_loopw [3,4,5] (fun o c i wr=>∃(k:Nat) (cur:List UInt8) (ps:List ByteArray),k≤s.size∧i=.int .i64 k∧c=.string (M.bs cur)∧cur.length≤k∧ps.length≤k∧Zz (ps.map (·.data.toList)++M.aU cur (s.data.toList.drop k)=M.aU [] s.data.toList)∧
     wr.ownsRow w.heap.size 9 1 o ps.length (ps.flatMap gI)∧Ext w wr) (fun _ _ i _=>s.size - (intOf i).toNat)
 case atStart=>exact⟨0,[],[],Nat.zero_le _,rfl,rfl,Nat.le_refl _,Nat.le_refl _,Zy (by simp),HO.o,(Kp.refl _ _).alloc _⟩
 case round =>
  obtain⟨k,cur,ps,hk,rfl,rfl,o7,Gf,HW,jg,hE⟩:=hrel;obtain⟨oa,oc,rfl⟩:=jD jg;have ET:=Zy jg;have HE:=Zy hE;clear jg hE;have FV:=kG cur;by_cases dI:k<s.size
  · have kY:=Zy (M.vN dI);by_cases Ol:((s[k]).toNat:Int)=32
    · go_wp2_with (refine ah nE rfl (.tmp 17) (.tmp 19) rfl w.heap.size (.slice oa ps.length oc) ps.length (ps.flatMap gI) rfl (aD (D:=fun _=>False) ET.o ((Kp.refl _ _).alloc _) fun _ _ _ x=>x) wr.heap.size 1 (gI (M.bs cur)) rfl rfl (af.bN _ _ rfl) (rD _) (by omega) (by have:=HE.o.size;simp;omega) ?_;rintro g9 c9 w9 nN j6 Ct);have kX:Ext w w9:=Kp.own (HE.o.alloc _) j6 (fun b hb=>(dZ ET.o hb).1);go_round
      case rel=>
       refine⟨k+1,[],ps++[M.bs cur],by omega,by go_num,rfl,by simp,by simp;omega,Zy ?_,by simpa using nN,kX⟩;have h1:s[k]=32:=by
        apply UInt8.toNat_inj.1;simp;omega
       have h2:=HW.o;rw[kY.o,M.aU,if_pos h1]at h2;rw[←h2];simp[M.bs]
      case measure=>simp[intOf];omega
    · have hx:=M.Dp s k dI;have yD:=kG [s[k]];simp only[List.length_singleton]at yD;go_wp2_with fail;go_round
      case rel=>
       refine⟨k+1,cur++[s[k]],ps,by omega,by go_num,by rw[M.Dn],by simp;omega,by omega,Zy ?_,ET.o,HE.o⟩;have h1:s[k]≠32:=fun e=>Ol (by rw[e];rfl);have h2:=HW.o;rw[kY.o,M.aU,if_neg h1]at h2;exact h2
      case measure=>simp[intOf];omega
  · go_wp2_with (refine ah nE rfl (.tmp 28) (.tmp 30) rfl w.heap.size (.slice oa ps.length oc) ps.length (ps.flatMap gI) rfl (aD (D:=fun _=>False) ET.o ((Kp.refl _ _).alloc _) fun _ _ _ x=>x) wr.heap.size 1 (gI (M.bs cur)) rfl rfl (af.bN _ _ rfl) (rD _) (by omega) (by have:=HE.o.size;simp;omega) ?_;rintro g9 c9 w9 nN j6 Ct);have kX:Ext w w9:=Kp.own (HE.o.alloc _) j6 (fun b hb=>(dZ ET.o hb).1);go_ret;refine⟨⟨_,rfl,?_⟩,kX⟩;have Bo:k=s.size:=by omega
    have h2:=HW.o;rw[Bo,List.drop_of_length_le (by simp),M.aU]at h2;have hw:M.words s=ps++[M.bs cur]:=by
     unfold M.words;rw[←h2,List.map_append,List.map_map];congr 1;exact List.map_id _
    rw[hw];have h3:=SliceOf.kP (R:=aY) (I:=fun b=>w.heap.size≤b∧b<w9.heap.size) gI (l:=ps++[M.bs cur]) nN (by simp) (by simp) (fun _ _=>rfl) (fun _ _=>rfl) (fun b h1 h2=>⟨h1,h2⟩) (by simp;omega);simpa using h3
end Go.Proofs.YtmcmhalhieejaaaGreatDoor
namespace Go.Proofs.YtmcmhalhieejaaaGreatDoor
open Go Go.RowKit
namespace M
def bC(nm su:ByteArray)(n1 n2:Nat):Bool:=decide (nm=none_)&&(decide (su=none_)&&(decide (n1=0)&&decide (n2=0)))
end M
theorem BJ(nm su:ByteArray)(a1:Option Addr)(n1 c1:Nat)(a2:Option Addr)(n2 c2:Nat)(w:World):
    Calls Tryz.prog 28 #[.agg #[.string nm,.string su,.slice a1 n1 c1,.slice a2 n2 c2]] w fun e w'=>e=.returned (.bool (M.bC nm su n1 n2))∧Ext w w':=by
 unfold M.bC;rw[←aX nm,←aX su];cases h1:nm.toList.isEmpty
 · go_enter Tryz.func28,Tryz.ntmps28;go_wp2_with fail;go_ret;exact⟨rfl,(by repeat (first|with_reducible exact Kp.refl _ _|with_reducible assumption|with_reducible refine Kp.alloc ?_ _|with_reducible refine Kp.drew ?_|with_reducible refine Kp.drewN ?_ _|with_reducible refine Kp.setCell ?_ (fun h=>absurd h (by simp<;>omega)) _|with_reducible refine Kp.trans ?_ (by with_reducible assumption)|exact Kp.refl _ _|assumption|refine Kp.alloc ?_ _|refine Kp.drew ?_|refine Kp.drewN ?_ _|(refine Kp.setCell ?_ (fun h=>absurd h (by simp;done)) _)|(refine Kp.setCell ?_ (fun h=>absurd h (by simp;omega)) _)|refine Kp.trans ?_ (by assumption)))⟩
 cases h2:su.toList.isEmpty
 · go_enter Tryz.func28,Tryz.ntmps28;go_wp2_with fail;go_ret;exact⟨rfl,(by repeat (first|with_reducible exact Kp.refl _ _|with_reducible assumption|with_reducible refine Kp.alloc ?_ _|with_reducible refine Kp.drew ?_|with_reducible refine Kp.drewN ?_ _|with_reducible refine Kp.setCell ?_ (fun h=>absurd h (by simp<;>omega)) _|with_reducible refine Kp.trans ?_ (by with_reducible assumption)|exact Kp.refl _ _|assumption|refine Kp.alloc ?_ _|refine Kp.drew ?_|refine Kp.drewN ?_ _|(refine Kp.setCell ?_ (fun h=>absurd h (by simp;done)) _)|(refine Kp.setCell ?_ (fun h=>absurd h (by simp;omega)) _)|refine Kp.trans ?_ (by assumption)))⟩
 by_cases h3:n1=0
 · subst h3;by_cases h4:n2=0
   · subst h4;go_enter Tryz.func28,Tryz.ntmps28;go_wp2_with fail;go_ret;exact⟨rfl,(by repeat (first|with_reducible exact Kp.refl _ _|with_reducible assumption|with_reducible refine Kp.alloc ?_ _|with_reducible refine Kp.drew ?_|with_reducible refine Kp.drewN ?_ _|with_reducible refine Kp.setCell ?_ (fun h=>absurd h (by simp<;>omega)) _|with_reducible refine Kp.trans ?_ (by with_reducible assumption)|exact Kp.refl _ _|assumption|refine Kp.alloc ?_ _|refine Kp.drew ?_|refine Kp.drewN ?_ _|(refine Kp.setCell ?_ (fun h=>absurd h (by simp;done)) _)|(refine Kp.setCell ?_ (fun h=>absurd h (by simp;omega)) _)|refine Kp.trans ?_ (by assumption)))⟩
   · have Pg:((n2:Int)==0)=false:=beq_eq_false_iff_ne.2 (by omega);have H4:Zz (decide (n2=0)=false):=Zy (decide_eq_false h4);clear h4;go_enter Tryz.func28,Tryz.ntmps28;go_wp2_with fail;go_ret;exact⟨by rw[H4.o];rfl,(by repeat (first|with_reducible exact Kp.refl _ _|with_reducible assumption|with_reducible refine Kp.alloc ?_ _|with_reducible refine Kp.drew ?_|with_reducible refine Kp.drewN ?_ _|with_reducible refine Kp.setCell ?_ (fun h=>absurd h (by simp<;>omega)) _|with_reducible refine Kp.trans ?_ (by with_reducible assumption)|exact Kp.refl _ _|assumption|refine Kp.alloc ?_ _|refine Kp.drew ?_|refine Kp.drewN ?_ _|(refine Kp.setCell ?_ (fun h=>absurd h (by simp;done)) _)|(refine Kp.setCell ?_ (fun h=>absurd h (by simp;omega)) _)|refine Kp.trans ?_ (by assumption)))⟩
 · have Jp:((n1:Int)==0)=false:=beq_eq_false_iff_ne.2 (by omega);have H3:Zz (decide (n1=0)=false):=Zy (decide_eq_false h3);clear h3;go_enter Tryz.func28,Tryz.ntmps28;go_wp2_with fail;go_ret;exact⟨by rw[H3.o];rfl,(by repeat (first|with_reducible exact Kp.refl _ _|with_reducible assumption|with_reducible refine Kp.alloc ?_ _|with_reducible refine Kp.drew ?_|with_reducible refine Kp.drewN ?_ _|with_reducible refine Kp.setCell ?_ (fun h=>absurd h (by simp<;>omega)) _|with_reducible refine Kp.trans ?_ (by with_reducible assumption)|exact Kp.refl _ _|assumption|refine Kp.alloc ?_ _|refine Kp.drew ?_|refine Kp.drewN ?_ _|(refine Kp.setCell ?_ (fun h=>absurd h (by simp;done)) _)|(refine Kp.setCell ?_ (fun h=>absurd h (by simp;omega)) _)|refine Kp.trans ?_ (by assumption)))⟩
def jv(c:M.mf)(nm su:ByteArray)(a1:Option Addr)(n1 c1:Nat)(a2:Option Addr)(n2 c2:Nat):List Value:=
 [.int .i64 c.kind,.int .i64 c.keeper,.string c.name,.int .i64 c.dst,.string nm,.string su,.slice a1 n1 c1,.slice a2 n2 c2]
theorem qF(c:M.mf)(jc:c.kind≠1)(nm su:ByteArray)(a1:Option Addr)(n1 c1:Nat)(a2:Option Addr)(n2 c2:Nat)(w:World):
    Calls Tryz.prog 12 #[.agg (jv c nm su a1 n1 c1 a2 n2 c2).toArray] w fun e w'=>e=.returned (.bool (M.bP c&&M.bC nm su n1 n2))∧Ext w w':=by
 obtain⟨kind,keeper,name,dst⟩:=c;simp only[jv]at jc ⊢;obtain⟨w0,bB,bH,hb⟩:=nu w #[.int .i64 kind,.int .i64 keeper,.string name,.int .i64 dst,.string nm,.string su,.slice a1 n1 c1,.slice a2 n2 c2] 28;have aZ:=Zy bH;have HB:=Zy hb;have bZ:=Zy bB;clear bH hb bB;have N9:(kind !=1)=true:=by simpa using jc
 have JG:(kind==1)=false:=beq_eq_false_iff_ne.2 jc;have HV:Zz (M.bP ⟨kind,keeper,name,dst⟩=((decide (0≤keeper)&&decide (keeper≤2))&&(M.aB name&&(if kind=3 then decide (0≤dst)&&decide (dst≤2)else(decide (kind=2)|| decide (kind=4))&&decide (dst=0))))):=Zy (by unfold M.bP;rw[Bool.and_assoc]);have c0:=HB.o.c 0 (.int .i64 kind) rfl;have c1':=HB.o.c 1 (.int .i64 keeper) rfl;have c2':=HB.o.c 2 (.string name) rfl;have c3:=HB.o.c 3 (.int .i64 dst) rfl;have c4:=HB.o.c 4 (.string nm) rfl;have c5:=HB.o.c 5 (.string su) rfl;have c6:=HB.o.c 6 (.slice a1 n1 c1) rfl;have c7:=HB.o.c 7 (.slice a2 n2 c2) rfl;have cz:=HB.o.lt;have mI:=fun W=>Zy (dO keeper 0 2 W);have ik:=fun W=>Zy (aJ name W);cases h1:(decide (0≤keeper)&&decide (keeper≤2))
 · simp only[h1]at mI HV;go_enter Tryz.func12,Tryz.ntmps12;go_wp2_with fail;rw[←bZ.o];refine(mI w0).o.mono ?_;rintro e w1 ⟨rfl,rfl⟩;go_wp2_with fail;go_ret;exact⟨by rw[HV.o];rfl,aZ.o⟩
 cases h2:M.aB name
 · simp only[h1,h2]at mI ik HV;go_enter Tryz.func12,Tryz.ntmps12;go_wp2_with fail;rw[←bZ.o];refine(mI w0).o.mono ?_;rintro e w1 ⟨rfl,rfl⟩;go_wp2_with fail;refine(ik w0).o.mono ?_;rintro e w1 ⟨rfl,rfl⟩;go_wp2_with fail;go_ret;exact⟨by rw[HV.o];rfl,aZ.o⟩
 simp only[h1,h2]at mI ik HV;have jb:=fun W=>Zy (BJ nm su a1 n1 c1 a2 n2 c2 W);cases h3:M.bC nm su n1 n2
 · simp only[h3]at jb;have HR:Zz ((M.bP ⟨kind,keeper,name,dst⟩&&false)=false):=Zy (Bool.and_false _);go_enter Tryz.func12,Tryz.ntmps12;go_wp2_with fail;rw[←bZ.o];refine(mI w0).o.mono ?_;rintro e w1 ⟨rfl,rfl⟩;go_wp2_with fail;refine(ik w0).o.mono ?_;rintro e w1 ⟨rfl,rfl⟩;go_wp2_with fail;refine(jb w0).o.mono ?_;rintro e w1 ⟨rfl,aQ⟩;have bf:=HB.o.ext aQ;have d0:=bf.c 0 (.int .i64 kind) rfl;have d3:=bf.c 3 (.int .i64 dst) rfl;have dz:=bf.lt;have bM:=Zy (aZ.o.trans aQ);clear bf aQ;go_wp2_with fail;go_ret;exact⟨by rw[HR.o];rfl,bM.o⟩
 simp only[h3]at jb;rw[Bool.and_true];by_cases Bp:kind=3
 · have JH:(kind==3)=true:=beq_iff_eq.2 Bp;have HR:Zz (M.bP ⟨kind,keeper,name,dst⟩=(decide (0≤dst)&&decide (dst≤2))):=Zy (by rw[HV.o,if_pos Bp];rfl);have Iq:=fun W=>Zy (dO dst 0 2 W);clear Bp jc;go_enter Tryz.func12,Tryz.ntmps12;go_wp2_with fail;rw[←bZ.o];refine(mI w0).o.mono ?_;rintro e w1 ⟨rfl,rfl⟩;go_wp2_with fail;refine(ik w0).o.mono ?_;rintro e w1 ⟨rfl,rfl⟩;go_wp2_with fail;refine(jb w0).o.mono ?_;rintro e w1 ⟨rfl,aQ⟩;have bf:=HB.o.ext aQ;have d0:=bf.c 0 (.int .i64 kind) rfl;have d3:=bf.c 3 (.int .i64 dst) rfl;have dz:=bf.lt;have bM:=Zy (aZ.o.trans aQ);clear bf aQ;go_wp2_with fail;refine(Iq w1).o.mono ?_;rintro e w2 ⟨rfl,rfl⟩;go_wp2_with fail;go_ret;exact⟨by rw[HR.o];rfl,bM.o⟩
 have JH:(kind==3)=false:=beq_eq_false_iff_ne.2 Bp;have HR:Zz (M.bP ⟨kind,keeper,name,dst⟩=((decide (kind=2)|| decide (kind=4))&&decide (dst=0))):=Zy (by rw[HV.o,if_neg Bp];rfl);cases h4:(kind==2)
 · cases h5:(kind==4)
   · have yK:Zz (M.bP ⟨kind,keeper,name,dst⟩=false):=Zy (by rw[HR.o,decide_eq_false (beq_eq_false_iff_ne.1 h4),decide_eq_false (beq_eq_false_iff_ne.1 h5)];rfl);clear Bp jc;go_enter Tryz.func12,Tryz.ntmps12;go_wp2_with fail;rw[←bZ.o];refine(mI w0).o.mono ?_;rintro e w1 ⟨rfl,rfl⟩;go_wp2_with fail;refine(ik w0).o.mono ?_;rintro e w1 ⟨rfl,rfl⟩;go_wp2_with fail;refine(jb w0).o.mono ?_;rintro e w1 ⟨rfl,aQ⟩;have bf:=HB.o.ext aQ;have d0:=bf.c 0 (.int .i64 kind) rfl;have d3:=bf.c 3 (.int .i64 dst) rfl;have dz:=bf.lt;have bM:=Zy (aZ.o.trans aQ);clear bf aQ;go_wp2_with fail;go_ret;exact⟨by rw[yK.o];rfl,bM.o⟩
   · cases h6:(dst==0)
     all_goals
      have yK:Zz (M.bP ⟨kind,keeper,name,dst⟩=(dst==0)):=Zy (by rw[HR.o,decide_eq_true (beq_iff_eq.1 h5),Bool.or_true,Bool.true_and];by_cases e:dst=0<;>simp[e]);rw[h6]at yK;clear Bp jc;go_enter Tryz.func12,Tryz.ntmps12;go_wp2_with fail;rw[←bZ.o];refine(mI w0).o.mono ?_;rintro e w1 ⟨rfl,rfl⟩;go_wp2_with fail;refine(ik w0).o.mono ?_;rintro e w1 ⟨rfl,rfl⟩;go_wp2_with fail;refine(jb w0).o.mono ?_;rintro e w1 ⟨rfl,aQ⟩;have bf:=HB.o.ext aQ;have d0:=bf.c 0 (.int .i64 kind) rfl;have d3:=bf.c 3 (.int .i64 dst) rfl;have dz:=bf.lt;have bM:=Zy (aZ.o.trans aQ);clear bf aQ;go_wp2_with fail;go_ret;exact⟨by rw[yK.o];rfl,bM.o⟩
 · cases h6:(dst==0)
   all_goals
    have yK:Zz (M.bP ⟨kind,keeper,name,dst⟩=(dst==0)):=Zy (by rw[HR.o,decide_eq_true (beq_iff_eq.1 h4),Bool.true_or,Bool.true_and];by_cases e:dst=0<;>simp[e]);rw[h6]at yK;clear Bp jc;go_enter Tryz.func12,Tryz.ntmps12;go_wp2_with fail;rw[←bZ.o];refine(mI w0).o.mono ?_;rintro e w1 ⟨rfl,rfl⟩;go_wp2_with fail;refine(ik w0).o.mono ?_;rintro e w1 ⟨rfl,rfl⟩;go_wp2_with fail;refine(jb w0).o.mono ?_;rintro e w1 ⟨rfl,aQ⟩;have bf:=HB.o.ext aQ;have d0:=bf.c 0 (.int .i64 kind) rfl;have d3:=bf.c 3 (.int .i64 dst) rfl;have dz:=bf.lt;have bM:=Zy (aZ.o.trans aQ);clear bf aQ;go_wp2_with fail;go_ret;exact⟨by rw[yK.o];rfl,bM.o⟩
end Go.Proofs.YtmcmhalhieejaaaGreatDoor
namespace Go.Proofs.YtmcmhalhieejaaaGreatDoor
open Go Go.RowKit
structure jS(C:World→Prop)(T:Type)(f:T→World):Prop where
 aK:∀s,C (f s)
 o:∀W,C W→∃s,W=f s
theorem jS.ex(C:World→Prop)(w:World)(h:C w):∃(T:Type) (f:T→World),Nonempty T∧jS C T f:=⟨{W:World // C W},Subtype.val,⟨⟨w,h⟩⟩,fun s=>s.2,fun W h=>⟨⟨W,h⟩,rfl⟩⟩
theorem xU{P:Program}{id:Nat}{Q:Exit→Act→World→Prop}{a:Act}{w:World}{l:List Oper}{T:Type}(f:T→World)(h0:∃s,w.drew=f s)(hm:P.follows .mixedOrders=true)(hB:Region.lexB .any l.toArray=true)
    (h:wpQuiet P l.toArray (fun w'=>∃s,w'=f s) (fun a'=>∀w',(∃s,w'=f s)→Q .normal a' w') l a):(Code.region id l.toArray true).wp P Q a w:=
 wp_region_quiet (C:=fun w'=>∃s,w'=f s) hm hB h0 (by simpa using h)
theorem qn{P:Program}{ops:Array Oper}{C:World→Prop}{K A:Act→Prop}{a:Act}(hK:∀a',A a'→K a')(h:A a):wpQuiet P ops C K [] a:=wpQuiet_nil (hK _ h)
theorem AQ{P:Program}{ops:Array Oper}{C:World→Prop}{K A B:Act→Prop}{a:Act}(hK:∀a',A a'→B a'→K a')(h:A a)(h2:B a):wpQuiet P ops C K [] a:=wpQuiet_nil (hK _ h h2)
theorem kk{C:World→Prop}{T:Type}{f:T→World}{K2 R:Act→World→Prop}{a:Act}{w:World}(H:Zz (jS C T f))(au:∀a'' w',(∃s,w'=f s)→R a'' w'→K2 a'' w')(h:C w)(h2:R a w):K2 a w:=au _ _ (H.o.o _ h) h2
theorem xV{P:Program}{id:Nat}{Q:Exit→Act→World→Prop}{a:Act}{w:World}{l:List Oper}{C:World→Prop}{T:Type}{f:T→World}(H:Zz (jS C T f))(h0:C w.drew)
    (h:wpQuiet P l.toArray (fun w'=>∃s,w'=f s) (fun a'=>∀w',(∃s,w'=f s)→Q .normal a' w') l a) (hm:P.follows .mixedOrders=true:=by kernel_rfl) (hB:Region.lexB .any l.toArray=true:=by kernel_rfl):(Code.region id l.toArray true).wp P Q a w:=
 xU f (H.o.o _ h0) hm hB h
end Go.Proofs.YtmcmhalhieejaaaGreatDoor
namespace Go.Proofs.YtmcmhalhieejaaaGreatDoor
open Go Go.RowKit
def nZ(o:Oper):Bool:=
 match o.op with
 | .move _| .assign _| .load _ _| .fieldAddr _ _ _| .indexAddr _ _ _| .binOp _ _ _ _ _| .unOp _ _ _| .field _ _ _| .build _ _| .extract _ _| .slice _ _ _ _ _| .nilCheck _| .index _ _ _| .pick _ _ _=>true
 | .call c=>(match c.callee with| .builtin .len=>true|_=>false)
 |_=>false
theorem tN{P:Program}{w w':World}{s:Sem Value}{f:FuncId}{args:Array Value}:Sem.run P (do pure (Next.value (←s)):Sem Next) w≠ .ok (.enter f args) w':=by
 simp only[Sem.run_bind];cases Sem.run P s w<;>simp[Result.andThen]
theorem fC{α:Type}{P:Program}{w w':World}{s:Sem α}{k:α→Sem Next}{f:FuncId}{args:Array Value}(h:∀x w1,Sem.run P (k x) w1≠ .ok (.enter f args) w'):Sem.run P (s>>= k) w≠ .ok (.enter f args) w':=by
 rw[Sem.run_bind];cases Sem.run P s w with
 |ok x w1=>exact h x w1
 |halt _ _=>simp[Result.andThen]
theorem rF{P:Program}{o:Oper}(h:nZ o=true)(a:Act)(w w':World)(f:FuncId)(args:Array Value):(execOp a.eval o).run P w≠ .ok (.enter f args) w':=by
 unfold nZ at h;unfold execOp;split at h
 any_goals (rename_i he;simp only[he];first|exact tN|(simp;done))
 case h_12=>
  rename_i he;simp only[he];split
  any_goals (first|(simp;done)|(simp[runtimePanic];done))
  split
  any_goals (first|(simp;done)|(simp[runtimePanic];done))
  refine fC fun _ _=>fC fun _ _=>?_;split
  · refine fC fun _ _=>?_;simp
  · simp
 case h_14=>
  rename_i he;simp only[he];refine fC fun _ _=>?_;simp
 case h_15=>
  rename_i c he;simp only[he];split at h
  · rename_i hc;simp only[resolve,hc,Sem.run_bind,Sem.run_pure,Result.andThen_ok,invoke,builtin];cases Sem.run P (Builtin.len_ c.argTypes o.type (Array.map a.eval c.args)) w<;>simp[Result.andThen]
  · cases h
 case h_16=>cases h
section
variable {P:Program} {ops:Array Oper} {md:Region.Mode} {Q:Exit→Act→World→Prop} {C:World→Prop} {n:Nat}
def dY(P:Program)(ops:Array Oper)(C:World→Prop)(o:Oper)(v:Value)(a:Act):Prop:=
 (Region.wanted o (yielded ops a.tmps)=true∧∀w,C w→(execOp a.eval o).run P w=.ok (.value v) w∨((execOp a.eval o).run P w=.ok .skip w∧v=undef))∨
 (Region.wanted o (yielded ops a.tmps)=false∧v=undef)
theorem lQ{o:Oper}{a:Act}{K:Act→Prop}(hp:nZ o=true)(h:if Region.wanted o (yielded ops a.tmps)then o.quiet P a C K else K (a.put o.dst undef)):∃v,dY P ops C o v a∧K (a.put o.dst v):=by
 cases hw:Region.wanted o (yielded ops a.tmps)
 · rw[hw]at h;exact⟨undef,.inr ⟨hw,rfl⟩,by simpa using h⟩
 · rw[hw]at h;obtain⟨v,h1,h2⟩:o.quiet P a C K:=by simpa using h
   refine⟨v,.inl ⟨hw,fun w hw'=>?_⟩,h2⟩;have h3:=h1 w hw';unfold Oper.quietAt at h3;generalize hr:(execOp a.eval o).run P w=r at h3;unfold Oper.quietUpon at h3;split at h3
   · obtain⟨rfl,rfl⟩:=h3;exact .inl rfl
   · obtain⟨rfl,rfl⟩:=h3;exact .inr ⟨rfl,rfl⟩
   · exact absurd hr (rF hp a _ _ _ _)
   · exact h3.elim
theorem dY.wpOp{i:Nat}{o:Oper}{v:Value}{a:Act}(hi:ops[i]?=some o)(hy:dY P ops C o v a){K:Act→World→Prop}{w:World}(hC:C w)(h:K (a.put o.dst v) w):wpOp P ops Q i K a w:=by
 unfold Go.wpOp;simp only[hi];rcases hy with⟨hw,hv⟩|⟨hw,rfl⟩
 · simp only[hw,if_true];rcases hv w hC with e|⟨e,rfl⟩
   · simp only[Oper.wp,e,Oper.upon];exact .inl h
   · simp only[Oper.wp,e,Oper.upon];exact .inl h
 · simp only[hw,Bool.false_eq_true,if_false];exact h
theorem dY.of_same{o:Oper}{v:Value}{a a':Act}(hy:dY P ops C o v a)(he:execOp a'.eval o=execOp a.eval o)
    (hw:Region.wanted o (yielded ops a'.tmps)=Region.wanted o (yielded ops a.tmps)):dY P ops C o v a':=by
 unfold dY at*;rw[he,hw];exact hy
theorem yn{j:Nat}{oi oj:Oper}{v:Value}(hj:ops[j]?=some oj)(NR:oi.apart ops oj=true)
    (Oj:∀cs b,oi.op≠ .select cs b) (Mf:∀cs b,oj.op≠ .select cs b)
    (hQ:∀c a w,Q (.panic c) (a.put oi.dst v) w→Q (.panic c) a w) {K:Act→World→Prop} {a:Act} {w:World}
    (hy:dY P ops C oi v a) (h:wpOp P ops Q j K (a.put oi.dst v) w):
    wpOp P ops Q j (fun a' w'=>dY P ops C oi v a'∧K (a'.put oi.dst v) w') a w:=by
 obtain⟨h1,h2,h3⟩:=Oper.apart_spec NR;have keep:∀(a:Act),dY P ops C oi v a→∀u,dY P ops C oi v (a.put oj.dst u):=fun a hy u=>
  hy.of_same (execOp_put oi Oj a oj.dst u h3) (wanted_put oi a oj.dst u h3)
 have keepD:∀d,dY P ops C oi v {a with defers:=d::a.defers}:=fun d=>hy.of_same rfl rfl;unfold wpOp at*;simp only[hj]at*;rw[wanted_put oj a oi.dst v h1]at h;split
 · rename_i hw;simp only[hw,if_true]at h;rcases h with h|⟨Cq,F6⟩
   case inr=>exact .inr ⟨by unfold Oper.asks at*;rw[execOp_put oj Mf a oi.dst v h1]at Cq;exact Cq,F6⟩
   refine .inl ?_;unfold Oper.wp at*;rw[execOp_put oj Mf a oi.dst v h1]at h;generalize (execOp a.eval oj).run P w=r at*;cases r with
   | ok n w' =>
    cases n<;>simp only[Oper.upon]at h ⊢
    case value u=>exact⟨keep a hy u,by rw[←Act.put_comm a v u h2];exact h⟩
    case skip=>exact⟨keep a hy _,by rw[←Act.put_comm a v undef h2];exact h⟩
    case defer d=>
     refine⟨keep _ (keepD d) _,?_⟩;rw[←Act.put_comm _ v undef h2,←Act.put_defers];exact h
    case enter f args=>
     refine Calls.mono h fun e w'' he=>?_;cases e with
     |returned u=>exact⟨keep a hy u,by rw[←Act.put_comm a v u h2];exact he⟩
     |panicked c=>exact hQ _ _ _ he
     |outgrown=>exact he
    case row row args=>exact Rows.mono h fun u w'' he=>⟨keep a hy u,by rw[←Act.put_comm a v u h2];exact he⟩
   |halt x w'=>
    cases x<;>simp only[Oper.upon]at h ⊢
    case panic u=>exact hQ _ _ _ h
 · rename_i hw;simp only[hw]at h;exact⟨keep a hy _,by rw[←Act.put_comm a v undef h2];exact h⟩
def gZ(P:Program)(md:Region.Mode)(ops:Array Oper)(n:Nat)(C:World→Prop)(Q:Exit→Act→World→Prop):Nat→Array Bool→Act→World→Prop
 |0,listed,a,w=>Region.ready md ops listed=[]∧Q .normal a w
 |fuel+1,listed,a,w=>
  (Region.ready md ops listed=[]→Q .normal a w)∧
  ∀i∈Region.ready md ops listed,wpOp P ops Q i (fun a' w'=>(i<n→C w')∧gZ P md ops n C Q fuel (listed.setIfInBounds i true) a' w') a w
theorem ja:∀(fuel:Nat) (listed:Array Bool) (a:Act) (w:World),gZ P md ops n C Q fuel listed a w→wpAny P md ops Q fuel listed a w
 |0,_,_,_,h=>h
 |fuel+1,_,_,_,h=>⟨h.1,fun i hi=>wpOp_mono (fun a' w' h'=>ja fuel _ a' w' h'.2) (h.2 i hi)⟩
theorem rV {i : Nat} {oi : Oper} {v : Value} (hi : ops[i]? = some oi) (Gi : ∀ (j : Nat) (o : Oper) cs b, ops[j]? = some o → o.op ≠ .select cs b)
    (hQ:∀c a w,Q (.panic c) (a.put oi.dst v) w→Q (.panic c) a w) (Gm:∀j,n≤j→Region.waitsFor md ops j i=true∨ops[j]?=none):
    ∀(fuel:Nat) (listed:Array Bool) (a:Act) (w:World),
     (∀j oj,ops[j]?=some oj→j≠i→listed.getD j true=false→(∀e∈oj.after,Region.binds md e=true→e.on≠i)→oi.apart ops oj=true)→
     i∈Region.ready md ops listed→dY P ops C oi v a→C w→i<n→
     gZ P md ops n C Q fuel (listed.setIfInBounds i true) (a.put oi.dst v) w→gZ P md ops n C Q (fuel+1) listed a w:=by
 intro fuel;induction fuel with
 |zero=>
  intro listed a w _ hr hy hC xx H;refine⟨fun h=>(by rw[h]at hr;cases hr),fun j hj=>?_⟩;by_cases yB:j=i
  · subst yB;exact hy.wpOp hi hC ⟨fun _=>hC,H⟩
  · have:=ready_mono hj yB;rw[H.1]at this;cases this
 | succ fuel ih =>
  intro listed a w Cr hr hy hC xx H;refine⟨fun h=>(by rw[h]at hr;cases hr),fun j hj=>?_⟩;by_cases yB:j=i
  · subst yB;exact hy.wpOp hi hC ⟨fun _=>hC,H⟩
  · have h1:=H.2 j (ready_mono hj yB);obtain⟨FX,oj,AL,gF⟩:=mem_ready.1 hj;have Gb:∀e∈oj.after,Region.binds md e=true→e.on≠i:=fun e he hb heq=>by
     have h1:=gF e he hb;have h0:=(mem_ready.1 hr).1;rw[heq]at h1;rcases Nat.lt_or_ge i listed.size with h'|h'
     · simp[h']at h0 h1;rw[h0]at h1;cases h1
     · simp[Array.getElem?_eq_none h']at h1
    have DR:j<n:=by
     rcases Nat.lt_or_ge j n with h|h
     · exact h
     · rcases Gm j h with hw|hw
       · obtain⟨oj',zF,e,he,hb,heq⟩:=Region.waitsFor_spec hw;rw[AL]at zF;cases zF;exact absurd heq (Gb e he hb)
       · rw[AL]at hw;cases hw
    have h2:=yn AL (Cr j oj AL yB FX Gb) (fun cs b=>Gi i oi cs b hi) (fun cs b=>Gi j oj cs b AL) hQ hy h1;have DL:∀k ok,ops[k]?=some ok→k≠i→(listed.setIfInBounds j true).getD k true=false→
        (∀e∈ok.after,Region.binds md e=true→e.on≠i)→oi.apart ops ok=true:=fun k ok hk Oa Mj Br=>by
     refine Cr k ok hk Oa ?_ Br;by_cases LW:j=k
     · subst LW;exact FX
     · rw[getD_set_ne true LW]at Mj;exact Mj
    refine wpOp_mono (fun a' w' h3=>⟨fun _=>h3.2.1 DR,ih (listed.setIfInBounds j true) a' w' DL (ready_mono hr (Ne.symm yB)) h3.1 (h3.2.1 DR) xx ?_⟩) h2;rw[Array.setIfInBounds_comm _ _ yB];exact h3.2.2
def BF(md:Region.Mode)(ops:Array Oper)(n:Nat):List Nat→Array Bool→Option (Array Bool)
 |[],listed=>some listed
 |i::q,listed=>
  if decide (i<n)&&(Region.ready md ops listed).contains i&&Region.free md ops listed i&&((ops[i]?).map nZ).getD false then BF md ops n q (listed.setIfInBounds i true)else none
def zV(md:Region.Mode)(ops:Array Oper)(n:Nat):List (List Nat×Nat)→List Nat→Array Bool→Bool
 |[],q,listed=>match BF md ops n q listed with
  |some L=>Region.seqB md ops (ops.size - n) n L
  |none=>false
 |(q,i)::r,q',listed=>match BF md ops n q listed with
  |some L=>decide (Region.ready md ops L=[i])&&decide (i<n)&&zV md ops n r q' (L.setIfInBounds i true)
  |none=>false
def costs:List (List Nat×Nat)→List Nat→Nat
 |[],q=>q.length
 |(q,_)::r,q'=>q.length+1+costs r q'
def l9(md:Region.Mode)(ops:Array Oper)(n:Nat):Bool:=(List.range ops.size).all fun j=>decide (j<n)|| (List.range n).all fun i=>Region.waitsFor md ops j i
def zi(ops:Array Oper)(n:Nat)(ku:List (List Nat×Nat))(q:List Nat):Bool:=
 Region.noSelect ops&&l9 .any ops n&&decide (costs ku q=n)&&decide (n≤ops.size)&&zV .any ops n ku q (Array.replicate ops.size false)
def iJ(P:Program)(l:List Oper)(C:World→Prop)(Q:Exit→Act→World→Prop)(fin:Act→World→Prop):List (List Nat×Nat)→List Nat→Act→World→Prop
 |[],q,a,w=>wpQuiet P l.toArray C (fun a'=>fin a' w) (q.filterMap (l[·]?)) a
 |(q,i)::r,q',a,w=>wpQuiet P l.toArray C (fun a'=>wpList P l.toArray (Exit.then (fun a'' w'=>C w'∧iJ P l C Q fin r q' a'' w') Q) (l[i]?).toList a' w) (q.filterMap (l[·]?)) a
theorem qJ(h:l9 md ops n=true){i:Nat}(hi:i<n)(j:Nat)(hj:n≤j):Region.waitsFor md ops j i=true∨ops[j]?=none:=by
 rcases Nat.lt_or_ge j ops.size with dI|Hl
 · unfold l9 at h;have h1:=List.all_eq_true.1 h j (List.mem_range.2 dI);simp only[Bool.or_eq_true,decide_eq_true_eq,List.all_eq_true]at h1;rcases h1 with h1|h1
   · omega
   · exact .inl (h1 i (List.mem_range.2 hi))
 · exact .inr (Array.getElem?_eq_none Hl)
theorem fq{l:List Oper}(hs:Region.noSelect l.toArray=true)(ht:l9 md l.toArray n=true)(hQ:∀c a d v w,Q (.panic c) (a.put d v) w→Q (.panic c) a w){K:Act→Prop}{w:World}(hC:C w)(fuel:Nat)(L:Array Bool)
    (hK:∀a',K a'→gZ P md l.toArray n C Q fuel L a' w):∀(q:List Nat) (listed:Array Bool) (a:Act),BF md l.toArray n q listed=some L→
    wpQuiet P l.toArray C K (q.filterMap (l[·]?)) a→gZ P md l.toArray n C Q (fuel+q.length) listed a w
 |[],listed,a,ho,h=>by
  simp only[BF,Option.some.injEq]at ho;subst ho;exact hK a h
 | i :: q, listed, a, ho, h => by
  unfold BF at ho;split at ho
  · rename_i hb;simp only[Bool.and_eq_true,decide_eq_true_eq]at hb;obtain⟨⟨⟨h1,h2⟩,h3⟩,h4⟩:=hb;cases uX:l[i]? with
    |none=>simp[uX]at h4
    |some o=>
     have xA:l.toArray[i]?=some o:=by simpa using uX
     have hp:nZ o=true:=by simpa [uX]using h4
     rw[List.filterMap_cons,uX]at h;simp only[wpQuiet]at h;obtain⟨v,hy,hk⟩:=lQ hp h;have:=fq hs ht hQ hC fuel L hK q _ _ ho hk;exact rV xA (Region.noSelect_spec hs) (fun c a w=>hQ c a _ _ w) (qJ ht h1) _ _ _ _ (Region.free_spec xA h3) (by simpa using h2) hy hC h1 this
  · cases ho
theorem iX{l:List Oper}:∀(t:List Oper) (k:Nat) (listed:Array Bool) (a:Act) (w:World),n≤k→(∀j,t[j]?=l[k+j]?)→
    Region.seqB md l.toArray t.length k listed=true→wpList P l.toArray Q t a w→gZ P md l.toArray n C Q t.length listed a w
 |[],_,_,_,_,_,_,hB,h=>⟨by simpa [Region.seqB]using hB,h⟩
 |o::t,k,listed,a,w,hk,hl,hB,h=>by
  have h0:l.toArray[k]?=some o:=by simpa using(hl 0).symm
  simp only[List.length_cons,Region.seqB,Bool.and_eq_true,decide_eq_true_eq]at hB;refine⟨fun h1=>(by rw[hB.1]at h1;cases h1),fun i hi=>?_⟩;rw[hB.1]at hi;have N7:i=k:=by simpa using hi
  subst N7;have hw:wpOp P l.toArray Q i (wpList P l.toArray Q t) a w:=by unfold wpOp;simp only[h0];exact h
  exact wpOp_mono (fun a' w' h'=>⟨fun dI=>absurd dI (Nat.not_lt.2 hk),iX t (i+1) _ a' w' (by omega) (fun j=>by have:=hl (j+1);simpa [Nat.add_assoc,Nat.add_comm 1 j]using this) hB.2 h'⟩) hw
theorem wR{o:Oper}{a:Act}{w:World}{next K:Act→World→Prop}(h:o.wp P a w next (Exit.then K Q)):o.wp P a w next Q:=by
 unfold Oper.wp at*;generalize (execOp a.eval o).run P w=r at*;cases r with
 | ok n w' =>
  cases n<;>simp only[Oper.upon]at h ⊢
  case value u=>exact h
  case skip=>exact h
  case defer d=>exact h
  case enter f args=>
   refine Calls.mono h fun e w'' he=>?_;cases e with
   |returned u=>exact he
   |panicked c=>exact he
   |outgrown=>exact he
  case row row args=>exact h
 |halt x w'=>
  cases x<;>simp only[Oper.upon]at h ⊢
  case panic u=>exact h
theorem qB{l:List Oper}(hs:Region.noSelect l.toArray=true)(ht:l9 md l.toArray n=true)(hQ:∀c a d v w,Q (.panic c) (a.put d v) w→Q (.panic c) a w)(hn:n≤l.length):∀(ku:List (List Nat×Nat)) (q':List Nat) (listed:Array Bool) (a:Act) (w:World),C w→
    zV md l.toArray n ku q' listed=true→iJ P l C Q (fun a' w'=>wpList P l.toArray Q (l.drop n) a' w') ku q' a w→gZ P md l.toArray n C Q ((l.length - n)+costs ku q') listed a w
 |[],q',listed,a,w,hC,hB,h=>by
  unfold zV at hB;split at hB
  · rename_i L hL;refine fq hs ht hQ hC _ L (fun a' hk=>?_) q' listed a hL h;have:=iX (md:=md) (C:=C) (l:=l) (l.drop n) n L a' w (Nat.le_refl _) (fun j=>by simp[List.getElem?_drop]) (by simpa using hB) hk;simpa using this
  · cases hB
 | (q, i) :: r, q', listed, a, w, hC, hB, h => by
  unfold zV at hB;split at hB
  · rename_i L hL;simp only[Bool.and_eq_true,decide_eq_true_eq]at hB;obtain⟨⟨hr,xx⟩,hB⟩:=hB;have e:l.length - n+costs ((q,i)::r) q'=((l.length - n+costs r q')+1)+q.length:=by simp[costs];omega
    rw[e];refine fq hs ht hQ hC _ L (fun a' hk=>?_) q listed a hL h;refine⟨fun h1=>(by rw[hr]at h1;cases h1),fun j hj=>?_⟩;rw[hr]at hj;have yB:j=i:=by simpa using hj
    subst yB;cases uX:l[j]? with
    |none=>
     exfalso;have:j∈Region.ready md l.toArray L:=by rw[hr];simp
     obtain⟨_,o,ho,_⟩:=mem_ready.1 this;simp[uX]at ho
    | some o =>
     rw[uX]at hk;simp only[Option.toList,wpList]at hk;unfold wpOp;have xA:l.toArray[j]?=some o:=by simpa using uX
     simp only[xA];have step:∀a'' w',C w'∧iJ P l C Q (fun a' w'=>wpList P l.toArray Q (l.drop n) a' w') r q' a'' w'→(j<n→C w')∧gZ P md l.toArray n C Q (l.length - n+costs r q') (L.setIfInBounds j true) a'' w':=
      fun a'' w' h3=>⟨fun _=>h3.1,qB hs ht hQ hn r q' _ a'' w' h3.1 hB h3.2⟩
     split
     · rename_i hw;rw[if_pos hw]at hk;rcases hk with hk|hk
       · left;exact Oper.wp_mono (fun a'' w' h'=>step a'' w' h') (wR hk)
       · right;exact hk
     · rename_i hw;rw[if_neg hw]at hk;exact step _ _ hk
  · cases hB
end
theorem ym{P:Program}{l:List Oper}{C:World→Prop}{Q:Exit→Act→World→Prop}{fin:Act→World→Prop}{q:List Nat}{a:Act}{w:World}{qs:List Oper}(he:q.filterMap (l[·]?)=qs)
    (h:∀K:Act→Prop,(∀a',fin a' w→K a')→wpQuiet P l.toArray C K qs a):iJ P l C Q fin [] q a w:=by
 subst he;exact h _ fun _ h=>h
theorem vO{P:Program}{l:List Oper}{C:World→Prop}{Q:Exit→Act→World→Prop}{fin:Act→World→Prop}{q:List Nat}{i:Nat}{r:List (List Nat×Nat)}{q':List Nat}{a:Act}{w:World}{qs os:List Oper}(he:q.filterMap (l[·]?)=qs)(ho:(l[i]?).toList=os)
    (h:∀K:Act→Prop,(∀a',(∀K2:Act→World→Prop,(∀a'' w',C w'→iJ P l C Q fin r q' a'' w'→K2 a'' w')→wpList P l.toArray (Exit.then K2 Q) os a' w)→K a')→wpQuiet P l.toArray C K qs a):iJ P l C Q fin ((q,i)::r) q' a w:=by
 subst he ho;refine h _ fun a' h2=>?_;exact h2 _ fun _ _ h3 h4=>⟨h3,h4⟩
theorem vD{P:Program}{id:Nat}{Q:Exit→Act→World→Prop}{a:Act}{w:World}{l:List Oper}{T:Type}(f:T→World)(n:Nat)(ku:List (List Nat×Nat))(q:List Nat)(h0:∃s,w.drew=f s)(hm:P.follows .mixedOrders=true)(hB:zi l.toArray n ku q=true)
    (hQ:∀c a d v w,Q (.panic c) (a.put d v) w→Q (.panic c) a w)
    (h:iJ P l (fun w'=>∃s,w'=f s) Q (fun a' w'=>wpList P l.toArray Q (l.drop n) a' w') ku q a w.drew):(Code.region id l.toArray true).wp P Q a w:=by
 unfold zi at hB;simp only[Bool.and_eq_true,decide_eq_true_eq]at hB;obtain⟨⟨⟨⟨h1,h2⟩,h3⟩,h4⟩,h5⟩:=hB;refine wp_region_any hm (ja (C:=fun w'=>∃s,w'=f s) (n:=n) _ _ _ _ ?_);have:=qB (C:=fun w'=>∃s,w'=f s) (md:=.any) h1 h2 hQ (by simpa using h4) ku q _ a w.drew h0 h5 h;have e:l.length - n+costs ku q=l.toArray.size:=by
  have:n≤l.length:=by simpa using h4
  simp;omega
 rw[e]at this;exact this
section
variable {P:Program} {l:List Oper} {C:World→Prop} {Q:Exit→Act→World→Prop} {fin:Act→World→Prop} {q:List Nat} {i j:Nat} {q':List Nat} {r:List (List Nat×Nat)} {a:Act} {w:World} {o o2:Oper}
theorem dR(qs:List Oper)(he:q.filterMap (l[·]?)=qs)(ho:(l[i]?).toList=[o])(h:∀K:Act→Prop,(∀a',(∀K2:Act→World→Prop,(∀a'' w',C w'→iJ P l C Q fin r q' a'' w'→K2 a'' w')→wpList P l.toArray (Exit.then K2 Q) [o] a' w)→K a')→wpQuiet P l.toArray C K qs a):iJ P l C Q fin ((q,i)::r) q' a w:=vO he ho h
theorem qC(qs:List Oper)(he:q.filterMap (l[·]?)=qs)(h:∀K:Act→Prop,(∀a',fin a' w→K a')→wpQuiet P l.toArray C K qs a):iJ P l C Q fin [] q a w:=ym he h
theorem jC(h:fin a w):iJ P l C Q fin [] [] a w:=qC [] rfl fun _ hK=>qn hK h
theorem fG{d:List Oper}{Q':Exit→Act→World→Prop}(qs:List Oper)(he:q.filterMap (l[·]?)=qs)(hd:d=[])(h:∀K:Act→Prop,(∀a',Q' .normal a' w→K a')→wpQuiet P l.toArray C K qs a):iJ P l C Q (fun a' w'=>wpList P l.toArray Q' d a' w') [] q a w:=by
 subst hd;exact qC qs he h
end
theorem ji{P:Program}{id:Nat}{Q:Exit→Act→World→Prop}{a:Act}{w:World}{l:List Oper}{C:World→Prop}{T:Type}{f:T→World}(H:Zz (jS C T f))(n:Nat)(ku:List (List Nat×Nat))(q:List Nat)(h0:C w.drew)
    (h:iJ P l (fun w'=>∃s,w'=f s) Q (fun a' w'=>wpList P l.toArray Q (l.drop n) a' w') ku q a w.drew) (hm:P.follows .mixedOrders=true:=by kernel_rfl) (hB:zi l.toArray n ku q=true:=by kernel_rfl)
    (hQ:∀c a d v w,Q (.panic c) (a.put d v) w→Q (.panic c) a w:=by exact fun _ _ d _ _ h=>by cases d<;>exact h):(Code.region id l.toArray true).wp P Q a w:=vD f n ku q (H.o.o _ h0) hm hB hQ h
end Go.Proofs.YtmcmhalhieejaaaGreatDoor
namespace Go.Proofs.YtmcmhalhieejaaaGreatDoor
open Go Go.RowKit
theorem fI(n:Int):(M.bs (M.digit n)).size=1:=rfl
theorem iH{s:ByteArray}(h:M.aB s=true):s.size≤6:=by
 unfold M.aB at h;simp only[Bool.and_eq_true,decide_eq_true_eq]at h;omega
namespace M
end M
def dL(c:M.mf)(n:Bool):ByteArray:=if(M.bP c&&n)=true then M.bs (M.bO c)else M.bs []
theorem vZ{keeper:Int}{name t:ByteArray}(pre:List UInt8)(ht:t=M.bs (M.digit keeper)):
    M.bs pre++(M.bs [32]++t++M.bs [32]++name)=M.bs (pre++32::(M.digit keeper++32::name.data.toList)):=by
 subst ht;apply ByteArray.ext;apply Array.toList_inj.1;simp[M.bs]
theorem xn{keeper dst:Int}{name t u:ByteArray}(pre:List UInt8)(ht:t=M.bs (M.digit keeper))(hu:u=M.bs (M.digit dst)):
    M.bs pre++(M.bs [32]++t++M.bs [32]++name)++M.bs [32]++u=M.bs (pre++32::(M.digit keeper++32::(name.data.toList++32::M.digit dst))):=by
 subst ht hu;apply ByteArray.ext;apply Array.toList_inj.1;simp[M.bs]
theorem bY(c:M.mf)(jc:c.kind≠1)(nm su:ByteArray)(a1:Option Addr)(n1 c1:Nat)(a2:Option Addr)(n2 c2:Nat)(w:World):
    Calls Tryz.prog 9 #[.agg (jv c nm su a1 n1 c1 a2 n2 c2).toArray] w fun e w'=>e=.returned (.string (dL c (M.bC nm su n1 n2)))∧Ext w w':=by
 have uY:=fun W=>qF c jc nm su a1 n1 c1 a2 n2 c2 W;obtain⟨kind,keeper,name,dst⟩:=c;simp only[jv]at jc uY ⊢;obtain⟨w0,bB,bH,hb⟩:=nu w #[.int .i64 kind,.int .i64 keeper,.string name,.int .i64 dst,.string nm,.string su,.slice a1 n1 c1,.slice a2 n2 c2] 28;have aZ:=Zy bH;have HB:=Zy hb;have bZ:=Zy bB;clear bH hb bB;have yI:=fun W=>Zy (uY W);clear uY;cases hB:(M.bP ⟨kind,keeper,name,dst⟩&&M.bC nm su n1 n2)
 · rw[hB]at yI;have HR:Zz (dL ⟨kind,keeper,name,dst⟩ (M.bC nm su n1 n2)=M.bs []):=Zy (by unfold dL;rw[hB];rfl);go_enter Tryz.func9,Tryz.ntmps9;go_wp2_with fail;rw[←bZ.o];refine(yI w0).o.mono ?_;rintro e w1 ⟨rfl,aQ⟩;go_wp2_with fail;go_ret;exact⟨by rw[HR.o];rfl,aZ.o.trans aQ⟩
 rw[hB]at yI;have HR:Zz (dL ⟨kind,keeper,name,dst⟩ (M.bC nm su n1 n2)=M.bs (M.bO ⟨kind,keeper,name,dst⟩)):=Zy (by unfold dL;rw[hB];rfl);obtain⟨g0,g2,gn,gk⟩:=M.bA (Bool.and_eq_true_iff.1 hB).1;simp only at g0 g2 gn gk;have JR:=iH gn;have GN:=Zy gn;clear gn;have Au:=fun W=>Zy (jI keeper W (by omega) (by omega));go_enter Tryz.func9,Tryz.ntmps9;go_wp2_with fail;rw[←bZ.o];refine(yI w0).o.mono ?_;rintro e w1 ⟨rfl,aQ⟩;have gJ:=Zy (HB.o.ext aQ);have bM:=Zy (aZ.o.trans aQ);clear aQ;obtain⟨T,f,fZ,HT⟩:=jS.ex (fun W'=>Ext w1 W') w1 (Kp.refl _ _);have r1:=fun z=>(gJ.o.ext (HT.aK z)).c 1 (.int .i64 keeper) rfl;have r2:=fun z=>(gJ.o.ext (HT.aK z)).c 2 (.string name) rfl;have ay:=Zy HT;clear HT;go_wp2_with fail;(refine ji ay 8 [([0,1,5,6],2)] [3,4,7] ?_ ?_)
 · exact(Kp.refl _ _).drew
 (refine dR [_,_,_,_] rfl rfl fun K hK=>?_);(repeat (go_big_quiet_step (fail)));(refine qn hK fun K2 au=>?_);clear hK K;go_wp2_with fail;refine(Au _).o.mono ?_;rintro e w2 ⟨⟨t,rfl,ht, -⟩,dm⟩;obtain rfl:=ht g0 g2;have bX:Zz (Ext w1 w2):=Zy (((Kp.refl _ _).drew:Ext w1 w1.drew).trans dm);clear dm ht;have yD:=fI keeper;go_wp2_with fail;(refine kk ay au bX.o ?_);clear au K2;(refine qC [_,_,_] rfl fun K hK=>?_);(repeat (go_big_quiet_step (fail)));(refine qn hK ?_);clear hK K;have c0:=(gJ.o.ext bX.o).c 0 (.int .i64 kind) rfl;have c3:=(gJ.o.ext bX.o).c 3 (.int .i64 dst) rfl;have cz:=(gJ.o.ext bX.o).lt;have mi:=Zy (bM.o.trans bX.o);clear r1 r2 ay hB;rcases gk with⟨hk,Jn,Jo⟩|⟨hk|hk, -⟩
 · subst hk;have hl:M.bO ⟨3,keeper,name,dst⟩=M.ny++32::(M.digit keeper++32::(name.data.toList++32::M.digit dst)):=by simp[M.bO]
   have HL:=Zy hl;clear hl;have Ou:=fI dst;go_wp2_with fail;refine(jI dst w2 (by omega) (by omega)).mono ?_;rintro e w3 ⟨⟨u,rfl,hu, -⟩,dX⟩;obtain rfl:=hu Jn Jo;go_wp2_with fail;go_ret;exact⟨by rw[HR.o,HL.o,←xn (name:=name) M.ny rfl rfl];rfl,mi.o.trans dX⟩
 · subst hk;have hl:M.bO ⟨2,keeper,name,dst⟩=M.jL++32::(M.digit keeper++32::name.data.toList):=by simp[M.bO]
   have HL:=Zy hl;clear hl;go_wp2_with fail;go_ret;exact⟨by rw[HR.o,HL.o,←vZ (name:=name) M.jL rfl];rfl,mi.o⟩
 · subst hk;have hl:M.bO ⟨4,keeper,name,dst⟩=M.jy++32::(M.digit keeper++32::name.data.toList):=by simp[M.bO]
   have HL:=Zy hl;clear hl;go_wp2_with fail;go_ret;exact⟨by rw[HR.o,HL.o,←vZ (name:=name) M.jy rfl];rfl,mi.o⟩
end Go.Proofs.YtmcmhalhieejaaaGreatDoor
namespace Go.Proofs.YtmcmhalhieejaaaGreatDoor
open Go Go.RowKit
namespace M
def kindOf(x:ByteArray):Int:=if x=bs jL then 2 else if x=bs ny then 3 else if x=bs jy then 4 else 0
theorem l5:kindOf (bs jL)=2:=if_pos rfl
theorem nO:kindOf (bs ny)=3:=by decide+kernel
theorem lZ:kindOf (bs jy)=4:=by decide+kernel
theorem gY{c:mf}{s:ByteArray}(h:bP c=true)(hs:aL c=s):
    (c.kind=2∧c.dst=0∧words s=[bs jL,bs (digit c.keeper),c.name])∨(c.kind=3∧words s=[bs ny,bs (digit c.keeper),c.name,bs (digit c.dst)])∨(c.kind=4∧c.dst=0∧words s=[bs jy,bs (digit c.keeper),c.name]):=by
 subst hs;rcases(bA h).2.2.2 with⟨hk, -⟩|⟨hk|hk,hd⟩
 · exact .inr (.inl ⟨hk,lN h hk⟩)
 · exact .inl ⟨hk,hd,kC h hk⟩
 · exact .inr (.inr ⟨hk,hd,ky h hk⟩)
theorem dV{c:mf}{s:ByteArray}(hw:(words s).length≠1)(h:aL c=s):Says s (some c):=⟨uK h hw,h⟩
theorem bW{s x0 x1 x2:ByteArray}{n:Int}{ok:Bool}(hw:words s=[x0,x1,x2])(h1:Reads x1 n ok)(Br:ok=false∨aL ⟨kindOf x0,n,x2,0⟩≠s):Says s none:=by
 rintro⟨c,hc,hs⟩;obtain⟨g0,g2, -⟩:=bA hc;obtain⟨k,p,nm,d⟩:=c;rcases gY hc hs with⟨hk,hd,hx⟩|⟨hk,hx⟩|⟨hk,hd,hx⟩
 · rw[hw]at hx;simp only[List.cons.injEq,and_true]at hx hk hd g0 g2;obtain⟨rfl,rfl,rfl⟩:=hx;obtain⟨rfl,rfl⟩:=h1.2 p g0 g2 rfl;subst hk hd;rw[l5]at Br;exact Br.elim (fun e=>by cases e) (fun e=>e hs)
 · rw[hw]at hx;simp at hx
 · rw[hw]at hx;simp only[List.cons.injEq,and_true]at hx hk hd g0 g2;obtain⟨rfl,rfl,rfl⟩:=hx;obtain⟨rfl,rfl⟩:=h1.2 p g0 g2 rfl;subst hk hd;rw[lZ]at Br;exact Br.elim (fun e=>by cases e) (fun e=>e hs)
theorem bR{s x0 x1 x2 x3:ByteArray}{n m:Int}{ok wM:Bool}(hw:words s=[x0,x1,x2,x3])(h1:Reads x1 n ok)(h3:Reads x3 m wM)(Br:ok=false∨wM=false∨aL ⟨kindOf x0,n,x2,m⟩≠s):Says s none:=by
 rintro⟨c,hc,hs⟩;obtain⟨g0,g2, -,g4⟩:=bA hc;obtain⟨k,p,nm,d⟩:=c;rcases gY hc hs with⟨hk,hd,hx⟩|⟨hk,hx⟩|⟨hk,hd,hx⟩
 · rw[hw]at hx;simp at hx
 · rw[hw]at hx;simp only[List.cons.injEq,and_true]at hx hk g0 g2 g4;obtain⟨rfl,rfl,rfl,rfl⟩:=hx;obtain⟨rfl,rfl⟩:=h1.2 p g0 g2 rfl;obtain⟨rfl,rfl⟩:=h3.2 d (by omega) (by omega) rfl;subst hk;rw[nO]at Br;exact Br.elim (fun e=>by cases e) (fun e=>e.elim (fun e=>by cases e) (fun e=>e hs))
 · rw[hw]at hx;simp at hx
theorem rG{s x0 x1 x2 x3:ByteArray}{n:Int}(hw:words s=[x0,x1,x2,x3])(h1:Reads x1 n false):Says s none:=by
 rintro⟨c,hc,hs⟩;obtain⟨g0,g2, -⟩:=bA hc;rcases gY hc hs with⟨-, -,hx⟩|⟨-,hx⟩|⟨-, -,hx⟩<;>rw[hw]at hx
 · simp at hx
 · simp only[List.cons.injEq,and_true]at hx;exact absurd (h1.2 _ g0 g2 hx.2.1).2 (by simp)
 · simp at hx
theorem oC{s:ByteArray}(h:(words s).length<3∨4<(words s).length):Says s none:=by
 rintro⟨c,hc,hs⟩;rcases gY hc hs with⟨-, -,hx⟩|⟨-,hx⟩|⟨-, -,hx⟩<;>rw[hx]at h<;>simp at h
theorem iI{s x0:ByteArray}{r:List ByteArray}(hw:words s=x0::r)(h:(kindOf x0=0)∨(kindOf x0=3∧r.length≠3)∨(kindOf x0=2∧r.length≠2)∨(kindOf x0=4∧r.length≠2)):Says s none:=by
 rintro⟨c,hc,hs⟩;rcases gY hc hs with⟨-, -,hx⟩|⟨-,hx⟩|⟨-, -,hx⟩<;>rw[hw]at hx<;>obtain⟨rfl,rfl⟩:=List.cons.inj hx
 · rw[l5]at h;simp at h
 · rw[nO]at h;simp at h
 · rw[lZ]at h;simp at h
end M
theorem rR(s:ByteArray)(w:World)(hs:s.size≤4000000000):
    Calls Tryz.prog 21 #[.string s] w fun e w'=>(∃n b,e=.returned (.tuple #[.int .i64 n,.bool b])∧M.Reads s n b)∧Ext w w':=by
 by_cases h:∃d,0≤d∧d≤2∧s=M.bs (M.digit d)
 · obtain⟨d,h0,h2,rfl⟩:=h;refine(pW d h0 h2 w).mono ?_;rintro e w1 ⟨rfl,hE⟩;exact⟨⟨_,_,rfl,fun _ _ _=>rfl,fun d' g0 g2 hd=>⟨(M.iy g0 g2 h0 h2 (M.j3 hd)),rfl⟩⟩,hE⟩
 · refine(dW s w hs).mono ?_;rintro e w1 ⟨⟨n,b,rfl,hr, -⟩,hE⟩;exact⟨⟨_,_,rfl,hr,fun d g0 g2 hd=>absurd ⟨d,g0,g2,hd⟩ h⟩,hE⟩
theorem aY.three{w:World}{I:Nat→Prop}{a:Option Addr}{c:Nat}{x y z:ByteArray}(h:SliceOf 1 aY w I (.slice a 3 c) [x,y,z]):
    ∃b off,a=some ⟨b,off,none⟩∧w.cell? ⟨b,off,none⟩=some (.string x)∧w.cell? ⟨b,off+1,none⟩=some (.string y)∧w.cell? ⟨b,off+2,none⟩=some (.string z)∧3≤c:=by
 obtain⟨b,off,cs,e, -,rfl, -,h0⟩:=h.get (i:=0) rfl;obtain⟨b1,Kc,cs1,e1, -,rfl, -,h1⟩:=h.get (i:=1) rfl;obtain⟨b2,Ke,cs2,e2, -,rfl, -,h2⟩:=h.get (i:=2) rfl;rw[e]at e1 e2;cases e1;cases e2;obtain⟨a',c',e3,hc, -⟩:=h.form;cases e3;exact⟨b,off,e,by simpa using h0.one,by simpa using h1.one,by simpa using h2.one,hc⟩
theorem aY.four{w:World}{I:Nat→Prop}{a:Option Addr}{c:Nat}{x y z u:ByteArray}(h:SliceOf 1 aY w I (.slice a 4 c) [x,y,z,u]):
    ∃b off,a=some ⟨b,off,none⟩∧w.cell? ⟨b,off,none⟩=some (.string x)∧w.cell? ⟨b,off+1,none⟩=some (.string y)∧w.cell? ⟨b,off+2,none⟩=some (.string z)∧w.cell? ⟨b,off+3,none⟩=some (.string u)∧4≤c:=by
 obtain⟨b,off,cs,e, -,rfl, -,h0⟩:=h.get (i:=0) rfl;obtain⟨b1,Kc,cs1,e1, -,rfl, -,h1⟩:=h.get (i:=1) rfl;obtain⟨b2,Ke,cs2,e2, -,rfl, -,h2⟩:=h.get (i:=2) rfl;obtain⟨b3,OD,Pb,e3, -,rfl, -,h3⟩:=h.get (i:=3) rfl;rw[e]at e1 e2 e3;cases e1;cases e2;cases e3;obtain⟨a',c',e4,hc, -⟩:=h.form;cases e4;exact⟨b,off,e,by simpa using h0.one,by simpa using h1.one,by simpa using h2.one,by simpa using h3.one,hc⟩
end Go.Proofs.YtmcmhalhieejaaaGreatDoor
namespace Go.Proofs.YtmcmhalhieejaaaGreatDoor
open Go Go.RowKit
theorem Kp.aI{D:Nat→Prop}{w:World}{b:Nat}(hD:D b)(v0 v1 v2 v3 v4 v5 v6 v7:Value):Kp D w ((((((((w.setCell ⟨b,0,none⟩ v0).setCell ⟨b,1,none⟩ v1).setCell ⟨b,2,none⟩ v2).setCell ⟨b,3,none⟩ v3).setCell ⟨b,4,none⟩ v4).setCell ⟨b,5,none⟩ v5).setCell ⟨b,6,none⟩ v6).setCell ⟨b,7,none⟩ v7):=
 (((((((((Kp.refl D w).setCell (p:=⟨b,0,none⟩) (fun _=>hD) v0).setCell (p:=⟨b,1,none⟩) (fun _=>hD) v1).setCell (p:=⟨b,2,none⟩) (fun _=>hD) v2).setCell (p:=⟨b,3,none⟩) (fun _=>hD) v3).setCell (p:=⟨b,4,none⟩) (fun _=>hD) v4).setCell (p:=⟨b,5,none⟩) (fun _=>hD) v5).setCell (p:=⟨b,6,none⟩) (fun _=>hD) v6).setCell (p:=⟨b,7,none⟩) (fun _=>hD) v7)
theorem az.aI{w:World}{b:Nat}{t:TypeId}{u0 u1 u2 u3 u4 u5 u6 u7:Value}(h:az w b t #[u0,u1,u2,u3,u4,u5,u6,u7])(v0 v1 v2 v3 v4 v5 v6 v7:Value):az ((((((((w.setCell ⟨b,0,none⟩ v0).setCell ⟨b,1,none⟩ v1).setCell ⟨b,2,none⟩ v2).setCell ⟨b,3,none⟩ v3).setCell ⟨b,4,none⟩ v4).setCell ⟨b,5,none⟩ v5).setCell ⟨b,6,none⟩ v6).setCell ⟨b,7,none⟩ v7) b t #[v0,v1,v2,v3,v4,v5,v6,v7]:=by
 have h0:az (w.setCell ⟨b,0,none⟩ v0) b t #[v0,u1,u2,u3,u4,u5,u6,u7]:=h.bn 0 v0;have h1:az ((w.setCell ⟨b,0,none⟩ v0).setCell ⟨b,1,none⟩ v1) b t #[v0,v1,u2,u3,u4,u5,u6,u7]:=h0.bn 1 v1;have h2:az (((w.setCell ⟨b,0,none⟩ v0).setCell ⟨b,1,none⟩ v1).setCell ⟨b,2,none⟩ v2) b t #[v0,v1,v2,u3,u4,u5,u6,u7]:=h1.bn 2 v2;have h3:az ((((w.setCell ⟨b,0,none⟩ v0).setCell ⟨b,1,none⟩ v1).setCell ⟨b,2,none⟩ v2).setCell ⟨b,3,none⟩ v3) b t #[v0,v1,v2,v3,u4,u5,u6,u7]:=h2.bn 3 v3;have h4:az (((((w.setCell ⟨b,0,none⟩ v0).setCell ⟨b,1,none⟩ v1).setCell ⟨b,2,none⟩ v2).setCell ⟨b,3,none⟩ v3).setCell ⟨b,4,none⟩ v4) b t #[v0,v1,v2,v3,v4,u5,u6,u7]:=h3.bn 4 v4;have h5:az ((((((w.setCell ⟨b,0,none⟩ v0).setCell ⟨b,1,none⟩ v1).setCell ⟨b,2,none⟩ v2).setCell ⟨b,3,none⟩ v3).setCell ⟨b,4,none⟩ v4).setCell ⟨b,5,none⟩ v5) b t #[v0,v1,v2,v3,v4,v5,u6,u7]:=h4.bn 5 v5;have h6:az (((((((w.setCell ⟨b,0,none⟩ v0).setCell ⟨b,1,none⟩ v1).setCell ⟨b,2,none⟩ v2).setCell ⟨b,3,none⟩ v3).setCell ⟨b,4,none⟩ v4).setCell ⟨b,5,none⟩ v5).setCell ⟨b,6,none⟩ v6) b t #[v0,v1,v2,v3,v4,v5,v6,u7]:=h5.bn 6 v6;have h7:az ((((((((w.setCell ⟨b,0,none⟩ v0).setCell ⟨b,1,none⟩ v1).setCell ⟨b,2,none⟩ v2).setCell ⟨b,3,none⟩ v3).setCell ⟨b,4,none⟩ v4).setCell ⟨b,5,none⟩ v5).setCell ⟨b,6,none⟩ v6).setCell ⟨b,7,none⟩ v7) b t #[v0,v1,v2,v3,v4,v5,v6,v7]:=h6.bn 7 v7;exact h7
end Go.Proofs.YtmcmhalhieejaaaGreatDoor
