/- Walks. -/
import Derived.Test.YtmcmhalhieejaaaGreatDoorChgTextb
import Derived.Test.YtmcmhalhieejaaaGreatDoorShelf
import Derived.Lib.AtoiBound
import Derived.Lib.ItoaLen
set_option maxRecDepth 100000
set_option maxHeartbeats 4000000
set_option linter.unusedSimpArgs false
set_option linter.unusedVariables false
namespace Go.Proofs.YtmcmhalhieejaaaGreatDoor
open Go Go.RowKit
theorem di{a b:ByteArray}(h:(a.toList==b.toList)=false):a≠b:=fun e=>by
 subst e;rw[beq_self_eq_true]at h;cases h
theorem aF:rZ 28 8:=⟨_,Tryz.underlying28,by kernel_rfl⟩
namespace M
theorem iZ:∀(l cur:List UInt8),∀x∈aU cur l,x.length≤cur.length+l.length
 |[],cur,x,h=>by simp[aU]at h;subst h;simp
 |c::r,cur,x,h=>by
  rw[aU]at h;split at h
  · rcases List.mem_cons.1 h with rfl|h
    · omega
    · have:=iZ r [] x h;simp at this ⊢;omega
  · have:=iZ r _ x h;simp at this ⊢;omega
theorem oW{s x:ByteArray}(h:x∈words s):x.size≤s.size:=by
 unfold words at h;obtain⟨l,hl,rfl⟩:=List.mem_map.1 h;have:=iZ s.data.toList [] l hl;have e:(bs l).size=l.length:=by simp[bs,ByteArray.size]
 have e2:s.data.toList.length=s.size:=by simp
 simp at this;omega
theorem uI(x:ByteArray)(l:List UInt8):(x.toList==l)=decide (x=bs l):=by
 rw[ByteArray.toList_eq];by_cases h:x=bs l
 · subst h;simp[bs]
 · rw[decide_eq_false h];apply beq_eq_false_iff_ne.2;intro e;exact h (ByteArray.ext (Array.toList_inj.1 (by rw[e];rfl)))
theorem kr(x:ByteArray):(kindOf x=2∧(x.toList==[116,97,107,101])=true)∨(kindOf x=3∧(x.toList==[116,97,107,101])=false∧(x.toList==[97,115,107])=true)∨
    (kindOf x=4∧(x.toList==[116,97,107,101])=false∧(x.toList==[97,115,107])=false∧(x.toList==[102,114,101,101])=true)∨
    (kindOf x=0∧(x.toList==[116,97,107,101])=false∧(x.toList==[97,115,107])=false∧(x.toList==[102,114,101,101])=false):=by
 rw[uI,uI,uI];unfold kindOf;by_cases h1:x=bs jL
 · rw[if_pos h1];exact .inl ⟨rfl,decide_eq_true h1⟩
 rw[if_neg h1];by_cases h2:x=bs ny
 · rw[if_pos h2];exact .inr (.inl ⟨rfl,decide_eq_false h1,decide_eq_true h2⟩)
 rw[if_neg h2];by_cases h3:x=bs jy
 · rw[if_pos h3];exact .inr (.inr (.inl ⟨rfl,decide_eq_false h1,decide_eq_false h2,decide_eq_true h3⟩))
 · rw[if_neg h3];exact .inr (.inr (.inr ⟨rfl,decide_eq_false h1,decide_eq_false h2,decide_eq_false h3⟩))
theorem bS(c:mf):dL c (bC none_ none_ 0 0)=aL c:=by
 unfold dL aL;rw[show bC none_ none_ 0 0=true from rfl,Bool.and_true]
end M
abbrev bG:List Value:=[.int .i64 0,.int .i64 0,.string ⟨#[]⟩,.int .i64 0,.string ⟨#[]⟩,.string ⟨#[]⟩,.slice none 0 0,.slice none 0 0]
def yU:Option M.mf→Ending
 |some c=>.returned (.tuple #[.agg (jv c M.none_ M.none_ none 0 0 none 0 0).toArray,.bool true])
 |none=>.returned (.tuple #[.agg bG.toArray,.bool false])
def yP(s:ByteArray)(e:Ending):Prop:=∃r,e=yU r∧M.Says s r
theorem tY (s : ByteArray) (w : World) (hs : s.size ≤ 4000000000) :
    Calls Tryz.prog 7 #[.string s] w fun e w'=>yP s e∧Ext w w':=by
 obtain⟨w0,bB⟩:∃w0,w0=w.alloc (.cells bG.toArray 28):=⟨_,rfl⟩;have bH:Ext w w0:=by rw[bB];exact(by repeat (first|with_reducible exact Kp.refl _ _|with_reducible assumption|with_reducible refine Kp.alloc ?_ _|with_reducible refine Kp.drew ?_|with_reducible refine Kp.drewN ?_ _|with_reducible refine Kp.setCell ?_ (fun h=>absurd h (by simp<;>omega)) _|with_reducible refine Kp.trans ?_ (by with_reducible assumption)|exact Kp.refl _ _|assumption|refine Kp.alloc ?_ _|refine Kp.drew ?_|refine Kp.drewN ?_ _|(refine Kp.setCell ?_ (fun h=>absurd h (by simp;done)) _)|(refine Kp.setCell ?_ (fun h=>absurd h (by simp;omega)) _)|refine Kp.trans ?_ (by assumption)))
 have hb:az w0 w.heap.size 28 bG.toArray:=by rw[bB];exact az.new _ _ _
 have aZ:=Zy bH;have HB:=Zy hb;have bZ:=Zy bB;clear bH hb bB;go_enter Tryz.func7,Tryz.ntmps7;go_wp2_with fail;rw[←bZ.o];refine(jJ s w0 hs).mono ?_;rintro e w1 ⟨⟨v,rfl,hS⟩,aQ⟩;obtain⟨a,cap,rfl,bK, -⟩:=hS.form;have bf:=HB.o.ext aQ;have yz:=bf.lt;have y0:=bf.c 0 (.int .i64 0) rfl;have y1:=bf.c 1 (.int .i64 0) rfl;have y2:=bf.c 2 (.string ⟨#[]⟩) rfl;have y3:=bf.c 3 (.int .i64 0) rfl;have y4:=bf.c 4 (.string ⟨#[]⟩) rfl;have y5:=bf.c 5 (.string ⟨#[]⟩) rfl;have y6:=bf.c 6 (.slice none 0 0) rfl;have y7:=bf.c 7 (.slice none 0 0) rfl;have f0:=bf.frozen 0;have f1:=bf.frozen 1;have f2:=bf.frozen 2;have f3:=bf.frozen 3;have f4:=bf.frozen 4;have f5:=bf.frozen 5;have f6:=bf.frozen 6;have f7:=bf.frozen 7;have gJ:=Zy bf;have bM:=Zy (aZ.o.trans aQ);have HS:=Zy hS;clear bf aQ hS;by_cases hl:(M.words s).length<3∨4<(M.words s).length
 · have HR:=Zy (M.oC hl);obtain⟨n,hn⟩:∃n,(M.words s).length=n:=⟨_,rfl⟩;rw[hn]at hl ⊢;clear hn bK HS;go_wp2_with fail
   all_goals
    refine bodyPost_ret (ae aF rfl _ _ w.heap.size rfl bG (af.cO (az.aI gJ.o _ _ _ _ _ _ _ _)) rfl) rfl ?_;exact⟨⟨none,rfl,HR.o⟩,bM.o.own (Kp.aI (D:=(·=w.heap.size)) rfl _ _ _ _ _ _ _ _) (fun _ e=>by omega)⟩
 · obtain ⟨ws, zK⟩ : ∃ ws, M.words s = ws := ⟨_, rfl⟩; have gu := Zy zK; have mq : Zz (∀ x ∈ ws, x.size ≤ 4000000000) := Zy (fun x hx => Nat.le_trans (M.oW (by rw [zK]; exact hx)) hs); rw [zK] at hl HS bK ⊢; clear zK; match ws, hl, gu, HS, mq, bK with
   |[],hl,_,_,_,_=>simp at hl
   |[_],hl,_,_,_,_=>simp at hl
   |[_,_],hl,_,_,_,_=>simp at hl
   |_::_::_::_::_::_,hl,_,_,_,_=>simp at hl
   | [x0, x1, x2], _, gu, HS, mq, bK =>
    obtain⟨b,off,rfl,g0,g1,g2,DJ⟩:=aY.three HS.o;have bz:=ax g0;have EZ:=fun W=>Zy (rR x1 W (mq.o x1 (by simp)));have Io:=Zy g0;have Ca:=Zy g2;clear bK HS mq;go_wp2_with fail;refine(EZ w1).o.mono ?_;rintro e w2 ⟨⟨n,ok,rfl,wD⟩,dm⟩;have jM:=Zy wD;have eu:=gJ.o.ext dm;have zz:=eu.lt;have z0:=eu.c 0 (.int .i64 0) rfl;have z1:=eu.c 1 (.int .i64 0) rfl;have z2:=eu.c 2 (.string ⟨#[]⟩) rfl;have z3:=eu.c 3 (.int .i64 0) rfl;have z4:=eu.c 4 (.string ⟨#[]⟩) rfl;have z5:=eu.c 5 (.string ⟨#[]⟩) rfl;have z6:=eu.c 6 (.slice none 0 0) rfl;have z7:=eu.c 7 (.slice none 0 0) rfl;have e0:=eu.frozen 0;have e1:=eu.frozen 1;have e2:=eu.frozen 2;have e3:=eu.frozen 3;have e4:=eu.frozen 4;have e5:=eu.frozen 5;have e6:=eu.frozen 6;have e7:=eu.frozen 7;have q0:=dm.aj Io.o;have q2:=dm.aj Ca.o;have qz:=ax q0;have iK:=Zy eu;have bX:=Zy (bM.o.trans dm);clear wD eu dm y0 y1 y2 y3 y4 y5 y6 y7 f0 f1 f2 f3 f4 f5 f6 f7 yz g0 g1 g2 bz;rcases M.kr x0 with⟨hK,h1⟩|⟨hK,h1,h2⟩|⟨hK,h1,h2,h3⟩|⟨hK,h1,h2,h3⟩
    · have HK:=Zy hK;clear hK;cases ok
      · have HS:=Zy (M.bW gu.o jM.o (by rw[HK.o];exact .inl rfl));go_wp2_with fail;refine bodyPost_ret (ae aF rfl _ _ w.heap.size rfl bG (af.cO ((az.aI iK.o _ _ _ _ _ _ _ _).ext ((Kp.refl _ _).alloc _))) rfl) rfl ?_;exact⟨⟨none,rfl,HS.o⟩,((bX.o.own (Kp.aI (D:=(·=w.heap.size)) rfl _ _ _ _ _ _ _ _) (fun _ e=>by omega)):Ext w _).alloc _⟩
      · go_wp2_with fail;obtain⟨w4,wE,dw,zw⟩:=nu w2 #[.int .i64 2,.int .i64 n,.string x2,.int .i64 0,.string ⟨#[]⟩,.string ⟨#[]⟩,.slice none 0 0,.slice none 0 0] 28;have ht:=bY ⟨2,n,x2,0⟩ (show(2:Int)≠1 by decide) M.none_ M.none_ none 0 0 none 0 0 w4;rw[M.bS]at ht;rw[←wE];clear wE;refine ht.mono ?_;rintro e w5 ⟨rfl,bg⟩;have aH:=iK.o.ext (dw.trans bg);have bI:=zw.ext bg;have cZ:=Zy aH;have dh:=Zy (bX.o.trans (dw.trans bg));have AR:=aH.lt;have z0:=aH.c 0 (.int .i64 0) rfl;have z1:=aH.c 1 (.int .i64 0) rfl;have z2:=aH.c 2 (.string ⟨#[]⟩) rfl;have z3:=aH.c 3 (.int .i64 0) rfl;have z4:=aH.c 4 (.string ⟨#[]⟩) rfl;have z5:=aH.c 5 (.string ⟨#[]⟩) rfl;have z6:=aH.c 6 (.slice none 0 0) rfl;have z7:=aH.c 7 (.slice none 0 0) rfl;have e0:=aH.frozen 0;have e1:=aH.frozen 1;have e2:=aH.frozen 2;have e3:=aH.frozen 3;have e4:=aH.frozen 4;have e5:=aH.frozen 5;have e6:=aH.frozen 6;have e7:=aH.frozen 7;have k0:=bI.c 0 (.int .i64 2) rfl;have k1:=bI.c 1 (.int .i64 n) rfl;have k2:=bI.c 2 (.string x2) rfl;have k3:=bI.c 3 (.int .i64 0) rfl;have k4:=bI.c 4 (.string ⟨#[]⟩) rfl;have k5:=bI.c 5 (.string ⟨#[]⟩) rfl;have k6:=bI.c 6 (.slice none 0 0) rfl;have k7:=bI.c 7 (.slice none 0 0) rfl;have kz:=bI.lt;clear ht dw zw bg aH bI;cases hq:((M.aL ⟨2,n,x2,0⟩).toList==s.toList)
        · have HS:=Zy ((fun h=>M.bW gu.o jM.o (by rw[HK.o];exact .inr h)) (di hq));go_wp2_with fail;refine bodyPost_ret (ae aF rfl _ _ w.heap.size rfl bG (af.cO (az.aI cZ.o _ _ _ _ _ _ _ _)) rfl) rfl ?_;exact⟨⟨none,rfl,HS.o⟩,dh.o.own (Kp.aI (D:=(·=w.heap.size)) rfl _ _ _ _ _ _ _ _) (fun _ e=>by omega)⟩
        · have HS:=Zy (M.dV (s:=s) (c:=⟨2,n,x2,0⟩) (by rw[gu.o];simp) (aM hq));go_wp2_with fail;refine bodyPost_ret (ae aF rfl _ _ w.heap.size rfl [.int .i64 2,.int .i64 n,.string x2,.int .i64 0,.string ⟨#[]⟩,.string ⟨#[]⟩,.slice none 0 0,.slice none 0 0] (af.cO (az.aI cZ.o _ _ _ _ _ _ _ _)) rfl) rfl ?_;exact⟨⟨some _,rfl,HS.o⟩,dh.o.own (Kp.aI (D:=(·=w.heap.size)) rfl _ _ _ _ _ _ _ _) (fun _ e=>by omega)⟩
    · have HK:=Zy hK;clear hK;cases ok
      · have HS:=Zy (M.bW gu.o jM.o (by rw[HK.o];exact .inl rfl));go_wp2_with fail;refine bodyPost_ret (ae aF rfl _ _ w.heap.size rfl bG (af.cO ((az.aI iK.o _ _ _ _ _ _ _ _).ext ((Kp.refl _ _).alloc _))) rfl) rfl ?_;exact⟨⟨none,rfl,HS.o⟩,((bX.o.own (Kp.aI (D:=(·=w.heap.size)) rfl _ _ _ _ _ _ _ _) (fun _ e=>by omega)):Ext w _).alloc _⟩
      · go_wp2_with fail;obtain⟨w4,wE,dw,zw⟩:=nu w2 #[.int .i64 3,.int .i64 n,.string x2,.int .i64 0,.string ⟨#[]⟩,.string ⟨#[]⟩,.slice none 0 0,.slice none 0 0] 28;have ht:=bY ⟨3,n,x2,0⟩ (show(3:Int)≠1 by decide) M.none_ M.none_ none 0 0 none 0 0 w4;rw[M.bS]at ht;rw[←wE];clear wE;refine ht.mono ?_;rintro e w5 ⟨rfl,bg⟩;have aH:=iK.o.ext (dw.trans bg);have bI:=zw.ext bg;have cZ:=Zy aH;have dh:=Zy (bX.o.trans (dw.trans bg));have AR:=aH.lt;have z0:=aH.c 0 (.int .i64 0) rfl;have z1:=aH.c 1 (.int .i64 0) rfl;have z2:=aH.c 2 (.string ⟨#[]⟩) rfl;have z3:=aH.c 3 (.int .i64 0) rfl;have z4:=aH.c 4 (.string ⟨#[]⟩) rfl;have z5:=aH.c 5 (.string ⟨#[]⟩) rfl;have z6:=aH.c 6 (.slice none 0 0) rfl;have z7:=aH.c 7 (.slice none 0 0) rfl;have e0:=aH.frozen 0;have e1:=aH.frozen 1;have e2:=aH.frozen 2;have e3:=aH.frozen 3;have e4:=aH.frozen 4;have e5:=aH.frozen 5;have e6:=aH.frozen 6;have e7:=aH.frozen 7;have k0:=bI.c 0 (.int .i64 3) rfl;have k1:=bI.c 1 (.int .i64 n) rfl;have k2:=bI.c 2 (.string x2) rfl;have k3:=bI.c 3 (.int .i64 0) rfl;have k4:=bI.c 4 (.string ⟨#[]⟩) rfl;have k5:=bI.c 5 (.string ⟨#[]⟩) rfl;have k6:=bI.c 6 (.slice none 0 0) rfl;have k7:=bI.c 7 (.slice none 0 0) rfl;have kz:=bI.lt;clear ht dw zw bg aH bI;cases hq:((M.aL ⟨3,n,x2,0⟩).toList==s.toList)
        · have HS:=Zy ((fun h=>M.bW gu.o jM.o (by rw[HK.o];exact .inr h)) (di hq));go_wp2_with fail;refine bodyPost_ret (ae aF rfl _ _ w.heap.size rfl bG (af.cO (az.aI cZ.o _ _ _ _ _ _ _ _)) rfl) rfl ?_;exact⟨⟨none,rfl,HS.o⟩,dh.o.own (Kp.aI (D:=(·=w.heap.size)) rfl _ _ _ _ _ _ _ _) (fun _ e=>by omega)⟩
        · have HS:=Zy (M.dV (s:=s) (c:=⟨3,n,x2,0⟩) (by rw[gu.o];simp) (aM hq));go_wp2_with fail;refine bodyPost_ret (ae aF rfl _ _ w.heap.size rfl [.int .i64 3,.int .i64 n,.string x2,.int .i64 0,.string ⟨#[]⟩,.string ⟨#[]⟩,.slice none 0 0,.slice none 0 0] (af.cO (az.aI cZ.o _ _ _ _ _ _ _ _)) rfl) rfl ?_;exact⟨⟨some _,rfl,HS.o⟩,dh.o.own (Kp.aI (D:=(·=w.heap.size)) rfl _ _ _ _ _ _ _ _) (fun _ e=>by omega)⟩
    · have HK:=Zy hK;clear hK;cases ok
      · have HS:=Zy (M.bW gu.o jM.o (by rw[HK.o];exact .inl rfl));go_wp2_with fail;refine bodyPost_ret (ae aF rfl _ _ w.heap.size rfl bG (af.cO ((az.aI iK.o _ _ _ _ _ _ _ _).ext ((Kp.refl _ _).alloc _))) rfl) rfl ?_;exact⟨⟨none,rfl,HS.o⟩,((bX.o.own (Kp.aI (D:=(·=w.heap.size)) rfl _ _ _ _ _ _ _ _) (fun _ e=>by omega)):Ext w _).alloc _⟩
      · go_wp2_with fail;obtain⟨w4,wE,dw,zw⟩:=nu w2 #[.int .i64 4,.int .i64 n,.string x2,.int .i64 0,.string ⟨#[]⟩,.string ⟨#[]⟩,.slice none 0 0,.slice none 0 0] 28;have ht:=bY ⟨4,n,x2,0⟩ (show(4:Int)≠1 by decide) M.none_ M.none_ none 0 0 none 0 0 w4;rw[M.bS]at ht;rw[←wE];clear wE;refine ht.mono ?_;rintro e w5 ⟨rfl,bg⟩;have aH:=iK.o.ext (dw.trans bg);have bI:=zw.ext bg;have cZ:=Zy aH;have dh:=Zy (bX.o.trans (dw.trans bg));have AR:=aH.lt;have z0:=aH.c 0 (.int .i64 0) rfl;have z1:=aH.c 1 (.int .i64 0) rfl;have z2:=aH.c 2 (.string ⟨#[]⟩) rfl;have z3:=aH.c 3 (.int .i64 0) rfl;have z4:=aH.c 4 (.string ⟨#[]⟩) rfl;have z5:=aH.c 5 (.string ⟨#[]⟩) rfl;have z6:=aH.c 6 (.slice none 0 0) rfl;have z7:=aH.c 7 (.slice none 0 0) rfl;have e0:=aH.frozen 0;have e1:=aH.frozen 1;have e2:=aH.frozen 2;have e3:=aH.frozen 3;have e4:=aH.frozen 4;have e5:=aH.frozen 5;have e6:=aH.frozen 6;have e7:=aH.frozen 7;have k0:=bI.c 0 (.int .i64 4) rfl;have k1:=bI.c 1 (.int .i64 n) rfl;have k2:=bI.c 2 (.string x2) rfl;have k3:=bI.c 3 (.int .i64 0) rfl;have k4:=bI.c 4 (.string ⟨#[]⟩) rfl;have k5:=bI.c 5 (.string ⟨#[]⟩) rfl;have k6:=bI.c 6 (.slice none 0 0) rfl;have k7:=bI.c 7 (.slice none 0 0) rfl;have kz:=bI.lt;clear ht dw zw bg aH bI;cases hq:((M.aL ⟨4,n,x2,0⟩).toList==s.toList)
        · have HS:=Zy ((fun h=>M.bW gu.o jM.o (by rw[HK.o];exact .inr h)) (di hq));go_wp2_with fail;refine bodyPost_ret (ae aF rfl _ _ w.heap.size rfl bG (af.cO (az.aI cZ.o _ _ _ _ _ _ _ _)) rfl) rfl ?_;exact⟨⟨none,rfl,HS.o⟩,dh.o.own (Kp.aI (D:=(·=w.heap.size)) rfl _ _ _ _ _ _ _ _) (fun _ e=>by omega)⟩
        · have HS:=Zy (M.dV (s:=s) (c:=⟨4,n,x2,0⟩) (by rw[gu.o];simp) (aM hq));go_wp2_with fail;refine bodyPost_ret (ae aF rfl _ _ w.heap.size rfl [.int .i64 4,.int .i64 n,.string x2,.int .i64 0,.string ⟨#[]⟩,.string ⟨#[]⟩,.slice none 0 0,.slice none 0 0] (af.cO (az.aI cZ.o _ _ _ _ _ _ _ _)) rfl) rfl ?_;exact⟨⟨some _,rfl,HS.o⟩,dh.o.own (Kp.aI (D:=(·=w.heap.size)) rfl _ _ _ _ _ _ _ _) (fun _ e=>by omega)⟩
    · have HK:=Zy hK;clear hK;cases ok
      · have HS:=Zy (M.bW gu.o jM.o (by rw[HK.o];exact .inl rfl));go_wp2_with fail;refine bodyPost_ret (ae aF rfl _ _ w.heap.size rfl bG (af.cO ((az.aI iK.o _ _ _ _ _ _ _ _).ext ((Kp.refl _ _).alloc _))) rfl) rfl ?_;exact⟨⟨none,rfl,HS.o⟩,((bX.o.own (Kp.aI (D:=(·=w.heap.size)) rfl _ _ _ _ _ _ _ _) (fun _ e=>by omega)):Ext w _).alloc _⟩
      · go_wp2_with fail;obtain⟨w4,wE,dw,zw⟩:=nu w2 #[.int .i64 0,.int .i64 n,.string x2,.int .i64 0,.string ⟨#[]⟩,.string ⟨#[]⟩,.slice none 0 0,.slice none 0 0] 28;have ht:=bY ⟨0,n,x2,0⟩ (show(0:Int)≠1 by decide) M.none_ M.none_ none 0 0 none 0 0 w4;rw[M.bS]at ht;rw[←wE];clear wE;refine ht.mono ?_;rintro e w5 ⟨rfl,bg⟩;have aH:=iK.o.ext (dw.trans bg);have bI:=zw.ext bg;have cZ:=Zy aH;have dh:=Zy (bX.o.trans (dw.trans bg));have AR:=aH.lt;have z0:=aH.c 0 (.int .i64 0) rfl;have z1:=aH.c 1 (.int .i64 0) rfl;have z2:=aH.c 2 (.string ⟨#[]⟩) rfl;have z3:=aH.c 3 (.int .i64 0) rfl;have z4:=aH.c 4 (.string ⟨#[]⟩) rfl;have z5:=aH.c 5 (.string ⟨#[]⟩) rfl;have z6:=aH.c 6 (.slice none 0 0) rfl;have z7:=aH.c 7 (.slice none 0 0) rfl;have e0:=aH.frozen 0;have e1:=aH.frozen 1;have e2:=aH.frozen 2;have e3:=aH.frozen 3;have e4:=aH.frozen 4;have e5:=aH.frozen 5;have e6:=aH.frozen 6;have e7:=aH.frozen 7;have k0:=bI.c 0 (.int .i64 0) rfl;have k1:=bI.c 1 (.int .i64 n) rfl;have k2:=bI.c 2 (.string x2) rfl;have k3:=bI.c 3 (.int .i64 0) rfl;have k4:=bI.c 4 (.string ⟨#[]⟩) rfl;have k5:=bI.c 5 (.string ⟨#[]⟩) rfl;have k6:=bI.c 6 (.slice none 0 0) rfl;have k7:=bI.c 7 (.slice none 0 0) rfl;have kz:=bI.lt;clear ht dw zw bg aH bI;cases hq:((M.aL ⟨0,n,x2,0⟩).toList==s.toList)
        · have HS:=Zy ((fun h=>M.bW gu.o jM.o (by rw[HK.o];exact .inr h)) (di hq));go_wp2_with fail;refine bodyPost_ret (ae aF rfl _ _ w.heap.size rfl bG (af.cO (az.aI cZ.o _ _ _ _ _ _ _ _)) rfl) rfl ?_;exact⟨⟨none,rfl,HS.o⟩,dh.o.own (Kp.aI (D:=(·=w.heap.size)) rfl _ _ _ _ _ _ _ _) (fun _ e=>by omega)⟩
        · have HS:=Zy (M.dV (s:=s) (c:=⟨0,n,x2,0⟩) (by rw[gu.o];simp) (aM hq));go_wp2_with fail;refine bodyPost_ret (ae aF rfl _ _ w.heap.size rfl [.int .i64 0,.int .i64 n,.string x2,.int .i64 0,.string ⟨#[]⟩,.string ⟨#[]⟩,.slice none 0 0,.slice none 0 0] (af.cO (az.aI cZ.o _ _ _ _ _ _ _ _)) rfl) rfl ?_;exact⟨⟨some _,rfl,HS.o⟩,dh.o.own (Kp.aI (D:=(·=w.heap.size)) rfl _ _ _ _ _ _ _ _) (fun _ e=>by omega)⟩
   | [x0, x1, x2, x3], _, gu, HS, mq, bK =>
    obtain⟨b,off,rfl,g0,g1,g2,g3,DJ⟩:=aY.four HS.o;have bz:=ax g0;have EZ:=fun W=>Zy (rR x1 W (mq.o x1 (by simp)));have Io:=Zy g0;have Ca:=Zy g2;have Ip:=Zy g3;have Av:=fun W=>Zy (rR x3 W (mq.o x3 (by simp)));clear bK HS mq;go_wp2_with fail;refine(EZ w1).o.mono ?_;rintro e w2 ⟨⟨n,ok,rfl,wD⟩,dm⟩;have jM:=Zy wD;have eu:=gJ.o.ext dm;have zz:=eu.lt;have z0:=eu.c 0 (.int .i64 0) rfl;have z1:=eu.c 1 (.int .i64 0) rfl;have z2:=eu.c 2 (.string ⟨#[]⟩) rfl;have z3:=eu.c 3 (.int .i64 0) rfl;have z4:=eu.c 4 (.string ⟨#[]⟩) rfl;have z5:=eu.c 5 (.string ⟨#[]⟩) rfl;have z6:=eu.c 6 (.slice none 0 0) rfl;have z7:=eu.c 7 (.slice none 0 0) rfl;have e0:=eu.frozen 0;have e1:=eu.frozen 1;have e2:=eu.frozen 2;have e3:=eu.frozen 3;have e4:=eu.frozen 4;have e5:=eu.frozen 5;have e6:=eu.frozen 6;have e7:=eu.frozen 7;have q0:=dm.aj Io.o;have q2:=dm.aj Ca.o;have q3:=dm.aj Ip.o;have qz:=ax q0;have iK:=Zy eu;have bX:=Zy (bM.o.trans dm);clear wD eu dm y0 y1 y2 y3 y4 y5 y6 y7 f0 f1 f2 f3 f4 f5 f6 f7 yz g0 g1 g2 g3 bz;rcases M.kr x0 with⟨hK,h1⟩|⟨hK,h1,h2⟩|⟨hK,h1,h2,h3⟩|⟨hK,h1,h2,h3⟩
    · have HK:=Zy hK;clear hK;obtain⟨w3,gm⟩:∃w3,w3=w2.alloc (.cells #[.int .i64 2,.int .i64 n,.string x2,.int .i64 0,.string ⟨#[]⟩,.string ⟨#[]⟩,.slice none 0 0,.slice none 0 0] 28):=⟨_,rfl⟩;have dX:Ext w2 w3:=by rw[gm];exact(by repeat (first|with_reducible exact Kp.refl _ _|with_reducible assumption|with_reducible refine Kp.alloc ?_ _|with_reducible refine Kp.drew ?_|with_reducible refine Kp.drewN ?_ _|with_reducible refine Kp.setCell ?_ (fun h=>absurd h (by simp<;>omega)) _|with_reducible refine Kp.trans ?_ (by with_reducible assumption)|exact Kp.refl _ _|assumption|refine Kp.alloc ?_ _|refine Kp.drew ?_|refine Kp.drewN ?_ _|(refine Kp.setCell ?_ (fun h=>absurd h (by simp;done)) _)|(refine Kp.setCell ?_ (fun h=>absurd h (by simp;omega)) _)|refine Kp.trans ?_ (by assumption)))
      have iD:az w3 w2.heap.size 28 #[.int .i64 2,.int .i64 n,.string x2,.int .i64 0,.string ⟨#[]⟩,.string ⟨#[]⟩,.slice none 0 0,.slice none 0 0]:=by rw[gm];exact az.new _ _ _
      have mY:=Zy gm;have fF:=Zy dX;have jl:=Zy iD;clear gm dX iD;go_wp2_with fail;rw[←mY.o];refine(Av w3).o.mono ?_;rintro e w6 ⟨⟨m,wM,rfl,kI⟩,bu⟩;have je:=Zy kI;have aW:=iK.o.ext (fF.o.trans bu);have cu:=jl.o.ext bu;have dn:=Zy aW;have hZ:=Zy cu;have iN:=Zy (bX.o.trans (fF.o.trans bu));have iU:w2.heap.size≠w.heap.size:=Nat.ne_of_gt zz;have Ex:=aW.lt;have z0:=aW.c 0 (.int .i64 0) rfl;have z1:=aW.c 1 (.int .i64 0) rfl;have z2:=aW.c 2 (.string ⟨#[]⟩) rfl;have z3:=aW.c 3 (.int .i64 0) rfl;have z4:=aW.c 4 (.string ⟨#[]⟩) rfl;have z5:=aW.c 5 (.string ⟨#[]⟩) rfl;have z6:=aW.c 6 (.slice none 0 0) rfl;have z7:=aW.c 7 (.slice none 0 0) rfl;have e0:=aW.frozen 0;have e1:=aW.frozen 1;have e2:=aW.frozen 2;have e3:=aW.frozen 3;have e4:=aW.frozen 4;have e5:=aW.frozen 5;have e6:=aW.frozen 6;have e7:=aW.frozen 7;have k0:=cu.c 0 (.int .i64 2) rfl;have k1:=cu.c 1 (.int .i64 n) rfl;have k2:=cu.c 2 (.string x2) rfl;have k3:=cu.c 3 (.int .i64 0) rfl;have k4:=cu.c 4 (.string ⟨#[]⟩) rfl;have k5:=cu.c 5 (.string ⟨#[]⟩) rfl;have k6:=cu.c 6 (.slice none 0 0) rfl;have k7:=cu.c 7 (.slice none 0 0) rfl;have kf:=cu.frozen 3;have kz:=cu.lt;clear kI aW cu bu q0 q2 q3 qz;obtain⟨w7,ib⟩:∃w7,w7=w6.setCell ⟨w2.heap.size,3,none⟩ (.int .i64 m):=⟨_,rfl⟩;have iL:Kp (·=w2.heap.size) w6 w7:=by rw[ib];exact(Kp.refl (·=w2.heap.size) w6).setCell (fun _=>rfl) _
      have ql:az w7 w2.heap.size 28 #[.int .i64 2,.int .i64 n,.string x2,.int .i64 m,.string ⟨#[]⟩,.string ⟨#[]⟩,.slice none 0 0,.slice none 0 0]:=by rw[ib];exact hZ.o.bn 3 (.int .i64 m)
      have eF:=Zy (dn.o.kp iL (Ne.symm iU));have eG:=Zy ql;have iO:=Zy (iN.o.own iL (fun _ e=>by have:=bX.o.size;omega));have mZ:=Zy ib;clear iL ql ib;cases ok
      · have HS:=Zy (M.bR gu.o jM.o je.o (by rw[HK.o];exact .inl rfl));go_wp2_with fail;rw[←mZ.o];refine bodyPost_ret (ae aF rfl _ _ w.heap.size rfl bG (af.cO (az.aI eF.o _ _ _ _ _ _ _ _)) rfl) rfl ?_;exact⟨⟨none,rfl,HS.o⟩,iO.o.own (Kp.aI (D:=(·=w.heap.size)) rfl _ _ _ _ _ _ _ _) (fun _ e=>by omega)⟩
      · cases wM
        · have HS:=Zy (M.bR gu.o jM.o je.o (by rw[HK.o];exact .inr (.inl rfl)));go_wp2_with fail;rw[←mZ.o];refine bodyPost_ret (ae aF rfl _ _ w.heap.size rfl bG (af.cO (az.aI eF.o _ _ _ _ _ _ _ _)) rfl) rfl ?_;exact⟨⟨none,rfl,HS.o⟩,iO.o.own (Kp.aI (D:=(·=w.heap.size)) rfl _ _ _ _ _ _ _ _) (fun _ e=>by omega)⟩
        · go_wp2_with fail;have ht:=bY ⟨2,n,x2,m⟩ (show(2:Int)≠1 by decide) M.none_ M.none_ none 0 0 none 0 0 w7;rw[M.bS]at ht;rw[←mZ.o];refine ht.mono ?_;rintro e w5 ⟨rfl,bg⟩;have aH:=eF.o.ext bg;have bI:=eG.o.ext bg;have cZ:=Zy aH;have dh:=Zy (iO.o.trans bg);have AR:=aH.lt;have z0:=aH.c 0 (.int .i64 0) rfl;have z1:=aH.c 1 (.int .i64 0) rfl;have z2:=aH.c 2 (.string ⟨#[]⟩) rfl;have z3:=aH.c 3 (.int .i64 0) rfl;have z4:=aH.c 4 (.string ⟨#[]⟩) rfl;have z5:=aH.c 5 (.string ⟨#[]⟩) rfl;have z6:=aH.c 6 (.slice none 0 0) rfl;have z7:=aH.c 7 (.slice none 0 0) rfl;have e0:=aH.frozen 0;have e1:=aH.frozen 1;have e2:=aH.frozen 2;have e3:=aH.frozen 3;have e4:=aH.frozen 4;have e5:=aH.frozen 5;have e6:=aH.frozen 6;have e7:=aH.frozen 7;have k0:=bI.c 0 (.int .i64 2) rfl;have k1:=bI.c 1 (.int .i64 n) rfl;have k2:=bI.c 2 (.string x2) rfl;have k3:=bI.c 3 (.int .i64 m) rfl;have k4:=bI.c 4 (.string ⟨#[]⟩) rfl;have k5:=bI.c 5 (.string ⟨#[]⟩) rfl;have k6:=bI.c 6 (.slice none 0 0) rfl;have k7:=bI.c 7 (.slice none 0 0) rfl;have kz:=bI.lt;clear ht bg aH bI;cases hq:((M.aL ⟨2,n,x2,m⟩).toList==s.toList)
          · have HS:=Zy (M.bR gu.o jM.o je.o (by rw[HK.o];exact .inr (.inr (di hq))));go_wp2_with fail;refine bodyPost_ret (ae aF rfl _ _ w.heap.size rfl bG (af.cO (az.aI cZ.o _ _ _ _ _ _ _ _)) rfl) rfl ?_;exact⟨⟨none,rfl,HS.o⟩,dh.o.own (Kp.aI (D:=(·=w.heap.size)) rfl _ _ _ _ _ _ _ _) (fun _ e=>by omega)⟩
          · have HS:=Zy (M.dV (s:=s) (c:=⟨2,n,x2,m⟩) (by rw[gu.o];simp) (aM hq));go_wp2_with fail;refine bodyPost_ret (ae aF rfl _ _ w.heap.size rfl [.int .i64 2,.int .i64 n,.string x2,.int .i64 m,.string ⟨#[]⟩,.string ⟨#[]⟩,.slice none 0 0,.slice none 0 0] (af.cO (az.aI cZ.o _ _ _ _ _ _ _ _)) rfl) rfl ?_;exact⟨⟨some _,rfl,HS.o⟩,dh.o.own (Kp.aI (D:=(·=w.heap.size)) rfl _ _ _ _ _ _ _ _) (fun _ e=>by omega)⟩
    · have HK:=Zy hK;clear hK;obtain⟨w3,gm⟩:∃w3,w3=w2.alloc (.cells #[.int .i64 3,.int .i64 n,.string x2,.int .i64 0,.string ⟨#[]⟩,.string ⟨#[]⟩,.slice none 0 0,.slice none 0 0] 28):=⟨_,rfl⟩;have dX:Ext w2 w3:=by rw[gm];exact(by repeat (first|with_reducible exact Kp.refl _ _|with_reducible assumption|with_reducible refine Kp.alloc ?_ _|with_reducible refine Kp.drew ?_|with_reducible refine Kp.drewN ?_ _|with_reducible refine Kp.setCell ?_ (fun h=>absurd h (by simp<;>omega)) _|with_reducible refine Kp.trans ?_ (by with_reducible assumption)|exact Kp.refl _ _|assumption|refine Kp.alloc ?_ _|refine Kp.drew ?_|refine Kp.drewN ?_ _|(refine Kp.setCell ?_ (fun h=>absurd h (by simp;done)) _)|(refine Kp.setCell ?_ (fun h=>absurd h (by simp;omega)) _)|refine Kp.trans ?_ (by assumption)))
      have iD:az w3 w2.heap.size 28 #[.int .i64 3,.int .i64 n,.string x2,.int .i64 0,.string ⟨#[]⟩,.string ⟨#[]⟩,.slice none 0 0,.slice none 0 0]:=by rw[gm];exact az.new _ _ _
      have mY:=Zy gm;have fF:=Zy dX;have jl:=Zy iD;clear gm dX iD;go_wp2_with fail;rw[←mY.o];refine(Av w3).o.mono ?_;rintro e w6 ⟨⟨m,wM,rfl,kI⟩,bu⟩;have je:=Zy kI;have aW:=iK.o.ext (fF.o.trans bu);have cu:=jl.o.ext bu;have dn:=Zy aW;have hZ:=Zy cu;have iN:=Zy (bX.o.trans (fF.o.trans bu));have iU:w2.heap.size≠w.heap.size:=Nat.ne_of_gt zz;have Ex:=aW.lt;have z0:=aW.c 0 (.int .i64 0) rfl;have z1:=aW.c 1 (.int .i64 0) rfl;have z2:=aW.c 2 (.string ⟨#[]⟩) rfl;have z3:=aW.c 3 (.int .i64 0) rfl;have z4:=aW.c 4 (.string ⟨#[]⟩) rfl;have z5:=aW.c 5 (.string ⟨#[]⟩) rfl;have z6:=aW.c 6 (.slice none 0 0) rfl;have z7:=aW.c 7 (.slice none 0 0) rfl;have e0:=aW.frozen 0;have e1:=aW.frozen 1;have e2:=aW.frozen 2;have e3:=aW.frozen 3;have e4:=aW.frozen 4;have e5:=aW.frozen 5;have e6:=aW.frozen 6;have e7:=aW.frozen 7;have k0:=cu.c 0 (.int .i64 3) rfl;have k1:=cu.c 1 (.int .i64 n) rfl;have k2:=cu.c 2 (.string x2) rfl;have k3:=cu.c 3 (.int .i64 0) rfl;have k4:=cu.c 4 (.string ⟨#[]⟩) rfl;have k5:=cu.c 5 (.string ⟨#[]⟩) rfl;have k6:=cu.c 6 (.slice none 0 0) rfl;have k7:=cu.c 7 (.slice none 0 0) rfl;have kf:=cu.frozen 3;have kz:=cu.lt;clear kI aW cu bu q0 q2 q3 qz;obtain⟨w7,ib⟩:∃w7,w7=w6.setCell ⟨w2.heap.size,3,none⟩ (.int .i64 m):=⟨_,rfl⟩;have iL:Kp (·=w2.heap.size) w6 w7:=by rw[ib];exact(Kp.refl (·=w2.heap.size) w6).setCell (fun _=>rfl) _
      have ql:az w7 w2.heap.size 28 #[.int .i64 3,.int .i64 n,.string x2,.int .i64 m,.string ⟨#[]⟩,.string ⟨#[]⟩,.slice none 0 0,.slice none 0 0]:=by rw[ib];exact hZ.o.bn 3 (.int .i64 m)
      have eF:=Zy (dn.o.kp iL (Ne.symm iU));have eG:=Zy ql;have iO:=Zy (iN.o.own iL (fun _ e=>by have:=bX.o.size;omega));have mZ:=Zy ib;clear iL ql ib;cases ok
      · have HS:=Zy (M.bR gu.o jM.o je.o (by rw[HK.o];exact .inl rfl));go_wp2_with fail;rw[←mZ.o];refine bodyPost_ret (ae aF rfl _ _ w.heap.size rfl bG (af.cO (az.aI eF.o _ _ _ _ _ _ _ _)) rfl) rfl ?_;exact⟨⟨none,rfl,HS.o⟩,iO.o.own (Kp.aI (D:=(·=w.heap.size)) rfl _ _ _ _ _ _ _ _) (fun _ e=>by omega)⟩
      · cases wM
        · have HS:=Zy (M.bR gu.o jM.o je.o (by rw[HK.o];exact .inr (.inl rfl)));go_wp2_with fail;rw[←mZ.o];refine bodyPost_ret (ae aF rfl _ _ w.heap.size rfl bG (af.cO (az.aI eF.o _ _ _ _ _ _ _ _)) rfl) rfl ?_;exact⟨⟨none,rfl,HS.o⟩,iO.o.own (Kp.aI (D:=(·=w.heap.size)) rfl _ _ _ _ _ _ _ _) (fun _ e=>by omega)⟩
        · go_wp2_with fail;have ht:=bY ⟨3,n,x2,m⟩ (show(3:Int)≠1 by decide) M.none_ M.none_ none 0 0 none 0 0 w7;rw[M.bS]at ht;rw[←mZ.o];refine ht.mono ?_;rintro e w5 ⟨rfl,bg⟩;have aH:=eF.o.ext bg;have bI:=eG.o.ext bg;have cZ:=Zy aH;have dh:=Zy (iO.o.trans bg);have AR:=aH.lt;have z0:=aH.c 0 (.int .i64 0) rfl;have z1:=aH.c 1 (.int .i64 0) rfl;have z2:=aH.c 2 (.string ⟨#[]⟩) rfl;have z3:=aH.c 3 (.int .i64 0) rfl;have z4:=aH.c 4 (.string ⟨#[]⟩) rfl;have z5:=aH.c 5 (.string ⟨#[]⟩) rfl;have z6:=aH.c 6 (.slice none 0 0) rfl;have z7:=aH.c 7 (.slice none 0 0) rfl;have e0:=aH.frozen 0;have e1:=aH.frozen 1;have e2:=aH.frozen 2;have e3:=aH.frozen 3;have e4:=aH.frozen 4;have e5:=aH.frozen 5;have e6:=aH.frozen 6;have e7:=aH.frozen 7;have k0:=bI.c 0 (.int .i64 3) rfl;have k1:=bI.c 1 (.int .i64 n) rfl;have k2:=bI.c 2 (.string x2) rfl;have k3:=bI.c 3 (.int .i64 m) rfl;have k4:=bI.c 4 (.string ⟨#[]⟩) rfl;have k5:=bI.c 5 (.string ⟨#[]⟩) rfl;have k6:=bI.c 6 (.slice none 0 0) rfl;have k7:=bI.c 7 (.slice none 0 0) rfl;have kz:=bI.lt;clear ht bg aH bI;cases hq:((M.aL ⟨3,n,x2,m⟩).toList==s.toList)
          · have HS:=Zy (M.bR gu.o jM.o je.o (by rw[HK.o];exact .inr (.inr (di hq))));go_wp2_with fail;refine bodyPost_ret (ae aF rfl _ _ w.heap.size rfl bG (af.cO (az.aI cZ.o _ _ _ _ _ _ _ _)) rfl) rfl ?_;exact⟨⟨none,rfl,HS.o⟩,dh.o.own (Kp.aI (D:=(·=w.heap.size)) rfl _ _ _ _ _ _ _ _) (fun _ e=>by omega)⟩
          · have HS:=Zy (M.dV (s:=s) (c:=⟨3,n,x2,m⟩) (by rw[gu.o];simp) (aM hq));go_wp2_with fail;refine bodyPost_ret (ae aF rfl _ _ w.heap.size rfl [.int .i64 3,.int .i64 n,.string x2,.int .i64 m,.string ⟨#[]⟩,.string ⟨#[]⟩,.slice none 0 0,.slice none 0 0] (af.cO (az.aI cZ.o _ _ _ _ _ _ _ _)) rfl) rfl ?_;exact⟨⟨some _,rfl,HS.o⟩,dh.o.own (Kp.aI (D:=(·=w.heap.size)) rfl _ _ _ _ _ _ _ _) (fun _ e=>by omega)⟩
    · have HK:=Zy hK;clear hK;obtain⟨w3,gm⟩:∃w3,w3=w2.alloc (.cells #[.int .i64 4,.int .i64 n,.string x2,.int .i64 0,.string ⟨#[]⟩,.string ⟨#[]⟩,.slice none 0 0,.slice none 0 0] 28):=⟨_,rfl⟩;have dX:Ext w2 w3:=by rw[gm];exact(by repeat (first|with_reducible exact Kp.refl _ _|with_reducible assumption|with_reducible refine Kp.alloc ?_ _|with_reducible refine Kp.drew ?_|with_reducible refine Kp.drewN ?_ _|with_reducible refine Kp.setCell ?_ (fun h=>absurd h (by simp<;>omega)) _|with_reducible refine Kp.trans ?_ (by with_reducible assumption)|exact Kp.refl _ _|assumption|refine Kp.alloc ?_ _|refine Kp.drew ?_|refine Kp.drewN ?_ _|(refine Kp.setCell ?_ (fun h=>absurd h (by simp;done)) _)|(refine Kp.setCell ?_ (fun h=>absurd h (by simp;omega)) _)|refine Kp.trans ?_ (by assumption)))
      have iD:az w3 w2.heap.size 28 #[.int .i64 4,.int .i64 n,.string x2,.int .i64 0,.string ⟨#[]⟩,.string ⟨#[]⟩,.slice none 0 0,.slice none 0 0]:=by rw[gm];exact az.new _ _ _
      have mY:=Zy gm;have fF:=Zy dX;have jl:=Zy iD;clear gm dX iD;go_wp2_with fail;rw[←mY.o];refine(Av w3).o.mono ?_;rintro e w6 ⟨⟨m,wM,rfl,kI⟩,bu⟩;have je:=Zy kI;have aW:=iK.o.ext (fF.o.trans bu);have cu:=jl.o.ext bu;have dn:=Zy aW;have hZ:=Zy cu;have iN:=Zy (bX.o.trans (fF.o.trans bu));have iU:w2.heap.size≠w.heap.size:=Nat.ne_of_gt zz;have Ex:=aW.lt;have z0:=aW.c 0 (.int .i64 0) rfl;have z1:=aW.c 1 (.int .i64 0) rfl;have z2:=aW.c 2 (.string ⟨#[]⟩) rfl;have z3:=aW.c 3 (.int .i64 0) rfl;have z4:=aW.c 4 (.string ⟨#[]⟩) rfl;have z5:=aW.c 5 (.string ⟨#[]⟩) rfl;have z6:=aW.c 6 (.slice none 0 0) rfl;have z7:=aW.c 7 (.slice none 0 0) rfl;have e0:=aW.frozen 0;have e1:=aW.frozen 1;have e2:=aW.frozen 2;have e3:=aW.frozen 3;have e4:=aW.frozen 4;have e5:=aW.frozen 5;have e6:=aW.frozen 6;have e7:=aW.frozen 7;have k0:=cu.c 0 (.int .i64 4) rfl;have k1:=cu.c 1 (.int .i64 n) rfl;have k2:=cu.c 2 (.string x2) rfl;have k3:=cu.c 3 (.int .i64 0) rfl;have k4:=cu.c 4 (.string ⟨#[]⟩) rfl;have k5:=cu.c 5 (.string ⟨#[]⟩) rfl;have k6:=cu.c 6 (.slice none 0 0) rfl;have k7:=cu.c 7 (.slice none 0 0) rfl;have kf:=cu.frozen 3;have kz:=cu.lt;clear kI aW cu bu q0 q2 q3 qz;obtain⟨w7,ib⟩:∃w7,w7=w6.setCell ⟨w2.heap.size,3,none⟩ (.int .i64 m):=⟨_,rfl⟩;have iL:Kp (·=w2.heap.size) w6 w7:=by rw[ib];exact(Kp.refl (·=w2.heap.size) w6).setCell (fun _=>rfl) _
      have ql:az w7 w2.heap.size 28 #[.int .i64 4,.int .i64 n,.string x2,.int .i64 m,.string ⟨#[]⟩,.string ⟨#[]⟩,.slice none 0 0,.slice none 0 0]:=by rw[ib];exact hZ.o.bn 3 (.int .i64 m)
      have eF:=Zy (dn.o.kp iL (Ne.symm iU));have eG:=Zy ql;have iO:=Zy (iN.o.own iL (fun _ e=>by have:=bX.o.size;omega));have mZ:=Zy ib;clear iL ql ib;cases ok
      · have HS:=Zy (M.bR gu.o jM.o je.o (by rw[HK.o];exact .inl rfl));go_wp2_with fail;rw[←mZ.o];refine bodyPost_ret (ae aF rfl _ _ w.heap.size rfl bG (af.cO (az.aI eF.o _ _ _ _ _ _ _ _)) rfl) rfl ?_;exact⟨⟨none,rfl,HS.o⟩,iO.o.own (Kp.aI (D:=(·=w.heap.size)) rfl _ _ _ _ _ _ _ _) (fun _ e=>by omega)⟩
      · cases wM
        · have HS:=Zy (M.bR gu.o jM.o je.o (by rw[HK.o];exact .inr (.inl rfl)));go_wp2_with fail;rw[←mZ.o];refine bodyPost_ret (ae aF rfl _ _ w.heap.size rfl bG (af.cO (az.aI eF.o _ _ _ _ _ _ _ _)) rfl) rfl ?_;exact⟨⟨none,rfl,HS.o⟩,iO.o.own (Kp.aI (D:=(·=w.heap.size)) rfl _ _ _ _ _ _ _ _) (fun _ e=>by omega)⟩
        · go_wp2_with fail;have ht:=bY ⟨4,n,x2,m⟩ (show(4:Int)≠1 by decide) M.none_ M.none_ none 0 0 none 0 0 w7;rw[M.bS]at ht;rw[←mZ.o];refine ht.mono ?_;rintro e w5 ⟨rfl,bg⟩;have aH:=eF.o.ext bg;have bI:=eG.o.ext bg;have cZ:=Zy aH;have dh:=Zy (iO.o.trans bg);have AR:=aH.lt;have z0:=aH.c 0 (.int .i64 0) rfl;have z1:=aH.c 1 (.int .i64 0) rfl;have z2:=aH.c 2 (.string ⟨#[]⟩) rfl;have z3:=aH.c 3 (.int .i64 0) rfl;have z4:=aH.c 4 (.string ⟨#[]⟩) rfl;have z5:=aH.c 5 (.string ⟨#[]⟩) rfl;have z6:=aH.c 6 (.slice none 0 0) rfl;have z7:=aH.c 7 (.slice none 0 0) rfl;have e0:=aH.frozen 0;have e1:=aH.frozen 1;have e2:=aH.frozen 2;have e3:=aH.frozen 3;have e4:=aH.frozen 4;have e5:=aH.frozen 5;have e6:=aH.frozen 6;have e7:=aH.frozen 7;have k0:=bI.c 0 (.int .i64 4) rfl;have k1:=bI.c 1 (.int .i64 n) rfl;have k2:=bI.c 2 (.string x2) rfl;have k3:=bI.c 3 (.int .i64 m) rfl;have k4:=bI.c 4 (.string ⟨#[]⟩) rfl;have k5:=bI.c 5 (.string ⟨#[]⟩) rfl;have k6:=bI.c 6 (.slice none 0 0) rfl;have k7:=bI.c 7 (.slice none 0 0) rfl;have kz:=bI.lt;clear ht bg aH bI;cases hq:((M.aL ⟨4,n,x2,m⟩).toList==s.toList)
          · have HS:=Zy (M.bR gu.o jM.o je.o (by rw[HK.o];exact .inr (.inr (di hq))));go_wp2_with fail;refine bodyPost_ret (ae aF rfl _ _ w.heap.size rfl bG (af.cO (az.aI cZ.o _ _ _ _ _ _ _ _)) rfl) rfl ?_;exact⟨⟨none,rfl,HS.o⟩,dh.o.own (Kp.aI (D:=(·=w.heap.size)) rfl _ _ _ _ _ _ _ _) (fun _ e=>by omega)⟩
          · have HS:=Zy (M.dV (s:=s) (c:=⟨4,n,x2,m⟩) (by rw[gu.o];simp) (aM hq));go_wp2_with fail;refine bodyPost_ret (ae aF rfl _ _ w.heap.size rfl [.int .i64 4,.int .i64 n,.string x2,.int .i64 m,.string ⟨#[]⟩,.string ⟨#[]⟩,.slice none 0 0,.slice none 0 0] (af.cO (az.aI cZ.o _ _ _ _ _ _ _ _)) rfl) rfl ?_;exact⟨⟨some _,rfl,HS.o⟩,dh.o.own (Kp.aI (D:=(·=w.heap.size)) rfl _ _ _ _ _ _ _ _) (fun _ e=>by omega)⟩
    · have HK:=Zy hK;clear hK;obtain⟨w3,gm⟩:∃w3,w3=w2.alloc (.cells #[.int .i64 0,.int .i64 n,.string x2,.int .i64 0,.string ⟨#[]⟩,.string ⟨#[]⟩,.slice none 0 0,.slice none 0 0] 28):=⟨_,rfl⟩;have dX:Ext w2 w3:=by rw[gm];exact(by repeat (first|with_reducible exact Kp.refl _ _|with_reducible assumption|with_reducible refine Kp.alloc ?_ _|with_reducible refine Kp.drew ?_|with_reducible refine Kp.drewN ?_ _|with_reducible refine Kp.setCell ?_ (fun h=>absurd h (by simp<;>omega)) _|with_reducible refine Kp.trans ?_ (by with_reducible assumption)|exact Kp.refl _ _|assumption|refine Kp.alloc ?_ _|refine Kp.drew ?_|refine Kp.drewN ?_ _|(refine Kp.setCell ?_ (fun h=>absurd h (by simp;done)) _)|(refine Kp.setCell ?_ (fun h=>absurd h (by simp;omega)) _)|refine Kp.trans ?_ (by assumption)))
      have iD:az w3 w2.heap.size 28 #[.int .i64 0,.int .i64 n,.string x2,.int .i64 0,.string ⟨#[]⟩,.string ⟨#[]⟩,.slice none 0 0,.slice none 0 0]:=by rw[gm];exact az.new _ _ _
      have mY:=Zy gm;have fF:=Zy dX;have jl:=Zy iD;clear gm dX iD;go_wp2_with fail;rw[←mY.o];refine(Av w3).o.mono ?_;rintro e w6 ⟨⟨m,wM,rfl,kI⟩,bu⟩;have je:=Zy kI;have aW:=iK.o.ext (fF.o.trans bu);have cu:=jl.o.ext bu;have dn:=Zy aW;have hZ:=Zy cu;have iN:=Zy (bX.o.trans (fF.o.trans bu));have iU:w2.heap.size≠w.heap.size:=Nat.ne_of_gt zz;have Ex:=aW.lt;have z0:=aW.c 0 (.int .i64 0) rfl;have z1:=aW.c 1 (.int .i64 0) rfl;have z2:=aW.c 2 (.string ⟨#[]⟩) rfl;have z3:=aW.c 3 (.int .i64 0) rfl;have z4:=aW.c 4 (.string ⟨#[]⟩) rfl;have z5:=aW.c 5 (.string ⟨#[]⟩) rfl;have z6:=aW.c 6 (.slice none 0 0) rfl;have z7:=aW.c 7 (.slice none 0 0) rfl;have e0:=aW.frozen 0;have e1:=aW.frozen 1;have e2:=aW.frozen 2;have e3:=aW.frozen 3;have e4:=aW.frozen 4;have e5:=aW.frozen 5;have e6:=aW.frozen 6;have e7:=aW.frozen 7;have k0:=cu.c 0 (.int .i64 0) rfl;have k1:=cu.c 1 (.int .i64 n) rfl;have k2:=cu.c 2 (.string x2) rfl;have k3:=cu.c 3 (.int .i64 0) rfl;have k4:=cu.c 4 (.string ⟨#[]⟩) rfl;have k5:=cu.c 5 (.string ⟨#[]⟩) rfl;have k6:=cu.c 6 (.slice none 0 0) rfl;have k7:=cu.c 7 (.slice none 0 0) rfl;have kf:=cu.frozen 3;have kz:=cu.lt;clear kI aW cu bu q0 q2 q3 qz;obtain⟨w7,ib⟩:∃w7,w7=w6.setCell ⟨w2.heap.size,3,none⟩ (.int .i64 m):=⟨_,rfl⟩;have iL:Kp (·=w2.heap.size) w6 w7:=by rw[ib];exact(Kp.refl (·=w2.heap.size) w6).setCell (fun _=>rfl) _
      have ql:az w7 w2.heap.size 28 #[.int .i64 0,.int .i64 n,.string x2,.int .i64 m,.string ⟨#[]⟩,.string ⟨#[]⟩,.slice none 0 0,.slice none 0 0]:=by rw[ib];exact hZ.o.bn 3 (.int .i64 m)
      have eF:=Zy (dn.o.kp iL (Ne.symm iU));have eG:=Zy ql;have iO:=Zy (iN.o.own iL (fun _ e=>by have:=bX.o.size;omega));have mZ:=Zy ib;clear iL ql ib;cases ok
      · have HS:=Zy (M.bR gu.o jM.o je.o (by rw[HK.o];exact .inl rfl));go_wp2_with fail;rw[←mZ.o];refine bodyPost_ret (ae aF rfl _ _ w.heap.size rfl bG (af.cO (az.aI eF.o _ _ _ _ _ _ _ _)) rfl) rfl ?_;exact⟨⟨none,rfl,HS.o⟩,iO.o.own (Kp.aI (D:=(·=w.heap.size)) rfl _ _ _ _ _ _ _ _) (fun _ e=>by omega)⟩
      · cases wM
        · have HS:=Zy (M.bR gu.o jM.o je.o (by rw[HK.o];exact .inr (.inl rfl)));go_wp2_with fail;rw[←mZ.o];refine bodyPost_ret (ae aF rfl _ _ w.heap.size rfl bG (af.cO (az.aI eF.o _ _ _ _ _ _ _ _)) rfl) rfl ?_;exact⟨⟨none,rfl,HS.o⟩,iO.o.own (Kp.aI (D:=(·=w.heap.size)) rfl _ _ _ _ _ _ _ _) (fun _ e=>by omega)⟩
        · go_wp2_with fail;have ht:=bY ⟨0,n,x2,m⟩ (show(0:Int)≠1 by decide) M.none_ M.none_ none 0 0 none 0 0 w7;rw[M.bS]at ht;rw[←mZ.o];refine ht.mono ?_;rintro e w5 ⟨rfl,bg⟩;have aH:=eF.o.ext bg;have bI:=eG.o.ext bg;have cZ:=Zy aH;have dh:=Zy (iO.o.trans bg);have AR:=aH.lt;have z0:=aH.c 0 (.int .i64 0) rfl;have z1:=aH.c 1 (.int .i64 0) rfl;have z2:=aH.c 2 (.string ⟨#[]⟩) rfl;have z3:=aH.c 3 (.int .i64 0) rfl;have z4:=aH.c 4 (.string ⟨#[]⟩) rfl;have z5:=aH.c 5 (.string ⟨#[]⟩) rfl;have z6:=aH.c 6 (.slice none 0 0) rfl;have z7:=aH.c 7 (.slice none 0 0) rfl;have e0:=aH.frozen 0;have e1:=aH.frozen 1;have e2:=aH.frozen 2;have e3:=aH.frozen 3;have e4:=aH.frozen 4;have e5:=aH.frozen 5;have e6:=aH.frozen 6;have e7:=aH.frozen 7;have k0:=bI.c 0 (.int .i64 0) rfl;have k1:=bI.c 1 (.int .i64 n) rfl;have k2:=bI.c 2 (.string x2) rfl;have k3:=bI.c 3 (.int .i64 m) rfl;have k4:=bI.c 4 (.string ⟨#[]⟩) rfl;have k5:=bI.c 5 (.string ⟨#[]⟩) rfl;have k6:=bI.c 6 (.slice none 0 0) rfl;have k7:=bI.c 7 (.slice none 0 0) rfl;have kz:=bI.lt;clear ht bg aH bI;cases hq:((M.aL ⟨0,n,x2,m⟩).toList==s.toList)
          · have HS:=Zy (M.bR gu.o jM.o je.o (by rw[HK.o];exact .inr (.inr (di hq))));go_wp2_with fail;refine bodyPost_ret (ae aF rfl _ _ w.heap.size rfl bG (af.cO (az.aI cZ.o _ _ _ _ _ _ _ _)) rfl) rfl ?_;exact⟨⟨none,rfl,HS.o⟩,dh.o.own (Kp.aI (D:=(·=w.heap.size)) rfl _ _ _ _ _ _ _ _) (fun _ e=>by omega)⟩
          · have HS:=Zy (M.dV (s:=s) (c:=⟨0,n,x2,m⟩) (by rw[gu.o];simp) (aM hq));go_wp2_with fail;refine bodyPost_ret (ae aF rfl _ _ w.heap.size rfl [.int .i64 0,.int .i64 n,.string x2,.int .i64 m,.string ⟨#[]⟩,.string ⟨#[]⟩,.slice none 0 0,.slice none 0 0] (af.cO (az.aI cZ.o _ _ _ _ _ _ _ _)) rfl) rfl ?_;exact⟨⟨some _,rfl,HS.o⟩,dh.o.own (Kp.aI (D:=(·=w.heap.size)) rfl _ _ _ _ _ _ _ _) (fun _ e=>by omega)⟩
end Go.Proofs.YtmcmhalhieejaaaGreatDoor
namespace Go.Proofs.YtmcmhalhieejaaaGreatDoor
open Go Go.RowKit
structure dK(w:World):Prop where
 tab:Lib.TabIs Tryz.prog w "internal/strconv.uint64pow10" .u64 Lib.pow10Tab
 OI:∃ev,w.cell? ⟨4,0,none⟩=some ev∧(ev=.nilIface∨∃te pe,ev=.iface te pe)
 max:∃m,w.cell? ⟨0,0,none⟩=some (.int .i64 m)
 low:2≤w.heap.size
theorem uk:Tryz.prog.globalNamed "internal/strconv.uint64pow10" =some 1:=by kernel_rfl
theorem dK.ext{w w':World}(h:dK w)(hE:Ext w w'):dK w':=by
 obtain⟨h1,⟨ev,h2,rY⟩,⟨m,h3⟩,h4⟩:=h;exact⟨var?_below hE.um uk (by omega) h1,⟨ev,hE.aj h2,rY⟩,⟨m,hE.aj h3⟩,by have:=hE.size;omega⟩
theorem Ext.grow(w:World)(k:Nat)(os:Array Obj):Ext w (Sort.grow (w.drewN k) os):=
 ⟨rfl,rfl,rfl,by rw[Sort.size_grow];exact Nat.le_add_right _ _,fun j hj _=>Sort.heap_grow_old (w.drewN k) os hj⟩
theorem ko{d:Int}(h0:0≤d)(h2:d≤2):Lib.itoa d=M.digit d:=by
 have:d=0∨d=1∨d=2:=by omega
 rcases this with rfl|rfl|rfl<;>decide+kernel
theorem nA{d:Int}(h0:0≤d)(h2:d≤2):Lib.atoi (M.digit d)=some d:=by
 have:d=0∨d=1∨d=2:=by omega
 rcases this with rfl|rfl|rfl<;>decide+kernel
theorem Ext.bytes(w:World)(e:TypeId)(s:ByteArray):Ext w (Lib.bytesWorld w e s):=by
 have h1:Ext w (w.drew.alloc (.cells (Lib.bytesCells w e s) e)):=(Kp.refl _ _).drew.alloc _;refine⟨rfl,rfl,rfl,?_,fun k hk _=>?_⟩
 · have:=h1.size;simp[Lib.bytesWorld,World.freeze]at this ⊢
 · rw[←h1.block k hk (fun x=>x)];simp[Lib.bytesWorld,World.freeze,Array.getElem?_modify];omega
def pE(s:ByteArray)(e:Ending):Prop:=∃n b,e=.returned (.tuple #[.int .i64 n,.bool b])∧M.Reads s n b
theorem pE.no{s:ByteArray}(h:s.size<1∨5<s.size∨Lib.atoi s.data.toList=none):pE s (.returned (.tuple #[.int .i64 0,.bool false])):=by
 refine⟨0,false,rfl,fun e=>(by cases e),fun d h0 h2 hd=>?_⟩;subst hd;rcases h with h|h|h
 · have:(M.bs (M.digit d)).size=1:=rfl;omega
 · have:(M.bs (M.digit d)).size=1:=rfl;omega
 · exact absurd (nA h0 h2) (by
    have e:(M.bs (M.digit d)).data.toList=M.digit d:=rfl;rw[e]at h;rw[h];simp)
theorem rO(s:ByteArray)(w:World)(hv:dK w):
    Calls Tryz.prog 35 #[.string s] w fun e w'=>pE s e∧Ext w w':=by
 by_cases h1:s.size<1
 · go_enter Tryz.func35,Tryz.ntmps35;go_wp2_with fail;go_ret2;exact⟨pE.no (.inl h1),Kp.refl _ _⟩
 by_cases h5:5<s.size
 · go_enter Tryz.func35,Tryz.ntmps35;go_wp2_with fail;go_ret2;exact⟨pE.no (.inr (.inl h5)),Kp.refl _ _⟩
 cases ha:Lib.atoi s.data.toList with
 |none=>
  have HN:=Zy (pE.no (.inr (.inr ha)));obtain⟨ev,he,LK⟩:=hv.OI;have HA:=Zy (Tryz.strconv_Atoi_err s (by omega) ha ev w he LK);clear ha he LK;go_enter Tryz.func35,Tryz.ntmps35;go_wp2_with fail;refine HA.o.mono ?_;rintro e w1 ⟨N,rfl, -, -,hB⟩;have HE:=Zy (Kp.of_below (D:=fun _=>False) hB);clear hB;go_wp2_with fail;go_ret2;exact⟨HN.o,HE.o⟩
 | some n =>
  have hb := Lib.atoi_bound ha (by have : s.data.toList.length = s.size := by simp
                                   omega)
  have hd:∀d,0≤d→d≤2→s=M.bs (M.digit d)→n=d:=fun d h0 h2 e=>by
   subst e;have e2:Lib.atoi (M.bs (M.digit d)).data.toList=some d:=nA h0 h2;rw[e2]at ha;exact(Option.some.inj ha).symm
  have HD:=Zy hd;have HA:=Zy (Tryz.strconv_Atoi s n (by omega) ha w);have HV:=Zy hv;clear hd ha hv;obtain⟨t,ht⟩:∃t:ByteArray,t=⟨(Lib.itoa n).toArray⟩:=⟨_,rfl⟩;have HI:=fun W (h:dK W)=>Zy (Tryz.strconv_Itoa n (by omega) (by omega) W h.tab);rw[←ht]at HI;have HT:=Zy ht;clear ht;have jb:Zz (∀(h:¬(t=s∧ -9999≤n∧n≤9999)),pE s (.returned (.tuple #[.int .i64 0,.bool false]))):=Zy (fun h=>⟨0,false,rfl,fun e=>(by cases e),fun d h0 h2 e=>by
   have e2:=HD.o d h0 h2 e;subst e2;exact absurd ⟨by rw[HT.o,e,ko h0 h2];rfl,by omega,by omega⟩ h⟩)
  cases hq:(t.toList==s.toList)
  · have HR:=Zy (jb.o (fun h=>di hq h.1));go_enter Tryz.func35,Tryz.ntmps35;go_wp2_with fail;refine HA.o.mono ?_;rintro e w1 ⟨rfl,u,rfl⟩;have bM:=Zy (Ext.bytes w 5 u);go_wp2_with fail;refine(HI _ (HV.o.ext bM.o)).o.mono ?_;rintro e w2 ⟨rfl,k,os,rfl⟩;have bX:=Zy (bM.o.trans (Ext.grow _ k os));go_wp2_with fail;go_ret2;exact⟨HR.o,bX.o⟩
  by_cases h9: -9999≤n∧n≤9999
  · have HR:Zz (pE s (.returned (.tuple #[.int .i64 n,.bool true]))):=Zy ⟨n,true,rfl,fun _ h0 h2=>by
     rw[←aM hq,HT.o,ko h0 h2];rfl,fun d h0 h2 e=>⟨HD.o d h0 h2 e,rfl⟩⟩
    go_enter Tryz.func35,Tryz.ntmps35;go_wp2_with fail;refine HA.o.mono ?_;rintro e w1 ⟨rfl,u,rfl⟩;have bM:=Zy (Ext.bytes w 5 u);go_wp2_with fail;refine(HI _ (HV.o.ext bM.o)).o.mono ?_;rintro e w2 ⟨rfl,k,os,rfl⟩;have bX:=Zy (bM.o.trans (Ext.grow _ k os));go_wp2_with fail;go_ret2;exact⟨HR.o,bX.o⟩
  · have HR:=Zy (jb.o (fun h=>h9 h.2));go_enter Tryz.func35,Tryz.ntmps35;go_wp2_with fail;refine HA.o.mono ?_;rintro e w1 ⟨rfl,u,rfl⟩;have bM:=Zy (Ext.bytes w 5 u);go_wp2_with fail;refine(HI _ (HV.o.ext bM.o)).o.mono ?_;rintro e w2 ⟨rfl,k,os,rfl⟩;have bX:=Zy (bM.o.trans (Ext.grow _ k os));go_wp2_with fail
    all_goals
     go_ret2;exact⟨HR.o,bX.o⟩
theorem gN(s:ByteArray)(w:World)(hv:dK w):
    Calls Tryz.prog 19 #[.string s] w fun e w'=>pE s e∧Ext w w':=by
 have HS:=Zy (rO s w hv);clear hv;go_enter Tryz.func19,Tryz.ntmps19;go_wp2_with fail;refine HS.o.mono ?_;rintro e w1 ⟨⟨n,b,rfl,hr⟩,hE⟩;have HR:=Zy hr;have HE:=Zy hE;clear hr hE;have jb:Zz (b=false∨n<0→pE s (.returned (.tuple #[.int .i64 0,.bool false]))):=Zy (fun h=>⟨0,false,rfl,fun e=>(by cases e),fun d h0 h2 e=>by
  obtain⟨rfl,rfl⟩:=HR.o.2 d h0 h2 e;rcases h with h|h
  · cases h
  · omega⟩)
 cases b
 · have HN:=Zy (jb.o (.inl rfl));go_wp2_with fail;go_ret2;exact⟨HN.o,HE.o⟩
 · by_cases hn:n<0
   · have HN:=Zy (jb.o (.inr hn));go_wp2_with fail;go_ret2;exact⟨HN.o,HE.o⟩
   · go_wp2_with fail;go_ret2;exact⟨⟨_,_,rfl,HR.o⟩,HE.o⟩
theorem uN(a1:Option Addr)(n1 c1:Nat)(w:World):
    Calls Tryz.prog 57 #[.slice a1 n1 c1,.slice none 0 0] w fun e w'=>e=.returned (.bool (decide (n1=0)))∧w=w':=by
 by_cases h:n1=0
 · subst h;go_enter Tryz.func57,Tryz.ntmps57;go_wp2_with fail;go_loop [13] (fun i=>i=.int .i64 0) (fun _=>0)
   case atStart=>rfl
   case round=>
    subst hrel;go_wp2_with fail;go_ret;exact⟨rfl,rfl⟩
 · have h':((n1:Int)==0)=false:=beq_eq_false_iff_ne.2 (by omega);have HD:Zz (decide (n1=0)=false):=Zy (decide_eq_false h);clear h;go_enter Tryz.func57,Tryz.ntmps57;go_wp2_with fail;go_ret;exact⟨by rw[HD.o];rfl,rfl⟩
theorem tL(a1:Option Addr)(n1 c1:Nat)(fv:Value)(w:World):
    Calls Tryz.prog 58 #[.slice a1 n1 c1,.slice none 0 0,fv] w fun e w'=>e=.returned (.bool (decide (n1=0)))∧w=w':=by
 by_cases h:n1=0
 · subst h;go_enter Tryz.func58,Tryz.ntmps58;go_wp2_with fail;go_loop [17] (fun i=>i=.int .i64 0) (fun _=>0)
   case atStart=>rfl
   case round=>
    subst hrel;go_wp2_with fail;go_ret;exact⟨rfl,rfl⟩
 · have h':((n1:Int)==0)=false:=beq_eq_false_iff_ne.2 (by omega);have HD:Zz (decide (n1=0)=false):=Zy (decide_eq_false h);clear h;go_enter Tryz.func58,Tryz.ntmps58;go_wp2_with fail;go_ret;exact⟨by rw[HD.o];rfl,rfl⟩
theorem yX(nm su:ByteArray)(a1:Option Addr)(n1 c1:Nat)(a2:Option Addr)(n2 c2:Nat)(w:World):
    Calls Tryz.prog 40 #[.agg #[.string nm,.string su,.slice a1 n1 c1,.slice a2 n2 c2],.agg #[.string ⟨#[]⟩,.string ⟨#[]⟩,.slice none 0 0,.slice none 0 0]] w fun e w'=>e=.returned (.bool (M.bC nm su n1 n2))∧Ext w w':=by
 unfold M.bC;rw[←aX nm,←aX su];have HF:=fun W=>Zy (uN a1 n1 c1 W);have HM:=fun fv W=>Zy (tL a2 n2 c2 fv W);cases h1:nm.toList.isEmpty
 · go_enter Tryz.func40,Tryz.ntmps40;go_wp2_with fail;go_ret;exact⟨rfl,(by repeat (first|with_reducible exact Kp.refl _ _|with_reducible assumption|with_reducible refine Kp.alloc ?_ _|with_reducible refine Kp.drew ?_|with_reducible refine Kp.drewN ?_ _|with_reducible refine Kp.setCell ?_ (fun h=>absurd h (by simp<;>omega)) _|with_reducible refine Kp.trans ?_ (by with_reducible assumption)|exact Kp.refl _ _|assumption|refine Kp.alloc ?_ _|refine Kp.drew ?_|refine Kp.drewN ?_ _|(refine Kp.setCell ?_ (fun h=>absurd h (by simp;done)) _)|(refine Kp.setCell ?_ (fun h=>absurd h (by simp;omega)) _)|refine Kp.trans ?_ (by assumption)))⟩
 cases h2:su.toList.isEmpty
 · go_enter Tryz.func40,Tryz.ntmps40;go_wp2_with fail;go_ret;exact⟨rfl,(by repeat (first|with_reducible exact Kp.refl _ _|with_reducible assumption|with_reducible refine Kp.alloc ?_ _|with_reducible refine Kp.drew ?_|with_reducible refine Kp.drewN ?_ _|with_reducible refine Kp.setCell ?_ (fun h=>absurd h (by simp<;>omega)) _|with_reducible refine Kp.trans ?_ (by with_reducible assumption)|exact Kp.refl _ _|assumption|refine Kp.alloc ?_ _|refine Kp.drew ?_|refine Kp.drewN ?_ _|(refine Kp.setCell ?_ (fun h=>absurd h (by simp;done)) _)|(refine Kp.setCell ?_ (fun h=>absurd h (by simp;omega)) _)|refine Kp.trans ?_ (by assumption)))⟩
 cases h3:decide (n1=0)
 · simp only[h3]at HF;go_enter Tryz.func40,Tryz.ntmps40;go_wp2_with fail;refine(HF _).o.mono ?_;rintro e w1 ⟨rfl,rfl⟩;go_wp2_with fail;go_ret;exact⟨rfl,(by repeat (first|with_reducible exact Kp.refl _ _|with_reducible assumption|with_reducible refine Kp.alloc ?_ _|with_reducible refine Kp.drew ?_|with_reducible refine Kp.drewN ?_ _|with_reducible refine Kp.setCell ?_ (fun h=>absurd h (by simp<;>omega)) _|with_reducible refine Kp.trans ?_ (by with_reducible assumption)|exact Kp.refl _ _|assumption|refine Kp.alloc ?_ _|refine Kp.drew ?_|refine Kp.drewN ?_ _|(refine Kp.setCell ?_ (fun h=>absurd h (by simp;done)) _)|(refine Kp.setCell ?_ (fun h=>absurd h (by simp;omega)) _)|refine Kp.trans ?_ (by assumption)))⟩
 · simp only[h3]at HF;go_enter Tryz.func40,Tryz.ntmps40;go_wp2_with fail;refine(HF _).o.mono ?_;rintro e w1 ⟨rfl,rfl⟩;go_wp2_with fail;refine(HM _ _).o.mono ?_;rintro e w1 ⟨rfl,rfl⟩;go_wp2_with fail;go_ret;exact⟨rfl,(by repeat (first|with_reducible exact Kp.refl _ _|with_reducible assumption|with_reducible refine Kp.alloc ?_ _|with_reducible refine Kp.drew ?_|with_reducible refine Kp.drewN ?_ _|with_reducible refine Kp.setCell ?_ (fun h=>absurd h (by simp<;>omega)) _|with_reducible refine Kp.trans ?_ (by with_reducible assumption)|exact Kp.refl _ _|assumption|refine Kp.alloc ?_ _|refine Kp.drew ?_|refine Kp.drewN ?_ _|(refine Kp.setCell ?_ (fun h=>absurd h (by simp;done)) _)|(refine Kp.setCell ?_ (fun h=>absurd h (by simp;omega)) _)|refine Kp.trans ?_ (by assumption)))⟩
def r9(b:Bool)(e:Ending):Prop:=(b=true∧∃t x,e=.returned (.iface t x))∨(b=false∧e=.returned .nilIface)
theorem M.yT(c:M.mf):M.bP c=(if 0≤c.keeper∧c.keeper≤2 then(if M.aB c.name=true then(if c.kind=3 then decide (0≤c.dst∧c.dst≤2)else decide ((c.kind=2∨c.kind=4)∧c.dst=0))else false)else false):=by
 unfold M.bP;by_cases h1:0≤c.keeper<;>by_cases h2:c.keeper≤2<;>cases h3:M.aB c.name<;>by_cases h4:c.kind=3<;>simp[h1,h2,h4]<;>(by_cases h5:c.kind=2<;>by_cases h6:c.kind=4<;>simp[h5,h6])
theorem xm(c:M.mf)(jc:c.kind≠1)(nm su:ByteArray)(a1:Option Addr)(n1 c1:Nat)(a2:Option Addr)(n2 c2:Nat)(w:World):
    Calls Tryz.prog 25 #[.agg (jv c nm su a1 n1 c1 a2 n2 c2).toArray] w fun e w'=>r9 (M.bP c&&M.bC nm su n1 n2) e∧Ext w w':=by
 rw[M.yT];obtain⟨kind,keeper,name,dst⟩:=c;simp only[jv]at jc ⊢;obtain⟨w0,bB,bH,hb⟩:=nu w #[.int .i64 kind,.int .i64 keeper,.string name,.int .i64 dst,.string nm,.string su,.slice a1 n1 c1,.slice a2 n2 c2] 28;have aZ:=Zy bH;have HB:=Zy hb;have bZ:=Zy bB;clear bH hb bB;have JG:(kind==1)=false:=beq_eq_false_iff_ne.2 jc;have c0:=HB.o.c 0 (.int .i64 kind) rfl;have c1':=HB.o.c 1 (.int .i64 keeper) rfl;have c2':=HB.o.c 2 (.string name) rfl;have c3:=HB.o.c 3 (.int .i64 dst) rfl;have c4:=HB.o.c 4 (.string nm) rfl;have c5:=HB.o.c 5 (.string su) rfl;have c6:=HB.o.c 6 (.slice a1 n1 c1) rfl;have c7:=HB.o.c 7 (.slice a2 n2 c2) rfl;have cz:=HB.o.lt;have ik:=fun W=>Zy (dS name W);have jb:=fun W=>Zy (yX nm su a1 n1 c1 a2 n2 c2 W);by_cases h1:keeper<0
 · rw[if_neg (by omega)];go_enter Tryz.func25,Tryz.ntmps25;go_wp2_with fail;rw[←bZ.o];go_ret;exact⟨.inr ⟨rfl,rfl⟩,aZ.o⟩
 by_cases h2:3≤keeper
 · rw[if_neg (by omega)];go_enter Tryz.func25,Tryz.ntmps25;go_wp2_with fail;rw[←bZ.o];go_ret;exact⟨.inr ⟨rfl,rfl⟩,aZ.o⟩
 rw[if_pos (by omega)];cases h3:M.aB name
 · simp only[h3]at ik;rw[if_neg (by simp)];go_enter Tryz.func25,Tryz.ntmps25;go_wp2_with fail;rw[←bZ.o];refine(ik w0).o.mono ?_;rintro e w1 ⟨rfl,rfl⟩;go_wp2_with fail;go_ret;exact⟨.inr ⟨rfl,rfl⟩,aZ.o⟩
 simp only[h3]at ik;rw[if_pos rfl];cases h4:M.bC nm su n1 n2
 · simp only[h4]at jb;rw[Bool.and_false];go_enter Tryz.func25,Tryz.ntmps25;go_wp2_with fail;rw[←bZ.o];refine(ik w0).o.mono ?_;rintro e w1 ⟨rfl,rfl⟩;go_wp2_with fail;refine(jb w0).o.mono ?_;rintro e w1 ⟨rfl,aQ⟩;go_wp2_with fail;go_ret;exact⟨.inr ⟨rfl,rfl⟩,aZ.o.trans aQ⟩
 simp only[h4]at jb;rw[Bool.and_true];by_cases k3:kind=3
 · have Oy:(kind==3)=true:=beq_iff_eq.2 k3;rw[if_pos k3];clear k3 jc;by_cases h5:0≤dst∧dst≤2
   · rw[decide_eq_true h5];go_enter Tryz.func25,Tryz.ntmps25;go_wp2_with fail;rw[←bZ.o];refine(ik w0).o.mono ?_;rintro e w1 ⟨rfl,rfl⟩;go_wp2_with fail;refine(jb w0).o.mono ?_;rintro e w1 ⟨rfl,aQ⟩;have bf:=HB.o.ext aQ;have d0:=bf.c 0 (.int .i64 kind) rfl;have d2:=bf.c 2 (.string name) rfl;have d3:=bf.c 3 (.int .i64 dst) rfl;have dz:=bf.lt;have bM:=Zy (aZ.o.trans aQ);clear bf aQ;go_wp2_with fail;go_ret;exact⟨.inl ⟨rfl,_,_,rfl⟩,(by first|exact bM.o|exact bM.o.alloc _)⟩
   · rw[decide_eq_false h5];by_cases h6:dst<0
     · go_enter Tryz.func25,Tryz.ntmps25;go_wp2_with fail;rw[←bZ.o];refine(ik w0).o.mono ?_;rintro e w1 ⟨rfl,rfl⟩;go_wp2_with fail;refine(jb w0).o.mono ?_;rintro e w1 ⟨rfl,aQ⟩;have bf:=HB.o.ext aQ;have d0:=bf.c 0 (.int .i64 kind) rfl;have d2:=bf.c 2 (.string name) rfl;have d3:=bf.c 3 (.int .i64 dst) rfl;have dz:=bf.lt;have bM:=Zy (aZ.o.trans aQ);clear bf aQ;go_wp2_with fail;go_ret;exact⟨.inr ⟨rfl,rfl⟩,bM.o⟩
     · have h7:3≤dst:=by omega
       go_enter Tryz.func25,Tryz.ntmps25;go_wp2_with fail;rw[←bZ.o];refine(ik w0).o.mono ?_;rintro e w1 ⟨rfl,rfl⟩;go_wp2_with fail;refine(jb w0).o.mono ?_;rintro e w1 ⟨rfl,aQ⟩;have bf:=HB.o.ext aQ;have d0:=bf.c 0 (.int .i64 kind) rfl;have d2:=bf.c 2 (.string name) rfl;have d3:=bf.c 3 (.int .i64 dst) rfl;have dz:=bf.lt;have bM:=Zy (aZ.o.trans aQ);clear bf aQ;go_wp2_with fail;go_ret;exact⟨.inr ⟨rfl,rfl⟩,bM.o⟩
 have Oy:(kind==3)=false:=beq_eq_false_iff_ne.2 k3;rw[if_neg k3];cases h5:(dst==0)
 · rw[decide_eq_false (fun h=>absurd h.2 (beq_eq_false_iff_ne.1 h5))];clear k3 jc;go_enter Tryz.func25,Tryz.ntmps25;go_wp2_with fail;rw[←bZ.o];refine(ik w0).o.mono ?_;rintro e w1 ⟨rfl,rfl⟩;go_wp2_with fail;refine(jb w0).o.mono ?_;rintro e w1 ⟨rfl,aQ⟩;have bf:=HB.o.ext aQ;have d0:=bf.c 0 (.int .i64 kind) rfl;have d2:=bf.c 2 (.string name) rfl;have d3:=bf.c 3 (.int .i64 dst) rfl;have dz:=bf.lt;have bM:=Zy (aZ.o.trans aQ);clear bf aQ;go_wp2_with fail;go_ret;exact⟨.inr ⟨rfl,rfl⟩,bM.o⟩
 cases k2:(kind==2)
 · cases k4:(kind==4)
   · rw[decide_eq_false (fun h=>h.1.elim (beq_eq_false_iff_ne.1 k2) (beq_eq_false_iff_ne.1 k4))];clear k3 jc;go_enter Tryz.func25,Tryz.ntmps25;go_wp2_with fail;rw[←bZ.o];refine(ik w0).o.mono ?_;rintro e w1 ⟨rfl,rfl⟩;go_wp2_with fail;refine(jb w0).o.mono ?_;rintro e w1 ⟨rfl,aQ⟩;have bf:=HB.o.ext aQ;have d0:=bf.c 0 (.int .i64 kind) rfl;have d2:=bf.c 2 (.string name) rfl;have d3:=bf.c 3 (.int .i64 dst) rfl;have dz:=bf.lt;have bM:=Zy (aZ.o.trans aQ);clear bf aQ;go_wp2_with fail;go_ret;exact⟨.inr ⟨rfl,rfl⟩,bM.o⟩
   · rw[decide_eq_true ⟨.inr (beq_iff_eq.1 k4),beq_iff_eq.1 h5⟩];clear k3 jc;go_enter Tryz.func25,Tryz.ntmps25;go_wp2_with fail;rw[←bZ.o];refine(ik w0).o.mono ?_;rintro e w1 ⟨rfl,rfl⟩;go_wp2_with fail;refine(jb w0).o.mono ?_;rintro e w1 ⟨rfl,aQ⟩;have bf:=HB.o.ext aQ;have d0:=bf.c 0 (.int .i64 kind) rfl;have d2:=bf.c 2 (.string name) rfl;have d3:=bf.c 3 (.int .i64 dst) rfl;have dz:=bf.lt;have bM:=Zy (aZ.o.trans aQ);clear bf aQ;go_wp2_with fail;go_ret;exact⟨.inl ⟨rfl,_,_,rfl⟩,(by first|exact bM.o|exact bM.o.alloc _)⟩
 · rw[decide_eq_true ⟨.inl (beq_iff_eq.1 k2),beq_iff_eq.1 h5⟩];clear k3 jc;go_enter Tryz.func25,Tryz.ntmps25;go_wp2_with fail;rw[←bZ.o];refine(ik w0).o.mono ?_;rintro e w1 ⟨rfl,rfl⟩;go_wp2_with fail;refine(jb w0).o.mono ?_;rintro e w1 ⟨rfl,aQ⟩;have bf:=HB.o.ext aQ;have d0:=bf.c 0 (.int .i64 kind) rfl;have d2:=bf.c 2 (.string name) rfl;have d3:=bf.c 3 (.int .i64 dst) rfl;have dz:=bf.lt;have bM:=Zy (aZ.o.trans aQ);clear bf aQ;go_wp2_with fail;go_ret;exact⟨.inl ⟨rfl,_,_,rfl⟩,(by first|exact bM.o|exact bM.o.alloc _)⟩
theorem uL(c:M.mf)(jc:c.kind≠1)(nm su:ByteArray)(a1:Option Addr)(n1 c1:Nat)(a2:Option Addr)(n2 c2:Nat)(w:World):
    Calls Tryz.prog 11 #[.agg (jv c nm su a1 n1 c1 a2 n2 c2).toArray] w fun e w'=>e=.returned (.bool (M.bP c&&M.bC nm su n1 n2))∧Ext w w':=by
 have HC:=fun W=>Zy (xm c jc nm su a1 n1 c1 a2 n2 c2 W);obtain⟨B,hB⟩:∃B,(M.bP c&&M.bC nm su n1 n2)=B:=⟨_,rfl⟩;rw[hB]at HC ⊢;clear hB jc;simp only[jv]at HC ⊢;go_enter Tryz.func11,Tryz.ntmps11;go_wp2_with fail;refine(HC _).o.mono ?_;rintro e w1 ⟨⟨rfl,t,x,rfl⟩|⟨rfl,rfl⟩,hE⟩
 · have HE:=Zy (((Kp.refl _ _).alloc _:Ext w _).trans hE);clear hE;go_wp2_with fail;go_ret;exact⟨rfl,HE.o⟩
 · have HE:=Zy (((Kp.refl _ _).alloc _:Ext w _).trans hE);clear hE;go_wp2_with fail;go_ret;exact⟨rfl,HE.o⟩
theorem sO{keeper:Int}{name t:ByteArray}(pre:List UInt8)(ht:t=M.bs (M.digit keeper)):
    M.bs (pre++[32])++(t++M.bs [32]++name)=M.bs (pre++32::(M.digit keeper++32::name.data.toList)):=by
 subst ht;apply ByteArray.ext;apply Array.toList_inj.1;simp[M.bs]
theorem uM{keeper dst:Int}{name t u:ByteArray}(pre:List UInt8)(ht:t=M.bs (M.digit keeper))(hu:u=M.bs (M.digit dst)):
    M.bs (pre++[32])++(t++M.bs [32]++name)++M.bs [32]++u=M.bs (pre++32::(M.digit keeper++32::(name.data.toList++32::M.digit dst))):=by
 subst ht hu;apply ByteArray.ext;apply Array.toList_inj.1;simp[M.bs]
theorem ry(n:Int)(h0:0≤n)(h2:n≤2)(w:World)(hv:dK w):
    Calls Tryz.prog 22 #[.int .i64 n] w fun e w'=>e=.returned (.string (M.bs (M.digit n)))∧Ext w w':=by
 refine(Tryz.strconv_Itoa n (by omega) (by omega) w hv.tab).mono ?_;rintro e w1 ⟨rfl,k,os,rfl⟩;exact⟨by rw[ko h0 h2];rfl,Ext.grow _ k os⟩
theorem jw(c:M.mf)(jc:c.kind≠1)(nm su:ByteArray)(a1:Option Addr)(n1 c1:Nat)(a2:Option Addr)(n2 c2:Nat)(w:World)(hv:dK w):
    Calls Tryz.prog 8 #[.agg (jv c nm su a1 n1 c1 a2 n2 c2).toArray] w fun e w'=>e=.returned (.string (dL c (M.bC nm su n1 n2)))∧Ext w w':=by
 have uY:=fun W=>uL c jc nm su a1 n1 c1 a2 n2 c2 W;obtain⟨kind,keeper,name,dst⟩:=c;simp only[jv]at jc uY ⊢;obtain⟨w0,bB,bH,hb⟩:=nu w #[.int .i64 kind,.int .i64 keeper,.string name,.int .i64 dst,.string nm,.string su,.slice a1 n1 c1,.slice a2 n2 c2] 28;have aZ:=Zy bH;have HB:=Zy hb;have bZ:=Zy bB;clear bH hb bB;have yI:=fun W=>Zy (uY W);clear uY;cases hB:(M.bP ⟨kind,keeper,name,dst⟩&&M.bC nm su n1 n2)
 · rw[hB]at yI;have HR:Zz (dL ⟨kind,keeper,name,dst⟩ (M.bC nm su n1 n2)=M.bs []):=Zy (by unfold dL;rw[hB];rfl);go_enter Tryz.func8,Tryz.ntmps8;go_wp2_with fail;rw[←bZ.o];refine(yI w0).o.mono ?_;rintro e w1 ⟨rfl,aQ⟩;go_wp2_with fail;go_ret;exact⟨by rw[HR.o];rfl,aZ.o.trans aQ⟩
 rw[hB]at yI;have HR:Zz (dL ⟨kind,keeper,name,dst⟩ (M.bC nm su n1 n2)=M.bs (M.bO ⟨kind,keeper,name,dst⟩)):=Zy (by unfold dL;rw[hB];rfl);obtain⟨g0,g2,gn,gk⟩:=M.bA (Bool.and_eq_true_iff.1 hB).1;simp only at g0 g2 gn gk;have JR:=iH gn;have GN:=Zy gn;clear gn;have Au:=fun W (h:dK W)=>Zy (ry keeper g0 g2 W h);have HV:=Zy hv;go_enter Tryz.func8,Tryz.ntmps8;go_wp2_with fail;rw[←bZ.o];refine(yI w0).o.mono ?_;rintro e w1 ⟨rfl,aQ⟩;have gJ:=Zy (HB.o.ext aQ);have bM:=Zy (aZ.o.trans aQ);clear aQ;obtain⟨T,f,fZ,HT⟩:=jS.ex (fun W'=>Ext w1 W') w1 (Kp.refl _ _);have r1:=fun z=>(gJ.o.ext (HT.aK z)).c 1 (.int .i64 keeper) rfl;have r2:=fun z=>(gJ.o.ext (HT.aK z)).c 2 (.string name) rfl;have ay:=Zy HT;clear HT;go_wp2_with fail;(refine ji ay 7 [([0,1,4,5],2)] [3,6] ?_ ?_)
 · exact(Kp.refl _ _).drew
 (refine dR [_,_,_,_] rfl rfl fun K hK=>?_);(repeat (go_big_quiet_step (fail)));(refine qn hK fun K2 au=>?_);clear hK K;go_wp2_with fail;refine(Au _ (HV.o.ext (bM.o.trans (Kp.refl _ _).drew))).o.mono ?_;rintro e w2 ⟨rfl,dm⟩;have bX:Zz (Ext w1 w2):=Zy (((Kp.refl _ _).drew:Ext w1 w1.drew).trans dm);clear dm;have yD:=fI keeper;go_wp2_with fail;(refine kk ay au bX.o ?_);clear au K2;(refine qC [_,_] rfl fun K hK=>?_);(repeat (go_big_quiet_step (fail)));(refine qn hK ?_);clear hK K;have c0:=(gJ.o.ext bX.o).c 0 (.int .i64 kind) rfl;have c3:=(gJ.o.ext bX.o).c 3 (.int .i64 dst) rfl;have cz:=(gJ.o.ext bX.o).lt;have mi:=Zy (bM.o.trans bX.o);clear r1 r2 ay hB;rcases gk with⟨hk,Jn,Jo⟩|⟨hk|hk, -⟩
 · subst hk;have hl:M.bO ⟨3,keeper,name,dst⟩=M.ny++32::(M.digit keeper++32::(name.data.toList++32::M.digit dst)):=by simp[M.bO]
   have HL:=Zy hl;clear hl;have Ou:=fI dst;go_wp2_with fail;refine(ry dst Jn Jo w2 (HV.o.ext mi.o)).mono ?_;rintro e w3 ⟨rfl,dX⟩;go_wp2_with fail;go_ret;exact⟨by rw[HR.o,HL.o,←uM (name:=name) M.ny rfl rfl];rfl,mi.o.trans dX⟩
 · subst hk;have hl:M.bO ⟨2,keeper,name,dst⟩=M.jL++32::(M.digit keeper++32::name.data.toList):=by simp[M.bO]
   have HL:=Zy hl;clear hl;go_wp2_with fail;go_ret;exact⟨by rw[HR.o,HL.o,←sO (name:=name) M.jL rfl];rfl,mi.o⟩
 · subst hk;have hl:M.bO ⟨4,keeper,name,dst⟩=M.jy++32::(M.digit keeper++32::name.data.toList):=by simp[M.bO]
   have HL:=Zy hl;clear hl;go_wp2_with fail;go_ret;exact⟨by rw[HR.o,HL.o,←sO (name:=name) M.jy rfl];rfl,mi.o⟩
def BytesAt(W:World)(v:Value)(zs:List Int):Prop:=
 (v=.slice none 0 0∧zs=[])∨∃a cap,v=.slice (some a) zs.length cap∧zs.length≤cap∧(∀i,i<zs.length→W.cell? (a.add i)=some (.int .u8 (zs.getD i 0)))∧∀n∈zs,0≤n∧n<256
theorem BytesAt.form{W:World}{v:Value}{zs:List Int}(h:BytesAt W v zs):∃a cap,v=.slice a zs.length cap:=by
 rcases h with⟨rfl,rfl⟩|⟨a,cap,rfl,_⟩
 · exact⟨none,0,rfl⟩
 · exact⟨_,_,rfl⟩
theorem jN{W:World}{a:Addr}{v:Value}(h:W.cell? a=some v):a.block<W.heap.size:=by
 rcases Nat.lt_or_ge a.block W.heap.size with h1|h1
 · exact h1
 · simp[World.cell?,Array.getElem?_eq_none h1]at h
theorem BytesAt.ext{W W':World}{v:Value}{zs:List Int}(h:BytesAt W v zs)(hE:Ext W W'):BytesAt W' v zs:=by
 rcases h with h|⟨a,cap,h1,h2,h3,h4⟩
 · exact .inl h
 · exact .inr ⟨a,cap,h1,h2,fun i hi=>(World.cell?_of_block (hE.block _ (jN (h3 i hi)) fun x=>x)).trans (h3 i hi),h4⟩
theorem lC{zs:List Int}(h:∀n∈zs,0≤n∧n<256){i:Nat}(hi:i<zs.length):0≤zs.getD i 0∧zs.getD i 0<256:=by
 have e:zs.getD i 0=zs[i]:=by simp[List.getD,List.getElem?_eq_getElem hi]
 rw[e];exact h _ (List.getElem_mem _)
structure gy(w:World)(rb:Nat)(v:Value)(zs:List Int)(p:Nat):Prop where
 blk:az w rb 70 #[v,.int .i64 p]
 Eh:BytesAt w v zs
 own:zs.length≠0→∀a n c,v=.slice (some a) n c→a.block≠rb
 len:zs.length≤2000
theorem add_block(a:Addr)(i:Nat):(a.add i).block=a.block:=by
 unfold Addr.add;split<;>rfl
theorem BytesAt.kp{D:Nat→Prop}{W W':World}{v:Value}{zs:List Int}(h:BytesAt W v zs)(hk:Kp D W W')(hD:zs.length≠0→∀a n c,v=.slice (some a) n c→¬D a.block):BytesAt W' v zs:=by
 rcases h with h|⟨a,cap,h1,h2,h3,h4⟩
 · exact .inl h
 · exact .inr ⟨a,cap,h1,h2,fun i hi=>(World.cell?_of_block (hk.block _ (jN (h3 i hi)) (by rw[add_block];exact hD (by omega) a _ _ h1))).trans (h3 i hi),h4⟩
theorem gy.ext{w w':World}{rb p:Nat}{v:Value}{zs:List Int}(h:gy w rb v zs p)(hE:Ext w w'):gy w' rb v zs p:=
 ⟨h.blk.ext hE,h.Eh.ext hE,h.own,h.len⟩
theorem gy.next{w:World}{rb p:Nat}{v:Value}{zs:List Int}(h:gy w rb v zs p)(q:Nat):gy (w.setCell ⟨rb,1,none⟩ (.int .i64 q)) rb v zs q∧Kp (·=rb) w (w.setCell ⟨rb,1,none⟩ (.int .i64 q)):=by
 have hk:Kp (·=rb) w (w.setCell ⟨rb,1,none⟩ (.int .i64 q)):=(Kp.refl (·=rb) w).setCell (p:=⟨rb,1,none⟩) (fun _=>rfl) _;exact⟨⟨h.blk.bn 1 _,h.Eh.kp hk (fun h0 a n c e=>h.own h0 a n c e),h.own,h.len⟩,hk⟩
def Cg(n:Int)(e:Ending):Prop:=∃k:Nat,e=.returned (.int .i64 k)∧(k=0∨(k:Int)<n)
theorem vP{a b:Int}(ha:0≤a)(NQ:a<9223372036854775808)(hb:0≤b)(eu:b<9223372036854775808):0≤bits .xor .i64 a b:=by
 obtain⟨x,rfl⟩:∃x:Nat,a=x:=⟨a.toNat,by omega⟩;obtain⟨y,rfl⟩:∃y:Nat,b=y:=⟨b.toNat,by omega⟩;have hx:x ^^^ y<2 ^ 63:=Nat.xor_lt_two_pow (by omega) (by omega);have h1:(BitVec.ofInt 64 (x:Int)).toNat=x:=by
  rw[BitVec.ofInt_natCast,BitVec.toNat_ofNat];exact Nat.mod_eq_of_lt (by omega)
 have h2:(BitVec.ofInt 64 (y:Int)).toNat=y:=by
  rw[BitVec.ofInt_natCast,BitVec.toNat_ofNat];exact Nat.mod_eq_of_lt (by omega)
 have h3:bits .xor .i64 (x:Int) (y:Int)=IntKind.i64.wrap (((BitVec.ofInt 64 (x:Int)^^^ BitVec.ofInt 64 (y:Int)).toNat:Nat):Int):=rfl;rw[h3,BitVec.toNat_xor,h1,h2];simp only[IntKind.wrap,IntKind.bits,IntKind.signed];have:((2:Int)^ 63)=9223372036854775808:=by decide
 simp;omega
theorem tO{n r:Int}(h0:0≤r)(h:r<n):Cg n (.returned (.int .i64 r)):=⟨r.toNat,by rw[Int.toNat_of_nonneg h0],.inr (by omega)⟩
theorem bQ(w:World)(rb p:Nat)(v:Value)(zs:List Int)(n:Int)(h:gy w rb v zs p)(hp:p≤1000000)(hn:n≤1000000000):
    Calls Tryz.prog 16 #[.pointer (some ⟨rb,0,none⟩),.int .i64 n] w fun e w'=>Cg n e∧gy w' rb v zs (p+1)∧Kp (·=rb) w w':=by
 obtain⟨va,vc,rfl⟩:=h.Eh.form;have c0:=h.blk.c 0 (.slice va zs.length vc) rfl;have c1:=h.blk.c 1 (.int .i64 p) rfl;have f1:=h.blk.frozen 1;have cz:=h.blk.lt;have L9:=h.next (p+1);have HN:=Zy L9;have HR:=Zy h;have hlen:=h.len;clear L9 h;by_cases h1:n<1
 · go_enter Tryz.func16,Tryz.ntmps16;go_wp2_with fail;go_ret;exact⟨⟨0,rfl,.inl rfl⟩,HN.o⟩
 by_cases h0:zs.length=0
 · obtain rfl:=List.length_eq_zero_iff.1 h0;go_enter Tryz.func16,Tryz.ntmps16;go_wp2_with fail;go_ret;exact⟨⟨0,rfl,.inl rfl⟩,HN.o⟩
 have Fv:((zs.length:Int)==0)=false:=beq_eq_false_iff_ne.2 (by omega);rcases HR.o.Eh with⟨-,e⟩|⟨a,cap,e1,bK,hc,hb⟩
 · subst e;simp at h0
 cases e1;have FQ:∀i,i<zs.length→(w.setCell ⟨rb,1,none⟩ (.int .i64 ((p:Int)+1))).cell? (a.add i)=some (.int .u8 (zs.getD i 0)):=fun i hi=>by
  have hk:Kp (·=rb) w (w.setCell ⟨rb,1,none⟩ (.int .i64 ((p:Int)+1))):=(Kp.refl (·=rb) w).setCell (p:=⟨rb,1,none⟩) (fun _=>rfl) _;exact(World.cell?_of_block (hk.block _ (jN (hc i hi)) (by rw[add_block];exact HR.o.own h0 a _ _ rfl))).trans (hc i hi)
 by_cases hk:p<zs.length
 · have ci:=FQ p hk;have FM:=lC hb hk;obtain⟨x,hx⟩:∃x,zs.getD p 0=x:=⟨_,rfl⟩;rw[hx]at ci FM;obtain⟨kg,o8⟩:=FM;clear FQ hc hb hx;go_enter Tryz.func16,Tryz.ntmps16;go_wp2_with fail;go_ret;exact⟨tO (Int.emod_nonneg _ (by omega)) (Int.emod_lt_of_pos _ (by omega)),HN.o⟩
 · obtain⟨i,hi⟩:∃i,p % zs.length=i:=⟨_,rfl⟩;obtain⟨j,hj⟩:∃j,(p*7+3)% zs.length=j:=⟨_,rfl⟩;obtain⟨q,hq⟩:∃q,p / zs.length=q:=⟨_,rfl⟩;have LQ:i<zs.length:=by rw[←hi];exact Nat.mod_lt _ (by omega)
   have Hm:j<zs.length:=by rw[←hj];exact Nat.mod_lt _ (by omega)
   have Hq:q≤p:=by rw[←hq];exact Nat.div_le_self _ _
   have ci:=FQ i LQ;have cj:=FQ j Hm;have FM:=lC hb LQ;have Lu:=lC hb Hm;obtain⟨x,hx⟩:∃x,zs.getD i 0=x:=⟨_,rfl⟩;obtain⟨y,hy⟩:∃y,zs.getD j 0=y:=⟨_,rfl⟩;rw[hx]at ci FM;rw[hy]at cj Lu;have e1:(p:Int)% (zs.length:Int)=i:=by rw[←hi];simp
   have e2:((p:Int)*7+3)% (zs.length:Int)=j:=by rw[←hj];simp
   have e3:(p:Int)/ (zs.length:Int)=q:=by rw[←hq];simp
   obtain⟨kg,o8⟩:=FM;obtain⟨PS,PT⟩:=Lu;clear FQ hc hb hx hy hi hj hq;go_enter Tryz.func16,Tryz.ntmps16;go_wp2_with fail;go_quiet (fail);go_wp2_with fail;have hX:0≤bits BinOp.xor IntKind.i64 (x*131+y*1117+p*29+q*53) ((x*131+y*1117+p*29+q*53)/ 64):=vP (by omega) (by omega) (by omega) (by omega);go_ret;exact⟨tO (Int.tmod_nonneg _ hX) (Int.tmod_lt_of_pos _ (by omega)),HN.o.1.ext ((Kp.refl _ _).drewN _),HN.o.2.drewN _⟩
def Ey(e:Ending):Prop:=∃b,e=.returned (.bool b)
theorem D6(w:World)(rb p:Nat)(v:Value)(zs:List Int)(n:Int)(h:gy w rb v zs p)(hp:p≤1000000)(hn:n≤1000000000)(L6: -1000000000≤n):
    Calls Tryz.prog 33 #[.pointer (some ⟨rb,0,none⟩),.int .i64 n] w fun e w'=>Ey e∧gy w' rb v zs (p+1)∧Kp (·=rb) w w':=by
 have HP:=Zy (bQ w rb p v zs n h hp hn);clear h;go_enter Tryz.func33,Tryz.ntmps33;go_wp2_with fail;refine HP.o.mono ?_;rintro e w1 ⟨⟨k,rfl, -⟩,hR⟩;have HR:=Zy hR;clear hR;go_wp2_with fail;go_ret;exact⟨⟨_,rfl⟩,HR.o⟩
theorem wP(w:World)(v:Value)(zs:List Int)(h:BytesAt w v zs):
    Calls Tryz.prog 15 #[v] w fun e w'=>(∃rb v' zs',e=.returned (.pointer (some ⟨rb,0,none⟩))∧w.heap.size≤rb∧gy w' rb v' zs' 0)∧Ext w w':=by
 obtain⟨va,vc,rfl⟩:=h.form;by_cases hl:2000<zs.length
 · rcases h with⟨-,rfl⟩|⟨a,cap,e1,bK,hc,hb⟩
   · simp at hl
   cases e1;have HB:Zz (BytesAt w (.slice (some a) 2000 vc) (zs.take 2000)):=Zy (.inr ⟨a,vc,by rw[List.length_take,Nat.min_eq_left (by omega)],by rw[List.length_take];omega,fun i hi=>by
    rw[List.length_take]at hi;rw[hc i (by omega)];simp only[List.getD,List.getElem?_take];rw[if_pos (by omega)],fun n hn=>hb n (List.mem_of_mem_take hn)⟩)
   have HZ:Zz (a.block<w.heap.size):=Zy (by have:=jN (hc 0 (by omega));rwa[add_block]at this);clear hc hb;go_enter Tryz.func15,Tryz.ntmps15;go_wp2_with fail;go_ret;refine⟨⟨w.heap.size,_,zs.take 2000,rfl,Nat.le_refl _,az.new _ _ _,HB.o.ext ((Kp.refl _ _).alloc _),fun _ a' n c e=>?_,by rw[List.length_take];omega⟩,kx⟩;cases e;have:=HZ.o;omega
 · have HB:=Zy h;have HZ:Zz (∀a n c,Value.slice va zs.length vc=.slice (some a) n c→zs.length≠0→a.block<w.heap.size):=Zy (fun a n c e h0=>by
    rcases h with⟨-,rfl⟩|⟨a',cap,e1,bK,hc,hb⟩
    · simp at h0
    · cases e;cases e1;have:=jN (hc 0 (by omega));rwa[add_block]at this)
   clear h;go_enter Tryz.func15,Tryz.ntmps15;go_wp2_with fail;go_ret;exact⟨⟨w.heap.size,_,zs,rfl,Nat.le_refl _,az.new _ _ _,HB.o.ext ((Kp.refl _ _).alloc _),fun h0 a n c e=>Nat.ne_of_lt (HZ.o a n c e h0),by omega⟩,kx⟩
end Go.Proofs.YtmcmhalhieejaaaGreatDoor
