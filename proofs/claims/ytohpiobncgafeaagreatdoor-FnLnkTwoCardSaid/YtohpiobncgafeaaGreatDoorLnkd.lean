/- Walks. -/
import Derived.Test.YtohpiobncgafeaaGreatDoorLnkc
import Derived.Deep.CutRange
set_option maxRecDepth 100000
set_option maxHeartbeats 4000000
set_option linter.unusedSimpArgs false
set_option linter.unusedVariables false
namespace Go.Proofs.YtohpiobncgafeaaGreatDoor
open Go Go.RowKit
theorem gN(w:World)(l:au)(p:M.ai)(h:aj w l p)(k:Int)(n:ByteArray):
    Calls Tryz.prog 64 #[.pointer (some ⟨l.L,0,none⟩),.int .i64 k,.string n] w fun e w'=>
     e=.returned (.tuple #[.agg #[.int .i64 (M.find p k n).1.keeper,.string (M.find p k n).1.name],.int .i64 (M.find p k n).2])∧Ext w w':=by
 have aM:Ext w (w.alloc (.cells #[.int .i64 0,.string ⟨#[]⟩] 51)):=((Kp.refl _ _).alloc _);have H:=Ys (h.ext aM);clear h;have b0:=az.new w 51 #[.int .i64 0,.string ⟨#[]⟩];go_enter Tryz.func64,Tryz.ntmps64;go_wp2_with fail;refine(rJ _ _ _ H.o _ _).mono ?_;rintro e w1 ⟨rfl,hB⟩;have b1:=b0.ext hB;have c0:=b1.c 0 (.int .i64 0) rfl;have c1:=b1.c 1 (.string ⟨#[]⟩) rfl;have f0:=b1.frozen 0;have f1:=b1.frozen 1;have hz:=b1.lt;by_cases hc:(M.resolve p k n).2=1
 · obtain⟨c,ek⟩:=eD hc;have H1:=Ys (H.o.ext hB);have hR:Zs (M.find p k n=if(M.lQ p (M.resolve p k n).1).isSome then((M.resolve p k n).1,1)else(M.lv,4)):=Ys (by unfold M.find;rw[if_pos hc]);rw[hc];clear hc;generalize (M.resolve p k n).1=r at*;have b2:=az.new w1 51 #[.int .i64 r.keeper,.string r.name];go_wp2_with fail;refine(wC _ _ _ (H1.o.ext ((Kp.refl _ _).alloc _)) _ ⟨c,ek⟩).mono ?_;rintro e w2 ⟨⟨v,rfl,hs⟩,hB2⟩;have b3:=(b1.ext ((Kp.refl _ _).alloc (.cells #[.int .i64 r.keeper,.string r.name] 51))).ext hB2;have b4:=b2.ext hB2;have d0:=b3.c 0 (.int .i64 0) rfl;have d1:=b3.c 1 (.string ⟨#[]⟩) rfl;have g0:=b3.frozen 0;have g1:=b3.frozen 1;have EA:=b3.lt;have d2:=b4.c 0 (.int .i64 r.keeper) rfl;have d3:=b4.c 1 (.string r.name) rfl;have jy:¬w1.heap.size=w.heap.size:=by omega
   cases Wo:(M.lQ p r).isSome
   · rw[Wo]at hR;clear c0 c1 f0 f1 hs ek b0 b1 b2 b3 b4;go_wp2;refine bodyPost_ret (v:=.tuple #[.agg #[.int .i64 0,.string ⟨#[]⟩],.int .i64 4]) (by simp[results,Tryz.results64,go_sem,d0,d1]) rfl ?_;exact⟨by rw[hR.o];rfl,(by repeat (first|with_reducible assumption|with_reducible exact Kp.refl _ _|apply Kp.alloc|apply Kp.drew|apply Kp.drewN|refine Kp.setCell ?_ (fun h=>absurd h (by simp<;>omega)) _|assumption|refine Kp.trans ?_ (by assumption)|exact Kp.refl _ _))⟩
   · rw[Wo]at hR;clear c0 c1 f0 f1 hs ek b0 b1 b2 b3 b4;go_wp2;refine bodyPost_ret (v:=.tuple #[.agg #[.int .i64 r.keeper,.string r.name],.int .i64 1]) (by simp[results,Tryz.results64,go_sem,d0,d1]) rfl ?_;exact⟨by rw[hR.o];rfl,(by repeat (first|with_reducible assumption|with_reducible exact Kp.refl _ _|apply Kp.alloc|apply Kp.drew|apply Kp.drewN|refine Kp.setCell ?_ (fun h=>absurd h (by simp<;>omega)) _|assumption|refine Kp.trans ?_ (by assumption)|exact Kp.refl _ _))⟩
 · have hR:Zs (M.find p k n=(M.lv,(M.resolve p k n).2)):=Ys (by unfold M.find;rw[if_neg hc]);have sH:((M.resolve p k n).2==1)=false:=beq_eq_false_iff_ne.2 hc;clear hc;generalize (M.resolve p k n).2=c at*;go_wp2;refine bodyPost_ret (v:=.tuple #[.agg #[.int .i64 0,.string ⟨#[]⟩],.int .i64 c]) (by simp[results,Tryz.results64,go_sem,c0,c1,hz]) rfl ?_;exact⟨by rw[hR.o];rfl,(by repeat (first|with_reducible assumption|with_reducible exact Kp.refl _ _|apply Kp.alloc|apply Kp.drew|apply Kp.drewN|refine Kp.setCell ?_ (fun h=>absurd h (by simp<;>omega)) _|assumption|refine Kp.trans ?_ (by assumption)|exact Kp.refl _ _))⟩
theorem kS (w : World) (l : au) (p : M.ai) (h : aj w l p) (r : M.Ref) :
    Calls Tryz.prog 70 #[.pointer (some ⟨l.L,0,none⟩),.agg #[.int .i64 r.keeper,.string r.name]] w fun e w'=>
     (∃v,e=.returned v∧SliceOf 2 uL w' (fun b=>w.heap.size≤b) v (M.chain p r))∧Ext w w':=by
 have aM:Ext w (w.alloc (.cells #[.int .i64 r.keeper,.string r.name] 51)):=((Kp.refl _ _).alloc _);have H:=Ys (h.ext aM);clear h;have b0:=az.new w 51 #[.int .i64 r.keeper,.string r.name];have c0:=b0.c 0 (.int .i64 r.keeper) rfl;have c1:=b0.c 1 (.string r.name) rfl;go_enter Tryz.func70,Tryz.ntmps70;go_wp2_with fail;refine(gN _ _ _ H.o _ _).mono ?_;rintro e w1 ⟨rfl,hB⟩;have b1:=b0.ext hB;have d0:=b1.c 0 (.int .i64 r.keeper) rfl;have d1:=b1.c 1 (.string r.name) rfl;have hz:=b1.lt;have H1:=Ys (H.o.ext hB);clear b0 c0 c1;have hR:Zs (M.chain p r=if(M.find p r.keeper r.name).2=1∧(M.find p r.keeper r.name).1=r then(M.lQ p r).getD []else []):=Ys (by
  unfold M.chain M.fA;simp)
 have hF:Zs ((M.find p r.keeper r.name).2=1→(M.find p r.keeper r.name).1=r→∃c,M.cls? p r=some c):=Ys (by
  intro h1 h2;unfold M.find at h1 h2;by_cases hc:(M.resolve p r.keeper r.name).2=1
  · rw[if_pos hc]at h1 h2;obtain⟨c,ek⟩:=eD hc;split at h1
    · rename_i h3;rw[if_pos h3]at h2;have Gw:(M.resolve p r.keeper r.name).1=r:=h2;rw[Gw]at ek;exact⟨c,ek⟩
    · simp at h1
  · rw[if_neg hc]at h1;exact absurd h1 hc)
 generalize M.find p r.keeper r.name=F at*;obtain⟨⟨fk,fn⟩,code⟩:=F;simp only at*;by_cases hc:code=1
 · subst hc;by_cases hr:fk=r.keeper∧fn=r.name
   · obtain⟨rfl,rfl⟩:=hr;obtain⟨c,ek⟩:=hF.o rfl rfl;have Wi:Zs (M.chain p r=(M.lQ p r).getD []):=Ys (by rw[hR.o,if_pos ⟨rfl,rfl⟩]);clear hR hF;go_wp2_with fail;refine(wC _ _ _ (H1.o.ext ((Kp.refl _ _).alloc _)) _ ⟨c,ek⟩).mono ?_;rintro e w2 ⟨⟨v,rfl,hs⟩,hB2⟩;go_wp2;refine bodyPost_ret (v:=v) (by simp[results,Tryz.results70,go_sem]) rfl ?_;refine⟨⟨v,rfl,?_⟩,(by repeat (first|assumption|exact Kp.refl _ _|apply Kp.alloc|apply Kp.drew|apply Kp.drewN|refine Kp.trans ?_ (by assumption)))⟩;rw[Wi.o];exact hs.keep uL.stays (fun _ _ _ _ h=>h) (fun b hb=>by have:=hB.size;simp only[World.size_alloc]at hb this;show w.heap.size≤b;omega)
   · have Wi:Zs (M.chain p r=[]):=Ys (by
      rw[hR.o,if_neg];rintro⟨-,h⟩;exact hr ⟨congrArg M.Ref.keeper h,congrArg M.Ref.name h⟩)
     by_cases hk:fk=r.keeper
     · subst hk;have hn:(fn.toList==r.name.toList)=false:=by
        rw[iI];exact decide_eq_false (fun h=>hr ⟨rfl,h⟩)
       clear hR hF hr;go_wp2;refine bodyPost_ret (v:=.slice none 0 0) (by simp[results,Tryz.results70,go_sem]) rfl ?_;refine⟨⟨_,rfl,?_⟩,(by repeat (first|assumption|exact Kp.refl _ _|apply Kp.alloc|apply Kp.drew|apply Kp.drewN|refine Kp.trans ?_ (by assumption)))⟩;rw[Wi.o];exact SliceOf.nil _ _ _ _
     · have Cz:(fk==r.keeper)=false:=beq_eq_false_iff_ne.2 hk;clear hR hF hr;go_wp2;refine bodyPost_ret (v:=.slice none 0 0) (by simp[results,Tryz.results70,go_sem]) rfl ?_;refine⟨⟨_,rfl,?_⟩,(by repeat (first|assumption|exact Kp.refl _ _|apply Kp.alloc|apply Kp.drew|apply Kp.drewN|refine Kp.trans ?_ (by assumption)))⟩;rw[Wi.o];exact SliceOf.nil _ _ _ _
 · have Wi:Zs (M.chain p r=[]):=Ys (by rw[hR.o,if_neg (fun h=>hc h.1)]);have sH:(code !=1)=true:=bne_iff_ne.2 hc;clear hR hF hc;go_wp2;refine bodyPost_ret (v:=.slice none 0 0) (by simp[results,Tryz.results70,go_sem]) rfl ?_;refine⟨⟨_,rfl,?_⟩,(by repeat (first|assumption|exact Kp.refl _ _|apply Kp.alloc|apply Kp.drew|apply Kp.drewN|refine Kp.trans ?_ (by assumption)))⟩;rw[Wi.o];exact SliceOf.nil _ _ _ _
theorem q9(a b:Int)(m n:ByteArray):(a=b∧m=n)∨(a=b∧(m.toList==n.toList)=false∧m≠n)∨((a==b)=false∧a≠b):=by
 by_cases h:a=b
 · by_cases h2:m=n
   · exact .inl ⟨h,h2⟩
   · exact .inr (.inl ⟨h,by rw[iI];exact decide_eq_false h2,h2⟩)
 · exact .inr (.inr ⟨beq_eq_false_iff_ne.2 h,h⟩)
theorem Db{α:Type} [BEq α] [LawfulBEq α]{l:List α}{x:α}{k:Nat}(h:∀y∈l.take k,y≠x)(hk:l.length≤k):l.contains x=false:=by
 rw[List.take_of_length_le hk]at h;cases hc:l.contains x
 · rfl
 · exact absurd rfl (h x (by simpa using hc))
theorem mM(w:World)(l:au)(p:M.ai)(h:aj w l p)(r t:M.Ref):
    Calls Tryz.prog 111 #[.pointer (some ⟨l.L,0,none⟩),.agg #[.int .i64 r.keeper,.string r.name],.agg #[.int .i64 t.keeper,.string t.name]] w fun e w'=>
     e=.returned (.bool (M.under p r t))∧Ext w w':=by
 have aM:Ext w ((w.alloc (.cells #[.int .i64 r.keeper,.string r.name] 51)).alloc (.cells #[.int .i64 t.keeper,.string t.name] 51)):=kx;have H:=Ys (h.ext aM);clear h;have b5:=az.new (w.alloc (.cells #[.int .i64 r.keeper,.string r.name] 51)) 51 #[.int .i64 t.keeper,.string t.name];simp only[World.size_alloc]at b5;go_enter Tryz.func111,Tryz.ntmps111;go_wp2_with fail;refine(kS _ _ _ H.o _).mono ?_;rintro e w1 ⟨⟨v,rfl,hs⟩,hB⟩;replace b5:=b5.ext hB;obtain⟨a,cap,rfl,hn,dx⟩:=hs.form;have hU:Zs (M.under p r t=(M.chain p r).contains t):=Ys rfl;have aZ:Ext w w1:=aM.trans hB;clear aM hB;generalize M.chain p r=xs at*;go_wp2;go_loopw [13] (fun i wr=>∃k:Nat,k≤xs.length∧i=.int .i64 k∧Ext w1 wr∧Zs (∀y∈xs.take k,y≠t)) (fun i _=>xs.length - (intOf i).toNat)
 case atStart=>exact⟨0,Nat.zero_le _,rfl,Kp.refl _ _,Ys (by simp)⟩
 case round =>
  obtain⟨k,hk,rfl,hE,HA⟩:=hrel;have b5r:=b5.ext hE;have t0:=b5r.c 0 (.int .i64 t.keeper) rfl;have t1:=b5r.c 1 (.string t.name) rfl;have hz:=b5r.lt;by_cases cK:k<xs.length
  · obtain⟨x,hx⟩:=get_some cK;obtain⟨b,off,cs,rfl,hI,rfl, -,hc⟩:=hs.get hx;obtain⟨g0,g1⟩:=(hc.ext hE).two;have HX:=Ys hx;clear hx hc hs b5 b5r;obtain⟨xk,xn⟩:=x;obtain⟨tk,tn⟩:=t;simp only at*;rcases q9 xk tk xn tn with⟨rfl,rfl⟩|⟨rfl,kP,uV⟩|⟨pg,pq⟩
    · go_wp2;go_ret;exact⟨ae (by rw[hU.o];simpa using List.mem_of_getElem? HX.o),(by repeat (first|assumption|exact Kp.refl _ _|apply Kp.alloc|apply Kp.drew|apply Kp.drewN|refine Kp.trans ?_ (by assumption)))⟩
    · have HN:=Ys uV;clear uV;go_wp2;go_roundw
      case rel=>
       refine⟨k+1,by omega,by go_num,kx,Ys ?_⟩;intro y hy;rw[List.take_add_one,HX.o]at hy;rcases List.mem_append.1 hy with h|h
       · exact HA.o y h
       · simp at h;subst h;intro h;exact HN.o (congrArg M.Ref.name h)
      case measure=>simp[intOf];omega
    · have HN:=Ys pq;clear pq;go_wp2;go_roundw
      case rel=>
       refine⟨k+1,by omega,by go_num,kx,Ys ?_⟩;intro y hy;rw[List.take_add_one,HX.o]at hy;rcases List.mem_append.1 hy with h|h
       · exact HA.o y h
       · simp at h;subst h;intro h;exact HN.o (congrArg M.Ref.keeper h)
      case measure=>simp[intOf];omega
  · go_wp2;go_ret;exact⟨ae (by rw[hU.o];exact(Db HA.o (by omega)).symm),(by repeat (first|assumption|exact Kp.refl _ _|apply Kp.alloc|apply Kp.drew|apply Kp.drewN|refine Kp.trans ?_ (by assumption)))⟩
theorem qB(w:World)(l:au)(p:M.ai)(h:aj w l p)(a b:Int)(k:M.Kind):
    Calls Tryz.prog 72 #[.pointer (some ⟨l.L,0,none⟩),.int .i64 a,.int .i64 b,.agg #[.int .i64 k.kind,.string k.name]] w fun e w'=>
     e=.returned (.bool (M.agree p a b k))∧Ext w w':=by
 have aM:Ext w (w.alloc (.cells #[.int .i64 k.kind,.string k.name] 25)):=kx;by_cases hk:k.kind=1
 · have hA:Zs (M.agree p a b k=true):=Ys (by unfold M.agree;rw[hk];rfl);have Cz:(k.kind==1)=true:=beq_iff_eq.2 hk;clear hk h;go_enter Tryz.func72,Tryz.ntmps72;go_wp2;go_ret;exact⟨ae hA.o.symm,kx⟩
 have H:=Ys (h.ext aM);clear h;have b7:=az.new w 25 #[.int .i64 k.kind,.string k.name];have Cz:(k.kind==1)=false:=beq_eq_false_iff_ne.2 hk;have hA:Zs (M.agree p a b k=(if(M.find p a k.name).2=1∧(M.find p b k.name).2=1 then decide ((M.find p a k.name).1=(M.find p b k.name).1)
  else decide ((M.find p a k.name).2≠1)&&decide ((M.find p b k.name).2≠1))):=Ys (by unfold M.agree;rw[Cz];rfl)
 clear hk;go_enter Tryz.func72,Tryz.ntmps72;go_wp2_with fail;refine(gN _ _ _ H.o _ _).mono ?_;rintro e w1 ⟨rfl,hB⟩;have b71:=b7.ext hB;have k0:=b71.c 1 (.string k.name) rfl;have AL:=b71.lt;have H1:=Ys (H.o.ext hB);generalize M.find p a k.name=F1 at*;obtain⟨⟨fk1,fn1⟩,c1⟩:=F1;simp only at*;go_wp2_with fail;refine(gN _ _ _ (H1.o.ext ((Kp.refl _ _).alloc _)) _ _).mono ?_;rintro e w2 ⟨rfl,hB2⟩;have b9:=(az.new w1 51 #[.int .i64 fk1,.string fn1]).ext hB2;have q0:=b9.c 0 (.int .i64 fk1) rfl;have q1:=b9.c 1 (.string fn1) rfl;have hz:=b9.lt;generalize M.find p b k.name=F2 at*;obtain⟨⟨fk2,fn2⟩,c2⟩:=F2;simp only at*;clear k0 b71 b7 b9 AL;by_cases h1:c1=1
 · subst h1;by_cases h2:c2=1
   · subst h2;rcases q9 fk1 fk2 fn1 fn2 with⟨rfl,rfl⟩|⟨rfl,kP,uV⟩|⟨pg,pq⟩
     · go_wp2;go_ret;exact⟨ae (by rw[hA.o];simp),(by repeat (first|assumption|exact Kp.refl _ _|apply Kp.alloc|apply Kp.drew|apply Kp.drewN|refine Kp.trans ?_ (by assumption)))⟩
     · have HN:=Ys uV;clear uV;go_wp2;go_ret;exact⟨ae (by rw[hA.o];simp[HN.o]),(by repeat (first|assumption|exact Kp.refl _ _|apply Kp.alloc|apply Kp.drew|apply Kp.drewN|refine Kp.trans ?_ (by assumption)))⟩
     · have HN:=Ys pq;clear pq;go_wp2;go_ret;exact⟨ae (by rw[hA.o];simp[HN.o]),(by repeat (first|assumption|exact Kp.refl _ _|apply Kp.alloc|apply Kp.drew|apply Kp.drewN|refine Kp.trans ?_ (by assumption)))⟩
   · have Gw:(c2 !=1)=true:=bne_iff_ne.2 h2;have HN:=Ys h2;clear h2;go_wp2;go_ret;exact⟨ae (by rw[hA.o];simp[HN.o]),(by repeat (first|assumption|exact Kp.refl _ _|apply Kp.alloc|apply Kp.drew|apply Kp.drewN|refine Kp.trans ?_ (by assumption)))⟩
 · have h1':(c1 !=1)=true:=bne_iff_ne.2 h1;have HN:=Ys h1;clear h1;by_cases h2:c2=1
   · subst h2;go_wp2;go_ret;exact⟨ae (by rw[hA.o];simp[HN.o]),(by repeat (first|assumption|exact Kp.refl _ _|apply Kp.alloc|apply Kp.drew|apply Kp.drewN|refine Kp.trans ?_ (by assumption)))⟩
   · have Gw:(c2 !=1)=true:=bne_iff_ne.2 h2;have Pk:=Ys h2;clear h2;go_wp2;go_ret;exact⟨ae (by rw[hA.o];simp[HN.o,Pk.o]),(by repeat (first|assumption|exact Kp.refl _ _|apply Kp.alloc|apply Kp.drew|apply Kp.drewN|refine Kp.trans ?_ (by assumption)))⟩
theorem mJ(w:World)(l:au)(p:M.ai)(h:aj w l p)(a b:Int)(I:Nat→Prop)(cs:List Value)(m:M.Method)(hm:aC w I m cs):
    Calls Tryz.prog 31 #[.pointer (some ⟨l.L,0,none⟩),.int .i64 a,.int .i64 b,.agg cs.toArray] w fun e w'=>
     e=.returned (.bool (M.df p a b m))∧Ext w w':=by
 obtain⟨va,vc,vm,rfl,s1, -, -⟩:=hm;obtain⟨a1,c1,rfl,hn,dx⟩:=s1.form;have aM:Ext w (w.alloc (.cells #[.string m.name,.slice a1 m.args.length c1,.int .i64 m.ret.kind,.string m.ret.name,.int .i64 m.locals,.int .i64 m.stack,vc,vm] 34)):=((Kp.refl _ _).alloc _);have H0:=Ys (h.ext aM);clear h;have P0:=Ys (af.zl (az.new w 34 #[.string m.name,.slice a1 m.args.length c1,.int .i64 m.ret.kind,.string m.ret.name,.int .i64 m.locals,.int .i64 m.stack,vc,vm]) _ rfl);go_enter Tryz.func31,Tryz.ntmps31;go_wp2;generalize (w.alloc (.cells #[.string m.name,.slice a1 m.args.length c1,.int .i64 m.ret.kind,.string m.ret.name,.int .i64 m.locals,.int .i64 m.stack,vc,vm] 34))=w0 at*;go_loopw [14] (fun i wr=>∃k:Nat,k≤m.args.length∧i=.int .i64 k∧Ext w0 wr∧Zs ((m.args.take k).all (M.agree p a b)=true)) (fun i _=>m.args.length - (intOf i).toNat)
 case atStart=>exact⟨0,Nat.zero_le _,rfl,Kp.refl _ _,Ys (by simp)⟩
 case round =>
  obtain⟨k,hk,rfl,hE,HA⟩:=hrel;by_cases cK:k<m.args.length
  · obtain⟨x,hx⟩:=get_some cK;obtain⟨b',off,cs,rfl,hI,rfl, -,hc⟩:=s1.get hx;obtain⟨g0,g1⟩:=((hc.ext aM).ext hE).two;have HX:=Ys hx;have HL:=Ys (H0.o.ext (hE.alloc (.cells #[.int .i64 x.kind,.string x.name] 25)));clear hx hc;cases ht:M.agree p a b x
    all_goals
     have HT:=Ys ht;clear ht;go_wp2_with fail;refine(qB _ _ _ HL.o _ _ _).mono ?_;rintro e w1 ⟨rfl,hB⟩;rw[HT.o];go_wp2
    · go_ret;exact⟨ae (by unfold M.df;rw[jD HX.o HT.o];rfl),(by repeat (first|assumption|exact Kp.refl _ _|apply Kp.alloc|apply Kp.drew|apply Kp.drewN|refine Kp.trans ?_ (by assumption)))⟩
    · go_roundw
      case rel=>exact⟨k+1,by omega,by go_num,(by repeat (first|assumption|exact Kp.refl _ _|apply Kp.alloc|apply Kp.drew|apply Kp.drewN|refine Kp.trans ?_ (by assumption))),Ys (all_succ HA.o HX.o HT.o)⟩
      case measure=>simp[intOf];omega
  · have HM:Zs (M.df p a b m=M.agree p a b m.ret):=Ys (by unfold M.df;rw[iH HA.o (by omega)];rfl);have P1:=Ys (P0.o.ext hE);obtain⟨p0,p1,p2,p3,p4,p5,p6,p7⟩:=P1.o.eight;simp only[Nat.zero_add]at p1 p2 p3 p4 p5 p6 p7;go_wp2_with fail;refine(qB _ _ _ (H0.o.ext hE) _ _ m.ret).mono ?_;rintro e w1 ⟨rfl,hB⟩;go_wp2;go_ret;exact⟨ae HM.o.symm,(by repeat (first|assumption|exact Kp.refl _ _|apply Kp.alloc|apply Kp.drew|apply Kp.drewN|refine Kp.trans ?_ (by assumption)))⟩
def OZ(o:Option Nat):Int:=o.elim (-1) fun n=>n
theorem vS{α:Type}{f:α→Bool}{l:List α}{k:Nat}{x:α}(h:∀y∈l.take k,f y=false)(hx:l[k]?=some x)(hf:f x=true):l.findIdx? f=some k:=by
 obtain⟨hk,hxe⟩:=List.getElem?_eq_some_iff.1 hx;rw[List.findIdx?_eq_some_iff_getElem];refine⟨hk,by rw[hxe];exact hf,fun j hj=>?_⟩;have:=h l[j] (by rw[List.mem_iff_getElem?];exact⟨j,by rw[List.getElem?_take,if_pos hj];exact List.getElem?_eq_getElem _⟩);rw[this];decide
theorem tC{α:Type}{f:α→Bool}{l:List α}{k:Nat}(h:∀y∈l.take k,f y=false)(hk:l.length≤k):l.findIdx? f=none:=by
 rw[List.take_of_length_le hk]at h;rw[List.findIdx?_eq_none_iff];exact h
theorem uA{α:Type}{f:α→Bool}{l:List α}{k:Nat}{x:α}(h:∀y∈l.take k,f y=false)(hx:l[k]?=some x)(hf:f x=false):∀y∈l.take (k+1),f y=false:=by
 intro y hy;rw[List.take_add_one,hx]at hy;rcases List.mem_append.1 hy with h'|h'
 · exact h y h'
 · simp at h';subst h';exact hf
theorem Kg(w:World)(I:Nat→Prop)(cs:List Value)(m:M.Method)(hm:aC w I m cs)(b:Nat)(n:ByteArray)(hb:w.cell? ⟨b,0,none⟩=some (.string n)):
    Calls Tryz.prog 117 #[.agg cs.toArray,.pointer (some ⟨b,0,none⟩)] w fun e w'=>e=.returned (.bool (decide (m.name=n)))∧Ext w w':=by
 obtain⟨va,vc,vm,rfl, -, -, -⟩:=hm;have hz:=aS hb;go_enter Tryz.func117,Tryz.ntmps117;go_wp2;go_ret;exact⟨ae (iI _ _),kx⟩
theorem LY(w:World)(f:M.Field)(b:Nat)(n:ByteArray)(hb:w.cell? ⟨b,0,none⟩=some (.string n)):
    Calls Tryz.prog 150 #[.agg #[.string f.name,.int .i64 f.kind.kind,.string f.kind.name],.pointer (some ⟨b,0,none⟩)] w fun e w'=>e=.returned (.bool (decide (f.name=n)))∧Ext w w':=by
 have hz:=aS hb;go_enter Tryz.func150,Tryz.ntmps150;go_wp2;go_ret;exact⟨ae (iI _ _),kx⟩
theorem JZ(w:World)(I:Nat→Prop)(v:Value)(l:List M.Method)(h:SliceOf 8 aC w I v l)(b:Nat)(n:ByteArray)(hb:w.cell? ⟨b,0,none⟩=some (.string n)):
    Calls Tryz.prog 116 #[v,.func (.func 117) #[] #[.pointer (some ⟨b,0,none⟩)]] w fun e w'=>
     e=.returned (.int .i64 (OZ (l.findIdx? fun m=>decide (m.name=n))))∧Ext w w':=by
 obtain⟨a,cap,rfl,hn,dx⟩:=h.form;go_enter Tryz.func116,Tryz.ntmps116;go_wp2;go_loopw [8] (fun i wr=>∃k:Nat,k≤l.length∧i=.int .i64 k∧Ext w wr∧Zs (∀y∈l.take k,decide (M.Method.name y=n)=false)) (fun i _=>l.length - (intOf i).toNat)
 case atStart=>exact⟨0,Nat.zero_le _,rfl,Kp.refl _ _,Ys (by simp)⟩
 case round =>
  obtain⟨k,hk,rfl,hE,HA⟩:=hrel;by_cases cK:k<l.length
  · obtain⟨x,hx⟩:=get_some cK;obtain⟨b',off,cs,rfl,hI,jk, -,hc⟩:=h.get hx;have HM:=Ys (aC.stays _ _ _ _ _ _ hE.same (fun _ h=>h) jk);obtain⟨va,vc,vm,rfl, -, -, -⟩:=jk;obtain⟨g0,g1,g2,g3,g4,g5,g6,g7⟩:=(hc.ext hE).eight;have IK:=hE.aJ hb;have HX:=Ys hx;clear hx hc;cases ht:decide (x.name=n)
    all_goals
     have HT:=Ys ht;clear ht;go_wp2_with (go_at_call 117;refine(Kg _ _ _ _ HM.o _ _ IK).mono ?_;rintro e w1 ⟨rfl,hB⟩;rw[HT.o])
    · go_roundw
      case rel=>exact⟨k+1,by omega,by go_num,(by repeat (first|assumption|exact Kp.refl _ _|apply Kp.alloc|apply Kp.drew|apply Kp.drewN|refine Kp.trans ?_ (by assumption))),Ys (uA HA.o HX.o HT.o)⟩
      case measure=>simp[intOf];omega
    · go_ret;exact⟨by rw[vS HA.o HX.o HT.o];rfl,(by repeat (first|assumption|exact Kp.refl _ _|apply Kp.alloc|apply Kp.drew|apply Kp.drewN|refine Kp.trans ?_ (by assumption)))⟩
  · go_wp2;go_ret;exact⟨by rw[tC HA.o (by omega)];rfl,kx⟩
theorem Nj(w:World)(I:Nat→Prop)(v:Value)(l:List M.Field)(h:SliceOf 3 lN w I v l)(b:Nat)(n:ByteArray)(hb:w.cell? ⟨b,0,none⟩=some (.string n)):
    Calls Tryz.prog 149 #[v,.func (.func 150) #[] #[.pointer (some ⟨b,0,none⟩)]] w fun e w'=>
     e=.returned (.int .i64 (OZ (l.findIdx? fun m=>decide (M.Field.name m=n))))∧Ext w w':=by
 obtain⟨a,cap,rfl,hn,dx⟩:=h.form;go_enter Tryz.func149,Tryz.ntmps149;go_wp2;go_loopw [8] (fun i wr=>∃k:Nat,k≤l.length∧i=.int .i64 k∧Ext w wr∧Zs (∀y∈l.take k,decide (M.Field.name y=n)=false)) (fun i _=>l.length - (intOf i).toNat)
 case atStart=>exact⟨0,Nat.zero_le _,rfl,Kp.refl _ _,Ys (by simp)⟩
 case round =>
  obtain⟨k,hk,rfl,hE,HA⟩:=hrel;by_cases cK:k<l.length
  · obtain⟨x,hx⟩:=get_some cK;obtain⟨b',off,cs,rfl,hI,rfl, -,hc⟩:=h.get hx;obtain⟨g0,g1,g2⟩:=(hc.ext hE).three;have IK:=hE.aJ hb;have HX:=Ys hx;clear hx hc;cases ht:decide (x.name=n)
    all_goals
     have HT:=Ys ht;clear ht;go_wp2_with (go_at_call 150;refine(LY _ _ _ _ IK).mono ?_;rintro e w1 ⟨rfl,hB⟩;rw[HT.o])
    · go_roundw
      case rel=>exact⟨k+1,by omega,by go_num,(by repeat (first|assumption|exact Kp.refl _ _|apply Kp.alloc|apply Kp.drew|apply Kp.drewN|refine Kp.trans ?_ (by assumption))),Ys (uA HA.o HX.o HT.o)⟩
      case measure=>simp[intOf];omega
    · go_ret;exact⟨by rw[vS HA.o HX.o HT.o];rfl,(by repeat (first|assumption|exact Kp.refl _ _|apply Kp.alloc|apply Kp.drew|apply Kp.drewN|refine Kp.trans ?_ (by assumption)))⟩
  · go_wp2;go_ret;exact⟨by rw[tC HA.o (by omega)];rfl,kx⟩
theorem vB(w:World)(I:Nat→Prop)(cs:List Value)(c:M.Class)(h:aL w I c cs)(n:ByteArray):
    Calls Tryz.prog 71 #[.agg cs.toArray,.string n] w fun e w'=>e=.returned (.int .i64 (OZ (M.jK c n)))∧Ext w w':=by
 obtain⟨vf,vm,rfl,s1,s2⟩:=h;have aM:Ext w ((w.alloc (.cells #[.string c.name,.string c.aW,vf,vm] 38)).alloc (.cells #[.string n] 9)):=kx;have b1:=(az.new (w.alloc (.cells #[.string c.name,.string c.aW,vf,vm] 38)) 9 #[.string n]).c 0 (.string n) rfl;simp only[World.size_alloc]at b1;go_enter Tryz.func71,Tryz.ntmps71;go_wp2_with fail;refine(JZ _ _ _ _ (s2.ext aC.stays aM) _ _ b1).mono ?_;rintro e w1 ⟨rfl,hB⟩;go_wp2;go_ret;exact⟨rfl,(by repeat (first|assumption|exact Kp.refl _ _|apply Kp.alloc|apply Kp.drew|apply Kp.drewN|refine Kp.trans ?_ (by assumption)))⟩
theorem Ef(w:World)(I:Nat→Prop)(cs:List Value)(c:M.Class)(h:aL w I c cs)(n:ByteArray):
    Calls Tryz.prog 141 #[.agg cs.toArray,.string n] w fun e w'=>e=.returned (.int .i64 (OZ (M.oh c n)))∧Ext w w':=by
 obtain⟨vf,vm,rfl,s1,s2⟩:=h;have aM:Ext w ((w.alloc (.cells #[.string c.name,.string c.aW,vf,vm] 38)).alloc (.cells #[.string n] 9)):=kx;have b1:=(az.new (w.alloc (.cells #[.string c.name,.string c.aW,vf,vm] 38)) 9 #[.string n]).c 0 (.string n) rfl;simp only[World.size_alloc]at b1;go_enter Tryz.func141,Tryz.ntmps141;go_wp2_with fail;refine(Nj _ _ _ _ (s1.ext lN.stays aM) _ _ b1).mono ?_;rintro e w1 ⟨rfl,hB⟩;go_wp2;go_ret;exact⟨rfl,(by repeat (first|assumption|exact Kp.refl _ _|apply Kp.alloc|apply Kp.drew|apply Kp.drewN|refine Kp.trans ?_ (by assumption)))⟩
theorem Gr{α:Type}{a b:List α}(hl:a.length=b.length){k:Nat}(h:∀j x y,j<k→a[j]?=some x→b[j]?=some y→x=y)(hk:a.length≤k):a=b:=by
 apply List.ext_getElem?;intro j;by_cases hj:j<a.length
 · have h1:=List.getElem?_eq_getElem hj;have h2:b[j]?=some b[j]:=List.getElem?_eq_getElem (by omega);rw[h1,h2,h j _ _ (by omega) h1 h2]
 · rw[List.getElem?_eq_none (by omega),List.getElem?_eq_none (by omega)]
theorem wy (w : World) (I J : Nat → Prop) (v u : Value) (l m : List M.Kind) (h : SliceOf 2 eZ w I v l) (h' : SliceOf 2 eZ w J u m) :
    Calls Tryz.prog 142 #[v,u] w fun e w'=>e=.returned (.bool (decide (l=m)))∧Ext w w':=by
 obtain⟨a,cap,rfl,hn,dx⟩:=h.form;obtain⟨a',cap',rfl,Va,adb⟩:=h'.form;by_cases hl:l.length=m.length
 · have HL := Ys hl; have Wx : (l.length : Int) = m.length := by omega
   clear hl;go_enter Tryz.func142,Tryz.ntmps142;go_wp2;go_loopw [13] (fun i wr=>∃k:Nat,k≤l.length∧i=.int .i64 k∧Ext w wr∧Zs (∀j x y,j<k→l[j]?=some x→m[j]?=some y→x=y)) (fun i _=>l.length - (intOf i).toNat)
   case atStart=>exact⟨0,Nat.zero_le _,rfl,Kp.refl _ _,Ys (by omega)⟩
   case round =>
    obtain⟨k,hk,rfl,hE,HA⟩:=hrel;by_cases cK:k<l.length
    · have U7:k<m.length:=by rw[←HL.o];exact cK
      obtain⟨x,hx⟩:=get_some cK;obtain⟨y,hy⟩:=get_some U7;obtain⟨b,off,cs,rfl,hI,rfl, -,hc⟩:=h.get hx;obtain⟨b',off',cs',rfl,Qe,rfl, -,sH⟩:=h'.get hy;obtain⟨g0,g1⟩:=(hc.ext hE).two;obtain⟨q0,q1⟩:=(sH.ext hE).two;have HX:=Ys hx;have HY:=Ys hy;clear hx hc hy sH;obtain⟨xk,xn⟩:=x;obtain⟨yk,yn⟩:=y;simp only at*;rcases q9 xk yk xn yn with⟨rfl,rfl⟩|⟨rfl,kP,uV⟩|⟨pg,pq⟩
      · go_wp2_with (first|(go_region_with (fail))|fail)
        all_goals
         go_roundw
         case rel=>
          refine⟨k+1,by omega,by go_num,kx,Ys (fun j x y hj h1 h2=>?_)⟩;by_cases Qn:j=k
          · subst Qn;exact Option.some.inj ((h1.symm.trans HX.o).trans (HY.o.symm.trans h2))
          · exact HA.o j x y (by omega) h1 h2
         case measure=>simp[intOf];omega
      · have HN:Zs (decide (l=m)=false):=Ys (decide_eq_false (fun h=>uV (by
         subst h;exact congrArg M.Kind.name (Option.some.inj (HX.o.symm.trans HY.o)))))
        clear uV;go_wp2_with (first|(go_region_with (fail))|fail)
        all_goals
         go_ret;exact⟨ae HN.o.symm,kx⟩
      · have HN:Zs (decide (l=m)=false):=Ys (decide_eq_false (fun h=>pq (by
         subst h;exact congrArg M.Kind.kind (Option.some.inj (HX.o.symm.trans HY.o)))))
        clear pq;go_wp2_with (first|(go_region_with (fail))|fail)
        all_goals
         go_ret;exact⟨ae HN.o.symm,kx⟩
    · go_wp2;go_ret;exact⟨ae (decide_eq_true (Gr HL.o HA.o (by omega))).symm,kx⟩
 · have Wx:((l.length:Int)==m.length)=false:=beq_eq_false_iff_ne.2 (by omega);go_enter Tryz.func142,Tryz.ntmps142;go_wp2;go_ret;exact⟨ae (decide_eq_false (fun h=>hl (congrArg List.length h))).symm,kx⟩
theorem af.mk4{w:World}{b:Nat}{x y z u:Value}(h0:w.cell? ⟨b,0,none⟩=some x)(h1:w.cell? ⟨b,1,none⟩=some y)(h2:w.cell? ⟨b,2,none⟩=some z)(h3:w.cell? ⟨b,3,none⟩=some u):af w b 0 [x,y,z,u]:=by
 intro j v hj;rw[Nat.zero_add];match j,hj with
 |0,hj=>cases hj;exact h0
 |1,hj=>cases hj;exact h1
 |2,hj=>cases hj;exact h2
 |3,hj=>cases hj;exact h3
theorem af.Md{w:World}{b:Nat}{x y z u:Value}(h:af w b 0 [x,y,z,u]):w.cell? ⟨b,0,none⟩=some x∧w.cell? ⟨b,1,none⟩=some y∧w.cell? ⟨b,2,none⟩=some z∧w.cell? ⟨b,3,none⟩=some u:=h.four
theorem bD.ext{α:Type}{R:fD α}(hR:bD R){w w':World}{I:Nat→Prop}{x:α}{cs:List Value}(hE:Ext w w')(h:R w I x cs):R w' I x cs:=hR _ _ _ _ _ _ (Ext.same hE) (fun _ h=>h) h
theorem bD.kp{α:Type}{R:fD α}(hR:bD R){D:Nat→Prop}{w w':World}{I:Nat→Prop}{x:α}{cs:List Value}(hE:Kp D w w')(hI:∀b,I b→¬D b)(h:R w I x cs):R w' I x cs:=hR _ _ _ _ _ _ (Kp.same hE hI) (fun _ h=>h) h
theorem aC.args{w:World}{I:Nat→Prop}{x:M.Method}{a va b c d e vc vm:Value}(h:aC w I x [a,va,b,c,d,e,vc,vm]):SliceOf 2 eZ w I va x.args:=by
 obtain⟨va',vc',vm',he,h1, -, -⟩:=h;simp only[List.cons.injEq,and_true,true_and]at he;obtain⟨-,rfl, -⟩:=he;exact h1
theorem yo{α:Type}{f:α→Bool}{l:List α}{o:Option Nat}(h:l.findIdx? f=o):l.find? f=o.bind (l[·]?):=by
 subst h;induction l with
 |nil=>rfl
 |cons x r ih=>
  rw[List.find?_cons,List.findIdx?_cons];cases hx:f x
  · rw[ih];cases r.findIdx? f<;>simp
  · simp
set_option maxHeartbeats 20000000 in
theorem yX (w : World) (l : au) (p : M.ai) (h : aj w l p) (low high : M.Ref) (c d : M.Class) (rW : M.cls? p low = some c) (RQ : M.cls? p high = some d) :
    Calls Tryz.prog 121 #[.pointer (some ⟨l.L,0,none⟩),.agg #[.int .i64 low.keeper,.string low.name],.agg #[.int .i64 high.keeper,.string high.name]] w fun e w'=>
     e=.returned (.bool (M.iW p low high))∧Ext w w':=by
 have aM:Ext w ((w.alloc (.cells #[.int .i64 low.keeper,.string low.name] 51)).alloc (.cells #[.int .i64 high.keeper,.string high.name] 51)):=(by repeat (first|with_reducible exact Kp.refl _ _|with_reducible assumption|with_reducible refine Kp.alloc ?_ _|with_reducible refine Kp.drew ?_|with_reducible refine Kp.drewN ?_ _|with_reducible refine Kp.setCell ?_ (fun h=>absurd h (by simp<;>omega)) _|with_reducible refine Kp.trans ?_ (by with_reducible assumption)|exact Kp.refl _ _|assumption|refine Kp.alloc ?_ _|refine Kp.drew ?_|refine Kp.drewN ?_ _|(refine Kp.setCell ?_ (fun h=>absurd h (by simp;done)) _)|(refine Kp.setCell ?_ (fun h=>absurd h (by simp;omega)) _)|refine Kp.trans ?_ (by assumption)));have H:=Ys (h.ext aM);clear h;have b4:=(az.new w 51 #[.int .i64 low.keeper,.string low.name]).ext ((Kp.refl _ _).alloc (.cells #[.int .i64 high.keeper,.string high.name] 51));have b5:=az.new (w.alloc (.cells #[.int .i64 low.keeper,.string low.name] 51)) 51 #[.int .i64 high.keeper,.string high.name];simp only[World.size_alloc]at b5;have HC:=Ys (And.intro rW RQ);clear rW RQ;go_enter Tryz.func121,Tryz.ntmps121;go_upto_region 1 with(fail);generalize ((w.alloc (.cells #[.int .i64 low.keeper,.string low.name] 51)).alloc (.cells #[.int .i64 high.keeper,.string high.name] 51))=w0 at*;go_cut [7,8] (fun s7 s8 wx=>∃b7 b8 vf vm uf um,s7=.pointer (some ⟨b7,0,none⟩)∧s8=.pointer (some ⟨b8,0,none⟩)∧af wx b7 0 [.string c.name,.string c.aW,vf,vm]∧
  af wx b8 0 [.string d.name,.string d.aW,uf,um]∧aL wx (· <l.O) c [.string c.name,.string c.aW,vf,vm]∧aL wx (· <l.O) d [.string d.name,.string d.aW,uf,um]∧Ext w0 wx)
 case first=>
  have p0:=b4.c 0 (.int .i64 low.keeper) rfl;have p1:=b4.c 1 (.string low.name) rfl;have q0:=b5.c 0 (.int .i64 high.keeper) rfl;have q1:=b5.c 1 (.string high.name) rfl;clear b4 b5;have hS:∀W,Ext w0 W→(Ext w0 W∧W.cell? ⟨w.heap.size,0,none⟩=some (.int .i64 low.keeper)∧W.cell? ⟨w.heap.size,1,none⟩=some (.string low.name)∧W.cell? ⟨w.heap.size+1,0,none⟩=some (.int .i64 high.keeper)∧W.cell? ⟨w.heap.size+1,1,none⟩=some (.string high.name)):=
   fun W hW=>⟨hW,hW.aJ p0,hW.aJ p1,hW.aJ q0,hW.aJ q1⟩
  have HS:=Ys hS;have hOz:l.O≤w0.heap.size:=by have:=H.o.lt;have:=H.o.ord;omega
  clear hS;go_region_held3 (fun W=>Ext w0 W∧W.cell? ⟨w.heap.size,0,none⟩=some (.int .i64 low.keeper)∧W.cell? ⟨w.heap.size,1,none⟩=some (.string low.name)∧W.cell? ⟨w.heap.size+1,0,none⟩=some (.int .i64 high.keeper)∧W.cell? ⟨w.heap.size+1,1,none⟩=some (.string high.name))
   ((refine HS.o _ ?_;repeat (first|with_reducible exact Kp.refl _ _|with_reducible assumption|with_reducible refine Kp.alloc ?_ _|with_reducible refine Kp.drew ?_|with_reducible refine Kp.drewN ?_ _|with_reducible refine Kp.setCell ?_ (fun h=>absurd h (by simp<;>omega)) _|with_reducible refine Kp.trans ?_ (by with_reducible assumption))))
   (first|(go_at_call 35;first|(have hB_:=hB;clear hB_;refine(kT _ l p (H.o.ext (by repeat (first|with_reducible exact Kp.refl _ _|with_reducible assumption|with_reducible refine Kp.alloc ?_ _|with_reducible refine Kp.drew ?_|with_reducible refine Kp.drewN ?_ _|with_reducible refine Kp.setCell ?_ (fun h=>absurd h (by simp<;>omega)) _|with_reducible refine Kp.trans ?_ (by with_reducible assumption)|exact Kp.refl _ _|assumption|refine Kp.alloc ?_ _|refine Kp.drew ?_|refine Kp.drewN ?_ _|(refine Kp.setCell ?_ (fun h=>absurd h (by simp;done)) _)|(refine Kp.setCell ?_ (fun h=>absurd h (by simp;omega)) _)|refine Kp.trans ?_ (by assumption)))) high.keeper high.name d HC.o.2).mono ?_;rintro e w2 ⟨⟨cs',Zh,rfl⟩,Ur⟩;obtain⟨y1',z1',y2',z2',rfl⟩:=Zh.form;have EA:=Ur.size;obtain⟨iA,hf2⟩:=DZ Ur;(have hq9:w1.heap.size≤w2.heap.size:=by have:=Ur.size;(try simp at this);omega);(try have hq3:w0.heap.size<w2.heap.size:=by have:=Ur.size;(try simp at this);omega);(try have hq4:w0.heap.size+1<w2.heap.size:=by have:=Ur.size;(try simp at this);omega);(try have hq5:w1.heap.size<w2.heap.size:=by have:=Ur.size;(try simp at this);omega);(try have hq6:w1.heap.size+1<w2.heap.size:=by have:=Ur.size;(try simp at this);omega))|(refine(kT _ l p (H.o.ext (by repeat (first|with_reducible exact Kp.refl _ _|with_reducible assumption|with_reducible refine Kp.alloc ?_ _|with_reducible refine Kp.drew ?_|with_reducible refine Kp.drewN ?_ _|with_reducible refine Kp.setCell ?_ (fun h=>absurd h (by simp<;>omega)) _|with_reducible refine Kp.trans ?_ (by with_reducible assumption)|exact Kp.refl _ _|assumption|refine Kp.alloc ?_ _|refine Kp.drew ?_|refine Kp.drewN ?_ _|(refine Kp.setCell ?_ (fun h=>absurd h (by simp;done)) _)|(refine Kp.setCell ?_ (fun h=>absurd h (by simp;omega)) _)|refine Kp.trans ?_ (by assumption)))) low.keeper low.name c HC.o.1).mono ?_;rintro e w1 ⟨⟨cs,ek,rfl⟩,hB⟩;obtain⟨y1,z1,y2,z2,rfl⟩:=ek.form;have AL:=hB.size;obtain⟨p8,hf1⟩:=DZ hB;(have hq0:w0.heap.size≤w1.heap.size:=by have:=hB.size;(try simp at this);omega);(try have hq1:w0.heap.size<w1.heap.size:=by have:=hB.size;(try simp at this);omega);(try have Vi:w0.heap.size+1<w1.heap.size:=by have:=hB.size;(try simp at this);omega))))
  all_goals (go_wp2_with fail)
  all_goals
   go_meet;refine⟨_,_,.slice y1 c.fields.length z1,.slice y2 c.methods.length z2,.slice y1' d.fields.length z1',.slice y2' d.methods.length z2',rfl,rfl,af.mk4 (by(try simp[go_sem, *])<;>refine World.cell?_setCell_same' _ _ _ (by simp[go_sem, *])) (by(try simp[go_sem, *])<;>refine World.cell?_setCell_same' _ _ _ (by simp[go_sem, *])) (by(try simp[go_sem, *])<;>refine World.cell?_setCell_same' _ _ _ (by simp[go_sem, *])) (by(try simp[go_sem, *])<;>refine World.cell?_setCell_same' _ _ _ (by simp[go_sem, *])),af.mk4 (by(try simp[go_sem, *])<;>refine World.cell?_setCell_same' _ _ _ (by simp[go_sem, *])) (by(try simp[go_sem, *])<;>refine World.cell?_setCell_same' _ _ _ (by simp[go_sem, *])) (by(try simp[go_sem, *])<;>refine World.cell?_setCell_same' _ _ _ (by simp[go_sem, *])) (by(try simp[go_sem, *])<;>refine World.cell?_setCell_same' _ _ _ (by simp[go_sem, *])),bD.kp (D:=fun k=>l.O≤k) aL.stays (by repeat (first|with_reducible exact Kp.refl _ _|with_reducible refine Kp.alloc ?_ _|with_reducible refine Kp.drew ?_|with_reducible refine Kp.setCell ?_ (fun _=>by first|omega|(simp;done)|(simp;omega)) _|with_reducible refine Kp.trans ?_ (Kp.any (by with_reducible assumption)))) (fun _ h h'=>absurd h (Nat.not_lt_of_le h')) ek,bD.kp (D:=fun k=>l.O≤k) aL.stays (by repeat (first|with_reducible exact Kp.refl _ _|with_reducible refine Kp.alloc ?_ _|with_reducible refine Kp.drew ?_|with_reducible refine Kp.setCell ?_ (fun _=>by first|omega|(simp;done)|(simp;omega)) _|with_reducible refine Kp.trans ?_ (Kp.any (by with_reducible assumption)))) (fun _ h h'=>absurd h (Nat.not_lt_of_le h')) Zh,(by repeat (first|with_reducible exact Kp.refl _ _|with_reducible assumption|with_reducible refine Kp.alloc ?_ _|with_reducible refine Kp.drew ?_|with_reducible refine Kp.drewN ?_ _|with_reducible refine Kp.setCell ?_ (fun h=>absurd h (by simp<;>omega)) _|with_reducible refine Kp.trans ?_ (by with_reducible assumption)|exact Kp.refl _ _|assumption|refine Kp.alloc ?_ _|refine Kp.drew ?_|refine Kp.drewN ?_ _|(refine Kp.setCell ?_ (fun h=>absurd h (by simp;done)) _)|(refine Kp.setCell ?_ (fun h=>absurd h (by simp;omega)) _)|refine Kp.trans ?_ (by assumption)))⟩
 case rest =>
  obtain⟨b7,b8,vf,vm,uf,um,rfl,rfl,k7,k8,hc,hd,hE⟩:=hcut;obtain⟨vf',vm',he,sf,sm⟩:=hc;simp only[List.cons.injEq,and_true,true_and]at he;obtain⟨rfl,rfl⟩:=he;obtain⟨fa,fc,rfl,FE,hfm⟩:=sf.form;obtain⟨ma,mc,rfl,Qr,xG⟩:=sm.form;have HD:=Ys hd;have HE:=Ys hE;have HL:Zs (M.iW p low high=(c.fields.all (fun f=>(M.oh d f.name).isNone)&&c.methods.all (M.dX p low high))):=Ys (by
   unfold M.iW M.cls;rw[HC.o.1,HC.o.2];rfl)
  have zU:Zs (∀m,M.dX p low high m=match d.methods.find? (fun n=>n.name=m.name)with
   |none=>true
   |some n=>decide (m.ret=n.ret)&&decide (m.args=n.args)&&M.df p low.keeper high.keeper m):=Ys (fun m=>by
   unfold M.dX M.cls;rw[HC.o.2];rfl)
  have r7:=k7.Md.2.2.1;have bY:Ext w wc:=aM.trans hE;have j4:=b4.ext hE;have j5:=b5.ext hE;clear hd hE b4 b5 aM;go_wp2;go_loopw [24] (fun i wr=>∃k:Nat,k≤c.fields.length∧i=.int .i64 k∧Ext wc wr∧Zs ((c.fields.take k).all (fun f=>(M.oh d f.name).isNone)=true)) (fun i _=>c.fields.length - (intOf i).toNat)
  case atStart=>exact⟨0,Nat.zero_le _,rfl,Kp.refl _ _,Ys (by simp)⟩
  case round =>
   obtain⟨k,hk,rfl,hE,HA⟩:=hrel;have k8r:=k8.ext hE;obtain⟨s0,s1,s2,s3⟩:=k8r.Md;have Vr:=aS s0;by_cases cK:k<c.fields.length
   · obtain⟨x,hx⟩:=get_some cK;obtain⟨b,off,cs,rfl,hI,rfl, -,gI⟩:=sf.get hx;obtain⟨g0,g1,g2⟩:=(gI.ext hE).three;have HX:=Ys hx;have Tq:=Ys (bD.ext aL.stays (hE.alloc (.cells #[.string x.name,.int .i64 x.kind.kind,.string x.kind.name] 72)) HD.o);clear hx gI;cases ht:M.oh d x.name
     · have HT:Zs ((M.oh d x.name).isNone=true):=Ys (by rw[ht];rfl);have qc:=Ys ht;clear ht;go_wp2_with (go_at_call 141;refine(Ef _ _ _ _ Tq.o _).mono ?_;rintro e w1 ⟨rfl,hB⟩;rw[qc.o];simp only[OZ,Option.elim]);go_roundw
       case rel=>exact⟨k+1,by omega,by go_num,(by repeat (first|with_reducible exact Kp.refl _ _|with_reducible assumption|with_reducible refine Kp.alloc ?_ _|with_reducible refine Kp.drew ?_|with_reducible refine Kp.drewN ?_ _|with_reducible refine Kp.setCell ?_ (fun h=>absurd h (by simp<;>omega)) _|with_reducible refine Kp.trans ?_ (by with_reducible assumption)|exact Kp.refl _ _|assumption|refine Kp.alloc ?_ _|refine Kp.drew ?_|refine Kp.drewN ?_ _|(refine Kp.setCell ?_ (fun h=>absurd h (by simp;done)) _)|(refine Kp.setCell ?_ (fun h=>absurd h (by simp;omega)) _)|refine Kp.trans ?_ (by assumption))),Ys (all_succ HA.o HX.o HT.o)⟩
       case measure=>simp[intOf];omega
     · rename_i at_;have HT:Zs ((M.oh d x.name).isNone=false):=Ys (by rw[ht];rfl);have qc:=Ys ht;clear ht;go_wp2_with (go_at_call 141;refine(Ef _ _ _ _ Tq.o _).mono ?_;rintro e w1 ⟨rfl,hB⟩;rw[qc.o];simp only[OZ,Option.elim]);go_ret;exact⟨ae (by rw[HL.o,jD HX.o HT.o];rfl),(by repeat (first|with_reducible exact Kp.refl _ _|with_reducible assumption|with_reducible refine Kp.alloc ?_ _|with_reducible refine Kp.drew ?_|with_reducible refine Kp.drewN ?_ _|with_reducible refine Kp.setCell ?_ (fun h=>absurd h (by simp<;>omega)) _|with_reducible refine Kp.trans ?_ (by with_reducible assumption)|exact Kp.refl _ _|assumption|refine Kp.alloc ?_ _|refine Kp.drew ?_|refine Kp.drewN ?_ _|(refine Kp.setCell ?_ (fun h=>absurd h (by simp;done)) _)|(refine Kp.setCell ?_ (fun h=>absurd h (by simp;omega)) _)|refine Kp.trans ?_ (by assumption)))⟩
   · have HF := Ys (iH HA.o (by omega : c.fields.length ≤ k)); have r7m := (k7.ext hE).Md.2.2.2; clear s0 s1 s2 s3 k8r Vr; have hEo : Ext w wr := bY.trans hE; have HDo := Ys (bD.ext aL.stays hE HD.o); have smo := sm.ext aC.stays hE; have k8o := k8.ext hE; have j4o := j4.ext hE; have j5o := j5.ext hE; have HLo := Ys (H.o.ext (HE.o.trans hE)); clear HA bY HE H HD sm sf k8 k7 hE FE j4 j5 r7; obtain ⟨wo, rfl⟩ : ∃ wo : World, wo = wr := ⟨_, rfl⟩; go_wp2; go_loopw [37] (fun i wr => ∃ k : Nat, k ≤ c.methods.length ∧ i = .int .i64 k ∧ Ext wo wr ∧ Zs ((c.methods.take k).all (M.dX p low high) = true)) (fun i _ => c.methods.length - (intOf i).toNat)
     case atStart=>exact⟨0,Nat.zero_le _,rfl,Kp.refl _ _,Ys (by simp)⟩
     case round =>
      obtain⟨k,hk,rfl,hE,HA⟩:=hrel;by_cases cK:k<c.methods.length
      · obtain ⟨x, hx⟩ := get_some cK; obtain ⟨b, off, cs, rfl, hI, jk, -, gI⟩ := smo.get hx; have HX := Ys hx; have HMx := Ys (bD.ext aC.stays hE jk); obtain ⟨a1, c1, a2, c2, a3, c3, rfl⟩ := jk.form; have ha := jk.args; clear jk; obtain ⟨g0, g1, g2, g3, g4, g5, g6, g7⟩ := (gI.ext hE).eight; have k8r := k8o.ext hE; obtain ⟨s0, s1, s2, s3⟩ := k8r.Md; have Vr := aS s0; have HW := Ys (hE.alloc (.cells #[.string x.name, .slice a1 x.args.length c1, .int .i64 x.ret.kind, .string x.ret.name, .int .i64 x.locals, .int .i64 x.stack, .slice a2 x.code.length c2, .slice a3 x.maps.length c3] 34)); have Tq := Ys (bD.ext aL.stays HW.o HDo.o); clear hx gI k8r; cases ht : M.jK d x.name
        · have HT:Zs (M.dX p low high x=true):=Ys (by rw[zU.o,yo ht];rfl);have qc:=Ys ht;clear ht;go_wp2_with (go_at_call 71;refine(vB _ _ _ _ Tq.o _).mono ?_;rintro e w1 ⟨rfl,hB⟩;rw[qc.o];simp only[OZ,Option.elim]);go_roundw
          case rel=>exact⟨k+1,by omega,by go_num,(by repeat (first|with_reducible exact Kp.refl _ _|with_reducible assumption|with_reducible refine Kp.alloc ?_ _|with_reducible refine Kp.drew ?_|with_reducible refine Kp.drewN ?_ _|with_reducible refine Kp.setCell ?_ (fun h=>absurd h (by simp<;>omega)) _|with_reducible refine Kp.trans ?_ (by with_reducible assumption)|exact Kp.refl _ _|assumption|refine Kp.alloc ?_ _|refine Kp.drew ?_|refine Kp.drewN ?_ _|(refine Kp.setCell ?_ (fun h=>absurd h (by simp;done)) _)|(refine Kp.setCell ?_ (fun h=>absurd h (by simp;omega)) _)|refine Kp.trans ?_ (by assumption))),Ys (all_succ HA.o HX.o HT.o)⟩
          case measure=>simp[intOf];omega
        · rename_i at_;go_wp2_with fail;refine(vB _ _ _ _ Tq.o _).mono ?_;rintro e w1 ⟨rfl,hB⟩;rw[ht];simp only[OZ,Option.elim];have ou:at_ <d.methods.length:=by
           have:=List.findIdx?_eq_some_iff_getElem.1 ht;exact this.1
          obtain⟨y,hy⟩:=get_some ou;have HT:Zs (M.dX p low high x=(decide (x.ret=y.ret)&&decide (x.args=y.args)&&M.df p low.keeper high.keeper x)):=Ys (by
           rw[zU.o,yo ht];show(match d.methods[at_]? with|none=>true|some n=>_)=_
           rw[hy])
          have Fz:=bD.ext aL.stays hB Tq.o;obtain⟨uf',um',he, -,tm⟩:=Fz;simp only[List.cons.injEq,and_true,true_and]at he;obtain⟨rfl,rfl⟩:=he;obtain⟨na,nc,rfl,MU, -⟩:=tm.form;obtain⟨b',off',cs',rfl,Qe,MP, -,Zf⟩:=tm.get hy;obtain⟨a1',c1',XR,c2',a3',c3',rfl⟩:=MP.form;have YZ:=MP.args;clear MP;obtain⟨q0,q1,q2,q3,q4,q5,q6,q7⟩:=Zf.eight;have KG:=Ys (And.intro (ha) YZ);have Cw:=HW.o.trans hB;have hB1:=Ys (((Kp.refl _ wr).alloc (.cells #[.string x.name,.slice a1 x.args.length c1,.int .i64 x.ret.kind,.string x.ret.name,.int .i64 x.locals,.int .i64 x.stack,.slice a2 x.code.length c2,.slice a3 x.maps.length c3] 34):Ext wr _).trans hB);have k8w:=k8o.ext Cw;have t3:=k8w.Md.2.2.2;have aea:=aS t3;have bm:=(az.new wr 34 #[.string x.name,.slice a1 x.args.length c1,.int .i64 x.ret.kind,.string x.ret.name,.int .i64 x.locals,.int .i64 x.stack,.slice a2 x.code.length c2,.slice a3 x.maps.length c3]).ext hB;have m0:=bm.c 0 _ rfl;have m1:=bm.c 1 _ rfl;have m2:=bm.c 2 _ rfl;have m3:=bm.c 3 _ rfl;have m4:=bm.c 4 _ rfl;have m5:=bm.c 5 _ rfl;have m6:=bm.c 6 _ rfl;have m7:=bm.c 7 _ rfl;have hzm:=bm.lt;clear hy Zf tm ha YZ s0 s1 s2 s3 g0 g1 g2 g3 g4 g5 g6 g7 k8w ht bm;have HAM:=Ys (bD.ext aC.stays ((Kp.refl _ wr).alloc (.cells #[.string x.name,.slice a1 x.args.length c1,.int .i64 x.ret.kind,.string x.ret.name,.int .i64 x.locals,.int .i64 x.stack,.slice a2 x.code.length c2,.slice a3 x.maps.length c3] 34)) HMx.o |> bD.ext aC.stays hB);have o0:=((j4o.ext Cw).c 0 (.int .i64 low.keeper) rfl);have o1:=((j5o.ext Cw).c 0 (.int .i64 high.keeper) rfl);have oz:=(j5o.ext Cw).lt;have HR:Zs (decide (x.ret=y.ret)=decide (x.ret.kind=y.ret.kind∧x.ret.name=y.ret.name)):=Ys (decide_eq_decide.2 M.Kind.fK);rcases q9 x.ret.kind y.ret.kind x.ret.name y.ret.name with⟨e1,e2⟩|⟨e1,kP,uV⟩|⟨pg,pq⟩
          · have e1':(x.ret.kind==y.ret.kind)=true:=beq_iff_eq.2 e1;have e2':(x.ret.name.toList==y.ret.name.toList)=true:=by rw[e2];simp
            have OD:Zs (M.dX p low high x=(decide (x.args=y.args)&&M.df p low.keeper high.keeper x)):=Ys (by rw[HT.o,HR.o];simp[e1,e2]);clear e1 e2;cases hq:decide (x.args=y.args)
            · have TK:Zs (M.dX p low high x=false):=Ys (by rw[OD.o,hq];rfl);have HQ:=Ys hq;clear hq;go_wp2_with fail;refine(wy _ _ _ _ _ _ _ ((KG.o.1.ext eZ.stays (hE.trans hB1.o)).ext eZ.stays ((Kp.refl _ _).alloc _)) (KG.o.2.ext eZ.stays ((Kp.refl _ _).alloc _))).mono ?_;rintro e w2 ⟨rfl,hB2⟩;rw[HQ.o];go_wp2;go_ret;exact⟨ae (by rw[HL.o,jD HX.o TK.o];simp),(by repeat (first|with_reducible exact Kp.refl _ _|with_reducible assumption|with_reducible refine Kp.alloc ?_ _|with_reducible refine Kp.drew ?_|with_reducible refine Kp.drewN ?_ _|with_reducible refine Kp.setCell ?_ (fun h=>absurd h (by simp<;>omega)) _|with_reducible refine Kp.trans ?_ (by with_reducible assumption)|exact Kp.refl _ _|assumption|refine Kp.alloc ?_ _|refine Kp.drew ?_|refine Kp.drewN ?_ _|(refine Kp.setCell ?_ (fun h=>absurd h (by simp;done)) _)|(refine Kp.setCell ?_ (fun h=>absurd h (by simp;omega)) _)|refine Kp.trans ?_ (by assumption)))⟩
            · have HR3:Zs (M.dX p low high x=M.df p low.keeper high.keeper x):=Ys (by rw[OD.o,hq];rfl);have HQ:=Ys hq;clear hq;go_wp2_with fail;refine(wy _ _ _ _ _ _ _ ((KG.o.1.ext eZ.stays (hE.trans hB1.o)).ext eZ.stays ((Kp.refl _ _).alloc _)) (KG.o.2.ext eZ.stays ((Kp.refl _ _).alloc _))).mono ?_;rintro e w2 ⟨rfl,hB2⟩;rw[HQ.o];have II:=Ys (((Kp.refl _ w1).alloc (.cells #[.string y.name,.slice a1' y.args.length c1',.int .i64 y.ret.kind,.string y.ret.name,.int .i64 y.locals,.int .i64 y.stack,.slice XR y.code.length c2',.slice a3' y.maps.length c3'] 34):Ext w1 _).trans hB2);have n0:=II.o.aJ m0;have n1:=II.o.aJ m1;have n2:=II.o.aJ m2;have n3:=II.o.aJ m3;have n4:=II.o.aJ m4;have n5:=II.o.aJ m5;have n6:=II.o.aJ m6;have n7:=II.o.aJ m7;have u0:=II.o.aJ o0;have u1:=II.o.aJ o1;have Jf:=Ys (bD.ext aC.stays II.o HAM.o);have zT:=Ys (HLo.o.ext (Cw.trans II.o));clear m0 m1 m2 m3 m4 m5 m6 m7 q0 q1 q2 q3 q4 q5 q6 q7 o0 o1 t3;cases hm:M.df p low.keeper high.keeper x
              all_goals
               have HAg:=Ys hm;clear hm;go_wp2_with fail;refine(mJ _ _ _ zT.o _ _ _ _ _ Jf.o).mono ?_;rintro e w3 ⟨rfl,Ar⟩;rw[HAg.o];go_wp2
              · go_ret;exact⟨ae (by rw[HL.o,jD HX.o (HR3.o.trans HAg.o)];simp),(by repeat (first|with_reducible exact Kp.refl _ _|with_reducible assumption|with_reducible refine Kp.alloc ?_ _|with_reducible refine Kp.drew ?_|with_reducible refine Kp.drewN ?_ _|with_reducible refine Kp.setCell ?_ (fun h=>absurd h (by simp<;>omega)) _|with_reducible refine Kp.trans ?_ (by with_reducible assumption)|exact Kp.refl _ _|assumption|refine Kp.alloc ?_ _|refine Kp.drew ?_|refine Kp.drewN ?_ _|(refine Kp.setCell ?_ (fun h=>absurd h (by simp;done)) _)|(refine Kp.setCell ?_ (fun h=>absurd h (by simp;omega)) _)|refine Kp.trans ?_ (by assumption)))⟩
              · go_roundw
                case rel=>exact⟨k+1,by omega,by go_num,(by repeat (first|with_reducible exact Kp.refl _ _|with_reducible assumption|with_reducible refine Kp.alloc ?_ _|with_reducible refine Kp.drew ?_|with_reducible refine Kp.drewN ?_ _|with_reducible refine Kp.setCell ?_ (fun h=>absurd h (by simp<;>omega)) _|with_reducible refine Kp.trans ?_ (by with_reducible assumption)|exact Kp.refl _ _|assumption|refine Kp.alloc ?_ _|refine Kp.drew ?_|refine Kp.drewN ?_ _|(refine Kp.setCell ?_ (fun h=>absurd h (by simp;done)) _)|(refine Kp.setCell ?_ (fun h=>absurd h (by simp;omega)) _)|refine Kp.trans ?_ (by assumption))),Ys (all_succ HA.o HX.o (HR3.o.trans HAg.o))⟩
                case measure=>simp[intOf];omega
          · have TK:Zs (M.dX p low high x=false):=Ys (by rw[HT.o,HR.o];simp[uV]);have e1':(x.ret.kind==y.ret.kind)=true:=beq_iff_eq.2 e1;clear uV e1;go_wp2;go_ret;exact⟨ae (by rw[HL.o,jD HX.o TK.o];simp),(by repeat (first|with_reducible exact Kp.refl _ _|with_reducible assumption|with_reducible refine Kp.alloc ?_ _|with_reducible refine Kp.drew ?_|with_reducible refine Kp.drewN ?_ _|with_reducible refine Kp.setCell ?_ (fun h=>absurd h (by simp<;>omega)) _|with_reducible refine Kp.trans ?_ (by with_reducible assumption)|exact Kp.refl _ _|assumption|refine Kp.alloc ?_ _|refine Kp.drew ?_|refine Kp.drewN ?_ _|(refine Kp.setCell ?_ (fun h=>absurd h (by simp;done)) _)|(refine Kp.setCell ?_ (fun h=>absurd h (by simp;omega)) _)|refine Kp.trans ?_ (by assumption)))⟩
          · have TK:Zs (M.dX p low high x=false):=Ys (by rw[HT.o,HR.o];simp[pq]);clear pq;go_wp2;go_ret;exact⟨ae (by rw[HL.o,jD HX.o TK.o];simp),(by repeat (first|with_reducible exact Kp.refl _ _|with_reducible assumption|with_reducible refine Kp.alloc ?_ _|with_reducible refine Kp.drew ?_|with_reducible refine Kp.drewN ?_ _|with_reducible refine Kp.setCell ?_ (fun h=>absurd h (by simp<;>omega)) _|with_reducible refine Kp.trans ?_ (by with_reducible assumption)|exact Kp.refl _ _|assumption|refine Kp.alloc ?_ _|refine Kp.drew ?_|refine Kp.drewN ?_ _|(refine Kp.setCell ?_ (fun h=>absurd h (by simp;done)) _)|(refine Kp.setCell ?_ (fun h=>absurd h (by simp;omega)) _)|refine Kp.trans ?_ (by assumption)))⟩
      · go_wp2;go_ret;exact⟨ae (by rw[HL.o,HF.o,iH HA.o (by omega)];rfl),(by repeat (first|with_reducible exact Kp.refl _ _|with_reducible assumption|with_reducible refine Kp.alloc ?_ _|with_reducible refine Kp.drew ?_|with_reducible refine Kp.drewN ?_ _|with_reducible refine Kp.setCell ?_ (fun h=>absurd h (by simp<;>omega)) _|with_reducible refine Kp.trans ?_ (by with_reducible assumption)|exact Kp.refl _ _|assumption|refine Kp.alloc ?_ _|refine Kp.drew ?_|refine Kp.drewN ?_ _|(refine Kp.setCell ?_ (fun h=>absurd h (by simp;done)) _)|(refine Kp.setCell ?_ (fun h=>absurd h (by simp;omega)) _)|refine Kp.trans ?_ (by assumption)))⟩
theorem SliceOf.drop{α:Type}{k:Nat}{R:fD α}{w:World}{I:Nat→Prop}{b off n cap:Nat}{xs:List α}(h:SliceOf k R w I (.slice (some ⟨b,off,none⟩) n cap) xs){i:Nat}(hi:i≤xs.length):
    SliceOf k R w I (.slice (some ⟨b,off+i*k,none⟩) (xs.length - i) (cap - i)) (xs.drop i):=by
 obtain⟨a',cap',e,h1,h2,h3⟩:=h;cases e;refine⟨some ⟨b,off+i*k,none⟩,cap - i,by rw[List.length_drop],by rw[List.length_drop];omega,by rw[List.length_drop];omega,fun j x hx=>?_⟩;rw[List.getElem?_drop]at hx;obtain⟨b',off',cs,ea,hI,hr,hl,hc⟩:=h3 _ x hx;cases ea;refine⟨b,_,cs,rfl,hI,hr,hl,?_⟩;rw[Nat.add_assoc,←Nat.add_mul];exact hc
theorem gX{α:Type}{xs:List α}{k:Nat}{x:α}(hx:xs[k]?=some x):xs.drop k=x::xs.drop (k+1):=by
 obtain⟨h,rfl⟩:=List.getElem?_eq_some_iff.1 hx;exact List.drop_eq_getElem_cons h
theorem pF (w : World) (l : au) (p : M.ai) (h : aj w l p) (I : Nat → Prop) (v : Value) (xs : List M.Ref) (hs : SliceOf 2 uL w I v xs) (dI : ∀ r ∈ xs, ∃ c, M.cls? p r = some c) :
    Calls Tryz.prog 77 #[.pointer (some ⟨l.L,0,none⟩),v] w fun e w'=>
     e=.returned (.bool (M.eQ p xs))∧Ext w w':=by
 have H:=Ys h;clear h;have HO:=Ys dI;clear dI;obtain⟨a,cap,rfl,hn,dx⟩:=hs.form;go_enter Tryz.func77,Tryz.ntmps77;go_wp2;go_loopw [11] (fun i wr=>∃k:Nat,k≤xs.length∧i=.int .i64 k∧Ext w wr∧Zs (M.eQ p xs=M.eQ p (xs.drop k))) (fun i _=>xs.length - (intOf i).toNat)
 case atStart=>exact⟨0,Nat.zero_le _,rfl,Kp.refl _ _,Ys rfl⟩
 case round =>
  obtain⟨k,hk,rfl,hE,HA⟩:=hrel;by_cases cK:k<xs.length
  · obtain ⟨x, hx⟩ := get_some cK; obtain ⟨b, off, cs, rfl, hI, rfl, -, hc⟩ := hs.get hx; obtain ⟨g0, g1⟩ := (hc.ext hE).two; have HX := Ys hx; have pg : (0 : Int) ≤ (k : Int) + 1 := by omega
    have pq:(k:Int)+1≤xs.length:=by omega
    have ow:(xs.length:Int)≤cap:=by omega
    have HD:Zs (M.eQ p xs=((xs.drop (k+1)).all (M.iW p x)&&M.eQ p (xs.drop (k+1)))):=Ys (by
     rw[HA.o,gX hx];rfl)
    obtain⟨cx,zW⟩:=HO.o x (List.mem_of_getElem? hx);have Tp:=Ys zW;clear hx hc zW;by_cases Zi:cap=k+1
    · have hz:xs.length - (k+1)=0:=by omega
      have Qt:Zs (xs.drop (k+1)=[]):=Ys (List.drop_eq_nil_of_le (by omega));go_wp2;go_loopw [21] (fun i wi=>i=.int .i64 0∧Ext wr wi) (fun i _=>0)
      case atStart=>exact⟨rfl,kx⟩
      case round=>
       obtain⟨rfl,OH⟩:=hrel;go_wp2;go_roundw
       case rel=>exact⟨k+1,by omega,by go_num,(by repeat (first|assumption|exact Kp.refl _ _|apply Kp.alloc|apply Kp.drew|apply Kp.drewN|refine Kp.trans ?_ (by assumption))),Ys (by rw[HD.o,Qt.o];rfl)⟩
       case measure=>simp[intOf];omega
    · have sd := hs.drop (i := k + 1) (by omega); have hlen : (xs.drop (k + 1)).length = xs.length - (k + 1) := List.length_drop; have HY : Zs (∀ r ∈ xs.drop (k + 1), ∃ c, M.cls? p r = some c) := Ys (fun r hr => HO.o r (List.mem_of_mem_drop hr)); have Tq : Zs (M.eQ p xs = ((xs.drop (k + 1)).all (M.iW p x) && M.eQ p (xs.drop (k + 1)))) := HD; obtain ⟨wo, rfl⟩ : ∃ wo : World, wo = wr := ⟨_, rfl⟩; go_wp2; have bx := az.new wo 51 #[.int .i64 x.keeper, .string x.name]; have Im : Ext w (wo.alloc (.cells #[.int .i64 x.keeper, .string x.name] 51)) := kx; have HLw := Ys (H.o.ext Im); have qx : (wo.alloc (.cells #[.int .i64 x.keeper, .string x.name] 51)).heap.size = wo.heap.size + 1 := by simp
      go_loopw [21] (fun i wi=>∃j:Nat,j≤xs.length - (k+1)∧i=.int .i64 j∧Ext (wo.alloc (.cells #[.int .i64 x.keeper,.string x.name] 51)) wi∧Zs (((xs.drop (k+1)).take j).all (M.iW p x)=true)) (fun i _=>xs.length - (k+1) - (intOf i).toNat)
      case atStart=>exact⟨0,Nat.zero_le _,rfl,Kp.refl _ _,Ys (by simp)⟩
      case round =>
       obtain⟨j,hj,rfl,OH,HB⟩:=hrel;by_cases hjt:j<xs.length - (k+1)
       · obtain⟨y,hy⟩:=get_some (l:=xs.drop (k+1)) (k:=j) (by rw[hlen];exact hjt);obtain⟨b',off',cs',he,Qe,rfl, -,sH⟩:=sd.get hy;obtain⟨rfl,rfl⟩:b'=b∧off'=off+(k+1)*2:=by simp only[Option.some.injEq,Addr.mk.injEq,and_true]at he;exact⟨he.1.symm,he.2.symm⟩
         obtain⟨q0,q1⟩:=(sH.ext (Im.trans OH)).two;have bxi:=bx.ext OH;have x0:=bxi.c 0 (.int .i64 x.keeper) rfl;have x1:=bxi.c 1 (.string x.name) rfl;have zx:=bxi.lt;obtain⟨cy,OP⟩:=HY.o y (List.mem_of_getElem? hy);have HCY:=Ys OP;have HYy:=Ys hy;have HLi:=Ys ((HLw.o.ext OH).ext ((Kp.refl _ _).alloc (.cells #[.int .i64 y.keeper,.string y.name] 51)));clear sH he bxi OP hy g0 g1;cases hp:M.iW p x y
         all_goals
          have HP:=Ys hp;clear hp;go_wp2_with fail;refine(yX _ _ _ HLi.o x y _ _ Tp.o HCY.o).mono ?_;rintro e w1 ⟨rfl,hB⟩;rw[HP.o];go_wp2
         · go_ret;exact⟨ae (by rw[HD.o,jD HYy.o HP.o];rfl),(by repeat (first|assumption|exact Kp.refl _ _|apply Kp.alloc|apply Kp.drew|apply Kp.drewN|refine Kp.trans ?_ (by assumption)))⟩
         · go_roundw
           case rel=>exact⟨j+1,by omega,by go_num,(by repeat (first|assumption|exact Kp.refl _ _|apply Kp.alloc|apply Kp.drew|apply Kp.drewN|refine Kp.trans ?_ (by assumption))),Ys (all_succ HB.o HYy.o HP.o)⟩
           case measure=>simp[intOf];omega
       · have uF:=Ys (iH HB.o (by rw[hlen];omega));go_wp2;go_roundw
         case rel=>exact⟨k+1,by omega,by go_num,(by repeat (first|assumption|exact Kp.refl _ _|apply Kp.alloc|apply Kp.drew|apply Kp.drewN|refine Kp.trans ?_ (by assumption))),Ys (by rw[HD.o,uF.o];rfl)⟩
         case measure=>simp[intOf];omega
  · go_wp2;go_ret;exact⟨ae (by rw[HA.o,List.drop_eq_nil_of_le (by omega)];rfl),kx⟩
theorem Am{p:M.ai}:∀(f:Nat) (r:M.Ref) (refs:List M.Ref),M.bH p f r=some refs→(∃c,M.cls? p r=some c)→∀x∈refs,∃c,M.cls? p x=some c:=by
 intro f;induction f with
 |zero=>intro r refs h;simp[M.bH]at h
 |succ f ih=>
  intro r refs h ho x hx;unfold M.bH at h;split at h
  · cases h;simp at hx;subst hx;exact ho
  · split at h
    · rename_i hc;cases hg:M.bH p f (M.resolve p r.keeper (M.aW p r)).1 with
      |none=>rw[hg]at h;simp at h
      |some rs=>
       rw[hg]at h;simp at h;subst h;rcases List.mem_cons.1 hx with rfl|hx
       · exact ho
       · exact ih _ _ hg (eD hc) x hx
    · cases h
theorem yU{p:M.ai}{r:M.Ref}(h:M.fA p r=true):∃c,M.cls? p r=some c:=by
 unfold M.fA M.find at h;by_cases hc:(M.resolve p r.keeper r.name).2=1
 · rw[if_pos hc]at h;split at h
   · simp at h;rw[←h];exact eD hc
   · simp at h
 · rw[if_neg hc]at h;simp at h;exact absurd h.1 hc
theorem fJ{p:M.ai}{r:M.Ref}:∀x∈M.chain p r,∃c,M.cls? p x=some c:=by
 intro x hx;unfold M.chain at hx;split at hx
 · rename_i hl;cases hc:M.lQ p r with
   |none=>rw[hc]at hx;simp at hx
   |some refs=>
    rw[hc]at hx;exact Am 6 r refs hc (yU hl) x (by simpa using hx)
 · simp at hx
theorem aj.QY{w w':World}{l:au}{p:M.ai}(h:aj w l p)(hk:Kp (·=l.D) w w')(hm:∃m,fI w' l.D m∧∀k s v,look m (k,s)=some v→v=if M.bI p ⟨k,s⟩then 1 else 2):aj w' l p:=by
 obtain⟨o1,o2,o3⟩:=h.ord;refine⟨h.ok,h.ord,?_,?_,?_,hm⟩
 · obtain⟨a,cap,hb,hs⟩:=h.blk;exact⟨a,cap,hb.kp hk (by omega),hs.keep aH.stays (Kp.same hk fun b hb e=>by omega) fun _ h=>h⟩
 · obtain⟨m,h1,h2⟩:=h.own;exact⟨m,h1.kp hk (by omega),h2⟩
 · obtain⟨m,h1,h2⟩:=h.ask;exact⟨m,h1.kp hk (by omega),h2⟩
theorem eX(w:World)(l:au)(p:M.ai)(h:aj w l p)(r:M.Ref):
    Calls Tryz.prog 34 #[.pointer (some ⟨l.L,0,none⟩),.agg #[.int .i64 r.keeper,.string r.name]] w fun e w'=>
     e=.returned (.bool (M.bI p r))∧aj w' l p∧Kp (·=l.D) w w':=by
 obtain⟨m,hm,zZ⟩:=h.laid;have aM:Ext w (w.alloc (.cells #[.int .i64 r.keeper,.string r.name] 51)).drew:=kx;have lk:=sj (hm.kp aM fun x=>x) r.keeper r.name;obtain⟨a,cap,hs,c0,c1,c2,c3⟩:=h.cells;have d3:=c3 _ (Kp.refl _ w);have hzL:=aS d3;have H0:=Ys h;have H:=Ys (h.ext aM);have b3:=(az.new w 51 #[.int .i64 r.keeper,.string r.name]);clear hs c0 c1 c2 h;cases hl:look m (r.keeper,r.name)with
 | some v =>
  have hv:=zZ _ _ _ hl;rw[hl]at lk;simp only[Option.getD_some]at lk;have HM:=Ys (And.intro hm zZ);clear hm zZ hl c3;cases hc:M.bI p r
  all_goals
   have sH:M.bI p ⟨r.keeper,r.name⟩=_:=hc;rw[sH]at hv;have HC:=Ys hc;clear hc sH;simp at hv;subst hv;go_enter Tryz.func34,Tryz.ntmps34;go_wp2;(refine fP 6 (by kernel_rfl) (by kernel_rfl) ?_);(simp only[List.take_succ_cons,List.take_zero,List.drop_succ_cons,List.drop_zero]);(repeat still_step);(refine wpStill_nil ?_);go_wp2;go_ret;exact⟨rfl,H0.o.ext kx |> fun h=>h,(kx:Ext w _).any⟩
 | none =>
  rw[hl]at lk;simp only[Option.getD_none]at lk;have HM:=Ys (And.intro hm (And.intro zZ hl));have FT:=Ys c3;clear hm zZ hl c3;go_enter Tryz.func34,Tryz.ntmps34;go_wp2;(refine fP 6 (by kernel_rfl) (by kernel_rfl) ?_);(simp only[List.take_succ_cons,List.take_zero,List.drop_succ_cons,List.drop_zero]);(repeat still_step);(refine wpStill_nil ?_);go_wp2_with fail;refine(kS _ _ _ H.o _).mono ?_;rintro e w1 ⟨⟨v,rfl,hs⟩,hB⟩;obtain⟨a',cap',rfl,hn,dx⟩:=hs.form;have aZ:Ext w w1:=aM.trans hB;have d1:=FT.o _ aZ;have H1:=Ys (H0.o.ext aZ);have HMD:=Ys (HM.o.1.kp aZ fun x=>x);have Jj:=((b3.ext ((Kp.refl _ _).drew)).ext hB);have q0:=Jj.c 0 (.int .i64 r.keeper) rfl;have q1:=Jj.c 1 (.string r.name) rfl;have qz:=Jj.lt;have ek:Zs (M.bI p r=(!(M.chain p r).isEmpty&&M.eQ p (M.chain p r))):=Ys rfl;have Qj:Zs (∀x∈M.chain p r,∃c,M.cls? p x=some c):=Ys fJ;have HU:Zs (∀W W',Ext w W→fI W' l.D (m++[((r.keeper,r.name),if M.bI p r then 1 else 2)])→Kp (·=l.D) W W'→aj W' l p):=Ys (fun W W' hW hm' Cz=>(H0.o.ext hW).QY Cz ⟨_,hm',fun k s v hv=>by
   by_cases Qo:((k,s):Key)=(r.keeper,r.name)
   · rw[Qo,qE HM.o.2.2]at hv;cases hv;simp only[Prod.mk.injEq]at Qo;obtain⟨rfl,rfl⟩:=Qo;rfl
   · rw[pJ Qo]at hv;exact HM.o.2.1 k s v hv⟩)
  clear hB b3 Jj lk d3 aM;generalize M.chain p r=xs at*;cases xs with
  |nil=>
   have lF:M.bI p r=false:=ek.o;rw[lF]at HU;have Ll:=Ys lF;clear lF;clear hs;go_wp2;(refine fP 5 (by kernel_rfl) (by kernel_rfl) ?_);(simp only[List.take_succ_cons,List.take_zero,List.drop_succ_cons,List.drop_zero]);(repeat still_step);(refine wpStill_nil ?_);refine eO _ rfl _ _ _ rfl l.D m r.keeper r.name 2 rfl rfl rfl (HMD.o.kp ((Kp.refl (fun _=>False) _).drew) fun x=>x) HM.o.2.2 ?_;intro w2 RX pq EA;go_wp2;go_ret;exact⟨ae Ll.o.symm,HU.o _ _ ((aZ).drew) RX pq,((aZ.drew).any:Kp (·=l.D) w _).trans pq⟩
  |cons y ys=>
   have hlen:((y::ys).length:Int)≠0:=by simp;omega
   have adh:(((y::ys).length:Int)==0)=false:=beq_eq_false_iff_ne.2 hlen;cases Wp:M.eQ p (y::ys)
   · have lF:M.bI p r=false:=by rw[ek.o,Wp];rfl
     rw[lF]at HU;have Ll:=Ys lF;have HCh:=Ys Wp;clear lF Wp;generalize (y::ys)=xs at*;go_wp2_with fail;refine(pF _ _ _ H1.o _ _ _ hs Qj.o).mono ?_;rintro e w2 ⟨rfl,hB2⟩;rw[HCh.o];have d2:=FT.o _ (aZ.trans hB2);have p0:=hB2.aJ q0;have p1:=hB2.aJ q1;have bY:Ext w w2:=aZ.trans hB2;clear q0 q1 d1 hB2 qz hs;go_wp2;(refine fP 5 (by kernel_rfl) (by kernel_rfl) ?_);(simp only[List.take_succ_cons,List.take_zero,List.drop_succ_cons,List.drop_zero]);(repeat still_step);(refine wpStill_nil ?_);refine eO _ rfl _ _ _ rfl l.D m r.keeper r.name 2 rfl rfl rfl ((HM.o.1.kp bY fun x=>x).kp ((Kp.refl (fun _=>False) _).drew) fun x=>x) HM.o.2.2 ?_;intro w3 Wy ow AO;go_wp2;go_ret;exact⟨ae Ll.o.symm,HU.o _ _ ((bY).drew) Wy ow,((bY.drew).any:Kp (·=l.D) w _).trans ow⟩
   · have lF:M.bI p r=true:=by rw[ek.o,Wp];rfl
     rw[lF]at HU;have Ll:=Ys lF;have HCh:=Ys Wp;clear lF Wp;generalize (y::ys)=xs at*;go_wp2_with fail;refine(pF _ _ _ H1.o _ _ _ hs Qj.o).mono ?_;rintro e w2 ⟨rfl,hB2⟩;rw[HCh.o];have d2:=FT.o _ (aZ.trans hB2);have p0:=hB2.aJ q0;have p1:=hB2.aJ q1;have bY:Ext w w2:=aZ.trans hB2;clear q0 q1 d1 hB2 qz hs;go_wp2;(refine fP 5 (by kernel_rfl) (by kernel_rfl) ?_);(simp only[List.take_succ_cons,List.take_zero,List.drop_succ_cons,List.drop_zero]);(repeat still_step);(refine wpStill_nil ?_);refine eO _ rfl _ _ _ rfl l.D m r.keeper r.name 1 rfl rfl rfl ((HM.o.1.kp bY fun x=>x).kp ((Kp.refl (fun _=>False) _).drew) fun x=>x) HM.o.2.2 ?_;intro w3 Wy ow AO;go_wp2;go_ret;exact⟨ae Ll.o.symm,HU.o _ _ ((bY).drew) Wy ow,((bY.drew).any:Kp (·=l.D) w _).trans ow⟩
def pV(p:M.ai)(k i:Nat)(q:Int)(s:ByteArray):Option Int:=
 if q<k then(M.nK p ⟨q,s⟩).map Int.ofNat else if q=k then((p[k]?).bind fun Q=>(Q.owns.take i).findIdx? fun c=>decide (c.name=s)).map Int.ofNat else none
def pR(p:M.ai)(k i:Nat)(q:Int)(s:ByteArray):Option Int:=
 if q<k then M.sN p q s else if q=k then((p[k]?).bind fun Q=>((Q.asks.take i).find? fun a=>decide (a.name=s)).map M.Ask.keeper)else none
theorem yO(p:M.ai)(k:Nat):M.iq p (k:Int)=p[k]?:=by
 unfold M.iq;rw[if_pos (by omega)];rfl
theorem oI{p:M.ai}{q:Int}(h:q<0∨(p.length:Int)≤q):M.iq p q=none:=by
 unfold M.iq;split
 · rw[List.getElem?_eq_none_iff];omega
 · rfl
theorem NU(p:M.ai)(q:Int)(s:ByteArray):pV p 0 0 q s=none:=by
 unfold pV;split
 · unfold M.nK;rw[oI (.inl (by simpa using ‹q<((0:Nat):Int)›))];rfl
 · split
   · simp
   · rfl
theorem LG(p:M.ai)(q:Int)(s:ByteArray):pR p 0 0 q s=none:=by
 unfold pR;split
 · unfold M.sN;rw[oI (.inl (by simpa using ‹q<((0:Nat):Int)›))];rfl
 · split
   · simp
   · rfl
theorem NT{p:M.ai}{k i:Nat}{Q:M.jc}{c:M.Class}(hQ:p[k]?=some Q)(hc:Q.owns[i]?=some c)(hn:pV p k i k c.name=none)(q:Int)(s:ByteArray):
    pV p k (i+1) q s=if q=k∧s=c.name then some (i:Int)else pV p k i q s:=by
 have hi:i<Q.owns.length:=(List.getElem?_eq_some_iff.1 hc).1;unfold pV at*;rw[hQ]at hn ⊢;simp only[Int.lt_irrefl,if_false,if_true,Option.bind_some]at hn ⊢;by_cases h1:q<k
 · rw[if_pos h1,if_pos h1,if_neg (by omega)]
 · rw [if_neg h1, if_neg h1]; by_cases h2 : q = k
   · rw[if_pos h2,if_pos h2,List.take_add_one,hc];simp only[Option.toList_some,List.findIdx?_append,List.length_take,Nat.min_eq_left (Nat.le_of_lt hi)];by_cases h3:s=c.name
     · subst h3;rw[if_pos ⟨h2,rfl⟩];have:(Q.owns.take i).findIdx? (fun x=>decide (x.name=c.name))=none:=by simpa using hn
       rw[this];simp[List.findIdx?_cons]
     · rw[if_neg (fun h=>h3 h.2)];have P6:¬c.name=s:=fun h=>h3 h.symm;simp[List.findIdx?_cons,P6]
   · rw[if_neg h2,if_neg h2,if_neg (fun h=>h2 h.1)]
theorem LF{p:M.ai}{k i:Nat}{Q:M.jc}{a:M.Ask}(hQ:p[k]?=some Q)(ha:Q.asks[i]?=some a)(hn:pR p k i k a.name=none)(q:Int)(s:ByteArray):
    pR p k (i+1) q s=if q=k∧s=a.name then some a.keeper else pR p k i q s:=by
 unfold pR at*;rw[hQ]at hn ⊢;simp only[Int.lt_irrefl,if_false,if_true,Option.bind_some]at hn ⊢;by_cases h1:q<k
 · rw[if_pos h1,if_pos h1,if_neg (by omega)]
 · rw [if_neg h1, if_neg h1]; by_cases h2 : q = k
   · rw[if_pos h2,if_pos h2,List.take_add_one,ha];simp only[Option.toList_some,List.find?_append];by_cases h3:s=a.name
     · subst h3;rw[if_pos ⟨h2,rfl⟩];have:(Q.asks.take i).find? (fun x=>decide (x.name=a.name))=none:=by simpa using hn
       rw[this];simp
     · rw[if_neg (fun h=>h3 h.2)];have P6:¬a.name=s:=fun h=>h3 h.symm;simp[P6]
   · rw[if_neg h2,if_neg h2,if_neg (fun h=>h2 h.1)]
theorem QT{p:M.ai}{k:Nat}{Q:M.jc}(hQ:p[k]?=some Q)(q:Int)(s:ByteArray):pV p (k+1) 0 q s=pV p k Q.owns.length q s:=by
 unfold pV;by_cases h1:q<k
 · rw[if_pos (by omega),if_pos h1]
 · by_cases h2:q=k
   · subst h2;rw[if_pos (by omega),if_neg h1,if_pos rfl,hQ];unfold M.nK;rw[yO,hQ,Option.bind_some,Option.bind_some,List.take_of_length_le (Nat.le_refl _)]
   · rw[if_neg (by omega),if_neg h1,if_neg h2];split
     · cases p[k+1]?<;>simp
     · rfl
theorem PE{p:M.ai}{k:Nat}{Q:M.jc}(hQ:p[k]?=some Q)(q:Int)(s:ByteArray):pR p (k+1) 0 q s=pR p k Q.asks.length q s:=by
 unfold pR;by_cases h1:q<k
 · rw[if_pos (by omega),if_pos h1]
 · by_cases h2:q=k
   · subst h2;rw[if_pos (by omega),if_neg h1,if_pos rfl,hQ];unfold M.sN;rw[yO,hQ,Option.bind_some,Option.bind_some,List.take_of_length_le (Nat.le_refl _)]
   · rw[if_neg (by omega),if_neg h1,if_neg h2];split
     · cases p[k+1]?<;>simp
     · rfl
theorem QS(p:M.ai)(q:Int)(s:ByteArray):pV p p.length 0 q s=(M.nK p ⟨q,s⟩).map Int.ofNat:=by
 unfold pV;by_cases h1:q<p.length
 · rw[if_pos h1]
 · rw[if_neg h1];unfold M.nK;rw[oI (.inr (by show(p.length:Int)≤q;omega))];split
   · simp
   · rfl
theorem PD(p:M.ai)(q:Int)(s:ByteArray):pR p p.length 0 q s=M.sN p q s:=by
 unfold pR;by_cases h1:q<p.length
 · rw[if_pos h1]
 · rw[if_neg h1];unfold M.sN;rw[oI (.inr (by show(p.length:Int)≤q;omega))];split
   · simp
   · rfl
theorem BA{m:List (Key×Int)}{f g:Int→ByteArray→Option Int}{k v:Int}{n:ByteArray}(hm:∀q s,look m (q,s)=f q s)(hn:f k n=none)
    (hg:∀q s,g q s=if q=k∧s=n then some v else f q s):∀q s,look (m++[((k,n),v)]) (q,s)=g q s:=by
 intro q s;rw[hg];by_cases h:q=k∧s=n
 · obtain⟨rfl,rfl⟩:=h;rw[if_pos ⟨rfl,rfl⟩,qE (by rw[hm];exact hn)]
 · rw[if_neg h,pJ (fun e=>h (by simpa using e)),hm]
structure dU(w:World)(l:au)(p:M.ai)(k i j:Nat):Prop where
 ord:l.O<l.A∧l.A<l.D∧l.D<l.L
 blk:∃a cap,az w l.L 94 #[.slice a p.length cap,.map (some l.O),.map (some l.A),.map (some l.D)]∧SliceOf 2 aH w (· <l.O) (.slice a p.length cap) p
 own:∃m,fI w l.O m∧∀q s,look m (q,s)=pV p k i q s
 ask:∃m,fI w l.A m∧∀q s,look m (q,s)=pR p k j q s
 laid:fI w l.D []
theorem dU.lt{w:World}{l:au}{p:M.ai}{k i j:Nat}(h:dU w l p k i j):l.L<w.heap.size:=by
 obtain⟨a,cap,hb,_⟩:=h.blk;exact hb.lt
theorem dU.ext{w w':World}{l:au}{p:M.ai}{k i j:Nat}(h:dU w l p k i j)(hE:Ext w w'):dU w' l p k i j:=by
 obtain⟨a,cap,hb,hs⟩:=h.blk;obtain⟨m1,h1,e1⟩:=h.own;obtain⟨m2,h2,e2⟩:=h.ask;exact⟨h.ord,⟨a,cap,hb.ext hE,hs.ext aH.stays hE⟩,⟨m1,h1.kp hE fun x=>x,e1⟩,⟨m2,h2.kp hE fun x=>x,e2⟩,h.laid.kp hE fun x=>x⟩
theorem dU.VL{w w':World}{l:au}{p:M.ai}{k i i' j:Nat}(h:dU w l p k i j)(hk:Kp (·=l.O) w w')(hm:∃m,fI w' l.O m∧∀q s,look m (q,s)=pV p k i' q s):dU w' l p k i' j:=by
 obtain⟨o1,o2,o3⟩:=h.ord;obtain⟨a,cap,hb,hs⟩:=h.blk;obtain⟨m2,h2,e2⟩:=h.ask;exact⟨h.ord,⟨a,cap,hb.kp hk (by omega),hs.keep aH.stays (Kp.same hk fun b hb e=>by omega) fun _ h=>h⟩,hm,⟨m2,h2.kp hk (by omega),e2⟩,h.laid.kp hk (by omega)⟩
theorem dU.VK{w w':World}{l:au}{p:M.ai}{k i j j':Nat}(h:dU w l p k i j)(hk:Kp (·=l.A) w w')(hm:∃m,fI w' l.A m∧∀q s,look m (q,s)=pR p k j' q s):dU w' l p k i j':=by
 obtain⟨o1,o2,o3⟩:=h.ord;obtain⟨a,cap,hb,hs⟩:=h.blk;obtain⟨m1,h1,e1⟩:=h.own;exact⟨h.ord,⟨a,cap,hb.kp hk (by omega),hs.keep aH.stays (Kp.same hk fun b hb e=>by omega) fun _ h=>h⟩,⟨m1,h1.kp hk (by omega),e1⟩,hm,h.laid.kp hk (by omega)⟩
theorem dU.done{w:World}{l:au}{p:M.ai}(h:dU w l p p.length 0 0)(kX:M.dM p=true):aj w l p:=by
 obtain⟨m1,h1,e1⟩:=h.own;obtain⟨m2,h2,e2⟩:=h.ask;exact⟨kX,h.ord,h.blk,⟨m1,h1,fun k s=>(e1 k s).trans (QS p k s)⟩,⟨m2,h2,fun k s=>(e2 k s).trans (PD p k s)⟩,⟨[],h.laid,fun k s v hv=>by cases hv⟩⟩
theorem dU.next{w:World}{l:au}{p:M.ai}{k:Nat}{Q:M.jc}(h:dU w l p k Q.owns.length Q.asks.length)(hQ:p[k]?=some Q):dU w l p (k+1) 0 0:=by
 obtain⟨m1,h1,e1⟩:=h.own;obtain⟨m2,h2,e2⟩:=h.ask;exact⟨h.ord,h.blk,⟨m1,h1,fun q s=>(e1 q s).trans (QT hQ q s).symm⟩,⟨m2,h2,fun q s=>(e2 q s).trans (PE hQ q s).symm⟩,h.laid⟩
end Go.Proofs.YtohpiobncgafeaaGreatDoor
