/- Walks. -/
import Derived.Test.YtkmclfpjpajjeaaGreatTnCoreLi
import Derived.RangeFuncKeeps
import Derived.RangeFuncNested
import Derived.RangeFuncBound
import Derived.RangeFuncCalls
import Derived.RangeFuncLeaves
import Derived.Shelf.Abstract
import Derived.Shelf.RegionOpen
import Derived.TacticsInMore
import Derived.LoopNIn
import Derived.LoopIn
import Derived.Sort.LoopGhostIn
set_option maxRecDepth 100000
set_option maxHeartbeats 4000000
set_option linter.unusedSimpArgs false
set_option linter.unusedVariables false
namespace Go.Proofs.YtkmclfpjpajjeaaGreat
open Go Go.RowKit
theorem Fj{α:Type}{name:α→ByteArray}{ok:α→Bool}{l:List α}{k:Nat}{x:α}(hx:l[k]?=some x):
    M.aZ name ok (l.drop k) ((l.take k).map name)=(ok x&& !(((l.take k).map name).any fun y=>decide (y=name x))&&M.aZ name ok (l.drop (k+1)) ((l.take (k+1)).map name)):=by
 rw[drop_at hx,List.take_add_one,hx,List.map_append];rfl
theorem LB{α:Type}{name:α→ByteArray}{l:List α}{k j:Nat}{x y:α}(hy:l[j]?=some y)(hj:j<k)(he:name y=name x):
    (((l.take k).map name).any fun y=>decide (y=name x))=true:=by
 rw[List.any_eq_true];refine⟨name y,List.mem_map.2 ⟨y,?_,rfl⟩,by simp[he]⟩;exact List.mem_of_getElem? (i:=j) (by rw[List.getElem?_take,if_pos hj,hy])
theorem IK{α:Type}{name:α→ByteArray}{l:List α}{k:Nat}{x:α}(h:∀j y,l[j]?=some y→j<k→name y≠name x):
    (((l.take k).map name).any fun y=>decide (y=name x))=false:=by
 rw[List.any_eq_false];intro z hz;obtain⟨y,hy,rfl⟩:=List.mem_map.1 hz;obtain⟨j,hj⟩:=List.mem_iff_getElem?.1 hy;rw[List.getElem?_take]at hj;split at hj
 · rename_i bY;simpa using h j y hj bY
 · cases hj
theorem Uc(c:M.Class):M.jF c=(M.aT c.name&&(decide (c.aL=M.none_)|| M.aT c.aL)&&decide (c.fields.length≤3)&&decide (c.methods.length≤4)&&
 M.aZ M.Field.name (fun f=>M.aT f.name&&M.fe f.kind) c.fields []&&M.aZ M.Method.name M.jA c.methods []):=rfl
def EC(c:M.Class)(k:Nat):Bool:=M.aZ M.Field.name (fun f=>M.aT f.name&&M.fe f.kind) (c.fields.drop k) ((c.fields.take k).map M.Field.name)
def CL(c:M.Class)(k:Nat):Bool:=M.aZ M.Method.name M.jA (c.methods.drop k) ((c.methods.take k).map M.Method.name)
theorem QJ{c:M.Class}{k:Nat}(h:c.fields.length≤k):EC c k=true:=by
 unfold EC;rw[List.drop_of_length_le h];rfl
theorem QW{c:M.Class}{k:Nat}(h:c.methods.length≤k):CL c k=true:=by
 unfold CL;rw[List.drop_of_length_le h];rfl
theorem NP{c:M.Class}{k:Nat}{x:M.Field}(hx:c.fields[k]?=some x):
    EC c k=((M.aT x.name&&M.fe x.kind)&& !(((c.fields.take k).map M.Field.name).any fun y=>decide (y=x.name))&&EC c (k+1)):=Fj hx
theorem N8{c:M.Class}{k:Nat}{x:M.Method}(hx:c.methods[k]?=some x):
    CL c k=(M.jA x&& !(((c.methods.take k).map M.Method.name).any fun y=>decide (y=x.name))&&CL c (k+1)):=Fj hx
theorem Jw (w : World) (I : Nat → Prop) (cs : List Value) (c : M.Class) (h : aP w I c cs) :
    Calls Tryz.prog 82 #[.agg cs.toArray] w fun e w'=>e=.returned (.bool (M.jF c))∧Ext w w':=by
 obtain⟨vf,vm,rfl,h1,h2⟩:=h;obtain⟨a,cap,rfl,hn,dm⟩:=h1.form;obtain⟨a2,cap2,rfl,yD,LQ⟩:=h2.form;have aU:Ext w (w.alloc (.cells #[.string c.name,.string c.aL,.slice a c.fields.length cap,.slice a2 c.methods.length cap2] 75)):=(Kp.rr.alloc _);have b0:=ay.new w 75 #[.string c.name,.string c.aL,.slice a c.fields.length cap,.slice a2 c.methods.length cap2];have P0:=Z3 (ae.Gb b0 _ rfl);clear b0;have HE:=Z3 (Uc c);cases yF:M.aT c.name
 · have HN:=Z3 yF;clear yF;go_enter Tryz.func82,Tryz.ntmps82;go_wp2_with (go_at_call 17;refine(iK _ _).mono ?_;rintro e w1 ⟨rfl,rfl⟩;rw[HN.o]);go_ret;exact⟨af (by rw[HE.o,HN.o];rfl),kx⟩
 have HN:=Z3 yF;clear yF;by_cases FJ:(decide (c.aL=M.none_)|| M.aT c.aL)=true
 case neg=>
  have Ya:(decide (c.aL=M.none_))=false:=by
   cases hd:decide (c.aL=M.none_)
   · rfl
   · rw[hd]at FJ;exact absurd rfl FJ
  have Hn:M.aT c.aL=false:=by
   cases hd:M.aT c.aL
   · rfl
   · rw[hd]at FJ;simp at FJ
  have hs:c.aL.toList.isEmpty=false:=(gm c.aL).trans Ya;have HS1:=Z3 Ya;have HS:=Z3 Hn;clear Ya Hn FJ;go_enter Tryz.func82,Tryz.ntmps82;go_wp2_with fail;refine(iK _ _).mono ?_;rintro e w1 ⟨rfl,rfl⟩;rw[HN.o];go_wp2_with fail;refine(iK _ _).mono ?_;rintro e w1 ⟨rfl,rfl⟩;rw[HS.o];go_wp2;go_ret;exact⟨af (by rw[HE.o,HS1.o,HS.o];simp),kx⟩
 have HS2:=Z3 FJ;clear FJ;by_cases hlf:3<c.fields.length∨4<c.methods.length
 · have HF:Zs (M.jF c=false):=Z3 (by
    rw[HE.o];rcases hlf with h|h
    · rw[decide_eq_false (p:=c.fields.length≤3) Wg];simp
    · rw[decide_eq_false (p:=c.methods.length≤4) Wg];simp)
   have HLF:=Z3 hlf;clear hlf;go_enter Tryz.func82,Tryz.ntmps82;go_upto_region 1 with(fail);go_cut [25] (fun s25 wx=>s25=.bool false∧wx=w.alloc (.cells #[.string c.name,.string c.aL,.slice a c.fields.length cap,.slice a2 c.methods.length cap2] 75))
   case first=>
    go_wp2_with fail;refine(iK _ _).mono ?_;rintro e w1 ⟨rfl,rfl⟩;rw[HN.o];cases hs:c.aL.toList.isEmpty
    · have Hn:M.aT c.aL=true:=by
       have:=HS2.o;rw[←gm,hs]at this;exact this
      have HS:=Z3 Hn;clear Hn;go_wp2_with fail;refine(iK _ _).mono ?_;rintro e w1 ⟨rfl,rfl⟩;rw[HS.o];go_wp2_with fail;go_meet;exact⟨rfl,rfl⟩
    · go_wp2_with fail;go_meet;exact⟨rfl,rfl⟩
   case rest=>
    obtain⟨rfl,rfl⟩:=hcut;rcases HLF.o with h|h
    · go_wp2;go_ret;exact⟨af HF.o.symm,kx⟩
    · by_cases h':3<c.fields.length
      all_goals
       go_wp2;go_ret;exact⟨af HF.o.symm,kx⟩
 have agW:c.fields.length≤3:=by omega
 have agX:c.methods.length≤4:=by omega
 clear hlf;have HF:Zs (M.jF c=(EC c 0&&CL c 0)):=Z3 (by
  rw[HE.o,HN.o,HS2.o,decide_eq_true agW,decide_eq_true agX];rfl)
 go_enter Tryz.func82,Tryz.ntmps82;go_upto_region 1 with(fail);go_cut [25] (fun s25 wx=>s25=.bool false∧wx=w.alloc (.cells #[.string c.name,.string c.aL,.slice a c.fields.length cap,.slice a2 c.methods.length cap2] 75))
 case first=>
  go_wp2_with fail;refine(iK _ _).mono ?_;rintro e w1 ⟨rfl,rfl⟩;rw[HN.o];cases hs:c.aL.toList.isEmpty
  · have Hn:M.aT c.aL=true:=by
     have:=HS2.o;rw[←gm,hs]at this;exact this
    have HS:=Z3 Hn;clear Hn;go_wp2_with fail;refine(iK _ _).mono ?_;rintro e w1 ⟨rfl,rfl⟩;rw[HS.o];go_wp2_with fail;go_meet;exact⟨rfl,rfl⟩
  · go_wp2_with fail;go_meet;exact⟨rfl,rfl⟩
 case rest =>
  obtain⟨rfl,kG⟩:=hcut;rw[←kG]at aU;rw[←kG]at P0;subst kG;generalize bI:(w.alloc (.cells #[.string c.name,.string c.aL,.slice a c.fields.length cap,.slice a2 c.methods.length cap2] 75))=w0 at*;clear bI;obtain⟨p0,p1,p2,p3⟩:=P0.o.four;simp only[Nat.zero_add]at p1 p2 p3;go_wp2;clear p0 p1 p2 p3;go_loopw [39] (fun i wr=>∃k:Nat,k≤c.fields.length∧i=.int .i64 k∧Ext w0 wr∧Zs (EC c 0=EC c k)) (fun i _=>c.fields.length - (intOf i).toNat)
  case atStart=>exact⟨0,Nat.zero_le _,rfl,Kp.rr,Z3 rfl⟩
  case round =>
   obtain⟨k,hk,rfl,hE,HA⟩:=hrel;obtain⟨p0,p1,p2,p3⟩:=(P0.o.ext hE).four;simp only[Nat.zero_add]at p1 p2 p3;have hz:=aF p0;by_cases bY:k<c.fields.length
   · obtain ⟨x, hx⟩ := get_some bY; obtain ⟨b, off, cs, rfl, hI, rfl, -, hc⟩ := h1.get hx; have ⟨G, HX, pM⟩ := bg ((hc.ext aU).ext hE) hx (NP hx); clear hx hc; obtain ⟨g0, g1, g2⟩ := G.o.three; cases mR : M.aT x.name
     · have KI:=Z3 mR;clear mR;go_wp2_with (go_at_call 17;refine(iK _ _).mono ?_;rintro e w1 ⟨rfl,rfl⟩;rw[KI.o]);go_ret;exact⟨af (by rw[HF.o,HA.o,pM.o,KI.o];simp),ZS⟩
     have KI:=Z3 mR;clear mR;have B1:=ay.new wr 135 #[.string x.name,.int .i64 x.kind.kind,.string x.kind.name];go_wp2_with fail;refine(iK _ _).mono ?_;rintro e w1 ⟨rfl,rfl⟩;rw[KI.o];go_wp2_with fail;refine(Ca x.kind _).mono ?_;rintro e w1 ⟨rfl,hB⟩;cases sM:M.fe x.kind
     · have Ab:=Z3 sM;clear sM;go_wp2;go_ret;exact⟨af (by rw[HF.o,HA.o,pM.o,Ab.o];simp),ZS⟩
     have Ab:=Z3 sM;clear sM;have r2:=hB.P5 p2;have f0:=(B1.ext hB).c 0 _ rfl;have bH:Ext w0 w1:=ZS;have hfz:=aF f0;clear g0 g1 g2 p0 p1 p2 p3;go_wp2;clear r2;obtain⟨wo,rfl⟩:∃wo:World,wo=wr:=⟨_,rfl⟩;go_loopw [59] (fun j wi=>∃q:Nat,q≤k∧j=.int .i64 q∧Ext w1 wi∧Zs (∀j y,c.fields[j]?=some y→j<q→M.Field.name y≠M.Field.name x)) (fun j _=>k - (intOf j).toNat)
     case atStart=>exact⟨0,Nat.zero_le _,rfl,Kp.rr,Z3 (fun j y _ h=>absurd h (Nat.not_lt_zero _))⟩
     case round =>
      obtain⟨q,hq,rfl,WS,HQ⟩:=hrel;have e0:=WS.aD f0;have hei:=aF e0;by_cases YE:q<k
      · obtain⟨y,hy⟩:=get_some (show q<c.fields.length by omega);obtain⟨b',off',cs',Qk, -,rfl, -,Xd⟩:=h1.get hy;cases Qk;obtain⟨g0,g1,g2⟩:=(((Xd.ext aU).ext bH).ext WS).three;have HY:=Z3 hy;clear hy Xd;cases oV:(y.name.toList==x.name.toList)
        · have lG:=Z3 oV;go_wp2;go_roundw
          case rel=>
           refine⟨q+1,by omega,by go_num,kx,Z3 (fun j z hz' hj=>?_)⟩;by_cases hjq:j<q
           · exact HQ.o j z hz' hjq
           · obtain rfl:j=q:=by omega
             rw[HY.o]at hz';cases hz';rw[iV]at oV;simpa using oV
          case measure=>simp[intOf];omega
        · have lG:=Z3 oV;go_wp2;go_ret;rw[iV]at oV;exact⟨af (by rw[HF.o,HA.o,pM.o,LB HY.o YE (by simpa using oV)];simp),ZS⟩
      · obtain rfl:q=k:=by omega
        go_wp2;go_roundw
        case rel=>exact⟨q+1,by omega,by go_num,ZS,Z3 (by rw[HA.o,pM.o,KI.o,Ab.o,IK HQ.o];rfl)⟩
        case measure=>simp[intOf];omega
   · have HM : Zs (M.jF c = CL c 0) := Z3 (by rw [HF.o, HA.o, QJ Wg]; rfl); clear HA HF; go_wp2; clear p0 p1 p2 p3; have bZ : Ext w wr := aU.trans hE; have P2 := Z3 (P0.o.ext hE); clear P0 hE aU hz; obtain ⟨wl, rfl⟩ : ∃ wl : World, wl = wr := ⟨_, rfl⟩; go_loopw [73] (fun i wr => ∃ k : Nat, k ≤ c.methods.length ∧ i = .int .i64 k ∧ Ext wl wr ∧ Zs (CL c 0 = CL c k)) (fun i _ => c.methods.length - (intOf i).toNat)
     case atStart=>exact⟨0,Nat.zero_le _,rfl,Kp.rr,Z3 rfl⟩
     case round =>
      clear bY hk;obtain⟨k,hk,rfl,hE,HA⟩:=hrel;obtain⟨p0,p1,p2,p3⟩:=(P2.o.ext hE).four;simp only[Nat.zero_add]at p1 p2 p3;have hz:=aF p0;by_cases bY:k<c.methods.length
      · obtain ⟨x, hx⟩ := get_some bY; obtain ⟨b, off, cs, rfl, hI, HX0, -, hc⟩ := h2.get hx; obtain ⟨ya1, yc1, ya2, yc2, ya3, yc3, rfl⟩ := HX0.form; have ⟨HX1, G, HX, pM⟩ := gD (aG.stays _ _ _ _ _ _ (Ext.same (bZ.trans hE)) (fun _ h => h) HX0) ((hc.ext bZ).ext hE) hx (N8 hx); clear hx hc HX0; obtain ⟨g0, g1, g2, g3, g4, g5, g6, g7⟩ := G.o.eight; have B1 := ay.new wr 106 #[.string x.name, .slice ya1 x.args.length yc1, .int .i64 x.ret.kind, .string x.ret.name, .int .i64 x.locals, .int .i64 x.stack, .slice ya2 x.code.length yc2, .slice ya3 x.maps.length yc3]; go_wp2_with fail; refine (ab4 _ _ _ _ (aG.stays _ _ _ _ _ _ (Ext.same (Kp.rr.alloc _)) (fun _ h => h) HX1.o)).mono ?_; rintro e w1 ⟨rfl, hB⟩; cases sM : M.jA x
        · have Ab:=Z3 sM;clear sM;go_wp2;go_ret;exact⟨af (by rw[HM.o,HA.o,pM.o,Ab.o];simp),ZS⟩
        have Ab:=Z3 sM;clear sM;have r3:=hB.P5 p3;have f0:=(B1.ext hB).c 0 _ rfl;have bH:Ext wl w1:=ZS;have hfz:=aF f0;clear g0 g1 g2 g3 g4 g5 g6 g7 p0 p1 p2 p3;go_wp2;clear r3;obtain⟨wo,rfl⟩:∃wo:World,wo=wr:=⟨_,rfl⟩;go_loopw [86] (fun j wi=>∃q:Nat,q≤k∧j=.int .i64 q∧Ext w1 wi∧Zs (∀j y,c.methods[j]?=some y→j<q→M.Method.name y≠M.Method.name x)) (fun j _=>k - (intOf j).toNat)
        case atStart=>exact⟨0,Nat.zero_le _,rfl,Kp.rr,Z3 (fun j y _ h=>absurd h (Nat.not_lt_zero _))⟩
        case round =>
         obtain⟨q,hq,rfl,WS,HQ⟩:=hrel;have e0:=WS.aD f0;have hei:=aF e0;by_cases YE:q<k
         · obtain⟨y,hy⟩:=get_some (show q<c.methods.length by omega);obtain⟨b',off',cs',Qk, -,hyy, -,Xd⟩:=h2.get hy;obtain⟨za1,zc1,za2,zc2,za3,zc3,rfl⟩:=hyy.form;cases Qk;clear hyy;obtain⟨g0,g1,g2,g3,g4,g5,g6,g7⟩:=(((Xd.ext bZ).ext bH).ext WS).eight;have HY:=Z3 hy;clear hy Xd;cases oV:(y.name.toList==x.name.toList)
           · have lG:=Z3 oV;go_wp2;go_roundw
             case rel=>
              refine⟨q+1,by omega,by go_num,kx,Z3 (fun j z hz' hj=>?_)⟩;by_cases hjq:j<q
              · exact HQ.o j z hz' hjq
              · obtain rfl:j=q:=by omega
                rw[HY.o]at hz';cases hz';rw[iV]at oV;simpa using oV
             case measure=>simp[intOf];omega
           · have lG:=Z3 oV;go_wp2;go_ret;rw[iV]at oV;exact⟨af (by rw[HM.o,HA.o,pM.o,LB HY.o YE (by simpa using oV)];simp),ZS⟩
         · obtain rfl:q=k:=by omega
           go_wp2;go_roundw
           case rel=>exact⟨q+1,by omega,by go_num,ZS,Z3 (by rw[HA.o,pM.o,Ab.o,IK HQ.o];rfl)⟩
           case measure=>simp[intOf];omega
      · go_wp2;go_ret;exact⟨af (by rw[HM.o,HA.o,QW Wg]),ZS⟩
theorem oh(w:World)(l:aH)(p:M.ax)(h:aC w l p)(k:Int):
    Calls Tryz.prog 19 #[.pointer (some ⟨l.L,0,none⟩),.int .i64 k] w fun e w'=>e=.returned (.bool (M.has p k))∧w=w':=by
 obtain⟨a,cap,hs,c0,c1,c2,c3⟩:=h.cells;have d0:=c0 w (Kp.refl _ w);clear hs h c0 c1 c2 c3;go_enter Tryz.func19,Tryz.ntmps19;go_wp2
 · go_ret;exact⟨af (by unfold M.has;rw[decide_eq_true (p:=0≤k) Wg];rfl),rfl⟩
 · go_ret;exact⟨af (by unfold M.has;rw[decide_eq_false (p:=0≤k) Wg];rfl),rfl⟩
def lenOf:Value→Nat| .slice _ n _=>n|_=>0
structure acm(p:M.ax)(n:ByteArray)(k:Int)(f:Nat)(asked:List Int)(cur:Int):Prop where
 fuel:f+asked.length=5
 one:1≤asked.length
 nodup:asked.Nodup
 has:∀q∈asked,M.has p q=true
 last:asked.getLastD 0=cur
 eq:M.path p k n=M.gX p n f asked cur
theorem OZ (w : World) (l : aH) (p : M.ax) (h : aC w l p) (k : Int) (n : ByteArray) :
    Calls Tryz.prog 120 #[.pointer (some ⟨l.L,0,none⟩),.int .i64 k,.string n] w fun e w'=>
     (∃v,e=.returned (.tuple #[v,.int .i64 (M.path p k n).2])∧SliceOf 1 jQ w' (fun b=>w.heap.size≤b) v (M.path p k n).1)∧Ext w w':=by
 cases hk:M.has p k
 · have HK:=Z3 hk;clear hk;have H:=Z3 h;clear h;go_enter Tryz.func120,Tryz.ntmps120;go_wp2_with (go_at_call 19;refine(oh _ _ _ H.o _).mono ?_;rintro e w1 ⟨rfl,rfl⟩;rw[HK.o]);go_ret2;refine⟨⟨.slice none 0 0,?_,?_⟩,Kp.rr⟩
   · unfold M.path;rw[HK.o];rfl
   · unfold M.path;rw[HK.o];exact SliceOf.nil _ _ _ _
 · have HK := Z3 hk; clear hk; obtain ⟨a, cap, hs, c0, c1, c2, c3⟩ := h.cells; have lo := h.Ka; have la := h.J9; have H := Z3 h; clear h hs; go_enter Tryz.func120, Tryz.ntmps120; go_wp2_with (go_at_call 19; refine (oh _ _ _ H.o _).mono ?_; rintro e w1 ⟨rfl, rfl⟩; rw [HK.o]); have aU : Ext w (w.alloc (.cells #[.int .i64 k] 3)) := (Kp.rr.alloc _); go_loopw [1, 8] (fun c s wr => ∃ f cur asked, c = .int .i64 cur ∧ wr.ownsRow w.heap.size 3 1 s asked.length (asked.map fun q => Value.int .i64 q) ∧ Ext w wr ∧ acm p n k f asked cur) (fun c s wr => 5 - (lenOf s))
   case atStart=>
    refine⟨4,k,[k],rfl,?_,aU,⟨rfl,by simp,by simp,by simp[HK.o],rfl,?_⟩⟩
    · exact World.ownsRow_lit (size:=1) w #[.int .i64 k] 1 (Nat.le_refl _) (by unfold maxLen;omega) rfl
    · unfold M.path;rw[if_pos HK.o]
   case round =>
    obtain⟨f,cur,asked,rfl,dY,hE,Eb⟩:=hrel;obtain⟨g,cp,rfl,hg,hgl,hcp⟩:=cB dY Eb.one;have d1:=c1 wr hE;have d2:=c2 wr hE;have lo':=lo wr hE cur n;have la':=la wr hE cur n;have⟨HA,HO⟩:=aJ Eb dY;have hlen:asked.length≤5:=by have:=Eb.fuel;omega
    clear Eb dY c0 c1 c2 c3 lo la;have hf0:0<f:=by
     have h1:=HA.o.fuel;have h2:=M.R3 HA.o.nodup HA.o.has;have h3:=(M.xY H.o.ok).2;omega
    obtain⟨f,rfl⟩:∃f',f=f'+1:=⟨f - 1,by omega⟩;cases hq:M.ug p cur n with
    | none =>
     rw[hq]at la';simp only[Option.getD_none,Option.isSome_none]at la';have HQ:=Z3 hq;clear hq;have dw:M.path p k n=if M.owned p ⟨cur,n⟩then(asked,1)else([],2):=by
      rw[HA.o.eq];unfold M.gX;rw[HQ.o]
     have HS:=Z3 dw;clear dw;rw[M.MP]at lo';cases ho:M.owned p ⟨cur,n⟩
     · rw[ho]at lo';have HW:=Z3 ho;clear ho;go_wp2;go_ret2;have e:M.path p k n=([],2):=by rw[HS.o,HW.o];rfl
       rw[e];exact⟨⟨.slice none 0 0,rfl,SliceOf.nil _ _ _ _⟩,hE⟩
     · rw[ho]at lo';have HW:=Z3 ho;clear ho;go_wp2;go_ret2;have e:M.path p k n=(asked,1):=by rw[HS.o,HW.o];rfl
       rw[e];exact⟨⟨_,rfl,SliceOf.gH (fun q=>[Value.int .i64 q]) HO.o rfl (Mx _ _) (fun _ _=>rfl) (fun _ _=>rfl) (fun b hb _=>hb) (Nat.le_trans hlen Wg)⟩,hE⟩
    | some next =>
     rw[hq]at la';simp only[Option.getD_some,Option.isSome_some]at la';have HQ:=Z3 hq;clear hq lo';have dw:M.path p k n=if asked.contains next then([],3)else M.gX p n f (asked++[next]) next:=by
      rw[HA.o.eq];conv=>lhs;unfold M.gX
      rw[HQ.o]
     have HS:=Z3 dw;clear dw;go_wp2;go_loop [36] (fun j=>∃q:Nat,q≤asked.length∧j=.int .i64 q∧Zs (∀i x,asked[i]?=some x→i<q→x≠next)) (fun j=>asked.length - (intOf j).toNat)
     case atStart=>exact⟨0,Nat.zero_le _,rfl,Z3 (fun _ _ _ h=>absurd h (Nat.not_lt_zero _))⟩
     case round =>
      obtain⟨q,hq,rfl,HN⟩:=hrel;by_cases YE:q<asked.length
      · obtain⟨x,hx⟩:=get_some YE;have wU:wr.cell? ⟨g,q,none⟩=some (.int .i64 x):=by
         rw[HO.o.cellAt q Wg];simp[hx]
        have HX:=Z3 hx;clear hx;by_cases hxn:x=next
        · subst hxn;go_wp2;go_ret2;have Z6:asked.contains x=true:=by simp[List.mem_of_getElem? HX.o]
          have e:M.path p k n=([],3):=by rw[HS.o,if_pos Z6]
          rw[e];exact⟨⟨.slice none 0 0,rfl,SliceOf.nil _ _ _ _⟩,hE⟩
        · go_wp2;go_round
          case rel=>
           refine⟨q+1,by omega,by go_num,Z3 (fun i y hi bY=>?_)⟩;by_cases hiq:i<q
           · exact HN.o i y hi hiq
           · obtain rfl:i=q:=by omega
             rw[HX.o]at hi;cases hi;exact hxn
          case measure=>simp[intOf];omega
      · go_wp2_with (at_builtin;refine nJ Fb _ rfl _ _ rfl w.heap.size _ _ _ rfl (HO.o.alloc _) wr.heap.size 1 [.int .i64 next] rfl rfl ?c1 ?c2 ?c3 ?c4 ?_)
        case c1=>exact ae.Gb (ay.new _ _ _) _ rfl
        case c2=>simp[Value.oneCell']
        case c3=>omega
        case c4=>have:=hE.size;simp;omega
        obtain rfl:q=asked.length:=by omega
        intro v' w' wX hK g1 cp1 hv1 KO Bo;subst hv1;have tY:=Z3 wX;have yu:=Z3 hK;clear wX hK;go_wp2;go_roundw
        case rel =>
         refine⟨f,next,asked++[next],rfl,by simpa using tY.o,?_,?_⟩
         · refine(hE.alloc _).own yu.o ?_;intro b hb;simp only[Value.ownBlock,Option.some.injEq]at hb;omega
         · have Z6:asked.contains next=false:=by
            cases hc:asked.contains next
            · rfl
            · rw[List.contains_iff_mem]at hc;obtain⟨i,hi⟩:=List.mem_iff_getElem?.1 hc;exact absurd rfl (HN.o i next hi (List.getElem?_eq_some_iff.1 hi).1)
           refine⟨by have:=HA.o.fuel;simp;omega,by simp,?_,?_,by simp,by rw[HS.o,Z6];rfl⟩
           · rw[List.nodup_append];refine⟨HA.o.nodup,by simp,fun a ha b hb e=>?_⟩;simp only[List.mem_singleton]at hb;subst hb e;have:=List.contains_iff_mem.2 ha;rw[Z6]at this;cases this
           · intro q hq;rcases List.mem_append.1 hq with hq|hq
             · exact HA.o.has q hq
             · rw[List.mem_singleton]at hq;subst hq;exact M.OA H.o.ok HQ.o
        case measure=>have:=HA.o.fuel;simp[lenOf];omega
theorem R9{p:M.ax}{k:Int}{n:ByteArray}(h:(M.path p k n).2=1):(M.path p k n).1≠[]:=by
 have go:∀f (asked:List Int) k,asked≠[]→(M.gX p n f asked k).2=1→(M.gX p n f asked k).1≠[]:=by
  intro f;induction f with
  |zero=>intro asked k _ h;simp[M.gX]at h
  |succ f ih=>
   intro asked k ha h;unfold M.gX at h ⊢;split at h
   · split at h
     · rename_i h1 h2;simp[h2,ha]
     · simp at h
   · rename_i next h1
     split at h
     · simp at h
     · rename_i h2;rw[if_neg h2];exact ih _ _ Wf h
 unfold M.path at h ⊢;split at h
 · rename_i hk;rw[if_pos hk];exact go _ _ _ Wf h
 · simp at h
theorem yT(w:World)(l:aH)(p:M.ax)(h:aC w l p)(k:Int)(n:ByteArray):
    Calls Tryz.prog 83 #[.pointer (some ⟨l.L,0,none⟩),.int .i64 k,.string n] w fun e w'=>
     e=.returned (.tuple #[.agg #[.int .i64 (M.resolve p k n).1.keeper,.string (M.resolve p k n).1.name],.int .i64 (M.resolve p k n).2])∧Ext w w':=by
 have H:=Z3 (h.ext ((Kp.refl _ w).alloc (.cells #[.int .i64 0,.string ⟨#[]⟩] 70)));clear h;have b0:=ay.new w 70 #[.int .i64 0,.string ⟨#[]⟩];have aU:Ext w (w.alloc (.cells #[.int .i64 0,.string ⟨#[]⟩] 70)):=(Kp.rr.alloc _);go_enter Tryz.func83,Tryz.ntmps83;go_wp2_with fail;refine(OZ _ _ _ H.o _ _).mono ?_;rintro e w1 ⟨⟨v,rfl,hs⟩,hB⟩;have b1:=b0.ext hB;obtain⟨-,c0,c1, -⟩:=b1.ca;obtain⟨f0,f1, -⟩:=b1.fz;by_cases hc:(M.path p k n).2=1
 · have oV:=R9 hc;obtain⟨a,cap,hv,hn,ag4⟩:=hs.form;subst hv;have hl:0<(M.path p k n).1.length:=List.length_pos_iff.2 oV;obtain⟨x,hx⟩:=get_some (l:=(M.path p k n).1) (k:=(M.path p k n).1.length - 1) Wg;obtain⟨b,off,cs,rfl,hI,rfl, -,jy⟩:=hs.get hx;have g0:=jy.one;rw[Nat.mul_one]at g0;have hR:Zs (M.resolve p k n=(⟨x,n⟩,1)):=Z3 (by
    unfold M.resolve;rw[if_pos hc,List.getLastD_eq_getLast?,List.getLast?_eq_getElem?,hx];rfl)
   rw[hc];clear hx hs oV jy hc;generalize (M.path p k n).1.length=m at*;go_wp2;refine bodyPost_ret (v:=.tuple #[.agg #[.int .i64 x,.string n],.int .i64 1]) (by simp[results,Tryz.results83,go_sem,c0,c1]) rfl ?_;exact⟨by rw[hR.o],Z1⟩
 · have hR:Zs (M.resolve p k n=(M.qg,(M.path p k n).2)):=Z3 (by unfold M.resolve;rw[if_neg hc]);have Bl:((M.path p k n).2==1)=false:=beq_eq_false_iff_ne.2 hc;obtain⟨a,cap,hv,hn,ag4⟩:=hs.form;subst hv;clear hs hc;generalize (M.path p k n).2=c at*;generalize (M.path p k n).1.length=m at*;go_wp2;refine bodyPost_ret (v:=.tuple #[.agg #[.int .i64 0,.string ⟨#[]⟩],.int .i64 c]) (by simp[results,Tryz.results83,go_sem,c0,c1]) rfl ?_;exact⟨by rw[hR.o];rfl,Z1⟩
theorem jo{P:Program}{Q:Exit→Act→World→Prop}{w:World}{id:Nat}{l:List Oper}{a:Act}(n:Nat)(hm:P.follows .mixedOrders=true)(hB:Region.lexTailB .any l.toArray n=true)
    (h:wpStill P l.toArray w.drew (fun a'=>wpList P l.toArray Q (l.drop n) a' w.drew) (l.take n) a):(Code.region id l.toArray true).wp P Q a w:=wp_region_still_tail n hm hB h
theorem mI(w:World)(l:aH)(p:M.ax)(h:aC w l p)(k:Int)(n:ByteArray)(c:M.Class)(Fy:M.cls? p ⟨k,n⟩=some c):
    Calls Tryz.prog 70 #[.pointer (some ⟨l.L,0,none⟩),.agg #[.int .i64 k,.string n]] w fun e w'=>
     (∃cs,aP w (· <l.O) c cs∧e=.returned (.agg cs.toArray))∧Ext w w':=by
 obtain⟨q,i,hq,hi,hqi,hil⟩:=M.BK Fy;obtain⟨zB,sM⟩:=M.Ej Fy;simp only at zB sM;obtain⟨k,rfl⟩:=Int.eq_ofNat_of_zero_le zB;have jr:p[k]?=some q:=by
  unfold M.fw at hq;rw[if_pos zB]at hq;exact hq
 obtain⟨a,cap,hs,c0,c1,c2,c3⟩:=h.cells;have lo:=h.VH;obtain⟨b,off,cs,rfl,hI,Bn, -,hc⟩:=hs.get jr;obtain⟨vo,va,rfl,s1,s2⟩:=Bn;obtain⟨a1,agr,rfl,mR,mE⟩:=s1.form;obtain⟨b1,ahu,cs1,rfl,hI1,fU, -,jy⟩:=s1.get hqi;obtain⟨y1,z1,y2,z2,rfl⟩:=fU.form;obtain⟨g0,g1⟩:=hc.two;obtain⟨e0,e1,e2,e3⟩:=jy.four;have l1:∀W,Ext w W→(Instr.lookup 88 (.map (some l.O)) (.agg #[.int .i64 (k:Int),.string n]) false).run Tryz.prog W=.ok (.int .i64 i) W:=by
  intro W hW;rw[lo W hW,hi];rfl
 have hp3:(p.length:Int)≤3:=by have:=(M.xY h.ok).2;omega
 have l2:=fun(X Y:Obj)=>l1 _ ((((Kp.refl _ w).alloc X).alloc Y).drew);clear l1;have qh:=Z3 fU;have hbw:=aF g0;have agE:=aF e0;have hbl:=h.lt;have d0:=c0 _ (Kp.refl _ w);have d1:=c1 _ (Kp.refl _ w);have hO:=h.ord;clear lo fU hs s1 s2 hc jy c0 c1 c2 c3 jr hqi hq hi Fy h;have aed:k<p.length:=by omega
 clear zB sM;go_enter Tryz.func70,Tryz.ntmps70;go_wp2;(refine jo 17 Wr Wr ?_);(simp only[List.take_succ_cons,List.take_zero,List.drop_succ_cons,List.drop_zero]);(repeat still_step);(refine wpStill_nil ?_);go_wp2;refine bodyPost_ret (v:=.agg #[.string c.name,.string c.aL,.slice y1 c.fields.length z1,.slice y2 c.methods.length z2]) (by simp[results,Tryz.results70,go_sem]) rfl ?_;exact⟨⟨_,qh.o,rfl⟩,kx⟩
def Iter{α:Type}(P:Program)(gf:Nat)(lb:Array Value)(encs:α→Array Value)(Hc Bd:Nat→Prop)(S Sp Xp:List α→Prop)(XM:World→Prop)(Nx:List α→α→Prop:=fun _ _=>True):Prop:=
 ∀(l:Nat) (J Jx:List α→World→Prop) (W:World),XM W→(∀s A B,J s A→Kp Hc A B→J s B)→(∀s A B,Jx s A→Kp Hc A B→Jx s B)→(∀s A,J s A→Xp s)→
  (∀pre x W1,Nx pre x→J pre W1→YieldAt Fence.wide 8 P l (encs x) W1 fun e W'=>Kp Bd W1 W'∧((e=.returned (.bool true)∧J (pre++[x]) W')∨(e=.returned (.bool false)∧Jx (pre++[x]) W')))→
  J [] W→CallsIn Fence.wide 9 P gf (#[.func (.yield l) #[] #[]]++lb) W fun e W'=>(∃v,e=.returned v)∧((∃xs,S xs∧J xs W')∨(∃pre,Sp pre∧Jx pre W'))
def roundEnd{α:Type}(Bb:Nat→Prop)(I:List α→World→Prop)(Ix:Code→List α→World→Prop)(xs:List α)(W:World):Exit→Act→World→Prop
 | .normal,_,W'=>Kp Bb W W'∧I xs W'
 | .ret,_,W'=>Kp Bb W W'∧Ix .ret xs W'
 | .exit id,_,W'=>Kp Bb W W'∧Ix (.exit id) xs W'
 | .goto t,_,W'=>Kp Bb W W'∧Ix (.goto t) xs W'
 | .panic _,_,_=>False
 | .outgrown,_,_=>False
theorem Kp.putObj(W:World)(l:Nat)(o:Obj):Kp (·=l) W (W.putObj l o):=
 ⟨rfl,rfl,rfl,by simp,fun _ _ h=>World.putObj_heap_other h⟩
theorem Gl {α : Type} {P : Program} {g : Operand} {ps : Array Tmp} {assign body : Code} {Q : Exit → Act → World → Prop} {a : Act} {w : World} {gf : Nat} {lb : Array Value}
    (hg:a.eval g=.func (.func gf) #[] lb) (eg:∀args w,(callFunc gf args).run P w=.ok (.enter gf args) w) {encs:α→Array Value} (hps:∀x,(encs x).size=ps.size)
    {S Sp Xp:List α→Prop} {Hc Bb:Nat→Prop} {XM:World→Prop} {Nx:List α→α→Prop} (abZ:Iter P gf lb encs Hc (fun k=>Bb k∨k=w.heap.size+1) S Sp Xp XM Nx)
    (hIt:∀W,Ext w W→XM W) (hD1:¬Hc w.heap.size) (hD2:¬Hc (w.heap.size+1)) (hB1:¬Bb w.heap.size) (hB2:¬Bb (w.heap.size+1))
    (I:List α→World→Prop) (Ix:Code→List α→World→Prop)
    (hI:∀s A B,I s A→Kp (fun k=>Hc k∨k=w.heap.size+1) A B→I s B) (hIx:∀c s A B,Ix c s A→Kp (fun k=>Hc k∨k=w.heap.size+1) A B→Ix c s B) (h0:I [] w) (hIB:∀s A,I s A→Xp s)
    (Ax:List α→α→World→Act→World→Prop)
    (hassign:∀(pre:List α) (x:α) (W:World) (K:Act→World→Prop),Nx pre x→I pre W→w.heap.size+1<W.heap.size→(∀a₁ W₁,Ax pre x W a₁ W₁→K a₁ W₁)→
     assign.wpIn (Fence.wide.inRound (w.heap.size+1)) 8 P (Exit.then K (fun _ _ _=>False)) {tmps:=(ps.zip (encs x)).foldl (fun t (p,v)=>t.setIfInBounds p v) a.tmps,defers:=[]} W)
    (hAx:∀pre x W a₁ W₁,Ax pre x W a₁ W₁→Kp Bb W W₁)
    (hbody:∀(pre:List α) (x:α) (W:World) (a₁:Act) (W₁ W₂:World),Ax pre x W a₁ W₁→Kp (·=w.heap.size+1) W₁ W₂→W₂.heap.size=W₁.heap.size→
     body.wpIn (Fence.wide.inRound (w.heap.size+1)) 8 P (roundEnd Bb I Ix (pre++[x]) W₂) a₁ W₂)
    (hdone:∀(xs:List α) (W:World),S xs→I xs W→W.heap[w.heap.size]?=some (.deferred (some []))→Q .normal {a with defers:={target:=.collected w.heap.size,args:=#[]}::a.defers} W)
    (hstop:∀(c:Code) (pre:List α) (W:World),Sp pre→Ix c pre W→W.heap[w.heap.size]?=some (.deferred (some []))→c.wpIn Fence.wide 10 P Q {a with defers:={target:=.collected w.heap.size,args:=#[]}::a.defers} W):
    (Code.rangeFunc g ps assign body).wpIn Fence.wide 10 P Q a w:=by
 refine wpIn_rangeFunc ?_;intro fn Qn;show∃l mark w₁ d w₁' f args w₂,(Instr.enterLoop fn a.tmps ps assign body none).run P w=_∧_
 obtain⟨rec,uD⟩:∃rec:LoopState→Option Code→Loop,rec=fun st pe=>{state:=st,pending:=pe,fn,tmps:=a.tmps,params:=ps,assign,body,defers:=w.heap.size}:=⟨_,rfl⟩;obtain⟨W1,JH⟩:∃W1,(w.alloc (.deferred (some []))).alloc (.loop (rec .ready none))=W1:=⟨_,rfl⟩;have Aq:W1.heap[w.heap.size+1]?=some (.loop (rec .ready none)):=by
  rw[←JH];have:=World.alloc_heap_new (w.alloc (.deferred (some []))) (.loop (rec .ready none));rwa[World.size_alloc]at this
 have lI:W1.heap[w.heap.size]?=some (.deferred (some [])):=by
  rw[←JH];exact(Below.heap_alloc _ _ _ Wf).trans (World.alloc_heap_new w _)
 have bH:Ext w W1:=by rw[←JH];exact(Kp.rr.alloc _).alloc _
 have hI1:I [] W1:=hI _ _ _ h0 bH.any;have keep:∀{D:Nat→Prop} {A B:World} {o:Obj} {k:Nat},Kp D A B→¬D k→A.heap[k]?=some o→B.heap[k]?=some o:=fun h hd ho=>
  (h.block _ (Array.getElem?_eq_some_iff.1 ho).1 hd).trans ho
 refine⟨w.heap.size+1,[{target:=.collected w.heap.size,args:=#[]}],W1,{target:=.fn (.func gf) lb,args:=#[.func (.yield (w.heap.size+1)) #[] #[]]},W1,gf,
  #[.func (.yield (w.heap.size+1)) #[] #[]]++lb,W1,?_,?_,?_,?_,fun h=>by simp[Fence.wide]at h,?_⟩
 · rw[←JH,uD];exact run_enterLoop_outer _ _ _ _ _
 · simp only[resolve,hg];simp[go_sem]
 · intro f' _;trivial
 · simp[invoke,go_sem,eg]
 · refine(abZ (w.heap.size+1)
    (fun pre W=>I pre W∧W.heap[w.heap.size+1]?=some (.loop (rec .ready none))∧W.heap[w.heap.size]?=some (.deferred (some [])))
    (fun pre W=>∃c,Ix c pre W∧W.heap[w.heap.size+1]?=some (.loop (rec .done (some c)))∧W.heap[w.heap.size]?=some (.deferred (some [])))
    W1 (hIt _ bH)
    (fun s A B hs hk=>⟨hI s A B hs.1 (hk.weak fun _ _ h=>.inl h),keep hk hD2 hs.2.1,keep hk hD1 hs.2.2⟩)
    (fun s A B hs hk=>by
     obtain⟨c,hc,hl,hd⟩:=hs;exact⟨c,hIx c s A B hc (hk.weak fun _ _ h=>.inl h),keep hk hD2 hl,keep hk hD1 hd⟩)
    (fun s A hs=>hIB s A hs.1) ?_ ⟨hI1,Aq,lI⟩).mono ?_
   · rintro pre x W Qq ⟨hi,hl,hk⟩;have bY:w.heap.size+1<W.heap.size:=(Array.getElem?_eq_some_iff.1 hl).1;have hy:=run_yield (P:=P) (args:=encs x) hl (by rw[uD];exact hps x);rw[uD]at hy;refine⟨fn,_,assign,body,hy,roundIn_of_wpIn Qn (hassign pre x W _ Qq hi bY ?_)⟩;intro a₁ W₁ hax;have jr:=hAx _ _ _ _ _ hax;have Bo:W₁.heap[w.heap.size+1]?=some (.loop (rec .ready none)):=keep jr hB2 hl;have sM:W₁.heap[w.heap.size]?=some (.deferred (some [])):=keep jr hB1 hk;refine⟨_,run_beginRound Bo (by rw[uD]),?_⟩;have abX:w.heap.size+1<W₁.heap.size:=(Array.getElem?_eq_some_iff.1 Bo).1;have Hw:(W₁.putObj (w.heap.size+1) (.loop {rec .ready none with state:=.busy})).heap[w.heap.size+1]?=some (.loop {rec .ready none with state:=.busy}):=World.putObj_heap_same abX;have qy:(W₁.putObj (w.heap.size+1) (.loop {rec .ready none with state:=.busy})).heap[w.heap.size]?=some (.deferred (some [])):=(World.putObj_heap_other Wg).trans sM;refine wpIn_mono (hbody pre x W a₁ W₁ _ hax (Kp.putObj _ _ _) Wf) ?_;have AL:∀(W3:World),Kp Bb (W₁.putObj (w.heap.size+1) (.loop {rec .ready none with state:=.busy})) W3→∀o,Kp (fun k=>Bb k∨k=w.heap.size+1) W (W3.putObj (w.heap.size+1) o):=fun W3 h3 o=>
      (((jr.weak fun _ _ h=>.inl h).trans ((Kp.putObj _ _ _).weak fun _ _ h=>.inr h)).trans (h3.weak fun _ _ h=>.inl h)).trans ((Kp.putObj _ _ _).weak fun _ _ h=>.inr h)
     have fin:∀(jump:Option Code) (W3:World),Kp Bb (W₁.putObj (w.heap.size+1) (.loop {rec .ready none with state:=.busy})) W3→
         (Instr.endRound (w.heap.size+1) jump).run P W3=.ok (.bool jump.isNone) (W3.putObj (w.heap.size+1) (.loop (rec (if jump.isNone then .ready else .done) jump)))∧
         (W3.putObj (w.heap.size+1) (.loop (rec (if jump.isNone then .ready else .done) jump))).heap[w.heap.size+1]?=some (.loop (rec (if jump.isNone then .ready else .done) jump))∧
         (W3.putObj (w.heap.size+1) (.loop (rec (if jump.isNone then .ready else .done) jump))).heap[w.heap.size]?=some (.deferred (some [])):=fun jump W3 rO=>by
      have hl3:=keep rO hB2 Hw;have:=run_endRound (P:=P) jump hl3;rw[uD]at this ⊢;exact⟨this,World.putObj_heap_same (Array.getElem?_eq_some_iff.1 hl3).1,(World.putObj_heap_other Wg).trans (keep rO hB1 qy)⟩
     have tr:∀(W3:World) (o:Obj),Kp (fun k=>Hc k∨k=w.heap.size+1) W3 (W3.putObj (w.heap.size+1) o):=fun W3 o=>(Kp.putObj _ _ _).weak fun _ _ h=>.inr h;rintro e a3 W3 hp;cases e with
     |normal=>
      obtain⟨rO,LW⟩:=hp;obtain⟨hr,OE,Hv⟩:=fin none W3 rO;exact⟨_,_,hr,AL _ rO _,.inl ⟨rfl,hI _ _ _ LW (tr _ _),OE,Hv⟩⟩
     |ret=>
      obtain⟨rO,LW⟩:=hp;obtain⟨hr,OE,Hv⟩:=fin (some .ret) W3 rO;exact⟨_,_,hr,AL _ rO _,.inr ⟨rfl,.ret,hIx _ _ _ _ LW (tr _ _),OE,Hv⟩⟩
     |exit id=>
      obtain⟨rO,LW⟩:=hp;obtain⟨hr,OE,Hv⟩:=fin (some (.exit id)) W3 rO;exact⟨_,_,hr,AL _ rO _,.inr ⟨rfl,.exit id,hIx _ _ _ _ LW (tr _ _),OE,Hv⟩⟩
     |goto t=>
      obtain⟨rO,LW⟩:=hp;obtain⟨hr,OE,Hv⟩:=fin (some (.goto t)) W3 rO;exact⟨_,_,hr,AL _ rO _,.inr ⟨rfl,.goto t,hIx _ _ _ _ LW (tr _ _),OE,Hv⟩⟩
     |panic ch=>exact hp.elim
     |outgrown=>exact hp.elim
   · rintro e W2 ⟨⟨v,rfl⟩,(⟨xs,hS,hi,hl,hk⟩|⟨pre,hSp,c,hi,hl,hk⟩)⟩
     · exact⟨none,_,by have:=run_endLoop (P:=P) hl (by rw[uD];simp);rw[uD]at this;exact this,
        hdone xs _ hS (hI _ _ _ hi ((Kp.putObj _ _ _).weak fun _ _ h=>.inr h)) ((World.putObj_heap_other Wg).trans hk)⟩
     · exact⟨some c,_,by have:=run_endLoop (P:=P) hl (by rw[uD];simp);rw[uD]at this;exact this,
        hstop c pre _ hSp (hIx _ _ _ _ hi ((Kp.putObj _ _ _).weak fun _ _ h=>.inr h)) ((World.putObj_heap_other Wg).trans hk)⟩
attribute [local go_sem] Oper.semAt_some
theorem Ml(w:World)(L:Addr)(k:Int)(n:ByteArray):
    Calls Tryz.prog 121 #[.pointer (some L),.agg #[.int .i64 k,.string n]] w fun e w'=>
     e=.returned (.func (.func 144) #[] #[.pointer (some ⟨w.heap.size+1,0,none⟩),.pointer (some ⟨w.heap.size,0,none⟩)])∧
     w'=(w.alloc (.cells #[.pointer (some L)] 56)).alloc (.cells #[.int .i64 k,.string n] 70):=by
 go_enter Tryz.func121,Tryz.ntmps121;go_wp2;go_ret;exact⟨rfl,rfl⟩
def items(p:M.ax):Nat→M.Ref→List (Option M.Ref)
 |0,_=>[]
 |n+1,r=>some r::(if M.aL p r=M.none_ then []else if(M.resolve p r.keeper (M.aL p r)).2=1 then items p n (M.resolve p r.keeper (M.aL p r)).1 else [none])
def Ak:Option M.Ref→Array Value
 |some r=>#[.agg #[.int .i64 r.keeper,.string r.name],.bool true]
 |none=>#[.agg #[.int .i64 0,.string M.none_],.bool false]
theorem fu{p:M.ax}{k:Int}{n:ByteArray}(h:(M.resolve p k n).2=1):∃c,M.cls? p (M.resolve p k n).1=some c:=M.fu h
theorem N9 (l : aH) (p : M.ax) (r0 : M.Ref) (Rb Lb : Nat) (Bd : Nat → Prop) (hBd : ∀ k, Bd k → l.L < k ∧ k ≠ Rb ∧ k ≠ Lb) (hRL : Rb ≠ Lb) (hR : l.L < Rb) (N : Nat) (dY : ∃ c, M.cls? p r0 = some c) :
    Iter Tryz.prog 144 #[.pointer (some ⟨Rb,0,none⟩),.pointer (some ⟨Lb,0,none⟩)] Ak (·=Rb) Bd
     (fun xs=>∀n,items p (xs.length+n) r0=xs) (fun pre=>∃n rest,items p n r0=pre++rest) (fun s=>s.length≤N)
     (fun W=>aC W l p∧ay W Rb 70 #[.int .i64 r0.keeper,.string r0.name]∧ay W Lb 56 #[.pointer (some ⟨l.L,0,none⟩)]):=by
 intro lp J Jx W ⟨Oy,hbR,hbL⟩ hJ ZT hN hY hJ0;refine callsIn_of_wp Tryz.func144 rfl trivial ?_ rfl;simp only[Tryz.ntmps144,List.size_toArray,List.length_cons,List.length_nil,Nat.reduceAdd,Nat.reduceSub,Array.replicate_succ,Array.replicate_zero,List.push_toArray,List.append_toArray,List.nil_append,List.cons_append];gi_wp2;gi_loopg [4] (N+1) (fun m _ wr=>∃(pre:List (Option M.Ref)) (r:M.Ref),m+pre.length=N+1∧J pre wr∧aC wr l p∧ay wr Rb 70 #[.int .i64 r.keeper,.string r.name]∧ay wr Lb 56 #[.pointer (some ⟨l.L,0,none⟩)]∧
     Zs (∀n,items p (pre.length+n) r0=pre++items p n r)∧Zs (∃c,M.cls? p r=some c))
 case atStart=>exact⟨[],r0,by simp,hJ0,Oy,hbR,hbL,Z3 Wf,Z3 dY⟩
 case round =>
  obtain⟨pre,r,hm,hj,hl,hb,hbl,HI,HO⟩:=hrel;have hlen:=hN _ _ hj;obtain⟨c,hc⟩:=HO.o;obtain⟨fn,tmps,assign,body,hy,hR⟩:=hY pre (some r) wr trivial hj;simp only[Ak]at hy hR;obtain⟨-,r0',r1', -⟩:=hb.ca;have l0':=hbl.c 0 (.pointer (some ⟨l.L,0,none⟩)) rfl;have⟨HL,HB,HY,HJ,HH,HC⟩:=qU hl (And.intro hb hbl) hY (And.intro hJ ZT) (And.intro hBd (And.intro Oy (And.intro hbR hbL))) hc;clear hl hb hbl hY hJ ZT hBd Oy hbR hbL hc hN;gi_wp2_with fail;refine hR.mono ?_;rintro e W1 ⟨jr,(⟨rfl,Ti⟩|⟨rfl,hjx⟩)⟩
  · have OI : ∀ k, k ≤ l.L → ¬ Bd k := fun k hk hb => absurd (HH.o.1 k hb).1 Wg; have Bo := HL.o.kp jr OI; have vZ := HB.o.1.kp jr (fun hb => (HH.o.1 _ hb).2.1 rfl); have abN := HB.o.2.kp jr (fun hb => (HH.o.1 _ hb).2.2 rfl); obtain ⟨-, q0, q1, -⟩ := vZ.ca; have q2 := abN.c 0 (.pointer (some ⟨l.L, 0, none⟩)) rfl; have ⟨Bw, tL, HK⟩ := bg Bo (And.intro vZ abN) (And.intro jr OI); clear Bo vZ abN jr OI r0' r1' l0' hy hR; gi_wp2_with fail; refine ⟨trivial, ?_⟩; refine (callsIn_wide.2 (mI _ _ _ Bw.o _ _ _ HC.o)).mono ?_; rintro e W2 ⟨⟨cs, fU, rfl⟩, bZ⟩; obtain ⟨y1, z1, y2, z2, rfl⟩ := fU.form; have s0 := bZ.aD q0; have s1 := bZ.aD q1; have s2 := bZ.aD q2; have zA : ∀ W, (Instr.field 75 (.agg #[.string c.name, .string c.aL, .slice y1 c.fields.length z1, .slice y2 c.methods.length z2]) 1).run Tryz.prog W = .ok (.string c.aL) W := fun W => by kernel_rfl
    have FJ:M.aL p r=c.aL:=by unfold M.aL;rw[HC.o];rfl
    by_cases hs:c.aL.toList.isEmpty=true
    · gi_wp2_with fail;((try simp only[Exit.inBlock,Exit.then]);(first|refine bodyPost_ret (results_none rfl _ _ _) rfl ?_|refine bodyPost_end (results_none rfl _ _ _) rfl ?_));refine⟨⟨_,rfl⟩,.inl ⟨pre++[some r],fun n=>?_,HJ.o.1 _ _ _ Ti bZ.any⟩⟩;rw[List.length_append,Nat.add_assoc,HI.o];congr 1;show items p (1+n) r=[some r]
      rw[Nat.add_comm];unfold items;rw[FJ,if_pos (by rw[gm]at hs;simpa using hs)]
    · have L6:c.aL.toList.isEmpty=false:=by simpa using hs
      have HS:Zs (∀n,items p (n+1) r=some r::if(M.resolve p r.keeper c.aL).2=1 then items p n (M.resolve p r.keeper c.aL).1 else [none]):=Z3 (by
       intro n;conv=>lhs;unfold items
       rw[FJ,if_neg (by rw[gm]at L6;simpa using L6)])
      have⟨qh,gL⟩:=aJ fU bZ;have Hw:=Bw.o.ext bZ;have wE:=Z3 Hw;clear hs FJ fU bZ Hw q0 q1 q2;gi_wp2_with fail;refine⟨trivial,?_⟩;refine(callsIn_wide.2 (yT _ _ _ wE.o _ _)).mono ?_;rintro e W3 ⟨rfl,dK⟩;have u0:=dK.aD s0;have u1:=dK.aD s1;have u2:=dK.aD s2;have IM:=((tL.o.1.ext gL.o).ext dK);have adZ:=((tL.o.2.ext gL.o).ext dK);have f0:=IM.frozen 0;have f1:=IM.frozen 1;have hzR:=IM.lt;have hj3:J (pre++[some r]) W3:=HJ.o.1 _ _ _ Ti ((gL.o.any).trans dK.any);have⟨gN,SQ,jc,HJ3⟩:=gD (And.intro IM adZ) (wE.o.ext dK) dK hj3;clear IM adZ dK hj3 s0 s1 s2 Ti hj;by_cases wV:(M.resolve p r.keeper c.aL).2=1
      · obtain⟨c',Bl⟩:=fu wV;have HN:Zs (∀n,items p (n+1) r=some r::items p n (M.resolve p r.keeper c.aL).1):=Z3 (by
         intro n;rw[HS.o,if_pos wV])
        rw[wV];clear wV;generalize (M.resolve p r.keeper c.aL).1=nx at*;have HC':Zs (∃c,M.cls? p nx=some c):=Z3 ⟨c',Bl⟩;clear Bl;gi_wp2_with fail;gi_roundg (gk - 1)
        case measure=>omega
        case rel=>
         have hk:Kp (·=Rb) W3 (((W3.setCell ⟨Rb,0,none⟩ (.int .i64 nx.keeper)).setCell ⟨Rb,1,none⟩ (.string nx.name)).alloc (.cells #[.int .i64 nx.keeper,.string nx.name] 70)):=
          (((Kp.refl (·=Rb) W3).setCell (p:=⟨Rb,0,none⟩) (fun _=>rfl) _).setCell (p:=⟨Rb,1,none⟩) (fun _=>rfl) _).alloc _
         refine⟨pre++[some r],nx,by simp;omega,HJ.o.1 _ _ _ HJ3.o hk,SQ.o.kp hk (fun k Bn e=>by omega),?_,gN.o.2.kp hk (fun e=>hRL e.symm),Z3 (fun n=>?_),HC'⟩
         · exact((gN.o.1.bE 0 (.int .i64 nx.keeper)).bE 1 (.string nx.name)).ext (Kp.rr.alloc _)
         · rw[List.length_append,Nat.add_assoc,HI.o,Nat.add_comm,show [some r].length=1 from rfl,HN.o,List.append_assoc];rfl
      · have HN:Zs (∀n,items p (n+2) r=[some r,none]):=Z3 (by
         intro n;rw[HS.o (n+1),if_neg wV])
        have agH:((M.resolve p r.keeper c.aL).2==1)=false:=beq_eq_false_iff_ne.2 wV;have Tp:M.resolve p r.keeper c.aL=(M.qg,(M.resolve p r.keeper c.aL).2):=by
         unfold M.resolve at wV ⊢;split
         · rename_i h1;rw[if_pos h1]at wV;exact absurd rfl wV
         · rfl
        rw[Tp];have hj4:=HJ.o.1 _ _ _ HJ3.o (((Kp.refl _ W3).alloc (.cells #[.int .i64 0,.string ⟨#[]⟩] 70)):Kp (·=Rb) W3 _);obtain⟨fn2,ahN,afh,ahz,hy2,DR⟩:=HY.o (pre++[some r]) none _ trivial hj4;simp only[Ak]at hy2 DR;have DF:=Z3 DR;clear Tp wV hj4 DR;generalize (M.resolve p r.keeper c.aL).2=code at*;simp only[M.qg];gi_wp2_with fail;refine DF.o.mono ?_;have nW:∀n,items p ((pre++[some r]++[none]).length+n) r0=pre++[some r]++[none]:=by
         intro n;rw[List.length_append,List.length_append,Nat.add_assoc,Nat.add_assoc,HI.o,show [some r].length+([none (α:=M.Ref)].length+n)=n+2 from by simp;omega,HN.o,List.append_assoc];rfl
        rintro e W5 ⟨ail,(⟨rfl,hj5⟩|⟨rfl,agO⟩)⟩
        · gi_wp2_with fail;((try simp only[Exit.inBlock,Exit.then]);(first|refine bodyPost_ret (results_none rfl _ _ _) rfl ?_|refine bodyPost_end (results_none rfl _ _ _) rfl ?_));exact⟨⟨_,rfl⟩,.inl ⟨pre++[some r]++[none],nW,hj5⟩⟩
        · gi_wp2_with fail;((try simp only[Exit.inBlock,Exit.then]);(first|refine bodyPost_ret (results_none rfl _ _ _) rfl ?_|refine bodyPost_end (results_none rfl _ _ _) rfl ?_));exact⟨⟨_,rfl⟩,.inr ⟨pre++[some r]++[none],⟨(pre++[some r]++[none]).length+0,[],by rw[nW 0,List.append_nil]⟩,agO⟩⟩
  · have YD:∃rest,items p (pre.length+1) r0=(pre++[some r])++rest:=by
     obtain⟨rest,hr⟩:∃rest,items p 1 r=some r::rest:=⟨_,rfl⟩;exact⟨rest,by rw[HI.o,hr,List.append_assoc];rfl⟩
    obtain⟨rest,YD⟩:=YD;have HP:=Z3 YD;clear YD;gi_wp2_with fail;((try simp only[Exit.inBlock,Exit.then]);(first|refine bodyPost_ret (results_none rfl _ _ _) rfl ?_|refine bodyPost_end (results_none rfl _ _ _) rfl ?_));exact⟨⟨_,rfl⟩,.inr ⟨pre++[some r],⟨_,rest,HP.o⟩,hjx⟩⟩
end Go.Proofs.YtkmclfpjpajjeaaGreat
namespace Go.Proofs.YtkmclfpjpajjeaaGreat
open Go Go.RowKit
attribute [local go_sem] Oper.semAt_some
def uu(r:M.Ref):List Value:=[.int .i64 r.keeper,.string r.name]
theorem OU{p:M.ax}:∀(f:Nat) (refs:List M.Ref) (r:M.Ref),(∀n,items p (refs.length+n) r=refs.map some)→refs.length≤f→M.bT p f r=some refs:=by
 intro f;induction f with
 |zero=>
  intro refs r h hl;have hn:refs=[]:=List.length_eq_zero_iff.1 Wg;subst hn;have:=h 1;simp[items]at this
 | succ f ih =>
  intro refs r h hl;cases refs with
  |nil=>have:=h 1;simp[items]at this
  | cons x rest =>
   have h1:=h;have hx:∀n,(if M.aL p r=M.none_ then []else if(M.resolve p r.keeper (M.aL p r)).2=1 then items p (rest.length+n) (M.resolve p r.keeper (M.aL p r)).1 else [none])=rest.map some∧x=r:=by
    intro n;have:=h n;rw[List.length_cons,show rest.length+1+n=(rest.length+n)+1 from by omega]at this;simp only[items,List.map_cons,List.cons.injEq,Option.some.injEq]at this;exact⟨this.2,this.1.symm⟩
   obtain rfl:=(hx 0).2;unfold M.bT;by_cases hs:M.aL p x=M.none_
   · rw[if_pos hs];have:=(hx 0).1;rw[if_pos hs]at this;have:rest=[]:=by
      cases rest with
      |nil=>rfl
      |cons _ _=>simp at this
     rw[this]
   · rw[if_neg hs];by_cases hc:(M.resolve p x.keeper (M.aL p x)).2=1
     · rw[if_pos hc,ih rest _ (fun n=>by have:=(hx n).1;rw[if_neg hs,if_pos hc]at this;exact this) (by simpa using hl)];rfl
     · have:=(hx 0).1;rw[if_neg hs,if_neg hc]at this;cases rest<;>simp at this
def aaC(pre:List (Option M.Ref)):Prop:=(∃refs:List M.Ref,pre=refs.map some++[none])∨(∃refs:List M.Ref,pre=refs.map some∧refs.length=7)
theorem IX {p : M.ax} : ∀ (f : Nat) (refs : List M.Ref) (t : List (Option M.Ref)) (r : M.Ref) (n : Nat), items p n r = refs.map some ++ t → (t.head? = some none ∨ f < refs.length) → M.bT p f r = none := by
 intro f;induction f with
 |zero=>intro refs t r n _ _;rfl
 | succ f ih =>
  intro refs t r n h hb;cases n with
  |zero=>
   simp only[items]at h;cases refs with
   | nil => rcases hb with hb | hb
            · simp at h;rw[h]at hb;simp at hb
            · simp at hb
   |cons _ _=>simp at h
  | succ n =>
   cases refs with
   |nil=>
    simp only[items,List.map_nil,List.nil_append]at h;rcases hb with hb|hb
    · rw[←h]at hb;simp at hb
    · simp at hb
   |cons x rest=>
    simp only[items,List.map_cons,List.cons_append,List.cons.injEq,Option.some.injEq]at h;obtain⟨rfl,h2⟩:=h;unfold M.bT;by_cases hs:M.aL p r=M.none_
    · rw[if_pos hs]at h2;have h3:=congrArg List.length h2;rcases hb with hb|hb
      · cases t with
        |nil=>simp at hb
        |cons _ _=>simp at h3
      · simp at h3;simp at hb;omega
    · rw[if_neg hs]at h2 ⊢;by_cases hc:(M.resolve p r.keeper (M.aL p r)).2=1
      · rw[if_pos hc]at h2 ⊢;rw[ih rest t _ n h2 (hb.imp id fun h=>by simpa using h)];rfl
      · rw[if_neg hc]
theorem Pd{w:World}{base e k n:Nat}{v:Value}{xs:List Value}(h:w.ownsRow base e k v n xs){b:Nat}(hb:v.ownBlock=some b):base≤b:=by
 rcases h.2 with⟨rfl,_⟩|⟨g,cap,cur,rfl,hg,_⟩
 · cases hb
 · cases hb;exact hg
theorem Pe{w:World}{base e k n:Nat}{v:Value}{xs:List Value}(h:w.ownsRow base e k v n xs):∃a c,v=.slice a n c:=by
 rcases h.2 with⟨rfl,h0⟩|⟨g,cap,cur,rfl,hg,_⟩
 · exact⟨none,0,by rw[h0]⟩
 · exact⟨_,_,rfl⟩
def Tz(w W0:World)(B4 B5 B6:Nat)(pre:List (Option M.Ref))(W:World):Prop:=∃(refs:List M.Ref) (v:Value),pre=refs.map some∧refs.length≤6∧ay W B6 67 #[v]∧W.ownsRow (W0.heap.size+2) 70 2 v refs.length (refs.flatMap uu)∧ay W B4 67 #[.slice none 0 0]∧ay W B5 4 #[.bool false]∧Ext w W
def aaD(w:World)(B4 B5:Nat)(c:Code)(pre:List (Option M.Ref))(W:World):Prop:=c=.ret∧aaC pre∧ay W B4 67 #[.slice none 0 0]∧ay W B5 4 #[.bool false]∧Ext w W
def Iq(x:Option M.Ref):M.Ref:=x.getD M.qg
theorem Oj(x:Option M.Ref):Ak x=#[.agg #[.int .i64 (Iq x).keeper,.string (Iq x).name],.bool x.isSome]:=by cases x<;>rfl
theorem De(w:World)(l:aH)(p:M.ax)(h:aC w l p)(r:M.Ref)(dY:∃c,M.cls? p r=some c):
    Calls Tryz.prog 84 #[.pointer (some ⟨l.L,0,none⟩),.agg #[.int .i64 r.keeper,.string r.name]] w fun e w'=>
     (∃v,e=.returned (.tuple #[v,.bool (M.jw p r).isSome])∧SliceOf 2 zn w' (fun b=>w.heap.size≤b) v ((M.jw p r).getD []))∧Ext w w':=by
 have hLL:=h.lt;have H:=Z3 h;clear h;refine(callsIn_wide (n:=10)).1 ?_;refine callsIn_of_wp_marks Tryz.func84 rfl trivial ?_ rfl;simp only[Tryz.ntmps84,List.size_toArray,List.length_cons,List.length_nil,Nat.reduceAdd,Nat.reduceSub,Array.replicate_succ,Array.replicate_zero,List.push_toArray,List.append_toArray,List.nil_append,List.cons_append];gi_wp2_with fail;refine⟨trivial,?_⟩;refine(callsIn_wide.2 (Ml _ _ _ _)).mono ?_;rintro e w1 ⟨rfl,jX⟩;gi_wp2_with fail;have b3:=ay.new w 70 #[.int .i64 r.keeper,.string r.name];have b4:=ay.new (w.alloc (.cells #[.int .i64 r.keeper,.string r.name] 70)) 67 #[.slice none 0 0];have b5:=ay.new ((w.alloc (.cells #[.int .i64 r.keeper,.string r.name] 70)).alloc (.cells #[.slice none 0 0] 67)) 4 #[.bool false];have b6:=ay.new (((w.alloc (.cells #[.int .i64 r.keeper,.string r.name] 70)).alloc (.cells #[.slice none 0 0] 67)).alloc (.cells #[.bool false] 4)) 67 #[.slice none 0 0];have bL:=ay.new ((((w.alloc (.cells #[.int .i64 r.keeper,.string r.name] 70)).alloc (.cells #[.slice none 0 0] 67)).alloc (.cells #[.bool false] 4)).alloc (.cells #[.slice none 0 0] 67)) 56 #[.pointer (some ⟨l.L,0,none⟩)];have bR:=ay.new (((((w.alloc (.cells #[.int .i64 r.keeper,.string r.name] 70)).alloc (.cells #[.slice none 0 0] 67)).alloc (.cells #[.bool false] 4)).alloc (.cells #[.slice none 0 0] 67)).alloc (.cells #[.pointer (some ⟨l.L,0,none⟩)] 56)) 70 #[.int .i64 r.keeper,.string r.name];replace b4:=b4.ext (((Kp.rr.alloc (.cells #[.bool false] 4)).alloc (.cells #[.slice none 0 0] 67)).alloc (.cells #[.pointer (some ⟨l.L,0,none⟩)] 56)|>.alloc (.cells #[.int .i64 r.keeper,.string r.name] 70));replace b5:=b5.ext ((Kp.rr.alloc (.cells #[.slice none 0 0] 67)).alloc (.cells #[.pointer (some ⟨l.L,0,none⟩)] 56)|>.alloc (.cells #[.int .i64 r.keeper,.string r.name] 70));replace b6:=b6.ext ((Kp.rr.alloc (.cells #[.pointer (some ⟨l.L,0,none⟩)] 56))|>.alloc (.cells #[.int .i64 r.keeper,.string r.name] 70));replace bL:=bL.ext (Kp.rr.alloc (.cells #[.int .i64 r.keeper,.string r.name] 70));clear b3;have aU:Ext w ((((((w.alloc (.cells #[.int .i64 r.keeper,.string r.name] 70)).alloc (.cells #[.slice none 0 0] 67)).alloc (.cells #[.bool false] 4)).alloc (.cells #[.slice none 0 0] 67)).alloc (.cells #[.pointer (some ⟨l.L,0,none⟩)] 56)).alloc (.cells #[.int .i64 r.keeper,.string r.name] 70)):=kx
 have kv:((((((w.alloc (.cells #[.int .i64 r.keeper,.string r.name] 70)).alloc (.cells #[.slice none 0 0] 67)).alloc (.cells #[.bool false] 4)).alloc (.cells #[.slice none 0 0] 67)).alloc (.cells #[.pointer (some ⟨l.L,0,none⟩)] 56)).alloc (.cells #[.int .i64 r.keeper,.string r.name] 70)).heap.size=w.heap.size+6:=by simp
 generalize ((((((w.alloc (.cells #[.int .i64 r.keeper,.string r.name] 70)).alloc (.cells #[.slice none 0 0] 67)).alloc (.cells #[.bool false] 4)).alloc (.cells #[.slice none 0 0] 67)).alloc (.cells #[.pointer (some ⟨l.L,0,none⟩)] 56)).alloc (.cells #[.int .i64 r.keeper,.string r.name] 70))=W0 at*;simp only[World.size_alloc]at b4 b5 b6 bL bR;obtain⟨B4,Bj⟩:∃B4,B4=w.heap.size+1:=⟨_,rfl⟩;rw[←Bj]at b4 b5 b6 bL bR ⊢;obtain⟨B5,Hq⟩:∃B5,B5=B4+1:=⟨_,rfl⟩;rw[←Hq]at b5 b6 bL bR ⊢;obtain⟨B6,P9⟩:∃B6,B6=B5+1:=⟨_,rfl⟩;rw[←P9]at b6 bL bR ⊢;obtain⟨BL,hBL⟩:∃BL,BL=B6+1:=⟨_,rfl⟩;rw[←hBL]at bL bR ⊢;obtain⟨BR,hBR⟩:∃BR,BR=BL+1:=⟨_,rfl⟩;rw[←hBR]at bR ⊢;clear jX;have HN:=Z3 (And.intro Bj (And.intro Hq (And.intro P9 (And.intro hBL (And.intro hBR kv)))));have n46:B4≠B6:=by omega
 have n45:B4≠B5:=by omega
 have n56:B5≠B6:=by omega
 have HLW:=Z3 (H.o.ext aU);have g0:W0.heap.size=BR+1:=by omega
 have G0:=Z3 g0;clear Bj Hq P9 hBL hBR kv g0;refine Gl (gf:=144) (lb:=#[.pointer (some ⟨BR,0,none⟩),.pointer (some ⟨BL,0,none⟩)]) (α:=Option M.Ref) rfl (enters_of Tryz.func144 Wr rfl) (encs:=Ak)
  (fun x=>by cases x<;>rfl) (Bb:=fun k=>k=B4∨k=B5∨k=B6∨W0.heap.size+2≤k)
  (N9 l p r BR BL _ ?hBd ?hRL ?hR 6 dY) ?hIt ?hD1 ?hD2 ?hB1 ?hB2
  (Tz w W0 B4 B5 B6) (aaD w B4 B5) ?hI ?hIx ?h0 ?hIB
  (fun pre x W a₁ W₁=>Tz w W0 B4 B5 B6 pre W∧
   W0.heap.size+1<W.heap.size∧W₁=W.alloc (.cells #[.int .i64 (Iq x).keeper,.string (Iq x).name] 70)∧
   a₁={tmps:=#[.pointer (some ⟨l.L,0,none⟩),.agg #[.int .i64 r.keeper,.string r.name],undef,.pointer (some ⟨w.heap.size,0,none⟩),.pointer (some ⟨B4,0,none⟩),.pointer (some ⟨B5,0,none⟩),.pointer (some ⟨B6,0,none⟩),.pointer (some ⟨W.heap.size,0,none⟩),.bool x.isSome,
    .pointer (some ⟨l.L,0,none⟩),.agg #[.int .i64 r.keeper,.string r.name],.func (.func 144) #[] #[.pointer (some ⟨BR,0,none⟩),.pointer (some ⟨BL,0,none⟩)],.agg #[.int .i64 (Iq x).keeper,.string (Iq x).name],.bool x.isSome,
    undef,undef,undef,undef,undef,undef,undef,undef,undef,undef,undef,undef],defers:=[]}) ?hassign ?hAx ?hbody ?hdone ?hstop
 case hBd=>
  obtain⟨h1,h2,h3,h4,h5,h6⟩:=HN.o;have h7:=G0.o;intro k hk;have JK:(k=B4∨k=B5∨k=B6∨W0.heap.size+2≤k)∨k=W0.heap.size+1:=hk;omega
 case hRL=>obtain⟨h1,h2,h3,h4,h5,h6⟩:=HN.o;have h7:=G0.o;omega
 case hR=>obtain⟨h1,h2,h3,h4,h5,h6⟩:=HN.o;have h7:=G0.o;omega
 case hIt=>exact fun W hW=>⟨HLW.o.ext hW,bR.ext hW,bL.ext hW⟩
 case hD1=>have:=G0.o;show¬W0.heap.size=BR;omega
 case hD2=>have:=G0.o;show¬W0.heap.size+1=BR;omega
 case hB1=>obtain⟨h1,h2,h3,h4,h5,h6⟩:=HN.o;have h7:=G0.o;show¬(W0.heap.size=B4∨W0.heap.size=B5∨W0.heap.size=B6∨W0.heap.size+2≤W0.heap.size);omega
 case hB2=>obtain⟨h1,h2,h3,h4,h5,h6⟩:=HN.o;have h7:=G0.o;show¬(W0.heap.size+1=B4∨W0.heap.size+1=B5∨W0.heap.size+1=B6∨W0.heap.size+2≤W0.heap.size+1);omega
 case hI=>
  obtain⟨h1,h2,h3,h4,h5,h6⟩:=HN.o;have h7:=G0.o;rintro s A B ⟨refs,v,e1,e2,e3,e4,e5,e6,e7⟩ hk;exact⟨refs,v,e1,e2,e3.kp hk Wg,aA e4 hk (fun g _ hg=>by omega),e5.kp hk Wg,e6.kp hk Wg,e7.own hk (fun k hk=>by omega)⟩
 case hIx=>
  obtain⟨h1,h2,h3,h4,h5,h6⟩:=HN.o;have h7:=G0.o;rintro c s A B ⟨e1,e2,e5,e6,e7⟩ hk;exact⟨e1,e2,e5.kp hk Wg,e6.kp hk Wg,e7.own hk (fun k hk=>by omega)⟩
 case h0=>exact⟨[],.slice none 0 0,rfl,by simp,b6,World.ownsRow_nil _ _ _ _,b4,b5,aU⟩
 case hIB=>
  rintro s A ⟨refs,v,rfl,e2,_⟩;simpa using e2
 case hassign=>
  intro pre x W K _ hi bY hK;rw[Oj];gi_wp2
 case hAx=>
  rintro pre x W a₁ W₁ ⟨_,_,rfl,_⟩;exact((Kp.refl _ W).alloc _)
 case hbody=>
  rintro pre x W a₁ W₁ W₂ ⟨⟨refs,v,e1,e2,e3,e4,e5,e6,e7⟩,bY,rfl,rfl⟩ l8 uE;obtain⟨h1,h2,h3,h4,h5,h6⟩:=HN.o;have h7:=G0.o;have c3:=(e3.ext (Kp.rr.alloc _)).kp l8 Wg;have c5:=(e5.ext (Kp.rr.alloc _)).kp l8 Wg;have c6:=(e6.ext (Kp.rr.alloc _)).kp l8 Wg;have c4:=aA (aA e4 ((Kp.refl (fun _=>False) W).alloc (.cells #[.int .i64 (Iq x).keeper,.string (Iq x).name] 70)) (fun _ _ _ h=>h)) l8 (fun g _ hg=>by omega);have c7:Ext w W₂:=(e7.alloc _).own l8 (fun k hk=>by omega);have cb:=(ay.new W 70 #[.int .i64 (Iq x).keeper,.string (Iq x).name]).kp l8 Wg;simp only[World.size_alloc]at uE;have HW:=Z3 (And.intro c3 (And.intro c4 (And.intro c5 (And.intro c6 (And.intro c7 cb)))));have k3:=c3.c 0 v rfl;have f3:=c3.frozen 0;have k5:=c5.c 0 (.slice none 0 0) rfl;have f5:=c5.frozen 0;have k6:=c6.c 0 (.bool false) rfl;have f6:=c6.frozen 0;obtain⟨jJ,kb0,kb1, -⟩:=cb.ca;have P9:B6<W₂.heap.size:=c3.lt;have kv:=Z3 uE;clear e3 e4 e5 e6 e7 c3 c4 c5 c6 c7 cb l8 uE b4 b5 b6 bL bR h1 h2 h3 h4 h5 h6 h7;have mU:∀(u v:Value),Kp (fun k=>k=B4∨k=B5∨k=B6∨W0.heap.size+2≤k) W₂ ((W₂.setCell ⟨B4,0,none⟩ u).setCell ⟨B5,0,none⟩ v):=fun u v=>
   ((Kp.refl _ W₂).setCell (p:=⟨B4,0,none⟩) (fun _=>.inl rfl) u).setCell (p:=⟨B5,0,none⟩) (fun _=>.inr (.inl rfl)) v
  have Fz:∀(u v:Value),ay ((W₂.setCell ⟨B4,0,none⟩ u).setCell ⟨B5,0,none⟩ v) B4 67 #[u]∧ay ((W₂.setCell ⟨B4,0,none⟩ u).setCell ⟨B5,0,none⟩ v) B5 4 #[v]∧Ext w ((W₂.setCell ⟨B4,0,none⟩ u).setCell ⟨B5,0,none⟩ v):=fun u v=>by
   obtain⟨h1,h2,h3,h4,h5,h6⟩:=HN.o;have h7:=G0.o;refine⟨?_,?_,HW.o.2.2.2.2.1.own (mU u v) (fun k hk=>by omega)⟩
   · exact(HW.o.2.2.1.bE 0 u).kp ((Kp.refl (·=B5) _).setCell (p:=⟨B5,0,none⟩) (fun _=>rfl) v) Wg
   · exact(HW.o.2.2.2.1.kp ((Kp.refl (·=B4) _).setCell (p:=⟨B4,0,none⟩) (fun _=>rfl) u) Wg).bE 0 v
  have HS:=Z3 (And.intro mU Fz);clear mU Fz;cases x with
  |none=>
   gi_wp2;exact⟨HS.o.1 _ _,rfl,.inl ⟨refs,by rw[e1]⟩,HS.o.2 _ _⟩
  | some y =>
   have hv:∃a cp,v=.slice a refs.length cp:=by
    rcases HW.o.2.1.2 with⟨rfl,h0⟩|⟨g,cap,cur,rfl,_⟩
    · exact⟨none,0,by rw[h0]⟩
    · exact⟨_,_,rfl⟩
   obtain⟨a,cp,rfl⟩:=hv;by_cases h6:refs.length=6
   · have h6':((refs.length:Int)==6)=true:=by simp[h6]
     have H6:=Z3 h6;clear h6;gi_wp2;exact⟨HS.o.1 _ _,rfl,.inr ⟨refs++[y],by rw[e1];simp,by simp[H6.o]⟩,HS.o.2 _ _⟩
   · have h6':((refs.length:Int)==6)=false:=beq_eq_false_iff_ne.2 Wg;have H6:=Z3 h6;gi_wp2_with (gi_at_builtin;refine yG Lx _ rfl _ _ rfl (W0.heap.size+2) _ _ _ rfl (HW.o.2.1.alloc _) W₂.heap.size 1 (uu y) rfl rfl ?c1 ?c2 ?c3 ?c4 ?_)
     case c1=>exact ae.Gb (ay.new ..) _ rfl
     case c2=>simp[uu,Value.oneCell']
     case c3=>omega
     case c4=>have:=kv.o;simp only[World.size_alloc];omega
     intro v' w' wX hK g' c' hv hg hl;subst hv;have ag:Kp (fun k=>W0.heap.size+2≤k) W₂ w':=((Kp.refl _ W₂).alloc _).trans (hK.weak fun k _ hk=>Pd HW.o.2.1 hk);obtain⟨h1,h2,h3,h4,h5,h6'⟩:=HN.o;have h7:=G0.o;have d3:=HW.o.1.kp ag Wg;have d4:=HW.o.2.2.1.kp ag Wg;have d5:=HW.o.2.2.2.1.kp ag Wg;have d7:=HW.o.2.2.2.2.1.own ag (fun k hk=>by omega);obtain⟨qz,q3, -⟩:=d3.ca;have qf:=d3.frozen 0;have⟨HD,HG⟩:=aJ (And.intro d3 (And.intro d4 (And.intro d5 (And.intro d7 (And.intro wX ag))))) (And.intro hg hl);clear d3 d4 d5 d7 h1 h2 h3 h4 h5 h6' h7 wX hK ag hg hl k3 f3 k5 f5 k6 f6 kb0 kb1 P9 jJ h6;gi_wp2;have Yy:Kp (·=B6) w' (w'.setCell ⟨B6,0,none⟩ (.slice (some ⟨g',0,none⟩) (refs.length+1) c')):=(Kp.refl (·=B6) w').setCell (p:=⟨B6,0,none⟩) (fun _=>rfl) _;obtain⟨h1,h2,h3,h4,h5,h6'⟩:=HN.o;have h7:=G0.o;obtain⟨d3,d4,d5,d7,d8,d9⟩:=HD.o;refine⟨(d9.weak fun _ _ h=>.inr (.inr (.inr h))).trans (Yy.weak fun _ _ h=>.inr (.inr (.inl h))),refs++[y],_,by rw[e1];simp,by have:=H6.o;simp;omega,d3.bE 0 _,?_,d4.kp Yy Wg,d5.kp Yy Wg,d7.own Yy (fun k hk=>by omega)⟩;have:=aA d8 Yy (fun g _ hg=>by omega);simpa using this
 case hdone=>
  rintro xs W hS ⟨refs,v,rfl,e2,e3,e4,e5,e6,e7⟩ hK;have k3:=e3.c 0 v rfl;obtain⟨z5,k5, -⟩:=e5.ca;have f5:=e5.frozen 0;obtain⟨z6,k6, -⟩:=e6.ca;have f6:=e6.frozen 0;have⟨HD,HS⟩:=aJ (And.intro e3 (And.intro e4 (And.intro e5 (And.intro e6 e7)))) hS;have hv:=Pe e4;clear e3 e4 e5 e6 e7 hS b4 b5 b6 bL bR;obtain⟨av,cv,rfl⟩:=hv;simp only[Exit.inBlock,Exit.then];gi_wp2;obtain⟨h1,h2,h3,h4,h5,h6⟩:=HN.o;have h7:=G0.o;obtain⟨d3,d4,d5,d6,d7⟩:=HD.o;have CZ:Kp (fun k=>k=B4∨k=B5) W ((W.setCell ⟨B4,0,none⟩ (.slice av refs.length cv)).setCell ⟨B5,0,none⟩ (.bool true)):=
   ((Kp.refl (fun k=>k=B4∨k=B5) W).setCell (p:=⟨B4,0,none⟩) (fun _=>.inl rfl) _).setCell (p:=⟨B5,0,none⟩) (fun _=>.inr rfl) _
  have g5:=(d5.bE 0 (.slice av refs.length cv)).kp ((Kp.refl (·=B5) _).setCell (p:=⟨B5,0,none⟩) (fun _=>rfl) (.bool true)) Wg;have g6:=(d6.kp ((Kp.refl (·=B4) W).setCell (p:=⟨B4,0,none⟩) (fun _=>rfl) (.slice av refs.length cv)) Wg).bE 0 (.bool true);have hK':=(CZ.block W0.heap.size (by have:=d7.size;have:=d3.lt;exact(Array.getElem?_eq_some_iff.1 hK).1) Wg).trans hK;generalize (W.setCell ⟨B4,0,none⟩ (.slice av refs.length cv)).setCell ⟨B5,0,none⟩ (.bool true)=W5 at CZ g5 g6 hK' ⊢;refine⟨by simp,.inl ⟨_,_,rfl,run_takeDeferred hK',?_⟩⟩;have uC:=Kp.putObj W5 W0.heap.size (.deferred none);have m5:=(g5.kp uC Wg).c 0 _ rfl;have m6:=(g6.kp uC Wg).c 0 _ rfl;have fU:M.jw p r=some refs:=OU 6 refs r (fun n=>by have:=HS.o n;rwa[List.length_map]at this) e2;refine⟨.tuple #[.slice av refs.length cv,.bool true],?_,⟨_,by rw[fU];rfl,?_⟩,?_⟩
  · simp[results,Tryz.f84,go_sem,m5,m6]
  · rw[fU];refine SliceOf.gH uu (aA (aA d4 CZ (fun g _ hg=>by omega)) uC (fun g _ hg=>by omega)) rfl rfl (fun _ _=>rfl) (fun _ _=>rfl) (fun b h h'=>by show w.heap.size≤b;omega) (by show refs.length≤_;omega)
  · exact(d7.own CZ (fun k hk=>by omega)).own uC (fun k hk=>by omega)
 case hstop=>
  rintro c pre W hS ⟨rfl,hb,e5,e6,e7⟩ hK;have HD:=Z3 (And.intro e5 (And.intro e6 e7));clear e5 e6 e7 b4 b5 b6 bL bR;gi_wp2;obtain⟨h1,h2,h3,h4,h5,h6⟩:=HN.o;have h7:=G0.o;obtain⟨d5,d6,d7⟩:=HD.o;refine⟨by simp,.inl ⟨_,_,rfl,run_takeDeferred hK,?_⟩⟩;have uC:=Kp.putObj W W0.heap.size (.deferred none);have m5:=(d5.kp uC Wg).c 0 _ rfl;have m6:=(d6.kp uC Wg).c 0 _ rfl;obtain⟨n,rest,hit⟩:=hS;have fU:M.jw p r=none:=by
   rcases hb with⟨refs,rfl⟩|⟨refs,rfl,hl⟩
   · exact IX 6 refs _ r n (by rw[hit,List.append_assoc]) (.inl rfl)
   · exact IX 6 refs _ r n hit (.inr Wg)
  refine⟨.tuple #[.slice none 0 0,.bool false],?_,⟨_,by rw[fU];rfl,?_⟩,?_⟩
  · simp[results,Tryz.f84,go_sem,m5,m6]
  · rw[fU];exact SliceOf.nil _ _ _ _
  · exact d7.own uC (fun k hk=>by omega)
end Go.Proofs.YtkmclfpjpajjeaaGreat
namespace Go.Proofs.YtkmclfpjpajjeaaGreat
open Go Go.RowKit
theorem jR(w:World)(l:aH)(p:M.ax)(h:aC w l p)(k:Int)(n:ByteArray):
    Calls Tryz.prog 38 #[.pointer (some ⟨l.L,0,none⟩),.int .i64 k,.string n] w fun e w'=>
     e=.returned (.tuple #[.agg #[.int .i64 (M.find p k n).1.keeper,.string (M.find p k n).1.name],.int .i64 (M.find p k n).2])∧Ext w w':=by
 have aU:Ext w (w.alloc (.cells #[.int .i64 0,.string ⟨#[]⟩] 70)):=(Kp.rr.alloc _);have H:=Z3 (h.ext aU);clear h;have b0:=ay.new w 70 #[.int .i64 0,.string ⟨#[]⟩];go_enter Tryz.func38,Tryz.ntmps38;go_wp2_with fail;refine(yT _ _ _ H.o _ _).mono ?_;rintro e w1 ⟨rfl,hB⟩;have b1:=b0.ext hB;obtain⟨hz,c0,c1, -⟩:=b1.ca;obtain⟨f0,f1, -⟩:=b1.fz;by_cases hc:(M.resolve p k n).2=1
 · obtain⟨c,fU⟩:=fu hc;have H1:=Z3 (H.o.ext hB);have hR:Zs (M.find p k n=if(M.jw p (M.resolve p k n).1).isSome then((M.resolve p k n).1,1)else(M.qg,4)):=Z3 (by unfold M.find;rw[if_pos hc]);rw[hc];clear hc;generalize (M.resolve p k n).1=r at*;have b2:=ay.new w1 70 #[.int .i64 r.keeper,.string r.name];go_wp2_with fail;refine(De _ _ _ (H1.o.ext (Kp.rr.alloc _)) _ ⟨c,fU⟩).mono ?_;rintro e w2 ⟨⟨v,rfl,hs⟩,hB2⟩;have b3:=(b1.ext (Kp.rr.alloc (.cells #[.int .i64 r.keeper,.string r.name] 70))).ext hB2;have b4:=b2.ext hB2;obtain⟨NI,d0,d1, -⟩:=b3.ca;obtain⟨g0,g1, -⟩:=b3.fz;obtain⟨-,d2,d3, -⟩:=b4.ca;have oV:¬w1.heap.size=w.heap.size:=by omega
   cases hcb:(M.jw p r).isSome
   · rw[hcb]at hR;clear c0 c1 f0 f1 hs fU b0 b1 b2 b3 b4;go_wp2;refine bodyPost_ret (v:=.tuple #[.agg #[.int .i64 0,.string ⟨#[]⟩],.int .i64 4]) (by simp[results,Tryz.results38,go_sem,d0,d1]) rfl ?_;exact⟨by rw[hR.o];rfl,Z1⟩
   · rw[hcb]at hR;clear c0 c1 f0 f1 hs fU b0 b1 b2 b3 b4;go_wp2;refine bodyPost_ret (v:=.tuple #[.agg #[.int .i64 r.keeper,.string r.name],.int .i64 1]) (by simp[results,Tryz.results38,go_sem,d0,d1]) rfl ?_;exact⟨by rw[hR.o];rfl,Z1⟩
 · have hR:Zs (M.find p k n=(M.qg,(M.resolve p k n).2)):=Z3 (by unfold M.find;rw[if_neg hc]);have Bl:((M.resolve p k n).2==1)=false:=beq_eq_false_iff_ne.2 hc;clear hc;generalize (M.resolve p k n).2=c at*;go_wp2;refine bodyPost_ret (v:=.tuple #[.agg #[.int .i64 0,.string ⟨#[]⟩],.int .i64 c]) (by simp[results,Tryz.results38,go_sem,c0,c1,hz]) rfl ?_;exact⟨by rw[hR.o];rfl,Z1⟩
theorem mH (w : World) (l : aH) (p : M.ax) (h : aC w l p) (r : M.Ref) :
    Calls Tryz.prog 69 #[.pointer (some ⟨l.L,0,none⟩),.agg #[.int .i64 r.keeper,.string r.name]] w fun e w'=>
     (∃v,e=.returned v∧SliceOf 2 zn w' (fun b=>w.heap.size≤b) v (M.chain p r))∧Ext w w':=by
 have aU:Ext w (w.alloc (.cells #[.int .i64 r.keeper,.string r.name] 70)):=(Kp.rr.alloc _);have H:=Z3 (h.ext aU);clear h;have b0:=ay.new w 70 #[.int .i64 r.keeper,.string r.name];obtain⟨-,c0,c1, -⟩:=b0.ca;go_enter Tryz.func69,Tryz.ntmps69;go_wp2_with fail;refine(jR _ _ _ H.o _ _).mono ?_;rintro e w1 ⟨rfl,hB⟩;have b1:=b0.ext hB;obtain⟨hz,d0,d1, -⟩:=b1.ca;have H1:=Z3 (H.o.ext hB);clear b0 c0 c1;have hR:Zs (M.chain p r=if(M.find p r.keeper r.name).2=1∧(M.find p r.keeper r.name).1=r then(M.jw p r).getD []else []):=Z3 (by
  unfold M.chain M.fo;simp)
 have hF:Zs ((M.find p r.keeper r.name).2=1→(M.find p r.keeper r.name).1=r→∃c,M.cls? p r=some c):=Z3 (by
  intro h1 h2;unfold M.find at h1 h2;by_cases hc:(M.resolve p r.keeper r.name).2=1
  · rw[if_pos hc]at h1 h2;obtain⟨c,fU⟩:=fu hc;split at h1
    · rename_i h3;rw[if_pos h3]at h2;have Hn:(M.resolve p r.keeper r.name).1=r:=h2;rw[Hn]at fU;exact⟨c,fU⟩
    · simp at h1
  · rw[if_neg hc]at h1;exact absurd h1 hc)
 generalize M.find p r.keeper r.name=F at*;obtain⟨⟨fk,fn⟩,code⟩:=F;simp only at*;by_cases hc:code=1
 · subst hc;by_cases hr:fk=r.keeper∧fn=r.name
   · obtain⟨rfl,rfl⟩:=hr;obtain⟨c,fU⟩:=hF.o rfl rfl;have ZW:Zs (M.chain p r=(M.jw p r).getD []):=Z3 (by rw[hR.o,if_pos ⟨rfl,rfl⟩]);clear hR hF;go_wp2_with fail;refine(De _ _ _ (H1.o.ext (Kp.rr.alloc _)) _ ⟨c,fU⟩).mono ?_;rintro e w2 ⟨⟨v,rfl,hs⟩,hB2⟩;go_wp2;refine bodyPost_ret (v:=v) (by simp[results,Tryz.results69,go_sem]) rfl ?_;refine⟨⟨v,rfl,?_⟩,ZS⟩;rw[ZW.o];exact hs.keep zn.stays (fun _ _ _ _ h=>h) (fun b hb=>by have:=hB.size;simp only[World.size_alloc]at hb this;show w.heap.size≤b;omega)
   · have ZW:Zs (M.chain p r=[]):=Z3 (by
      rw[hR.o,if_neg];rintro⟨-,h⟩;exact hr ⟨congrArg M.Ref.keeper h,congrArg M.Ref.name h⟩)
     by_cases hk:fk=r.keeper
     · subst hk;have hn:(fn.toList==r.name.toList)=false:=by
        rw[iV];exact decide_eq_false (fun h=>hr ⟨rfl,h⟩)
       clear hR hF hr;go_wp2;refine bodyPost_ret (v:=.slice none 0 0) (by simp[results,Tryz.results69,go_sem]) rfl ?_;refine⟨⟨_,rfl,?_⟩,ZS⟩;rw[ZW.o];exact SliceOf.nil _ _ _ _
     · have JK:(fk==r.keeper)=false:=beq_eq_false_iff_ne.2 hk;clear hR hF hr;go_wp2;refine bodyPost_ret (v:=.slice none 0 0) (by simp[results,Tryz.results69,go_sem]) rfl ?_;refine⟨⟨_,rfl,?_⟩,ZS⟩;rw[ZW.o];exact SliceOf.nil _ _ _ _
 · have ZW:Zs (M.chain p r=[]):=Z3 (by rw[hR.o,if_neg (fun h=>hc h.1)]);have Bl:(code !=1)=true:=bne_iff_ne.2 hc;clear hR hF hc;go_wp2;refine bodyPost_ret (v:=.slice none 0 0) (by simp[results,Tryz.results69,go_sem]) rfl ?_;refine⟨⟨_,rfl,?_⟩,ZS⟩;rw[ZW.o];exact SliceOf.nil _ _ _ _
theorem ym(a b:Int)(m n:ByteArray):(a=b∧m=n)∨(a=b∧(m.toList==n.toList)=false∧m≠n)∨((a==b)=false∧a≠b):=by
 by_cases h:a=b
 · by_cases h2:m=n
   · exact .inl ⟨h,h2⟩
   · exact .inr (.inl ⟨h,by rw[iV];exact decide_eq_false h2,h2⟩)
 · exact .inr (.inr ⟨beq_eq_false_iff_ne.2 h,h⟩)
theorem Kg{α:Type} [BEq α] [LawfulBEq α]{l:List α}{x:α}{k:Nat}(h:∀y∈l.take k,y≠x)(hk:l.length≤k):l.contains x=false:=by
 rw[List.take_of_length_le hk]at h;cases hc:l.contains x
 · rfl
 · exact absurd rfl (h x (by simpa using hc))
theorem rC(w:World)(l:aH)(p:M.ax)(h:aC w l p)(r t:M.Ref):
    Calls Tryz.prog 104 #[.pointer (some ⟨l.L,0,none⟩),.agg #[.int .i64 r.keeper,.string r.name],.agg #[.int .i64 t.keeper,.string t.name]] w fun e w'=>
     e=.returned (.bool (M.under p r t))∧Ext w w':=by
 have aU:Ext w ((w.alloc (.cells #[.int .i64 r.keeper,.string r.name] 70)).alloc (.cells #[.int .i64 t.keeper,.string t.name] 70)):=kx;have H:=Z3 (h.ext aU);clear h;have b5:=ay.new (w.alloc (.cells #[.int .i64 r.keeper,.string r.name] 70)) 70 #[.int .i64 t.keeper,.string t.name];simp only[World.size_alloc]at b5;go_enter Tryz.func104,Tryz.ntmps104;go_wp2_with fail;refine(mH _ _ _ H.o _).mono ?_;rintro e w1 ⟨⟨v,rfl,hs⟩,hB⟩;replace b5:=b5.ext hB;obtain⟨a,cap,rfl,hn,dm⟩:=hs.form;have hU:Zs (M.under p r t=(M.chain p r).contains t):=Z3 rfl;have bH:Ext w w1:=aU.trans hB;clear aU hB;generalize M.chain p r=xs at*;go_wp2;go_loopw [13] (fun i wr=>∃k:Nat,k≤xs.length∧i=.int .i64 k∧Ext w1 wr∧Zs (∀y∈xs.take k,y≠t)) (fun i _=>xs.length - (intOf i).toNat)
 case atStart=>exact⟨0,Nat.zero_le _,rfl,Kp.rr,Z3 Wf⟩
 case round =>
  obtain⟨k,hk,rfl,hE,HA⟩:=hrel;have b5r:=b5.ext hE;obtain⟨hz,t0,t1, -⟩:=b5r.ca;by_cases bY:k<xs.length
  · obtain⟨x,hx⟩:=get_some bY;obtain⟨b,off,cs,rfl,hI,rfl, -,hc⟩:=hs.get hx;obtain⟨g0,g1⟩:=(hc.ext hE).two;have HX:=Z3 hx;clear hx hc hs b5 b5r;obtain⟨xk,xn⟩:=x;obtain⟨tk,tn⟩:=t;simp only at*;rcases ym xk tk xn tn with⟨rfl,rfl⟩|⟨rfl,mR,yD⟩|⟨sM,qy⟩
    · go_wp2;go_ret;exact⟨af (by rw[hU.o];simpa using List.mem_of_getElem? HX.o),ZS⟩
    · have HN:=Z3 yD;clear yD;go_wp2;go_roundw
      case rel=>
       refine⟨k+1,by omega,by go_num,kx,Z3 ?_⟩;intro y hy;rw[List.take_add_one,HX.o]at hy;rcases List.mem_append.1 hy with h|h
       · exact HA.o y h
       · simp at h;subst h;intro h;exact HN.o (congrArg M.Ref.name h)
      case measure=>simp[intOf];omega
    · have HN:=Z3 qy;clear qy;go_wp2;go_roundw
      case rel=>
       refine⟨k+1,by omega,by go_num,kx,Z3 ?_⟩;intro y hy;rw[List.take_add_one,HX.o]at hy;rcases List.mem_append.1 hy with h|h
       · exact HA.o y h
       · simp at h;subst h;intro h;exact HN.o (congrArg M.Ref.keeper h)
      case measure=>simp[intOf];omega
  · go_wp2;go_ret;exact⟨af (by rw[hU.o];exact(Kg HA.o Wg).symm),ZS⟩
theorem xh(w:World)(l:aH)(p:M.ax)(h:aC w l p)(a b:Int)(k:M.Kind):
    Calls Tryz.prog 124 #[.pointer (some ⟨l.L,0,none⟩),.int .i64 a,.int .i64 b,.agg #[.int .i64 k.kind,.string k.name]] w fun e w'=>
     e=.returned (.bool (M.agree p a b k))∧Ext w w':=by
 have aU:Ext w (w.alloc (.cells #[.int .i64 k.kind,.string k.name] 102)):=kx;by_cases hk:k.kind=1
 · have hA:Zs (M.agree p a b k=true):=Z3 (by unfold M.agree;rw[hk];rfl);have JK:(k.kind==1)=true:=beq_iff_eq.2 hk;clear hk h;go_enter Tryz.func124,Tryz.ntmps124;go_wp2;go_ret;exact⟨af hA.o.symm,kx⟩
 have H:=Z3 (h.ext aU);clear h;have b7:=ay.new w 102 #[.int .i64 k.kind,.string k.name];have JK:(k.kind==1)=false:=beq_eq_false_iff_ne.2 hk;have hA:Zs (M.agree p a b k=(if(M.find p a k.name).2=1∧(M.find p b k.name).2=1 then decide ((M.find p a k.name).1=(M.find p b k.name).1)
  else decide ((M.find p a k.name).2≠1)&&decide ((M.find p b k.name).2≠1))):=Z3 (by unfold M.agree;rw[JK];rfl)
 clear hk;go_enter Tryz.func124,Tryz.ntmps124;go_wp2_with fail;refine(jR _ _ _ H.o _ _).mono ?_;rintro e w1 ⟨rfl,hB⟩;have b71:=b7.ext hB;obtain⟨Db, -,k0, -⟩:=b71.ca;have H1:=Z3 (H.o.ext hB);generalize M.find p a k.name=F1 at*;obtain⟨⟨fk1,fn1⟩,c1⟩:=F1;simp only at*;go_wp2_with fail;refine(jR _ _ _ (H1.o.ext (Kp.rr.alloc _)) _ _).mono ?_;rintro e w2 ⟨rfl,hB2⟩;have b9:=(ay.new w1 70 #[.int .i64 fk1,.string fn1]).ext hB2;obtain⟨hz,q0,q1, -⟩:=b9.ca;generalize M.find p b k.name=F2 at*;obtain⟨⟨fk2,fn2⟩,c2⟩:=F2;simp only at*;clear k0 b71 b7 b9 Db;by_cases h1:c1=1
 · subst h1;by_cases h2:c2=1
   · subst h2;rcases ym fk1 fk2 fn1 fn2 with⟨rfl,rfl⟩|⟨rfl,mR,yD⟩|⟨sM,qy⟩
     · go_wp2;go_ret;exact⟨af (by rw[hA.o];simp),ZS⟩
     · have HN:=Z3 yD;clear yD;go_wp2;go_ret;exact⟨af (by rw[hA.o];simp[HN.o]),ZS⟩
     · have HN:=Z3 qy;clear qy;go_wp2;go_ret;exact⟨af (by rw[hA.o];simp[HN.o]),ZS⟩
   · have Hn:(c2 !=1)=true:=bne_iff_ne.2 h2;have HN:=Z3 h2;clear h2;go_wp2;go_ret;exact⟨af (by rw[hA.o];simp[HN.o]),ZS⟩
 · have Ya:(c1 !=1)=true:=bne_iff_ne.2 h1;have HN:=Z3 h1;clear h1;by_cases h2:c2=1
   · subst h2;go_wp2;go_ret;exact⟨af (by rw[hA.o];simp[HN.o]),ZS⟩
   · have Hn:(c2 !=1)=true:=bne_iff_ne.2 h2;have QP:=Z3 h2;clear h2;go_wp2;go_ret;exact⟨af (by rw[hA.o];simp[HN.o,QP.o]),ZS⟩
theorem rA(w:World)(l:aH)(p:M.ax)(h:aC w l p)(a b:Int)(I:Nat→Prop)(cs:List Value)(m:M.Method)(hm:aG w I m cs):
    Calls Tryz.prog 88 #[.pointer (some ⟨l.L,0,none⟩),.int .i64 a,.int .i64 b,.agg cs.toArray] w fun e w'=>
     e=.returned (.bool (M.bX p a b m))∧Ext w w':=by
 obtain⟨va,vc,vm,rfl,s1, -, -⟩:=hm;obtain⟨a1,c1,rfl,hn,dm⟩:=s1.form;have aU:Ext w (w.alloc (.cells #[.string m.name,.slice a1 m.args.length c1,.int .i64 m.ret.kind,.string m.ret.name,.int .i64 m.locals,.int .i64 m.stack,vc,vm] 106)):=(Kp.rr.alloc _);have H0:=Z3 (h.ext aU);clear h;have P0:=Z3 (ae.Gb (ay.new w 106 #[.string m.name,.slice a1 m.args.length c1,.int .i64 m.ret.kind,.string m.ret.name,.int .i64 m.locals,.int .i64 m.stack,vc,vm]) _ rfl);go_enter Tryz.func88,Tryz.ntmps88;go_wp2;generalize (w.alloc (.cells #[.string m.name,.slice a1 m.args.length c1,.int .i64 m.ret.kind,.string m.ret.name,.int .i64 m.locals,.int .i64 m.stack,vc,vm] 106))=w0 at*;go_loopw [14] (fun i wr=>∃k:Nat,k≤m.args.length∧i=.int .i64 k∧Ext w0 wr∧Zs ((m.args.take k).all (M.agree p a b)=true)) (fun i _=>m.args.length - (intOf i).toNat)
 case atStart=>exact⟨0,Nat.zero_le _,rfl,Kp.rr,Z3 Wf⟩
 case round =>
  obtain⟨k,hk,rfl,hE,HA⟩:=hrel;by_cases bY:k<m.args.length
  · obtain⟨x,hx⟩:=get_some bY;obtain⟨b',off,cs,rfl,hI,rfl, -,hc⟩:=s1.get hx;obtain⟨g0,g1⟩:=((hc.ext aU).ext hE).two;have⟨HX,HL⟩:=aJ hx (H0.o.ext (hE.alloc (.cells #[.int .i64 x.kind,.string x.name] 102)));clear hx hc;cases ht:M.agree p a b x
    all_goals
     have HT:=Z3 ht;clear ht;go_wp2_with fail;refine(xh _ _ _ HL.o _ _ _).mono ?_;rintro e w1 ⟨rfl,hB⟩;rw[HT.o];go_wp2
    · go_ret;exact⟨af (by unfold M.bX;rw[l6 HX.o HT.o];rfl),ZS⟩
    · go_roundw
      case rel=>exact⟨k+1,by omega,by go_num,ZS,Z3 (all_succ HA.o HX.o HT.o)⟩
      case measure=>simp[intOf];omega
  · have HM:Zs (M.bX p a b m=M.agree p a b m.ret):=Z3 (by unfold M.bX;rw[kD HA.o Wg];rfl);have P1:=Z3 (P0.o.ext hE);obtain⟨p0,p1,p2,p3,p4,p5,p6,p7⟩:=P1.o.eight;simp only[Nat.zero_add]at p1 p2 p3 p4 p5 p6 p7;go_wp2_with fail;refine(xh _ _ _ (H0.o.ext hE) _ _ m.ret).mono ?_;rintro e w1 ⟨rfl,hB⟩;go_wp2;go_ret;exact⟨af HM.o.symm,ZS⟩
end Go.Proofs.YtkmclfpjpajjeaaGreat
