/- Walks. -/
import Derived.Test.YtmcmhalhieejaaaGreatDoorChgTextj
import Derived.Lib.IndexBytes
set_option maxRecDepth 100000
set_option maxHeartbeats 4000000
set_option linter.unusedSimpArgs false
set_option linter.unusedVariables false
namespace Go.Proofs.YtmcmhalhieejaaaGreatDoor
open Go Go.RowKit
def fU(rb bz:Nat)(n:Int)(s:Nat→Value):Act:={tmps:=#[.pointer (some ⟨rb,0,none⟩),.int .i64 n,undef,undef,.pointer (some ⟨bz,0,none⟩),s 14,undef,undef,undef,undef,s 0,s 1,s 2,s 3,s 4,s 5,s 6,s 7,s 8,s 9,s 10,s 11,s 12,s 13,undef,undef,undef,undef,undef,undef,undef,undef,undef,undef,undef,undef,undef,undef,undef,undef,undef,undef,undef,undef,undef,undef,undef,undef,undef,undef,undef,undef,undef,undef,undef,undef,undef,undef,undef,undef,undef,undef,undef,undef,undef,undef,undef,undef,undef,undef,undef,undef,undef,undef,undef,undef,undef,undef,undef,undef,undef,undef,undef,undef,undef,undef,undef,undef,undef,undef,undef,undef,undef,undef,undef,undef,undef,undef,undef,undef,undef,undef,undef,undef,undef,undef,undef,undef,undef,undef,undef,undef,undef,undef,undef,undef,undef,undef],defers:=[]}
def jk(z rb:Nat)(i:Nat)(W:World)(x:Value):Prop:=match i with
 |0=>x=.pointer (some ⟨rb,0,none⟩)
 |1=>∃k:Nat,k<4∧x=.int .i64 k
 |2=>∃k:Int,x=.int .i64 k
 |3=>∃b,x=.slice (some ⟨b,0,none⟩) 4 4∧az W b 3 #[.int .i64 0,.int .i64 0,.int .i64 1,.int .i64 2]∧z≤b
 |4=>x=.pointer (some ⟨rb,0,none⟩)
 |5=>∃k:Nat,k<4∧x=.int .i64 k
 |6=>∃b k u,x=.pointer (some ⟨b,k,none⟩)∧W.cell? ⟨b,k,none⟩=some (.int .i64 u)∧z≤b
 |7=>∃u:Int,x=.int .i64 u
 |8=>∃b,x=.slice (some ⟨b,0,none⟩) 5 5∧az W b 9 #[.string ⟨#[116,111,112]⟩,.string ⟨#[99,101,108,108]⟩,.string ⟨#[109,97,105,110]⟩,.string ⟨#[110,111,110,101]⟩,.string ⟨#[111,116,104,101,114]⟩]∧z≤b
 |9=>x=.pointer (some ⟨rb,0,none⟩)
 |10=>∃k:Nat,k<5∧x=.int .i64 k
 |11=>∃b k u,x=.pointer (some ⟨b,k,none⟩)∧W.cell? ⟨b,k,none⟩=some (.string u)∧z≤b
 |12=>∃u,x=.string u
 |13=>∃kd kp nm,x=.agg #[.int .i64 kd,.int .i64 kp,.string nm,.int .i64 0,.string ⟨#[]⟩,.string ⟨#[]⟩,.slice none 0 0,.slice none 0 0]
 |14=>∃b,x=.pointer (some ⟨b,0,none⟩)∧az W b 28 #[.int .i64 0,.int .i64 0,.string ⟨#[]⟩,.int .i64 0,.string ⟨#[]⟩,.string ⟨#[]⟩,.slice none 0 0,.slice none 0 0]∧z≤b
 |_=>True
theorem jk.kp{z rb:Nat}{W W':World}(hK:Kp (·=rb) W W')(hz:rb<z)(i:Nat)(x:Value)(h:jk z rb i W x):jk z rb i W' x:=by
 unfold jk at*;split at h
 case h_4=>obtain⟨b,h1,h2,h3⟩:=h;exact⟨b,h1,h2.kp hK (by omega),h3⟩
 case h_7=>obtain⟨b,k,u,h1,h2,h3⟩:=h;exact⟨b,k,u,h1,(World.cell?_of_block (hK.block _ (ax h2) (by show¬b=rb;omega))).trans h2,h3⟩
 case h_9=>obtain⟨b,h1,h2,h3⟩:=h;exact⟨b,h1,h2.kp hK (by omega),h3⟩
 case h_12=>obtain⟨b,k,u,h1,h2,h3⟩:=h;exact⟨b,k,u,h1,(World.cell?_of_block (hK.block _ (ax h2) (by show¬b=rb;omega))).trans h2,h3⟩
 case h_15=>obtain⟨b,h1,h2,h3⟩:=h;exact⟨b,h1,h2.kp hK (by omega),h3⟩
 all_goals exact h
def eP(D:Nat→Bool):Nat:=(D 1).toNat+(D 5).toNat+(D 10).toNat
structure si(P:(Nat→Bool)→Nat)(w1:World)(rb p:Nat)(v:Value)(zs:List Int)(D:Nat→Bool)(W:World):Prop where
 rd:gy W rb v zs (p+P D)
 kp:Kp (·=rb) w1 W
theorem si.ext{P:(Nat→Bool)→Nat}{w1:World}{rb p:Nat}{v:Value}{zs:List Int}{D D':Nat→Bool}{W W':World}(h:si P w1 rb p v zs D W)(hE:Ext W W')(hD:P D'=P D):si P w1 rb p v zs D' W':=
 ⟨by rw[hD];exact h.rd.ext hE,h.kp.trans hE.any⟩
theorem Ad(D:Nat→Bool):eP D≤3:=by
 unfold eP;cases D 1<;>cases D 5<;>cases D 10<;>decide
theorem Kp.wO{D D':Nat→Prop}{w a b:World}(h:Kp D w a)(hk:Kp D' a b)(hD:∀k,D' k→D k∨w.heap.size≤k):Kp D w b:=
 ⟨hk.os.trans h.os,hk.tape.trans h.tape,hk.output.trans h.output,Nat.le_trans h.size hk.size,
  fun k DU hd=>(hk.block k (Nat.lt_of_lt_of_le DU h.size) (fun x=>(hD k x).elim hd fun y=>absurd y (Nat.not_le.2 DU))).trans (h.block k DU hd)⟩
abbrev pG(kd kp:Int)(nm:ByteArray)(dst:Int)(x:M.Class)(a1:Option Addr)(m1:Nat)(a2:Option Addr)(m2:Nat):Array Value:=#[.int .i64 kd,.int .i64 kp,.string nm,.int .i64 dst,.string x.name,.string x.av,.slice a1 x.fields.length m1,.slice a2 x.methods.length m2]
def il(w1:World)(rb b p:Nat)(v:Value)(zs:List Int)(W:World):Prop:=∃kd kp nm dst x a1 m1 a2 m2 q,az W b 28 (pG kd kp nm dst x a1 m1 a2 m2)∧
 ai W (fun k=>w1.heap.size≤k∧k≠b) x [.string x.name,.string x.av,.slice a1 x.fields.length m1,.slice a2 x.methods.length m2]∧q≤p∧gy W rb v zs q∧Kp (·=rb) w1 W
theorem il.put{w1 W W':World}{rb b p q:Nat}{v:Value}{zs:List Int}{kd kp dst:Int}{nm:ByteArray}{x:M.Class}{a1 a2:Option Addr}{m1 m2:Nat}(hl:rb<w1.heap.size∧(zs.length≠0→∀ad l c,v=.slice (some ad) l c→ad.block<w1.heap.size))(hb:w1.heap.size≤b)(hP:Kp (·=b) W W')
    (h1:az W' b 28 (pG kd kp nm dst x a1 m1 a2 m2)) (h2:ai W (fun k=>w1.heap.size≤k∧k≠b) x [.string x.name,.string x.av,.slice a1 x.fields.length m1,.slice a2 x.methods.length m2]) (hq:q≤p) (hR:gy W rb v zs q) (hK:Kp (·=rb) w1 W):il w1 rb b p v zs W':=
 ⟨kd,kp,nm,dst,x,a1,m1,a2,m2,q,h1,ai.stays _ _ _ _ _ _ (hP.same fun k hk e=>hk.2 e) (fun _ h=>h) h2,hq,hR.turn hP (by omega) (fun h0 ad l c e=>by have:=hl.2 h0 ad l c e;omega),hK.wO hP (fun k e=>.inr (by omega))⟩
def vR(w w':World)(e:Ending):Prop:=∃kd kp nm dst x a1 m1 a2 m2,e=.returned (.agg (pG kd kp nm dst x a1 m1 a2 m2))∧
 ai w' (fun k=>w.heap.size≤k) x [.string x.name,.string x.av,.slice a1 x.fields.length m1,.slice a2 x.methods.length m2]
theorem az.Jk{w:World}{b:Nat}{t:TypeId}{u0 u1 u2 u3 u4 u5 u6 u7:Value}(h:az w b t #[u0,u1,u2,u3,u4,u5,u6,u7])(v4 v5 v6 v7 v2:Value):az (((((w.setCell ⟨b,4,none⟩ v4).setCell ⟨b,5,none⟩ v5).setCell ⟨b,6,none⟩ v6).setCell ⟨b,7,none⟩ v7).setCell ⟨b,2,none⟩ v2) b t #[u0,u1,v2,u3,v4,v5,v6,v7]∧
    Kp (·=b) w (((((w.setCell ⟨b,4,none⟩ v4).setCell ⟨b,5,none⟩ v5).setCell ⟨b,6,none⟩ v6).setCell ⟨b,7,none⟩ v7).setCell ⟨b,2,none⟩ v2):=by
 have h0:az (w.setCell ⟨b,4,none⟩ v4) b t #[u0,u1,u2,u3,v4,u5,u6,u7]:=h.bn 4 v4;have h1:az ((w.setCell ⟨b,4,none⟩ v4).setCell ⟨b,5,none⟩ v5) b t #[u0,u1,u2,u3,v4,v5,u6,u7]:=h0.bn 5 v5;have h2:az (((w.setCell ⟨b,4,none⟩ v4).setCell ⟨b,5,none⟩ v5).setCell ⟨b,6,none⟩ v6) b t #[u0,u1,u2,u3,v4,v5,v6,u7]:=h1.bn 6 v6;have h3:az ((((w.setCell ⟨b,4,none⟩ v4).setCell ⟨b,5,none⟩ v5).setCell ⟨b,6,none⟩ v6).setCell ⟨b,7,none⟩ v7) b t #[u0,u1,u2,u3,v4,v5,v6,v7]:=h2.bn 7 v7;have h4:az (((((w.setCell ⟨b,4,none⟩ v4).setCell ⟨b,5,none⟩ v5).setCell ⟨b,6,none⟩ v6).setCell ⟨b,7,none⟩ v7).setCell ⟨b,2,none⟩ v2) b t #[u0,u1,v2,u3,v4,v5,v6,v7]:=h3.bn 2 v2;exact⟨h4,(((((Kp.refl (·=b) w).setCell (p:=⟨b,4,none⟩) (fun _=>rfl) v4).setCell (p:=⟨b,5,none⟩) (fun _=>rfl) v5).setCell (p:=⟨b,6,none⟩) (fun _=>rfl) v6).setCell (p:=⟨b,7,none⟩) (fun _=>rfl) v7).setCell (p:=⟨b,2,none⟩) (fun _=>rfl) v2⟩
theorem az.Jj{w:World}{b:Nat}{t:TypeId}{u0 u1 u2 u3 u4 u5 u6 u7:Value}(h:az w b t #[u0,u1,u2,u3,u4,u5,u6,u7])(v4 v5 v6 v7:Value):az ((((w.setCell ⟨b,4,none⟩ v4).setCell ⟨b,5,none⟩ v5).setCell ⟨b,6,none⟩ v6).setCell ⟨b,7,none⟩ v7) b t #[u0,u1,u2,u3,v4,v5,v6,v7]∧
    Kp (·=b) w ((((w.setCell ⟨b,4,none⟩ v4).setCell ⟨b,5,none⟩ v5).setCell ⟨b,6,none⟩ v6).setCell ⟨b,7,none⟩ v7):=by
 have h0:az (w.setCell ⟨b,4,none⟩ v4) b t #[u0,u1,u2,u3,v4,u5,u6,u7]:=h.bn 4 v4;have h1:az ((w.setCell ⟨b,4,none⟩ v4).setCell ⟨b,5,none⟩ v5) b t #[u0,u1,u2,u3,v4,v5,u6,u7]:=h0.bn 5 v5;have h2:az (((w.setCell ⟨b,4,none⟩ v4).setCell ⟨b,5,none⟩ v5).setCell ⟨b,6,none⟩ v6) b t #[u0,u1,u2,u3,v4,v5,v6,u7]:=h1.bn 6 v6;have h3:az ((((w.setCell ⟨b,4,none⟩ v4).setCell ⟨b,5,none⟩ v5).setCell ⟨b,6,none⟩ v6).setCell ⟨b,7,none⟩ v7) b t #[u0,u1,u2,u3,v4,v5,v6,v7]:=h2.bn 7 v7;exact⟨h3,((((Kp.refl (·=b) w).setCell (p:=⟨b,4,none⟩) (fun _=>rfl) v4).setCell (p:=⟨b,5,none⟩) (fun _=>rfl) v5).setCell (p:=⟨b,6,none⟩) (fun _=>rfl) v6).setCell (p:=⟨b,7,none⟩) (fun _=>rfl) v7⟩
def jX(z rb b:Nat)(u:ByteArray)(i:Nat)(W:World)(x:Value):Prop:=match i with
 |0=>x=.pointer (some ⟨b,2,none⟩)
 |1=>x=.string u
 |2=>∃b,x=.slice (some ⟨b,0,none⟩) 2 2∧az W b 9 #[.string ⟨#[]⟩,.string ⟨#[116,111,112]⟩]∧z≤b
 |3=>x=.pointer (some ⟨rb,0,none⟩)
 |4=>∃k:Nat,k<2∧x=.int .i64 k
 |5=>∃b k u,x=.pointer (some ⟨b,k,none⟩)∧W.cell? ⟨b,k,none⟩=some (.string u)∧z≤b
 |6=>∃u,x=.string u
 |7=>∃s,x=.agg #[.string u,.string s,.slice none 0 0,.slice none 0 0]
 |8=>x=.pointer (some ⟨b,4,none⟩)
 |_=>True
theorem jX.kp{z rb b:Nat}{u:ByteArray}{W W':World}(hK:Kp (·=rb) W W')(hz:rb<z)(i:Nat)(x:Value)(h:jX z rb b u i W x):jX z rb b u i W' x:=by
 unfold jX at*;split at h
 case h_3=>obtain⟨b,h1,h2,h3⟩:=h;exact⟨b,h1,h2.kp hK (by omega),h3⟩
 case h_6=>obtain⟨b,k,u,h1,h2,h3⟩:=h;exact⟨b,k,u,h1,(World.cell?_of_block (hK.block _ (ax h2) (by show¬b=rb;omega))).trans h2,h3⟩
 all_goals exact h
def nY(D:Nat→Bool):Nat:=(D 4).toNat
theorem Ab(D:Nat→Bool):nY D≤1:=by
 unfold nY;cases D 4<;>decide
def grown(k:Nat)(pl:M.aP):Prop:=(k=0→pl=[])∧(k=1→pl=[⟨[],[]⟩])∧(2≤k→∃q,pl=[q]∧q.owns≠[])
def jZ(r:List ByteArray):Bool:=decide (r.length≤40)&&r.all (fun u=>decide (u.size≤40)&& !(u.toList==[107,101,101,112,101,114]))&&(match r with
 |u::_=>match M.words u with
  |x::_=>x.toList==[99,108,97,115,115]
  |[]=>false
 |[]=>false)
theorem xk:(M.blocks.all jZ)=true:=by decide+kernel
theorem uQ{r:List ByteArray}(hr:jZ r=true)(k:Nat)(pl HU:M.aP)(x:ByteArray)(hx:((⟨#[107,101,101,112,101,114]⟩:ByteArray)::r)[k]?=some x)(h:grown k pl)(hg:vS x pl HU):grown (k+1) HU:=by
 obtain⟨h0,h1,h2⟩:=h;obtain⟨g1,g2, -⟩:=hg;unfold jZ at hr;simp only[Bool.and_eq_true,List.all_eq_true,decide_eq_true_eq]at hr;obtain⟨⟨-,Mc⟩,Gg⟩:=hr;match k with
 |0=>
  simp at hx;subst hx;have:=g1 (by decide+kernel);rw[h0 rfl]at this;exact⟨fun h=>by omega,fun _=>by simpa using this,fun h=>by omega⟩
 | 1 =>
  cases r with
  |nil=>simp at hx
  | cons u r =>
   simp at hx;subst hx;have hk:=(Mc u (by simp)).2;simp only[Bool.not_eq_true']at hk;change(match M.words u with|x::_=>x.toList==[99,108,97,115,115]|[]=>false)=true at Gg;cases hw:M.words u with
   |nil=>rw[hw]at Gg;simp at Gg
   |cons y ys=>
    rw[hw]at Gg;obtain⟨hl,q',wC,Em⟩:=g2 hk 0 ⟨[],[]⟩ y (by rw[h1 rfl];rfl) (by rw[h1 rfl];rfl) (by rw[hw];rfl);refine⟨fun h=>by omega,fun h=>by omega,fun _=>⟨q',?_,Em.2 Gg⟩⟩;match HU,hl,wC with
    |[z],_,wC=>simpa using wC
 | k + 2 =>
  obtain⟨q,rfl,hq⟩:=h2 (by omega);have Ot:x∈r:=by
   have:r[k+1]?=some x:=by simpa using hx
   exact List.mem_of_getElem? this
  have hk:=(Mc x Ot).2;simp only[Bool.not_eq_true']at hk;obtain⟨y,ys,hw⟩:=M.kv x;obtain⟨hl,q',wC,Em⟩:=g2 hk 0 q y rfl rfl (by rw[hw];rfl);refine⟨fun h=>by omega,fun h=>by omega,fun _=>⟨q',?_,Em.1 hq⟩⟩;match HU,hl,wC with
  |[z],_,wC=>simpa using wC
theorem kR(w:World)(rb p:Nat)(v:Value)(zs:List Int)(n:Int)(h:gy w rb v zs p)(hp:p≤600000)(hn:n≤1000000)(L6: -1000000≤n):
    Calls Tryz.prog 14 #[.pointer (some ⟨rb,0,none⟩),.int .i64 n] w fun e w'=>vR w w' e∧(∃q,q≤p+20∧gy w' rb v zs q)∧Kp (·=rb) w w':=by
 have uW:=h.below;obtain⟨w1,lH⟩:∃w1,w1=w.alloc (.cells #[.int .i64 0,.int .i64 0,.string ⟨#[]⟩,.int .i64 0,.string ⟨#[]⟩,.string ⟨#[]⟩,.slice none 0 0,.slice none 0 0] 28):=⟨_,rfl⟩;have aQ:Ext w w1:=by rw[lH];exact(by repeat (first|with_reducible exact Kp.refl _ _|with_reducible assumption|with_reducible refine Kp.alloc ?_ _|with_reducible refine Kp.drew ?_|with_reducible refine Kp.drewN ?_ _|with_reducible refine Kp.setCell ?_ (fun h=>absurd h (by simp<;>omega)) _|with_reducible refine Kp.trans ?_ (by with_reducible assumption)|exact Kp.refl _ _|assumption|refine Kp.alloc ?_ _|refine Kp.drew ?_|refine Kp.drewN ?_ _|(refine Kp.setCell ?_ (fun h=>absurd h (by simp;done)) _)|(refine Kp.setCell ?_ (fun h=>absurd h (by simp;omega)) _)|refine Kp.trans ?_ (by assumption)))
 have ME:Zz (az w1 w.heap.size 28 #[.int .i64 0,.int .i64 0,.string ⟨#[]⟩,.int .i64 0,.string ⟨#[]⟩,.string ⟨#[]⟩,.slice none 0 0,.slice none 0 0]):=Zy (by rw[lH];exact az.new _ _ _);have EZ:=Zy (h.ext aQ);have eB:Zz (rb<w1.heap.size∧(zs.length≠0→∀ad l c,v=.slice (some ad) l c→ad.block<w1.heap.size)):=Zy ⟨by have:=uW.1;have:=aQ.size;omega,fun h0 ad l c e=>by have:=uW.2 h0 ad l c e;have:=aQ.size;omega⟩;have KQ:Zz (rb<w.heap.size):=Zy uW.1;have EO:=Zy uW.2;have Aw:=Zy lH;have bM:=Zy aQ;clear lH aQ h uW;go_enter Tryz.func14,Tryz.ntmps14;go_upto_region 1 with(fail);rw[←Aw.o];go_cut [5] (fun s5 wx=>∃b kd kp nm,s5=.pointer (some ⟨b,0,none⟩)∧az wx b 28 (pG kd kp nm 0 ⟨⟨#[]⟩,⟨#[]⟩,[],[]⟩ none 0 none 0)∧w1.heap.size≤b∧(∃q,q≤p+3∧gy wx rb v zs q)∧Kp (·=rb) w1 wx)
 case first =>
  have wB:=Ad;refine D7 15 [[],[0],[1],[],[],[4],[3,5],[6],[],[],[9],[8,10],[11],[2,7,12],[]] (fU rb w.heap.size n) (jk w1.heap.size rb) (si eP w1 rb p v zs) rfl ⟨EZ.o.ext (Kp.refl _ _).drew,(Kp.refl _ _).drew⟩ ?_ ?_
  · intro D s W j hj hD hW hd K hK;obtain rfl|rfl|rfl|rfl|rfl|rfl|rfl|rfl|rfl|rfl|rfl|rfl|rfl|rfl|rfl:j=0∨j=1∨j=2∨j=3∨j=4∨j=5∨j=6∨j=7∨j=8∨j=9∨j=10∨j=11∨j=12∨j=13∨j=14:=by omega
    · refine js ?_;simp (decide:=true)only[fU,upd,if_true,if_false]at hK ⊢;go_wp2_with fail;exact⟨fun _ _ h=>h,hW.ext (Kp.refl _ _) rfl,rfl⟩
    · have e0:s 0=.pointer (some ⟨rb,0,none⟩):=hd 0 (by simp);have C8:=Zy (bQ W rb (_+eP D) v zs 4 hW.rd (by have:=wB D;omega) (by omega));have e1:eP (hG D 1)=eP D+1:=by unfold eP hG;simp[hD];try omega
      refine js ?_;simp (decide:=true)only[fU,upd,if_true,if_false]at hK ⊢;rw[e0]at hK ⊢;clear hd wB;go_wp2_with fail;refine C8.o.mono ?_;rintro e W' ⟨⟨k,rfl,hk⟩,DC,hK'⟩;go_wp2_with fail;exact⟨jk.kp hK' eB.o.1,⟨by rw[e1];exact DC,hW.kp.trans hK'⟩,k,by omega,rfl⟩
    · obtain⟨k1, -,e0⟩:=hd 1 (by simp);refine js ?_;simp (decide:=true)only[fU,upd,if_true,if_false]at hK ⊢;rw[e0]at hK ⊢;go_wp2_with fail;exact⟨fun _ _ h=>h,hW.ext (Kp.refl _ _) rfl,_,rfl⟩
    · have hz:=hW.kp.size;refine js ?_;simp (decide:=true)only[fU,upd,if_true,if_false]at hK ⊢;go_wp2_with fail;exact⟨jk.kp ((Kp.refl _ _).alloc _) eB.o.1,hW.ext ((Kp.refl _ _).alloc _) rfl,_,rfl,az.new _ _ _,hz⟩
    · refine js ?_;simp (decide:=true)only[fU,upd,if_true,if_false]at hK ⊢;go_wp2_with fail;exact⟨fun _ _ h=>h,hW.ext (Kp.refl _ _) rfl,rfl⟩
    · have e0:s 4=.pointer (some ⟨rb,0,none⟩):=hd 4 (by simp);have C8:=Zy (bQ W rb (_+eP D) v zs 4 hW.rd (by have:=wB D;omega) (by omega));have e1:eP (hG D 5)=eP D+1:=by unfold eP hG;simp[hD];try omega
      refine js ?_;simp (decide:=true)only[fU,upd,if_true,if_false]at hK ⊢;rw[e0]at hK ⊢;clear hd wB;go_wp2_with fail;refine C8.o.mono ?_;rintro e W' ⟨⟨k,rfl,hk⟩,DC,hK'⟩;go_wp2_with fail;exact⟨jk.kp hK' eB.o.1,⟨by rw[e1];exact DC,hW.kp.trans hK'⟩,k,by omega,rfl⟩
    · obtain⟨b,e1,hb,hz⟩:=hd 3 (by simp);obtain⟨k,hk,e2⟩:=hd 5 (by simp);obtain⟨u,hu, -⟩:=mR (k:=k) hb (by simpa using hk) (by decide);refine js ?_;simp (decide:=true)only[fU,upd,if_true,if_false]at hK ⊢;rw[e1,e2]at hK ⊢;go_wp2_with fail;exact⟨fun _ _ h=>h,hW.ext (Kp.refl _ _) rfl,b,k,u,by simp,hu,hz⟩
    · obtain⟨b,k,u,e1,hc, -⟩:=hd 6 (by simp);have FV:=ax hc;refine js ?_;simp (decide:=true)only[fU,upd,if_true,if_false]at hK ⊢;rw[e1]at hK ⊢;go_wp2_with fail;exact⟨fun _ _ h=>h,hW.ext (Kp.refl _ _) rfl,_,rfl⟩
    · have hz:=hW.kp.size;refine js ?_;simp (decide:=true)only[fU,upd,if_true,if_false]at hK ⊢;go_wp2_with fail;exact⟨jk.kp ((Kp.refl _ _).alloc _) eB.o.1,hW.ext ((Kp.refl _ _).alloc _) rfl,_,rfl,az.new _ _ _,hz⟩
    · refine js ?_;simp (decide:=true)only[fU,upd,if_true,if_false]at hK ⊢;go_wp2_with fail;exact⟨fun _ _ h=>h,hW.ext (Kp.refl _ _) rfl,rfl⟩
    · have e0:s 9=.pointer (some ⟨rb,0,none⟩):=hd 9 (by simp);have C8:=Zy (bQ W rb (_+eP D) v zs 5 hW.rd (by have:=wB D;omega) (by omega));have e1:eP (hG D 10)=eP D+1:=by unfold eP hG;simp[hD];try omega
      refine js ?_;simp (decide:=true)only[fU,upd,if_true,if_false]at hK ⊢;rw[e0]at hK ⊢;clear hd wB;go_wp2_with fail;refine C8.o.mono ?_;rintro e W' ⟨⟨k,rfl,hk⟩,DC,hK'⟩;go_wp2_with fail;exact⟨jk.kp hK' eB.o.1,⟨by rw[e1];exact DC,hW.kp.trans hK'⟩,k,by omega,rfl⟩
    · obtain⟨b,e1,hb,hz⟩:=hd 8 (by simp);obtain⟨k,hk,e2⟩:=hd 10 (by simp);obtain⟨u,hu, -⟩:=kL (k:=k) hb (by simpa using hk) (by decide);refine js ?_;simp (decide:=true)only[fU,upd,if_true,if_false]at hK ⊢;rw[e1,e2]at hK ⊢;go_wp2_with fail;exact⟨fun _ _ h=>h,hW.ext (Kp.refl _ _) rfl,b,k,u,by simp,hu,hz⟩
    · obtain⟨b,k,u,e1,hc, -⟩:=hd 11 (by simp);have FV:=ax hc;refine js ?_;simp (decide:=true)only[fU,upd,if_true,if_false]at hK ⊢;rw[e1]at hK ⊢;go_wp2_with fail;exact⟨fun _ _ h=>h,hW.ext (Kp.refl _ _) rfl,_,rfl⟩
    · obtain⟨k1,e0⟩:=hd 2 (by simp);obtain⟨k2,e1⟩:=hd 7 (by simp);obtain⟨k3,e2⟩:=hd 12 (by simp);refine js ?_;simp (decide:=true)only[fU,upd,if_true,if_false]at hK ⊢;rw[e0,e1,e2]at hK ⊢;go_wp2_with fail;exact⟨fun _ _ h=>h,hW.ext (Kp.refl _ _) rfl,_,_,_,rfl⟩
    · have hz:=hW.kp.size;refine js ?_;simp (decide:=true)only[fU,upd,if_true,if_false]at hK ⊢;go_wp2_with fail;exact⟨jk.kp ((Kp.refl _ _).alloc _) eB.o.1,hW.ext ((Kp.refl _ _).alloc _) rfl,_,rfl,az.new _ _ _,hz⟩
  · intro D s W gF hW hs;obtain⟨kd,kp,nm,e1⟩:=hs 13 (by omega);obtain⟨b,e2,hb,Hk⟩:=hs 14 (by omega);have hle:=wB D;have HW:=Zy hW;have HB:=Zy hb;have hz:=HB.o.lt;unfold fU;rw[e1,e2];clear hs wB gF hW;have c0:=hb.c 0 (.int .i64 0) rfl;have f0:=hb.frozen 0;have c1:=hb.c 1 (.int .i64 0) rfl;have f1:=hb.frozen 1;have c2:=hb.c 2 (.string ⟨#[]⟩) rfl;have f2:=hb.frozen 2;have c3:=hb.c 3 (.int .i64 0) rfl;have f3:=hb.frozen 3;have c4:=hb.c 4 (.string ⟨#[]⟩) rfl;have f4:=hb.frozen 4;have c5:=hb.c 5 (.string ⟨#[]⟩) rfl;have f5:=hb.frozen 5;have c6:=hb.c 6 (.slice none 0 0) rfl;have f6:=hb.frozen 6;have c7:=hb.c 7 (.slice none 0 0) rfl;have f7:=hb.frozen 7;clear hb;go_wp2_with fail;go_meet;exact⟨b,kd,kp,nm,rfl,HB.o.aI _ _ _ _ _ _ _ _,Hk,⟨_,by omega,HW.o.rd.turn (Kp.aI (D:=(·=b)) rfl _ _ _ _ _ _ _ _) (by have:=eB.o.1;omega) (fun h0 ad l c e=>by have:=eB.o.2 h0 ad l c e;omega)⟩,HW.o.kp.wO (Kp.aI (D:=(·=b)) rfl _ _ _ _ _ _ _ _) (fun k e=>.inr (by omega))⟩
 obtain⟨b,kd,kp,nm,rfl,hb,Hk,⟨q,hq,hR⟩,hK⟩:=hcut;obtain⟨w2,rfl⟩:∃w2,w2=wc:=⟨_,rfl⟩;have o5:Zz (rb≠b∧w1.heap.size≤b):=Zy ⟨by have:=eB.o.1;omega,Hk⟩;have iK:=Zy hb;have yK:=Zy hR;have Kr:=Zy hK;clear hb hR hK Hk;go_wp2_with fail;refine(xZ w2).mono ?_;rintro e w3 ⟨⟨vb,rfl,hS⟩,dX⟩;obtain⟨a,c,rfl, -, -⟩:=hS.form;obtain⟨bb,off,rfl⟩:∃b off,a=some ⟨b,off,none⟩:=by
  obtain⟨b',o',cs,e, -⟩:=hS.get (i:=0) (x:=_) rfl;exact⟨_,_,e⟩
 have A7:=Zy hS;have eQ:=Zy (iK.o.ext dX);have Av:=Zy (yK.o.ext dX);have EN:=Zy (Kr.o.trans dX.any);have Kk:Zz (b<w2.heap.size∧rb<w2.heap.size):=Zy ⟨iK.o.lt,yK.o.below.1⟩;have yM:Zz (w2.heap.size≤w3.heap.size):=Zy dX.size;clear hS dX;simp only[show M.blocks.length=11 from rfl]at A7 ⊢;have c0:=eQ.o.c 0 (.int .i64 kd) rfl;have cz:=eQ.o.lt;go_upto_if 27 with(fail);go_cut [] (fun wx=>il w1 rb b (q+4) v zs wx)
 case first =>
  cases jc:(kd==1)
  · go_wp2_with fail;go_meet;exact⟨_,_,_,_,_,_,_,_,_,_,eQ.o,⟨_,_,rfl,SliceOf.nil _ _ _ _,SliceOf.nil _ _ _ _⟩,Nat.le_add_right _ _,Av.o,EN.o⟩
  have EW:=Zy (bQ w3 rb q v zs 11 Av.o (by omega) (by omega));go_wp2_with fail;refine EW.o.mono ?_;rintro e w4 ⟨⟨k,rfl,hk⟩,FJ,Cm⟩;have FZ:k<11:=by omega
  obtain⟨xs,J7⟩:∃xs,M.blocks[k]?=some xs:=⟨M.blocks[k]'FZ,List.getElem?_eq_getElem FZ⟩;have Lp:=A7.o.keep sI.stays (Cm.same fun b hb e=>by have:=Kk.o;omega) (fun _ h=>h);obtain⟨b',o',cs,e, -,⟨v',rfl,hs⟩, -,h0⟩:=Lp.get J7;cases e;obtain⟨la,lc,rfl, -, -⟩:=hs.form;have hc:w4.cell? ⟨bb,off+k,none⟩=some (.slice la xs.length lc):=by simpa using h0.one
  have FV:=ax hc;have GY:Zz (jZ xs=true):=Zy (List.all_eq_true.1 xk xs (List.mem_of_getElem? J7));have PR:xs.length≤40:=by
   have:=GY.o;unfold jZ at this;simp only[Bool.and_eq_true,decide_eq_true_eq]at this;exact this.1.1
  have Nn:Zz (∀u∈xs,u.size≤40):=Zy (fun u hu=>by
   have:=GY.o;unfold jZ at this;simp only[Bool.and_eq_true,decide_eq_true_eq,List.all_eq_true]at this;exact(this.1.2 u hu).1)
  obtain⟨w5,dA,bg,b5⟩:=nu w4 #[.string ⟨#[107,101,101,112,101,114]⟩] 9;have wX:Zz (w5.ownsRow w4.heap.size 9 1 (.slice (some ⟨w4.heap.size,0,none⟩) 1 1) 1 [.string ⟨#[107,101,101,112,101,114]⟩]):=Zy ⟨rfl,.inr ⟨w4.heap.size,1,_,rfl,Nat.le_refl _,b5,Nat.le_refl _,by unfold maxLen;omega,by simp,by simp⟩⟩;have Ed:=Zy (SliceOf.toFlat (enc:=gI) (fun _ _ _ _ h=>h) (fun _=>rfl) rD (hs.ext aY.stays bg));have iq:=Zy (eQ.o.kp Cm (by have:=o5.o.1;omega));have IJ:=Zy FJ;have Iw:=Zy (EN.o.trans Cm);have kV:=Zy dA;have dh:=Zy bg;have Ov:w4.heap.size≤w5.heap.size:=bg.size;clear FJ Cm Lp hs h0 dA bg b5 hk J7 c0 cz EW;go_upto_region 5 with(fail);go_wp2_with (rw[←kV.o];refine ak nE w5 rfl (.tmp 36) (.tmp 37) rfl w4.heap.size (.slice (some ⟨w4.heap.size,0,none⟩) 1 1) 1 _ rfl wX.o la xs.length lc _ rfl Ed.o (by omega) Ov ?_;intro v6 w6 Dx Cn;have wY:=Zy Dx;have Iy:=Zy Cn;clear Dx Cn hc FV);have Bi:Ext w4 w6:=dh.o.own Iy.o (fun b hb=>(wX.o.lt b hb).1);have Md:SliceOf 1 aY w6 (fun b=>w4.heap.size≤b) v6 (⟨#[107,101,101,112,101,114]⟩::xs):=SliceOf.kP gI wY.o (Nat.add_comm _ _) rfl (fun _ _=>rfl) (fun _ _=>rfl) (fun _ h _=>h) (by simp;omega);have KC:=Zy (rP grown w6 _ v6 _ Md (fun u hu=>(List.mem_cons.1 hu).elim (fun e=>by subst e;decide) (fun h=>by have:=Nn.o u h;omega)) ⟨fun _=>rfl,fun h=>by omega,fun h=>by omega⟩ (uQ GY.o));have dn:=Zy (iq.o.ext Bi);have C9:=Zy (IJ.o.ext Bi);have Cb:=Zy (Iw.o.trans Bi.any);clear Bi Md;refine KC.o.mono ?_;rintro e w7 ⟨⟨pl,vp,nn,rfl,JU, -,Gf⟩,mE⟩;obtain⟨pa,pc,rfl, -, -⟩:=JU.form;obtain⟨w8,Gr,yx,b8⟩:=nu w7 #[.slice pa pl.length pc] 61;have sj:=Zy ((dn.o.ext mE).ext yx);have KP:=Zy ((C9.o.ext mE).ext yx);have Ku:=Zy (Cb.o.trans (mE.trans yx).any);have IE:=Zy b8;have Au:=Zy (JU.ext aA.stays yx);have Di:Zz (b<w6.heap.size∧w1.heap.size≤w6.heap.size):=Zy ⟨dn.o.lt,Cb.o.size⟩;have KV:=Zy Gr;clear Gr yx mE b8 JU KC;go_upto_region 6 with(fail);rw[←KV.o];have p0:=IE.o.c 0 (.slice pa pl.length pc) rfl;have pz:=IE.o.lt;go_upto_if 45 with(fail);go_cut [] (fun wx=>il w1 rb b (q+1) v zs wx)
  case first=>
   rcases Gf with rfl|⟨-, -, -,hg⟩
   · go_wp2_with fail;go_meet;exact⟨_,_,_,_,_,_,_,_,_,_,sj.o,⟨_,_,rfl,SliceOf.nil _ _ _ _,SliceOf.nil _ _ _ _⟩,Nat.le_refl _,KP.o,Ku.o⟩
   obtain⟨kq,rfl,F5⟩:=hg (by have:=GY.o;unfold jZ at this;cases xs with
    |nil=>simp at this
    |cons _ _=>simp)
   obtain⟨bk,ok,ks,rfl, -,NJ, -,mP⟩:=Au.o.get (i:=0) (x:=kq) rfl;obtain⟨vo,va,rfl,hO, -⟩:=NJ;obtain⟨oa,oc,rfl, -, -⟩:=hO.form;have uy:(0:Int)<(([kq].length:Nat):Int):=by simp
   obtain⟨x,hx⟩:∃x,kq.owns[0]?=some x:=by
    cases Ep:kq.owns with
    |nil=>exact absurd Ep F5
    |cons z _=>exact⟨z,rfl⟩
   have Gc:(0:Int)<kq.owns.length:=by have:=(List.getElem?_eq_some_iff.1 hx).1;omega
   obtain⟨bo,oo,cs,rfl,NS,Js, -,LD⟩:=hO.get hx;obtain⟨xa,xb,xc,xd,rfl⟩:=Js.form;obtain⟨k0, -⟩:=mP.two;obtain⟨x0,x1,x2,x3⟩:=LD.four;have iU:bo≠b:=by have:=Di.o;have:=NS;omega
   have jm:Zz (ai w8 (fun k=>w1.heap.size≤k∧k≠b) x [.string x.name,.string x.av,.slice xa x.fields.length xb,.slice xc x.methods.length xd]):=Zy (ai.stays _ _ _ _ _ _ (fun _ _ _ _ h=>h) (fun k hk=>⟨by have:=Di.o;omega,by have:=Di.o;omega⟩) Js);have bz:=sj.o.lt;have kz:=ax k0;have xz:=ax x0;have y2:=sj.o.c 2 (.string nm) rfl;have y4:=sj.o.c 4 (.string ⟨#[]⟩) rfl;have y5:=sj.o.c 5 (.string ⟨#[]⟩) rfl;have y6:=sj.o.c 6 (.slice none 0 0) rfl;have y7:=sj.o.c 7 (.slice none 0 0) rfl;have f2:=sj.o.frozen 2;have f4:=sj.o.frozen 4;have f5:=sj.o.frozen 5;have f6:=sj.o.frozen 6;have f7:=sj.o.frozen 7;clear hO Js mP LD hx F5 hg;simp only[Nat.zero_mul,Nat.add_zero]at k0 x0 x1 x2 x3;go_wp2_with fail;go_meet;have h5:=sj.o.Jk (.string x.name) (.string x.av) (.slice xa x.fields.length xb) (.slice xc x.methods.length xd) (.string x.name);exact il.put eB.o o5.o.2 h5.2 h5.1 jm.o (Nat.le_refl _) KP.o Ku.o
  clear KV kV wX Ed IE Au p0 pz Gf;obtain⟨kd,kp,nm,dst,x,a1,m1,a2,m2,q2,hb,hx,iV,hR,hK⟩:=hcut;obtain⟨w9,rfl⟩:∃w9,w9=wc:=⟨_,rfl⟩;have GG:=Zy hb;have Nl:=Zy hx;have GK:=Zy hK;have O4:=Zy hR;have KH:=Zy (bQ w9 rb q2 v zs 4 hR (by omega) (by omega));clear hb hx hK hR;go_wp2_with fail;refine KH.o.mono ?_;rintro e wQ ⟨⟨k10,rfl, -⟩,FH,mF⟩;have AV:=Zy (GG.o.kp mF (by have:=o5.o.1;omega));have I8:Zz (ai wQ _ _ _):=Zy (ai.stays _ _ _ _ _ _ (mF.same fun k hk e=>by have:=eB.o.1;omega) (fun _ h=>h) Nl.o);have E5:=Zy FH;have CU:=Zy (GK.o.trans mF);clear FH mF;cases En:((k10:Int)==0)
  · go_wp2_with fail;go_meet;exact⟨_,_,_,_,_,_,_,_,_,_,AV.o,I8.o,by omega,E5.o,CU.o⟩
  obtain⟨Gy,Gp,sS,b11⟩:=nu wQ #[.string ⟨#[110,111,110,101]⟩,.string ⟨#[111,116,104,101,114]⟩] 9;have EU:=Zy (bQ Gy rb (q2+1) v zs 2 (E5.o.ext sS) (by omega) (by omega));have AX:=Zy (AV.o.ext sS);have Ir:=Zy (CU.o.trans sS.any);have IA:=Zy b11;have Jc:Zz (w1.heap.size≤wQ.heap.size):=Zy CU.o.size;have I5:=Zy Gp;clear Gp sS b11 KH;go_wp2_with fail;rw[←I5.o];refine EU.o.mono ?_;rintro e BO ⟨⟨k12,rfl,JF⟩,FI,Bj⟩;obtain⟨u,hu, -⟩:=kL (k:=k12) (IA.o.kp Bj (by have:=eB.o.1;have:=Jc.o;omega)) (by simp;omega) (by decide);have Bo:k12<2:=by omega
  have uD:=Zy (AX.o.kp Bj (by have:=o5.o.1;omega));have IG:=Zy FI;have Iu:=Zy (Ir.o.trans Bj);obtain⟨Al,Bu⟩:∃Al,Al=BO.setCell ⟨b,2,none⟩ (.string u):=⟨_,rfl⟩;have Dz:Kp (·=b) BO Al:=by rw[Bu];exact(Kp.refl (·=b) BO).setCell (p:=⟨b,2,none⟩) (fun _=>rfl) _
  have CF:Zz (az Al b 28 (pG kd kp u dst x a1 m1 a2 m2)):=Zy (by rw[Bu];exact uD.o.bn 2 _);have II:=Zy (IG.o.turn Dz (by have:=o5.o;omega) (fun h0 ad l c e=>by have:=eB.o.2 h0 ad l c e;have:=o5.o;omega));have EM:=Zy (Iu.o.wO Dz (fun k e=>.inr (by have:=o5.o;omega)));have I6:=Zy Bu;have uz:=ax hu;have y2:=uD.o.c 2 (.string nm) rfl;have f2:=uD.o.frozen 2;have yz:=uD.o.lt;clear FI Bj Bu Dz EU JF;go_upto_region 11 with(fail);rw[←I6.o];clear hu uz y2 f2 yz;have Jd:Zz (w1.heap.size≤Al.heap.size∧b<Al.heap.size):=Zy ⟨EM.o.size,CF.o.lt⟩;have wB:=Ab;refine BI 9 [[],[0],[],[],[3],[2,4],[5],[1,6],[]] [67,68,69,70,71,72,73,74,75] (jX w1.heap.size rb b u) (si nY Al rb (q2+1+1) v zs) ⟨II.o.ext (Kp.refl _ _).drew,(Kp.refl _ _).drew⟩ ?_ ?_
  · intro D s W j hj hD hW hd K hK;have Ow:w1.heap.size≤W.heap.size:=by have:=hW.kp.size;have:=Jd.o;omega
    obtain rfl|rfl|rfl|rfl|rfl|rfl|rfl|rfl|rfl:j=0∨j=1∨j=2∨j=3∨j=4∨j=5∨j=6∨j=7∨j=8:=by omega
    · refine js ?_;simp (decide:=true)only[fD,upd,if_true,if_false,List.setIfInBounds_toArray,List.set_cons_succ,List.set_cons_zero,Nat.reduceAdd]at hK ⊢;go_wp2_with fail;exact⟨fun _ _ h=>h,hW.ext (Kp.refl _ _) rfl,rfl⟩
    · have e0:s 0=.pointer (some ⟨b,2,none⟩):=hd 0 (by simp);have Lt:=CF.o.kp hW.kp (by have:=o5.o.1;omega);have y2:=Lt.c 2 (.string u) rfl;have yz:=Lt.lt;refine js ?_;simp (decide:=true)only[fD,upd,if_true,if_false,List.setIfInBounds_toArray,List.set_cons_succ,List.set_cons_zero,Nat.reduceAdd]at hK ⊢;rw[e0]at hK ⊢;go_wp2_with fail;exact⟨fun _ _ h=>h,hW.ext (Kp.refl _ _) rfl,rfl⟩
    · have hz:=Ow;refine js ?_;simp (decide:=true)only[fD,upd,if_true,if_false,List.setIfInBounds_toArray,List.set_cons_succ,List.set_cons_zero,Nat.reduceAdd]at hK ⊢;go_wp2_with fail;exact⟨jX.kp ((Kp.refl _ _).alloc _) eB.o.1,hW.ext ((Kp.refl _ _).alloc _) rfl,_,rfl,az.new _ _ _,hz⟩
    · refine js ?_;simp (decide:=true)only[fD,upd,if_true,if_false,List.setIfInBounds_toArray,List.set_cons_succ,List.set_cons_zero,Nat.reduceAdd]at hK ⊢;go_wp2_with fail;exact⟨fun _ _ h=>h,hW.ext (Kp.refl _ _) rfl,rfl⟩
    · have e0:s 3=.pointer (some ⟨rb,0,none⟩):=hd 3 (by simp);have C8:=Zy (bQ W rb (_+nY D) v zs 2 hW.rd (by have:=wB D;omega) (by omega));have e1:nY (hG D 4)=nY D+1:=by unfold nY hG;simp[hD];try omega
      refine js ?_;simp (decide:=true)only[fD,upd,if_true,if_false,List.setIfInBounds_toArray,List.set_cons_succ,List.set_cons_zero,Nat.reduceAdd]at hK ⊢;rw[e0]at hK ⊢;clear hd wB;go_wp2_with fail;refine C8.o.mono ?_;rintro e W' ⟨⟨k,rfl,hk⟩,DC,hK'⟩;go_wp2_with fail;exact⟨jX.kp hK' eB.o.1,⟨by rw[e1];exact DC,hW.kp.trans hK'⟩,k,by omega,rfl⟩
    · obtain⟨b,e1,hb,hz⟩:=hd 2 (by simp);obtain⟨k,hk,e2⟩:=hd 4 (by simp);obtain⟨u,hu, -⟩:=kL (k:=k) hb (by simpa using hk) (by decide);refine js ?_;simp (decide:=true)only[fD,upd,if_true,if_false,List.setIfInBounds_toArray,List.set_cons_succ,List.set_cons_zero,Nat.reduceAdd]at hK ⊢;rw[e1,e2]at hK ⊢;go_wp2_with fail;exact⟨fun _ _ h=>h,hW.ext (Kp.refl _ _) rfl,b,k,u,by simp,hu,hz⟩
    · obtain⟨b,k,u,e1,hc, -⟩:=hd 5 (by simp);have FV:=ax hc;refine js ?_;simp (decide:=true)only[fD,upd,if_true,if_false,List.setIfInBounds_toArray,List.set_cons_succ,List.set_cons_zero,Nat.reduceAdd]at hK ⊢;rw[e1]at hK ⊢;go_wp2_with fail;exact⟨fun _ _ h=>h,hW.ext (Kp.refl _ _) rfl,_,rfl⟩
    · have e0:s 1=.string u:=hd 1 (by simp);obtain⟨k2,e1⟩:=hd 6 (by simp);refine js ?_;simp (decide:=true)only[fD,upd,if_true,if_false,List.setIfInBounds_toArray,List.set_cons_succ,List.set_cons_zero,Nat.reduceAdd]at hK ⊢;rw[e0,e1]at hK ⊢;go_wp2_with fail;exact⟨fun _ _ h=>h,hW.ext (Kp.refl _ _) rfl,_,rfl⟩
    · refine js ?_;simp (decide:=true)only[fD,upd,if_true,if_false,List.setIfInBounds_toArray,List.set_cons_succ,List.set_cons_zero,Nat.reduceAdd]at hK ⊢;go_wp2_with fail;exact⟨fun _ _ h=>h,hW.ext (Kp.refl _ _) rfl,rfl⟩
  · intro D s W gF hW hs;obtain⟨sp,e1⟩:=hs 7 (by omega);have e2:s 8=.pointer (some ⟨b,4,none⟩):=hs 8 (by omega);have hle:=wB D;have HW:=Zy hW;have Ao:=Zy (CF.o.kp hW.kp (by have:=o5.o.1;omega));have y4:=Ao.o.c 4 (.string x.name) rfl;have y5:=Ao.o.c 5 (.string x.av) rfl;have y6:=Ao.o.c 6 (.slice a1 x.fields.length m1) rfl;have y7:=Ao.o.c 7 (.slice a2 x.methods.length m2) rfl;have f4:=Ao.o.frozen 4;have f5:=Ao.o.frozen 5;have f6:=Ao.o.frozen 6;have f7:=Ao.o.frozen 7;have yz:=Ao.o.lt;simp (decide:=true)only[fD,List.setIfInBounds_toArray,List.set_cons_succ,List.set_cons_zero,Nat.reduceAdd];rw[e1,e2];clear hs wB gF hW e1 e2;go_wp2_with fail;go_meet;have h4:=Ao.o.Jj (.string u) (.string sp) (.slice none 0 0) (.slice none 0 0);exact il.put (x:=⟨u,sp,[],[]⟩) eB.o o5.o.2 h4.2 h4.1 ⟨_,_,rfl,SliceOf.nil _ _ _ _,SliceOf.nil _ _ _ _⟩ (by omega) HW.o.rd (EM.o.trans HW.o.kp)
 clear A7 eQ Av EN iK yK Kr Kk yM;obtain⟨Ms,PU,P5,Jl,xa,O6,PW,O8,PY,qa,hb,hx,PI,hR,hK⟩:=hcut;obtain⟨wa,rfl⟩:∃wa,wa=wc:=⟨_,rfl⟩;have GH:=Zy hb;have KY:=Zy hx;have Kw:=Zy hK;have KR:=Zy hR;clear hb hx hK hR;have c0:=GH.o.c 0 (.int .i64 Ms) rfl;have cz:=GH.o.lt;go_upto_if 78 with(fail);go_cut [] (fun wx=>il w1 rb b (q+5) v zs wx)
 case first=>
  cases Bp:(Ms==3)
  · go_wp2_with fail;go_meet;exact⟨_,_,_,_,_,_,_,_,_,_,GH.o,KY.o,by omega,KR.o,Kw.o⟩
  have MX:=Zy (bQ wa rb qa v zs 3 KR.o (by omega) (by omega));go_wp2_with fail;refine MX.o.mono ?_;rintro e wb ⟨⟨k,rfl, -⟩,Lj,He⟩;have GI:=Zy (GH.o.kp He (by have:=o5.o.1;omega));have Np:Zz (ai wb _ _ _):=Zy (ai.stays _ _ _ _ _ _ (He.same fun k hk e=>by have:=eB.o.1;omega) (fun _ h=>h) KY.o);have M4:=Zy Lj;have MO:=Zy (Kw.o.trans He);have y3:=GI.o.c 3 (.int .i64 Jl) rfl;have f3:=GI.o.frozen 3;have yz:=GI.o.lt;clear Lj He c0 cz;go_wp2_with fail;go_meet;exact il.put eB.o o5.o.2 ((Kp.refl (·=b) wb).setCell (p:=⟨b,3,none⟩) (fun _=>rfl) _) (GI.o.bn 3 _) Np.o (by omega) M4.o MO.o
 clear c0 cz;obtain⟨Oz,OA,OC,Jm,xc,O7,PX,O9,PZ,qc,hb,hx,PK,hR,hK⟩:=hcut;obtain⟨wd,rfl⟩:∃wd,wd=wc:=⟨_,rfl⟩;have MF:=Zy hb;have Nq:=Zy hx;have MP:=Zy hK;have M5:=Zy hR;clear hb hx hK hR;have KJ:=Zy (D6 wd rb qc v zs n M5.o (by omega) (by omega) (by omega));go_wp2_with fail;refine KJ.o.mono ?_;rintro e wf ⟨⟨od,rfl⟩,Ll,Hf⟩;have Kl:=Zy (MF.o.kp Hf (by have:=o5.o.1;omega));have KZ:Zz (ai wf _ _ _):=Zy (ai.stays _ _ _ _ _ _ (Hf.same fun k hk e=>by have:=eB.o.1;omega) (fun _ h=>h) Nq.o);have KS:=Zy Ll;have Kz:=Zy (MP.o.trans Hf);clear Ll Hf KJ;go_upto_if 84 with(fail);go_cut [] (fun wx=>il w1 rb b (q+8) v zs wx)
 case first=>
  cases od
  · go_wp2_with fail;go_meet;exact⟨_,_,_,_,_,_,_,_,_,_,Kl.o,KZ.o,by omega,KS.o,Kz.o⟩
  have KL:=Zy (bQ wf rb (qc+1) v zs 4 KS.o (by omega) (by omega));go_wp2_with fail;refine KL.o.mono ?_;rintro e wg ⟨⟨k,rfl,hk⟩,Lm,Hg⟩;have GJ:=Zy (Kl.o.kp Hg (by have:=o5.o.1;omega));have GZ:Zz (ai wg _ _ _):=Zy (ai.stays _ _ _ _ _ _ (Hg.same fun k hk e=>by have:=eB.o.1;omega) (fun _ h=>h) KZ.o);have GR:=Zy Lm;have Cc:=Zy (Kz.o.trans Hg);have F3:k=0∨k=1∨k=2∨k=3:=by omega
  clear Lm Hg hk KL;rcases F3 with rfl|rfl|rfl|rfl
  · obtain⟨wh,zJ,nL,bh⟩:=nu wg #[.int .i64 0,.int .i64 5] 3;have yJ:=Zy (bQ wh rb (qc+1+1) v zs 2 (GR.o.ext nL) (by omega) (by omega));have CP:=Zy (GJ.o.ext nL);have Df:Zz (ai wh _ _ _):=Zy (ai.stays _ _ _ _ _ _ (Ext.same nL) (fun _ h=>h) GZ.o);have CV:=Zy (Cc.o.trans nL.any);have CX:=Zy bh;have Dj:Zz (w1.heap.size≤wg.heap.size):=Zy Cc.o.size;have De:=Zy zJ;clear zJ nL bh;go_wp2_with fail;rw[←De.o];refine yJ.o.mono ?_;rintro e wi ⟨⟨j,rfl,hj⟩,zq,nM⟩;obtain⟨u,hu, -⟩:=mR (k:=j) (CX.o.kp nM (by have:=eB.o.1;have:=Dj.o;omega)) (by simp;omega) (by decide);have FW:j<2:=by omega
    have qL:=Zy (CP.o.kp nM (by have:=o5.o.1;omega));have Dg:Zz (ai wi _ _ _):=Zy (ai.stays _ _ _ _ _ _ (nM.same fun k hk e=>by have:=eB.o.1;omega) (fun _ h=>h) Df.o);have Db:=Zy zq;have CW:=Zy (CV.o.trans nM);have uz:=ax hu;have y0:=qL.o.c 0 (.int .i64 Oz) rfl;have f0:=qL.o.frozen 0;have yz:=qL.o.lt;clear zq nM hj yJ;go_wp2_with fail;go_meet;exact il.put eB.o o5.o.2 ((Kp.refl (·=b) wi).setCell (p:=⟨b,0,none⟩) (fun _=>rfl) _) (qL.o.bn 0 _) Dg.o (by omega) Db.o CW.o
  · obtain⟨wh,zJ,nL,bh⟩:=nu wg #[.int .i64 (-1),.int .i64 3] 3;have yJ:=Zy (bQ wh rb (qc+1+1) v zs 2 (GR.o.ext nL) (by omega) (by omega));have CP:=Zy (GJ.o.ext nL);have Df:Zz (ai wh _ _ _):=Zy (ai.stays _ _ _ _ _ _ (Ext.same nL) (fun _ h=>h) GZ.o);have CV:=Zy (Cc.o.trans nL.any);have CX:=Zy bh;have Dj:Zz (w1.heap.size≤wg.heap.size):=Zy Cc.o.size;have De:=Zy zJ;clear zJ nL bh;go_wp2_with fail;rw[←De.o];refine yJ.o.mono ?_;rintro e wi ⟨⟨j,rfl,hj⟩,zq,nM⟩;obtain⟨u,hu, -⟩:=mR (k:=j) (CX.o.kp nM (by have:=eB.o.1;have:=Dj.o;omega)) (by simp;omega) (by decide);have FW:j<2:=by omega
    have qL:=Zy (CP.o.kp nM (by have:=o5.o.1;omega));have Dg:Zz (ai wi _ _ _):=Zy (ai.stays _ _ _ _ _ _ (nM.same fun k hk e=>by have:=eB.o.1;omega) (fun _ h=>h) Df.o);have Db:=Zy zq;have CW:=Zy (CV.o.trans nM);have uz:=ax hu;have y0:=qL.o.c 1 (.int .i64 OA) rfl;have f0:=qL.o.frozen 1;have yz:=qL.o.lt;clear zq nM hj yJ;go_wp2_with fail;go_meet;exact il.put eB.o o5.o.2 ((Kp.refl (·=b) wi).setCell (p:=⟨b,1,none⟩) (fun _=>rfl) _) (qL.o.bn 1 _) Dg.o (by omega) Db.o CW.o
  · obtain⟨wh,zJ,nL,bh⟩:=nu wg #[.string ⟨#[]⟩,.string ⟨#[65]⟩] 9;have yJ:=Zy (bQ wh rb (qc+1+1) v zs 2 (GR.o.ext nL) (by omega) (by omega));have CP:=Zy (GJ.o.ext nL);have Df:Zz (ai wh _ _ _):=Zy (ai.stays _ _ _ _ _ _ (Ext.same nL) (fun _ h=>h) GZ.o);have CV:=Zy (Cc.o.trans nL.any);have CX:=Zy bh;have Dj:Zz (w1.heap.size≤wg.heap.size):=Zy Cc.o.size;have De:=Zy zJ;clear zJ nL bh;go_wp2_with fail;rw[←De.o];refine yJ.o.mono ?_;rintro e wi ⟨⟨j,rfl,hj⟩,zq,nM⟩;obtain⟨u,hu, -⟩:=kL (k:=j) (CX.o.kp nM (by have:=eB.o.1;have:=Dj.o;omega)) (by simp;omega) (by decide);have FW:j<2:=by omega
    have qL:=Zy (CP.o.kp nM (by have:=o5.o.1;omega));have Dg:Zz (ai wi _ _ _):=Zy (ai.stays _ _ _ _ _ _ (nM.same fun k hk e=>by have:=eB.o.1;omega) (fun _ h=>h) Df.o);have Db:=Zy zq;have CW:=Zy (CV.o.trans nM);have uz:=ax hu;have y0:=qL.o.c 2 (.string OC) rfl;have f0:=qL.o.frozen 2;have yz:=qL.o.lt;clear zq nM hj yJ;go_wp2_with fail;go_meet;exact il.put eB.o o5.o.2 ((Kp.refl (·=b) wi).setCell (p:=⟨b,2,none⟩) (fun _=>rfl) _) (qL.o.bn 2 _) Dg.o (by omega) Db.o CW.o
  · obtain⟨wh,zJ,nL,bh⟩:=nu wg #[.int .i64 (-1),.int .i64 3,.int .i64 1] 3;have yJ:=Zy (bQ wh rb (qc+1+1) v zs 3 (GR.o.ext nL) (by omega) (by omega));have CP:=Zy (GJ.o.ext nL);have Df:Zz (ai wh _ _ _):=Zy (ai.stays _ _ _ _ _ _ (Ext.same nL) (fun _ h=>h) GZ.o);have CV:=Zy (Cc.o.trans nL.any);have CX:=Zy bh;have Dj:Zz (w1.heap.size≤wg.heap.size):=Zy Cc.o.size;have De:=Zy zJ;clear zJ nL bh;go_wp2_with fail;rw[←De.o];refine yJ.o.mono ?_;rintro e wi ⟨⟨j,rfl,hj⟩,zq,nM⟩;obtain⟨u,hu, -⟩:=mR (k:=j) (CX.o.kp nM (by have:=eB.o.1;have:=Dj.o;omega)) (by simp;omega) (by decide);have FW:j<3:=by omega
    have qL:=Zy (CP.o.kp nM (by have:=o5.o.1;omega));have Dg:Zz (ai wi _ _ _):=Zy (ai.stays _ _ _ _ _ _ (nM.same fun k hk e=>by have:=eB.o.1;omega) (fun _ h=>h) Df.o);have Db:=Zy zq;have CW:=Zy (CV.o.trans nM);have uz:=ax hu;have y0:=qL.o.c 3 (.int .i64 Jm) rfl;have f0:=qL.o.frozen 3;have yz:=qL.o.lt;clear zq nM hj yJ;go_wp2_with fail;go_meet;exact il.put eB.o o5.o.2 ((Kp.refl (·=b) wi).setCell (p:=⟨b,3,none⟩) (fun _=>rfl) _) (qL.o.bn 3 _) Dg.o (by omega) Db.o CW.o
 obtain⟨Hv,Hx,HH,Bd,xe,G6,Hy,G7,Hz,qe,hb,hx,PL,hR,hK⟩:=hcut;obtain⟨we,rfl⟩:∃we,we=wc:=⟨_,rfl⟩;have AY:=Zy hb;have Nr:=Zy hx;have Ky:=Zy hK;have M6:=Zy hR;clear hb hx hK hR;have rX:=Zy (ME.o.kp Ky.o (by have:=KQ.o;omega));have y0:=AY.o.c 0 (.int .i64 Hv) rfl;have y1:=AY.o.c 1 (.int .i64 Hx) rfl;have y2:=AY.o.c 2 (.string HH) rfl;have y3:=AY.o.c 3 (.int .i64 Bd) rfl;have y4:=AY.o.c 4 (.string xe.name) rfl;have y5:=AY.o.c 5 (.string xe.av) rfl;have y6:=AY.o.c 6 (.slice G6 xe.fields.length Hy) rfl;have y7:=AY.o.c 7 (.slice G7 xe.methods.length Hz) rfl;have z0:=rX.o.c 0 (.int .i64 0) rfl;have g0:=rX.o.frozen 0;have z1:=rX.o.c 1 (.int .i64 0) rfl;have g1:=rX.o.frozen 1;have z2:=rX.o.c 2 (.string ⟨#[]⟩) rfl;have g2:=rX.o.frozen 2;have z3:=rX.o.c 3 (.int .i64 0) rfl;have g3:=rX.o.frozen 3;have z4:=rX.o.c 4 (.string ⟨#[]⟩) rfl;have g4:=rX.o.frozen 4;have z5:=rX.o.c 5 (.string ⟨#[]⟩) rfl;have g5:=rX.o.frozen 5;have z6:=rX.o.c 6 (.slice none 0 0) rfl;have g6:=rX.o.frozen 6;have z7:=rX.o.c 7 (.slice none 0 0) rfl;have g7:=rX.o.frozen 7;have yz:=AY.o.lt;have zz:=rX.o.lt;have FIN:Zz (∀v0 v1 v2 v3 v4 v5 v6 v7,Kp (·=w.heap.size) we ((((((((we.setCell ⟨w.heap.size,0,none⟩ v0).setCell ⟨w.heap.size,1,none⟩ v1).setCell ⟨w.heap.size,2,none⟩ v2).setCell ⟨w.heap.size,3,none⟩ v3).setCell ⟨w.heap.size,4,none⟩ v4).setCell ⟨w.heap.size,5,none⟩ v5).setCell ⟨w.heap.size,6,none⟩ v6).setCell ⟨w.heap.size,7,none⟩ v7)):=Zy (fun _ _ _ _ _ _ _ _=>Kp.aI (D:=(·=w.heap.size)) rfl _ _ _ _ _ _ _ _);have kW:Zz (w1.heap.size=w.heap.size+1):=Zy (by have:=Aw.o;rw[this];simp);go_wp2_with fail;refine bodyPost_ret (jE aF rfl _ _ w.heap.size rfl [.int .i64 Hv,.int .i64 Hx,.string HH,.int .i64 Bd,.string xe.name,.string xe.av,.slice G6 xe.fields.length Hy,.slice G7 xe.methods.length Hz] (af.cO (rX.o.aI _ _ _ _ _ _ _ _)) rfl) rfl ?_;have hP:=FIN.o (.int .i64 Hv) (.int .i64 Hx) (.string HH) (.int .i64 Bd) (.string xe.name) (.string xe.av) (.slice G6 xe.fields.length Hy) (.slice G7 xe.methods.length Hz);exact⟨⟨Hv,Hx,HH,Bd,xe,G6,Hy,G7,Hz,rfl,ai.stays _ _ _ _ _ _ (hP.same fun k hk e=>by have:=kW.o;omega) (fun k hk=>by have:=kW.o;omega) Nr.o⟩,⟨qe,by omega,M6.o.turn hP (by have:=KQ.o;omega) (fun h0 ad l c e=>by have:=EO.o h0 ad l c e;omega)⟩,(bM.o.any.trans Ky.o).wO hP (fun k e=>.inr (by omega))⟩
theorem lW(c:M.mf)(n:Bool):(dL c n).size≤20:=by
 unfold dL;split
 · rename_i h;obtain⟨-, -,hn, -⟩:=M.bA (Bool.and_eq_true_iff.1 h).1;have hs:=iH hn;have hd:c.name.data.toList.length=c.name.size:=by
    show c.name.data.toList.length=c.name.data.size
    exact Array.length_toList
   rw[kG];unfold M.bO;split
   · simp[M.jL,M.digit];omega
   · split
     · simp[M.ny,M.digit];omega
     · split
       · simp[M.jy,M.digit];omega
       · simp
 · decide
theorem uh(w:World)(I:Nat→Prop)(kd kp:Int)(nm:ByteArray)(dst:Int)(x:M.Class)(a1:Option Addr)(m1:Nat)(a2:Option Addr)(m2:Nat)
    (hx:ai w I x [.string x.name,.string x.av,.slice a1 x.fields.length m1,.slice a2 x.methods.length m2]):
    Calls Tryz.prog 9 #[.agg (pG kd kp nm dst x a1 m1 a2 m2)] w fun e w'=>pY 20 e∧Ext w w':=by
 by_cases hk:kd=1
 · subst hk;exact(kS kp nm dst x I _ w hx).mono fun e w' ⟨h1,h2⟩=>⟨⟨_,h1,by decide⟩,h2⟩
 · exact(bY ⟨kd,kp,nm,dst⟩ hk x.name x.av a1 x.fields.length m1 a2 x.methods.length m2 w).mono fun e w' ⟨h1,h2⟩=>⟨⟨_,h1,lW _ _⟩,h2⟩
theorem oF(w:World)(v:Value)(zs:List Int)(h:BytesAt w v zs):
    Calls Tryz.prog 4 #[v] w fun e w'=>vR w w' e∧Ext w w':=by
 obtain⟨va,vc,rfl⟩:=h.form;obtain⟨w1,lH,aQ,b1⟩:=nu w #[.int .i64 0,.int .i64 0,.string ⟨#[]⟩,.int .i64 0,.string ⟨#[]⟩,.string ⟨#[]⟩,.slice none 0 0,.slice none 0 0] 28;have kW:Zz (w1.heap.size=w.heap.size+1):=Zy (by rw[lH];simp);have ES:=Zy (wP w1 _ zs (h.ext aQ));have gJ:=Zy b1;have Aw:=Zy lH;have bM:=Zy aQ;clear h lH aQ b1;go_enter Tryz.func4,Tryz.ntmps4;go_wp2_with fail;rw[←Aw.o];refine ES.o.mono ?_;rintro e w2 ⟨⟨rb,v',zs',rfl,Gh,AJ⟩,dm⟩;have Da:=Zy Gh;have iK:=Zy (gJ.o.ext dm);have bX:=Zy (bM.o.trans dm);have EG:=Zy (kR w2 rb 0 v' zs' 5 AJ (by omega) (by omega) (by omega));clear Gh AJ dm ES;go_wp2_with fail;refine EG.o.mono ?_;rintro e w3 ⟨⟨kd,kp,nm,dst,x,a1,m1,a2,m2,rfl,hx⟩, -,Ej⟩;have dX:Ext w w3:=bX.o.own Ej fun b e=>by have:=Da.o;have:=kW.o;omega
 have eQ:=Zy (iK.o.kp Ej (by have:=Da.o;have:=kW.o;omega));have I9:=Zy hx;have fF:=Zy dX;have mJ:Zz (w.heap.size<w2.heap.size):=Zy (by have:=iK.o.lt;omega);have y0:=eQ.o.c 0 (.int .i64 0) rfl;have y1:=eQ.o.c 1 (.int .i64 0) rfl;have y2:=eQ.o.c 2 (.string ⟨#[]⟩) rfl;have y3:=eQ.o.c 3 (.int .i64 0) rfl;have y4:=eQ.o.c 4 (.string ⟨#[]⟩) rfl;have y5:=eQ.o.c 5 (.string ⟨#[]⟩) rfl;have y6:=eQ.o.c 6 (.slice none 0 0) rfl;have y7:=eQ.o.c 7 (.slice none 0 0) rfl;have f0:=eQ.o.frozen 0;have f1:=eQ.o.frozen 1;have f2:=eQ.o.frozen 2;have f3:=eQ.o.frozen 3;have f4:=eQ.o.frozen 4;have f5:=eQ.o.frozen 5;have f6:=eQ.o.frozen 6;have f7:=eQ.o.frozen 7;have yz:=eQ.o.lt;clear hx Ej dX EG;go_wp2_with fail;refine bodyPost_ret (jE aF rfl _ _ w.heap.size rfl [.int .i64 kd,.int .i64 kp,.string nm,.int .i64 dst,.string x.name,.string x.av,.slice a1 x.fields.length m1,.slice a2 x.methods.length m2] (af.cO (eQ.o.aI _ _ _ _ _ _ _ _)) rfl) rfl ?_;have hP:=Kp.aI (D:=(·=w.heap.size)) (w:=w3) (b:=w.heap.size) rfl (.int .i64 kd) (.int .i64 kp) (.string nm) (.int .i64 dst) (.string x.name) (.string x.av) (.slice a1 x.fields.length m1) (.slice a2 x.methods.length m2);exact⟨⟨kd,kp,nm,dst,x,a1,m1,a2,m2,rfl,ai.stays _ _ _ _ _ _ (hP.same fun k hk e=>by have:=mJ.o;omega) (fun k hk=>by have:=mJ.o;omega) I9.o⟩,fF.o.own hP (fun k e=>by omega)⟩
theorem oD(w:World)(v:Value)(zs:List Int)(h:BytesAt w v zs):
    Calls Tryz.prog 5 #[v] w fun e w'=>pY 100 e∧Ext w w':=by
 obtain⟨va,vc,rfl⟩:=h.form;have ES:=Zy (wP w _ zs h);clear h;go_enter Tryz.func5,Tryz.ntmps5;go_wp2_with fail;refine ES.o.mono ?_;rintro e w2 ⟨⟨rb,v',zs',rfl,Gh,AJ⟩,dm⟩;have Da:=Zy Gh;have O5:=Zy AJ.below.1;have bX:=Zy dm;have EG:=Zy (kR w2 rb 0 v' zs' 99999 AJ (by omega) (by omega) (by omega));clear Gh AJ dm ES;go_wp2_with fail;refine EG.o.mono ?_;rintro e w3 ⟨⟨kd,kp,nm,dst,x,a1,m1,a2,m2,rfl,hx⟩,⟨q,hq,Lg⟩,Ej⟩;have fF:Zz (Ext w w3):=Zy (bX.o.own Ej fun b e=>by have:=Da.o;omega);have KU:=Zy (uh w3 _ kd kp nm dst x a1 m1 a2 m2 hx);have Av:=Zy Lg;clear hx Ej Lg EG;go_wp2_with fail;refine KU.o.mono ?_;rintro e w4 ⟨⟨t,rfl,ht⟩,dw⟩;have pq:=Zy (fF.o.trans dw);have EX:=Zy (bQ w4 rb q v' zs' 4 (Av.o.ext dw) (by omega) (by omega));clear dw KU;go_wp2_with fail;refine EX.o.mono ?_;rintro e w5 ⟨⟨k,rfl, -⟩,Lh,Lc⟩;have dh:Zz (Ext w w5):=Zy (pq.o.own Lc fun b e=>by have:=Da.o;omega);have IK:=Zy Lh;clear Lh Lc EX;cases En:((k:Int)==0)
 · cases jc:((k:Int)==1)
   · go_wp2_with fail;go_ret;exact⟨⟨_,rfl,by omega⟩,dh.o⟩
   · obtain⟨w6,Mk,bu,b6⟩:=nu w5 #[.string ⟨#[]⟩,.string ⟨#[116,97,107,101,32,48]⟩,.string ⟨#[116,97,107,101,32,51,32,116,111,112]⟩,.string ⟨#[97,115,107,32,48,32,116,111,112]⟩,.string ⟨#[97,115,107,32,48,32,116,111,112,32,51]⟩,.string ⟨#[102,114,101,101,32,48,49,32,97]⟩,.string ⟨#[103,105,118,101,32,48,32,116,111,112]⟩,.string ⟨#[116,97,107,101,32,48,32,116,111,112,32,49]⟩] 9;have KG:=Zy (bQ w6 rb (q+1) v' zs' 8 (IK.o.ext bu) (by omega) (by omega));have iN:=Zy (dh.o.trans bu);have dn:=Zy b6;have kZ:=Zy IK.o.below.1;have Ni:=Zy Mk;clear Mk bu b6;go_wp2_with fail;rw[←Ni.o];refine KG.o.mono ?_;rintro e w7 ⟨⟨j,rfl,hj⟩,NM,Bl⟩;obtain⟨u,hu,PQ⟩:=kL (k:=j) (dn.o.kp Bl (by have:=kZ.o;omega)) (by simp;omega) (by decide);have Pt:j<8:=by omega
     have iO:Zz (Ext w w7):=Zy (iN.o.own Bl fun b e=>by have:=Da.o;omega);have uz:=ax hu;clear hj NM Bl KG;go_wp2_with fail;go_ret;exact⟨⟨_,rfl,by omega⟩,iO.o⟩
 · have MC:=Zy (BG w5 rb (q+1) v' zs' t IK.o (by omega) (by omega));go_wp2_with fail;refine MC.o.mono ?_;rintro e w6 ⟨⟨u,rfl,hu⟩, -,Cn⟩;have iN:Zz (Ext w w6):=Zy (dh.o.own Cn fun b e=>by have:=Da.o;omega);clear Cn;go_wp2_with fail;go_ret;exact⟨⟨_,rfl,by omega⟩,iN.o⟩
end Go.Proofs.YtmcmhalhieejaaaGreatDoor
namespace Go.Proofs.YtmcmhalhieejaaaGreatDoor
open Go Go.RowKit
namespace M
theorem tF(r:List UInt8):Lib.index (32::r) [32]=0:=by
 rw[Lib.index_one];simp[Lib.indexByte]
theorem rf{c:UInt8}(r:List UInt8)(h:c≠32):Lib.index (c::r) [32]=if Lib.index r [32]= -1 then -1 else Lib.index r [32]+1:=by
 rw[Lib.index_one,Lib.index_one];simp[Lib.indexByte,h]
theorem jK:∀(l cur:List UInt8) (k:Nat),l.count 32≤k→∃h t,Lib.splitK [32] 0 k l=h::t∧aU cur l=(cur++h)::t
 | [], cur, k, _ => by
  refine⟨[],[],?_,by simp[aU]⟩;cases k with
  |zero=>rfl
  |succ k=>
   have:Lib.index [] [32]= -1:=by rw[Lib.index_one];rfl
   rw[Lib.splitK,this];rfl
 | c :: r, cur, k, hk => by
  by_cases h:c=32
  · subst h;rw[List.count_cons_self]at hk;obtain⟨k,rfl⟩:∃j,k=j+1:=⟨k - 1,by omega⟩;obtain⟨h,t,e1,e2⟩:=jK r [] k (by omega);refine⟨[],h::t,?_,?_⟩
    · rw[Lib.splitK,tF];simpa using e1
    · rw[aU,if_pos rfl,e2];simp
  · rw [List.count_cons_of_ne h] at hk; obtain ⟨h', t, e1, e2⟩ := jK r (cur ++ [c]) k hk; refine ⟨c :: h', t, ?_, by rw [aU, if_neg h, e2]; simp⟩; cases k with
    |zero=>
     rw[Lib.splitK]at e1 ⊢;obtain⟨rfl,rfl⟩:=List.cons.inj e1;rfl
    |succ k=>
     rw[Lib.splitK]at e1 ⊢;rw[rf r h];by_cases hi:Lib.index r [32]= -1
     · rw[if_pos hi];rw[hi]at e1;simp only[BEq.rfl,if_true]at e1 ⊢;obtain⟨rfl,rfl⟩:=List.cons.inj e1;rfl
     · rw[if_neg hi];have Hl:=Lib.index_ge r [32];obtain⟨i,NZ⟩:∃i:Nat,Lib.index r [32]=i:=⟨(Lib.index r [32]).toNat,by omega⟩;rw[NZ]at e1 ⊢;have n1:((i:Int)== -1)=false:=beq_eq_false_iff_ne.2 (by omega);have n2:((i:Int)+1== -1)=false:=beq_eq_false_iff_ne.2 (by omega);have n3:((i:Int)+1).toNat=i+1:=by omega
       rw[n1]at e1;rw[n2,n3];simp only[Bool.false_eq_true,if_false,Int.toNat_natCast,Nat.add_zero,List.length_singleton]at e1 ⊢;obtain⟨rfl,rfl⟩:=List.cons.inj e1;rw[List.take_succ_cons,List.drop_succ_cons]
theorem ui(s:ByteArray):Lib.splitB ⟨#[32]⟩ 0 (Lib.countB s ⟨#[32]⟩) s=words s:=by
 have h1:=Lib.splitB_data ⟨#[32]⟩ 0 (Lib.countB s ⟨#[32]⟩) s;obtain⟨h,t,e1,e2⟩:=jK s.data.toList [] (Lib.countB s ⟨#[32]⟩) (by rw[←Lib.count_one];exact Nat.le_refl _);have e3:Lib.splitK [32] 0 (Lib.countB s ⟨#[32]⟩) s.data.toList=aU [] s.data.toList:=by rw[e1,e2];rfl
 unfold words;rw[←e3,←h1,List.map_map];exact(List.map_id _).symm
theorem qG(s:ByteArray):Lib.countB s ⟨#[32]⟩+1=(words s).length:=by
 rw[←ui,Lib.splitB_all ⟨#[32]⟩ (by decide) 0 _ s rfl]
end M
theorem Aj(s:ByteArray)(w:World)(hs:s.size≤4000000000)(hv:dK w):
    Calls Tryz.prog 18 #[.string s,.string ⟨#[32]⟩] w fun e w'=>(∃v,e=.returned v∧SliceOf 1 aY w' (fun b=>w.heap.size≤b∧b<w'.heap.size) v (M.words s))∧Ext w w':=by
 obtain⟨m,hm⟩:=hv.max;refine(Tryz.strings_Split s ⟨#[32]⟩ m w (by omega) hm (by decide)).mono ?_;rintro e w1 ⟨rfl,rfl⟩;rw[M.ui,M.qG];refine⟨⟨_,rfl,_,_,rfl,Nat.le_refl _,?_,fun i x hx=>⟨w.heap.size,0,gI x,rfl,⟨Nat.le_refl _,by simp⟩,rfl,rfl,fun j u hj=>?_⟩⟩,(Kp.refl _ _).alloc _⟩
 · rw[←M.qG];have:=Lib.countB_le ⟨#[32]⟩ (by decide) _ s (Nat.le_refl _);omega
 · have DN:j=0:=by
    cases j with
    |zero=>rfl
    |succ j=>simp[gI]at hj
   subst DN;simp[gI]at hj;subst hj;rw[(az.new w 9 _).cell];simp[List.getElem?_map,hx]
end Go.Proofs.YtmcmhalhieejaaaGreatDoor
