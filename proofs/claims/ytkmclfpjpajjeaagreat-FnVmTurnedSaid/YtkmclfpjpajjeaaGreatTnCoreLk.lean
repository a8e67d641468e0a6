/- Walks. -/
import Derived.Test.YtkmclfpjpajjeaaGreatTnCoreLj
set_option maxRecDepth 100000
set_option maxHeartbeats 4000000
set_option linter.unusedSimpArgs false
set_option linter.unusedVariables false
namespace Go.Proofs.YtkmclfpjpajjeaaGreat
open Go Go.RowKit
def Xk(o:Option Nat):Int:=o.elim (-1) fun n=>n
theorem CS{α:Type}{f:α→Bool}{l:List α}{k:Nat}{x:α}(h:∀y∈l.take k,f y=false)(hx:l[k]?=some x)(hf:f x=true):l.findIdx? f=some k:=by
 obtain⟨hk,hxe⟩:=List.getElem?_eq_some_iff.1 hx;rw[List.findIdx?_eq_some_iff_getElem];refine⟨hk,by rw[hxe];exact hf,fun j hj=>?_⟩;have:=h l[j] (by rw[List.mem_iff_getElem?];exact⟨j,by rw[List.getElem?_take,if_pos hj];exact List.getElem?_eq_getElem _⟩);rw[this];decide
theorem Am{α:Type}{f:α→Bool}{l:List α}{k:Nat}(h:∀y∈l.take k,f y=false)(hk:l.length≤k):l.findIdx? f=none:=by
 rw[List.take_of_length_le hk]at h;rw[List.findIdx?_eq_none_iff];exact h
theorem Ba{α:Type}{f:α→Bool}{l:List α}{k:Nat}{x:α}(h:∀y∈l.take k,f y=false)(hx:l[k]?=some x)(hf:f x=false):∀y∈l.take (k+1),f y=false:=by
 intro y hy;rw[List.take_add_one,hx]at hy;rcases List.mem_append.1 hy with h'|h'
 · exact h y h'
 · simp at h';subst h';exact hf
theorem RX(w:World)(I:Nat→Prop)(cs:List Value)(m:M.Method)(hm:aG w I m cs)(b:Nat)(n:ByteArray)(hb:w.cell? ⟨b,0,none⟩=some (.string n)):
    Calls Tryz.prog 148 #[.agg cs.toArray,.pointer (some ⟨b,0,none⟩)] w fun e w'=>e=.returned (.bool (decide (m.name=n)))∧Ext w w':=by
 obtain⟨va,vc,vm,rfl, -, -, -⟩:=hm;have hz:=aF hb;go_enter Tryz.func148,Tryz.ntmps148;go_wp2;go_ret;exact⟨af (iV _ _),kx⟩
theorem Uk(w:World)(f:M.Field)(b:Nat)(n:ByteArray)(hb:w.cell? ⟨b,0,none⟩=some (.string n)):
    Calls Tryz.prog 174 #[.agg #[.string f.name,.int .i64 f.kind.kind,.string f.kind.name],.pointer (some ⟨b,0,none⟩)] w fun e w'=>e=.returned (.bool (decide (f.name=n)))∧Ext w w':=by
 have hz:=aF hb;go_enter Tryz.func174,Tryz.ntmps174;go_wp2;go_ret;exact⟨af (iV _ _),kx⟩
theorem RF(w:World)(I:Nat→Prop)(v:Value)(l:List M.Method)(h:SliceOf 8 aG w I v l)(b:Nat)(n:ByteArray)(hb:w.cell? ⟨b,0,none⟩=some (.string n)):
    Calls Tryz.prog 147 #[v,.func (.func 148) #[] #[.pointer (some ⟨b,0,none⟩)]] w fun e w'=>
     e=.returned (.int .i64 (Xk (l.findIdx? fun m=>decide (m.name=n))))∧Ext w w':=by
 obtain⟨a,cap,rfl,hn,dm⟩:=h.form;go_enter Tryz.func147,Tryz.ntmps147;go_wp2;go_loopw [8] (fun i wr=>∃k:Nat,k≤l.length∧i=.int .i64 k∧Ext w wr∧Zs (∀y∈l.take k,decide (M.Method.name y=n)=false)) (fun i _=>l.length - (intOf i).toNat)
 case atStart=>exact⟨0,Nat.zero_le _,rfl,Kp.rr,Z3 Wf⟩
 case round =>
  obtain⟨k,hk,rfl,hE,HA⟩:=hrel;by_cases bY:k<l.length
  · obtain⟨x,hx⟩:=get_some bY;obtain⟨b',off,cs,rfl,hI,mF, -,hc⟩:=h.get hx;have HM:=Z3 (aG.stays _ _ _ _ _ _ hE.same (fun _ h=>h) mF);obtain⟨va,vc,vm,rfl, -, -, -⟩:=mF;obtain⟨g0,g1,g2,g3,g4,g5,g6,g7⟩:=(hc.ext hE).eight;have UZ:=hE.aD hb;have HX:=Z3 hx;clear hx hc;cases ht:decide (x.name=n)
    all_goals
     have HT:=Z3 ht;clear ht;go_wp2_with (go_at_call 148;refine(RX _ _ _ _ HM.o _ _ UZ).mono ?_;rintro e w1 ⟨rfl,hB⟩;rw[HT.o])
    · go_roundw
      case rel=>exact⟨k+1,by omega,by go_num,ZS,Z3 (Ba HA.o HX.o HT.o)⟩
      case measure=>simp[intOf];omega
    · go_ret;exact⟨by rw[CS HA.o HX.o HT.o];rfl,ZS⟩
  · go_wp2;go_ret;exact⟨by rw[Am HA.o Wg];rfl,kx⟩
theorem Vz(w:World)(I:Nat→Prop)(v:Value)(l:List M.Field)(h:SliceOf 3 eF w I v l)(b:Nat)(n:ByteArray)(hb:w.cell? ⟨b,0,none⟩=some (.string n)):
    Calls Tryz.prog 173 #[v,.func (.func 174) #[] #[.pointer (some ⟨b,0,none⟩)]] w fun e w'=>
     e=.returned (.int .i64 (Xk (l.findIdx? fun m=>decide (M.Field.name m=n))))∧Ext w w':=by
 obtain⟨a,cap,rfl,hn,dm⟩:=h.form;go_enter Tryz.func173,Tryz.ntmps173;go_wp2;go_loopw [8] (fun i wr=>∃k:Nat,k≤l.length∧i=.int .i64 k∧Ext w wr∧Zs (∀y∈l.take k,decide (M.Field.name y=n)=false)) (fun i _=>l.length - (intOf i).toNat)
 case atStart=>exact⟨0,Nat.zero_le _,rfl,Kp.rr,Z3 Wf⟩
 case round =>
  obtain⟨k,hk,rfl,hE,HA⟩:=hrel;by_cases bY:k<l.length
  · obtain⟨x,hx⟩:=get_some bY;obtain⟨b',off,cs,rfl,hI,rfl, -,hc⟩:=h.get hx;obtain⟨g0,g1,g2⟩:=(hc.ext hE).three;have UZ:=hE.aD hb;have HX:=Z3 hx;clear hx hc;cases ht:decide (x.name=n)
    all_goals
     have HT:=Z3 ht;clear ht;go_wp2_with (go_at_call 174;refine(Uk _ _ _ _ UZ).mono ?_;rintro e w1 ⟨rfl,hB⟩;rw[HT.o])
    · go_roundw
      case rel=>exact⟨k+1,by omega,by go_num,ZS,Z3 (Ba HA.o HX.o HT.o)⟩
      case measure=>simp[intOf];omega
    · go_ret;exact⟨by rw[CS HA.o HX.o HT.o];rfl,ZS⟩
  · go_wp2;go_ret;exact⟨by rw[Am HA.o Wg];rfl,kx⟩
theorem Ch(w:World)(I:Nat→Prop)(cs:List Value)(c:M.Class)(h:aP w I c cs)(n:ByteArray):
    Calls Tryz.prog 123 #[.agg cs.toArray,.string n] w fun e w'=>e=.returned (.int .i64 (Xk (M.lM c n)))∧Ext w w':=by
 obtain⟨vf,vm,rfl,s1,s2⟩:=h;have aU:Ext w ((w.alloc (.cells #[.string c.name,.string c.aL,vf,vm] 75)).alloc (.cells #[.string n] 9)):=kx;have b1:=(ay.new (w.alloc (.cells #[.string c.name,.string c.aL,vf,vm] 75)) 9 #[.string n]).c 0 (.string n) rfl;simp only[World.size_alloc]at b1;go_enter Tryz.func123,Tryz.ntmps123;go_wp2_with fail;refine(RF _ _ _ _ (s2.ext aG.stays aU) _ _ b1).mono ?_;rintro e w1 ⟨rfl,hB⟩;go_wp2;go_ret;exact⟨rfl,ZS⟩
theorem LA(w:World)(I:Nat→Prop)(cs:List Value)(c:M.Class)(h:aP w I c cs)(n:ByteArray):
    Calls Tryz.prog 145 #[.agg cs.toArray,.string n] w fun e w'=>e=.returned (.int .i64 (Xk (M.uw c n)))∧Ext w w':=by
 obtain⟨vf,vm,rfl,s1,s2⟩:=h;have aU:Ext w ((w.alloc (.cells #[.string c.name,.string c.aL,vf,vm] 75)).alloc (.cells #[.string n] 9)):=kx;have b1:=(ay.new (w.alloc (.cells #[.string c.name,.string c.aL,vf,vm] 75)) 9 #[.string n]).c 0 (.string n) rfl;simp only[World.size_alloc]at b1;go_enter Tryz.func145,Tryz.ntmps145;go_wp2_with fail;refine(Vz _ _ _ _ (s1.ext eF.stays aU) _ _ b1).mono ?_;rintro e w1 ⟨rfl,hB⟩;go_wp2;go_ret;exact⟨rfl,ZS⟩
theorem Ol{α:Type}{a b:List α}(hl:a.length=b.length){k:Nat}(h:∀j x y,j<k→a[j]?=some x→b[j]?=some y→x=y)(hk:a.length≤k):a=b:=by
 apply List.ext_getElem?;intro j;by_cases hj:j<a.length
 · have h1:=List.getElem?_eq_getElem hj;have h2:b[j]?=some b[j]:=List.getElem?_eq_getElem Wg;rw[h1,h2,h j _ _ Wg h1 h2]
 · rw[List.getElem?_eq_none Wg,List.getElem?_eq_none Wg]
theorem Dc (w : World) (I J : Nat → Prop) (v u : Value) (l m : List M.Kind) (h : SliceOf 2 jv w I v l) (h' : SliceOf 2 jv w J u m) :
    Calls Tryz.prog 146 #[v,u] w fun e w'=>e=.returned (.bool (decide (l=m)))∧Ext w w':=by
 obtain⟨a,cap,rfl,hn,dm⟩:=h.form;obtain⟨a',cap',rfl,hn',ahC⟩:=h'.form;by_cases hl:l.length=m.length
 · have HL := Z3 hl; have hl' : (l.length : Int) = m.length := by omega
   clear hl;go_enter Tryz.func146,Tryz.ntmps146;go_wp2;go_loopw [13] (fun i wr=>∃k:Nat,k≤l.length∧i=.int .i64 k∧Ext w wr∧Zs (∀j x y,j<k→l[j]?=some x→m[j]?=some y→x=y)) (fun i _=>l.length - (intOf i).toNat)
   case atStart=>exact⟨0,Nat.zero_le _,rfl,Kp.rr,Z3 Wg⟩
   case round =>
    obtain⟨k,hk,rfl,hE,HA⟩:=hrel;by_cases bY:k<l.length
    · have abW:k<m.length:=by rw[←HL.o];exact bY
      obtain⟨x,hx⟩:=get_some bY;obtain⟨y,hy⟩:=get_some abW;obtain⟨b,off,cs,rfl,hI,rfl, -,hc⟩:=h.get hx;obtain⟨b',off',cs',rfl,Yn,rfl, -,Bl⟩:=h'.get hy;obtain⟨g0,g1⟩:=(hc.ext hE).two;obtain⟨q0,q1⟩:=(Bl.ext hE).two;have⟨HX,HY⟩:=aJ hx hy;clear hx hc hy Bl;obtain⟨xk,xn⟩:=x;obtain⟨yk,yn⟩:=y;simp only at*;rcases ym xk yk xn yn with⟨rfl,rfl⟩|⟨rfl,mR,yD⟩|⟨sM,qy⟩
      · go_wp2_with (first|(go_region_with (fail))|fail)
        all_goals
         go_roundw
         case rel=>
          refine⟨k+1,by omega,by go_num,kx,Z3 (fun j x y hj h1 h2=>?_)⟩;by_cases Yv:j=k
          · subst Yv;exact Option.some.inj ((h1.symm.trans HX.o).trans (HY.o.symm.trans h2))
          · exact HA.o j x y Wg h1 h2
         case measure=>simp[intOf];omega
      · have HN:Zs (decide (l=m)=false):=Z3 (decide_eq_false (fun h=>yD (by
         subst h;exact congrArg M.Kind.name (Option.some.inj (HX.o.symm.trans HY.o)))))
        clear yD;go_wp2_with (first|(go_region_with (fail))|fail)
        all_goals
         go_ret;exact⟨af HN.o.symm,kx⟩
      · have HN:Zs (decide (l=m)=false):=Z3 (decide_eq_false (fun h=>qy (by
         subst h;exact congrArg M.Kind.kind (Option.some.inj (HX.o.symm.trans HY.o)))))
        clear qy;go_wp2_with (first|(go_region_with (fail))|fail)
        all_goals
         go_ret;exact⟨af HN.o.symm,kx⟩
    · go_wp2;go_ret;exact⟨af (decide_eq_true (Ol HL.o HA.o Wg)).symm,kx⟩
 · have hl':((l.length:Int)==m.length)=false:=beq_eq_false_iff_ne.2 Wg;go_enter Tryz.func146,Tryz.ntmps146;go_wp2;go_ret;exact⟨af (decide_eq_false (fun h=>hl (congrArg List.length h))).symm,kx⟩
theorem ae.mk4{w:World}{b:Nat}{x y z u:Value}(h0:w.cell? ⟨b,0,none⟩=some x)(h1:w.cell? ⟨b,1,none⟩=some y)(h2:w.cell? ⟨b,2,none⟩=some z)(h3:w.cell? ⟨b,3,none⟩=some u):ae w b 0 [x,y,z,u]:=by
 intro j v hj;rw[Nat.zero_add];match j,hj with
 |0,hj=>cases hj;exact h0
 |1,hj=>cases hj;exact h1
 |2,hj=>cases hj;exact h2
 |3,hj=>cases hj;exact h3
theorem ae.Us{w:World}{b:Nat}{x y z u:Value}(h:ae w b 0 [x,y,z,u]):w.cell? ⟨b,0,none⟩=some x∧w.cell? ⟨b,1,none⟩=some y∧w.cell? ⟨b,2,none⟩=some z∧w.cell? ⟨b,3,none⟩=some u:=h.four
theorem bQ.ext{α:Type}{R:iJ α}(hR:bQ R){w w':World}{I:Nat→Prop}{x:α}{cs:List Value}(hE:Ext w w')(h:R w I x cs):R w' I x cs:=hR _ _ _ _ _ _ (Ext.same hE) (fun _ h=>h) h
theorem bQ.kp{α:Type}{R:iJ α}(hR:bQ R){D:Nat→Prop}{w w':World}{I:Nat→Prop}{x:α}{cs:List Value}(hE:Kp D w w')(hI:∀b,I b→¬D b)(h:R w I x cs):R w' I x cs:=hR _ _ _ _ _ _ (Kp.same hE hI) (fun _ h=>h) h
theorem aG.args{w:World}{I:Nat→Prop}{x:M.Method}{a va b c d e vc vm:Value}(h:aG w I x [a,va,b,c,d,e,vc,vm]):SliceOf 2 jv w I va x.args:=by
 obtain⟨va',vc',vm',he,h1, -, -⟩:=h;simp only[List.cons.injEq,and_true,true_and]at he;obtain⟨-,rfl, -⟩:=he;exact h1
theorem Ff{α:Type}{f:α→Bool}{l:List α}{o:Option Nat}(h:l.findIdx? f=o):l.find? f=o.bind (l[·]?):=by
 subst h;induction l with
 |nil=>rfl
 |cons x r ih=>
  rw[List.find?_cons,List.findIdx?_cons];cases hx:f x
  · rw[ih];cases r.findIdx? f<;>simp
  · simp
set_option maxHeartbeats 20000000 in
theorem FU (w : World) (l : aH) (p : M.ax) (h : aC w l p) (low high : M.Ref) (c d : M.Class) (vR : M.cls? p low = some c) (aaa : M.cls? p high = some d) :
    Calls Tryz.prog 122 #[.pointer (some ⟨l.L,0,none⟩),.agg #[.int .i64 low.keeper,.string low.name],.agg #[.int .i64 high.keeper,.string high.name]] w fun e w'=>
     e=.returned (.bool (M.ja p low high))∧Ext w w':=by
 have aU:Ext w ((w.alloc (.cells #[.int .i64 low.keeper,.string low.name] 70)).alloc (.cells #[.int .i64 high.keeper,.string high.name] 70)):=Z2;have H:=Z3 (h.ext aU);clear h;have b4:=(ay.new w 70 #[.int .i64 low.keeper,.string low.name]).ext (Kp.rr.alloc (.cells #[.int .i64 high.keeper,.string high.name] 70));have b5:=ay.new (w.alloc (.cells #[.int .i64 low.keeper,.string low.name] 70)) 70 #[.int .i64 high.keeper,.string high.name];simp only[World.size_alloc]at b5;have HC:=Z3 (And.intro vR aaa);clear vR aaa;go_enter Tryz.func122,Tryz.ntmps122;go_upto_region 1 with(fail);generalize ((w.alloc (.cells #[.int .i64 low.keeper,.string low.name] 70)).alloc (.cells #[.int .i64 high.keeper,.string high.name] 70))=w0 at*;go_cut [7,8] (fun s7 s8 wx=>∃b7 b8 vf vm uf um,s7=.pointer (some ⟨b7,0,none⟩)∧s8=.pointer (some ⟨b8,0,none⟩)∧ae wx b7 0 [.string c.name,.string c.aL,vf,vm]∧
  ae wx b8 0 [.string d.name,.string d.aL,uf,um]∧aP wx (· <l.O) c [.string c.name,.string c.aL,vf,vm]∧aP wx (· <l.O) d [.string d.name,.string d.aL,uf,um]∧Ext w0 wx)
 case first=>
  obtain⟨-,p0,p1, -⟩:=b4.ca;obtain⟨-,q0,q1, -⟩:=b5.ca;clear b4 b5;have hS:∀W,Ext w0 W→(Ext w0 W∧W.cell? ⟨w.heap.size,0,none⟩=some (.int .i64 low.keeper)∧W.cell? ⟨w.heap.size,1,none⟩=some (.string low.name)∧W.cell? ⟨w.heap.size+1,0,none⟩=some (.int .i64 high.keeper)∧W.cell? ⟨w.heap.size+1,1,none⟩=some (.string high.name)):=
   fun W hW=>⟨hW,hW.aD p0,hW.aD p1,hW.aD q0,hW.aD q1⟩
  have HS:=Z3 hS;have hOz:l.O≤w0.heap.size:=by have:=H.o.lt;have:=H.o.ord;omega
  clear hS;go_region_held3 (fun W=>Ext w0 W∧W.cell? ⟨w.heap.size,0,none⟩=some (.int .i64 low.keeper)∧W.cell? ⟨w.heap.size,1,none⟩=some (.string low.name)∧W.cell? ⟨w.heap.size+1,0,none⟩=some (.int .i64 high.keeper)∧W.cell? ⟨w.heap.size+1,1,none⟩=some (.string high.name))
   ((refine HS.o _ ?_;repeat (first|with_reducible exact Kp.rr|with_reducible assumption|with_reducible refine Kp.alloc ?_ _|with_reducible refine Kp.drew ?_|with_reducible refine Kp.drewN ?_ _|with_reducible refine Kp.setCell ?_ (fun h=>absurd h Xs) _|with_reducible refine Kp.trans ?_ ZD)))
   (first|(go_at_call 70;first|(have hB_:=hB;clear hB_;refine(mI _ l p (H.o.ext Z2) high.keeper high.name d HC.o.2).mono ?_;rintro e w2 ⟨⟨cs',ad5,rfl⟩,hB'⟩;obtain⟨y1',z1',y2',z2',rfl⟩:=ad5.form;have NI:=hB'.size;obtain⟨nM,hf2⟩:=Lp hB';(have hq9:w1.heap.size≤w2.heap.size:=by have:=hB'.size;(try simp at this);omega);(try have hq3:w0.heap.size<w2.heap.size:=by have:=hB'.size;(try simp at this);omega);(try have hq4:w0.heap.size+1<w2.heap.size:=by have:=hB'.size;(try simp at this);omega);(try have hq5:w1.heap.size<w2.heap.size:=by have:=hB'.size;(try simp at this);omega);(try have hq6:w1.heap.size+1<w2.heap.size:=by have:=hB'.size;(try simp at this);omega))|(refine(mI _ l p (H.o.ext Z2) low.keeper low.name c HC.o.1).mono ?_;rintro e w1 ⟨⟨cs,fU,rfl⟩,hB⟩;obtain⟨y1,z1,y2,z2,rfl⟩:=fU.form;have Db:=hB.size;obtain⟨vZ,hf1⟩:=Lp hB;(have hq0:w0.heap.size≤w1.heap.size:=by have:=hB.size;(try simp at this);omega);(try have Bq:w0.heap.size<w1.heap.size:=by have:=hB.size;(try simp at this);omega);(try have pY:w0.heap.size+1<w1.heap.size:=by have:=hB.size;(try simp at this);omega))))
  all_goals (go_wp2_with fail)
  all_goals
   go_meet;refine⟨_,_,.slice y1 c.fields.length z1,.slice y2 c.methods.length z2,.slice y1' d.fields.length z1',.slice y2' d.methods.length z2',rfl,rfl,ae.mk4 (by(try simp[go_sem, *])<;>refine World.cell?_setCell_same' _ _ _ (by simp[go_sem, *])) (by(try simp[go_sem, *])<;>refine World.cell?_setCell_same' _ _ _ (by simp[go_sem, *])) (by(try simp[go_sem, *])<;>refine World.cell?_setCell_same' _ _ _ (by simp[go_sem, *])) (by(try simp[go_sem, *])<;>refine World.cell?_setCell_same' _ _ _ (by simp[go_sem, *])),ae.mk4 (by(try simp[go_sem, *])<;>refine World.cell?_setCell_same' _ _ _ (by simp[go_sem, *])) (by(try simp[go_sem, *])<;>refine World.cell?_setCell_same' _ _ _ (by simp[go_sem, *])) (by(try simp[go_sem, *])<;>refine World.cell?_setCell_same' _ _ _ (by simp[go_sem, *])) (by(try simp[go_sem, *])<;>refine World.cell?_setCell_same' _ _ _ (by simp[go_sem, *])),bQ.kp (D:=fun k=>l.O≤k) aP.stays (by repeat (first|with_reducible exact Kp.rr|with_reducible refine Kp.alloc ?_ _|with_reducible refine Kp.drew ?_|with_reducible refine Kp.setCell ?_ (fun _=>by first|omega|(simp;done)|(simp;omega)) _|with_reducible refine Kp.trans ?_ (Kp.any ZD))) (fun _ h h'=>absurd h (Nat.not_lt_of_le h')) fU,bQ.kp (D:=fun k=>l.O≤k) aP.stays (by repeat (first|with_reducible exact Kp.rr|with_reducible refine Kp.alloc ?_ _|with_reducible refine Kp.drew ?_|with_reducible refine Kp.setCell ?_ (fun _=>by first|omega|(simp;done)|(simp;omega)) _|with_reducible refine Kp.trans ?_ (Kp.any ZD))) (fun _ h h'=>absurd h (Nat.not_lt_of_le h')) ad5,Z2⟩
 case rest =>
  obtain⟨b7,b8,vf,vm,uf,um,rfl,rfl,k7,k8,hc,hd,hE⟩:=hcut;obtain⟨vf',vm',he,sf,sm⟩:=hc;simp only[List.cons.injEq,and_true,true_and]at he;obtain⟨rfl,rfl⟩:=he;obtain⟨fa,fc,rfl,Qn,hfm⟩:=sf.form;obtain⟨ma,mc,rfl,hmn,zC⟩:=sm.form;have⟨HD,HE⟩:=aJ hd hE;have HL:Zs (M.ja p low high=(c.fields.all (fun f=>(M.uw d f.name).isNone)&&c.methods.all (M.dV p low high))):=Z3 (by
   unfold M.ja M.cls;rw[HC.o.1,HC.o.2];rfl)
  have GQ:Zs (∀m,M.dV p low high m=match d.methods.find? (fun n=>n.name=m.name)with
   |none=>true
   |some n=>decide (m.ret=n.ret)&&decide (m.args=n.args)&&M.bX p low.keeper high.keeper m):=Z3 (fun m=>by
   unfold M.dV M.cls;rw[HC.o.2];rfl)
  have r7:=k7.Us.2.2.1;have bZ:Ext w wc:=aU.trans hE;have j4:=b4.ext hE;have j5:=b5.ext hE;clear hd hE b4 b5 aU;go_wp2;go_loopw [24] (fun i wr=>∃k:Nat,k≤c.fields.length∧i=.int .i64 k∧Ext wc wr∧Zs ((c.fields.take k).all (fun f=>(M.uw d f.name).isNone)=true)) (fun i _=>c.fields.length - (intOf i).toNat)
  case atStart=>exact⟨0,Nat.zero_le _,rfl,Kp.rr,Z3 Wf⟩
  case round =>
   obtain⟨k,hk,rfl,hE,HA⟩:=hrel;have k8r:=k8.ext hE;obtain⟨s0,s1,s2,s3⟩:=k8r.Us;have hz8:=aF s0;by_cases bY:k<c.fields.length
   · obtain⟨x,hx⟩:=get_some bY;obtain⟨b,off,cs,rfl,hI,rfl, -,jy⟩:=sf.get hx;obtain⟨g0,g1,g2⟩:=(jy.ext hE).three;have⟨HX,HDr⟩:=aJ hx (bQ.ext aP.stays (hE.alloc (.cells #[.string x.name,.int .i64 x.kind.kind,.string x.kind.name] 135)) HD.o);clear hx jy;cases ht:M.uw d x.name
     · have HT:Zs ((M.uw d x.name).isNone=true):=Z3 (by rw[ht];rfl);have wI:=Z3 ht;clear ht;go_wp2_with (go_at_call 145;refine(LA _ _ _ _ HDr.o _).mono ?_;rintro e w1 ⟨rfl,hB⟩;rw[wI.o];simp only[Xk,Option.elim]);go_roundw
       case rel=>exact⟨k+1,by omega,by go_num,Z2,Z3 (all_succ HA.o HX.o HT.o)⟩
       case measure=>simp[intOf];omega
     · rename_i at_;have HT:Zs ((M.uw d x.name).isNone=false):=Z3 (by rw[ht];rfl);have wI:=Z3 ht;clear ht;go_wp2_with (go_at_call 145;refine(LA _ _ _ _ HDr.o _).mono ?_;rintro e w1 ⟨rfl,hB⟩;rw[wI.o];simp only[Xk,Option.elim]);go_ret;exact⟨af (by rw[HL.o,l6 HX.o HT.o];rfl),Z2⟩
   · have HF := Z3 (kD HA.o (by omega : c.fields.length ≤ k)); have r7m := (k7.ext hE).Us.2.2.2; clear s0 s1 s2 s3 k8r hz8; have hEo : Ext w wr := bZ.trans hE; have HDo := Z3 (bQ.ext aP.stays hE HD.o); have smo := sm.ext aG.stays hE; have k8o := k8.ext hE; have j4o := j4.ext hE; have j5o := j5.ext hE; have HLo := Z3 (H.o.ext (HE.o.trans hE)); clear HA bZ HE H HD sm sf k8 k7 hE Qn j4 j5 r7; obtain ⟨wo, rfl⟩ : ∃ wo : World, wo = wr := ⟨_, rfl⟩; go_wp2; go_loopw [37] (fun i wr => ∃ k : Nat, k ≤ c.methods.length ∧ i = .int .i64 k ∧ Ext wo wr ∧ Zs ((c.methods.take k).all (M.dV p low high) = true)) (fun i _ => c.methods.length - (intOf i).toNat)
     case atStart=>exact⟨0,Nat.zero_le _,rfl,Kp.rr,Z3 Wf⟩
     case round =>
      obtain⟨k,hk,rfl,hE,HA⟩:=hrel;by_cases bY:k<c.methods.length
      · obtain ⟨x, hx⟩ := get_some bY; obtain ⟨b, off, cs, rfl, hI, mF, -, jy⟩ := smo.get hx; have ⟨HX, HMx⟩ := aJ hx (bQ.ext aG.stays hE mF); obtain ⟨a1, c1, a2, c2, a3, c3, rfl⟩ := mF.form; have ha := mF.args; clear mF; obtain ⟨g0, g1, g2, g3, g4, g5, g6, g7⟩ := (jy.ext hE).eight; have k8r := k8o.ext hE; obtain ⟨s0, s1, s2, s3⟩ := k8r.Us; have hz8 := aF s0; have HW := Z3 (hE.alloc (.cells #[.string x.name, .slice a1 x.args.length c1, .int .i64 x.ret.kind, .string x.ret.name, .int .i64 x.locals, .int .i64 x.stack, .slice a2 x.code.length c2, .slice a3 x.maps.length c3] 106)); have HDr := Z3 (bQ.ext aP.stays HW.o HDo.o); clear hx jy k8r; cases ht : M.lM d x.name
        · have HT:Zs (M.dV p low high x=true):=Z3 (by rw[GQ.o,Ff ht];rfl);have wI:=Z3 ht;clear ht;go_wp2_with (go_at_call 123;refine(Ch _ _ _ _ HDr.o _).mono ?_;rintro e w1 ⟨rfl,hB⟩;rw[wI.o];simp only[Xk,Option.elim]);go_roundw
          case rel=>exact⟨k+1,by omega,by go_num,Z2,Z3 (all_succ HA.o HX.o HT.o)⟩
          case measure=>simp[intOf];omega
        · rename_i at_;go_wp2_with fail;refine(Ch _ _ _ _ HDr.o _).mono ?_;rintro e w1 ⟨rfl,hB⟩;rw[ht];simp only[Xk,Option.elim];have uB:at_ <d.methods.length:=by
           have:=List.findIdx?_eq_some_iff_getElem.1 ht;exact this.1
          obtain⟨y,hy⟩:=get_some uB;have HT:Zs (M.dV p low high x=(decide (x.ret=y.ret)&&decide (x.args=y.args)&&M.bX p low.keeper high.keeper x)):=Z3 (by
           rw[GQ.o,Ff ht];show(match d.methods[at_]? with|none=>true|some n=>_)=_
           rw[hy])
          have KM:=bQ.ext aP.stays hB HDr.o;obtain⟨uf',um',he, -,tm⟩:=KM;simp only[List.cons.injEq,and_true,true_and]at he;obtain⟨rfl,rfl⟩:=he;obtain⟨na,nc,rfl,Qp, -⟩:=tm.form;obtain⟨b',off',cs',rfl,Yn,U7, -,ad4⟩:=tm.get hy;obtain⟨a1',c1',a2',c2',a3',c3',rfl⟩:=U7.form;have Xa:=U7.args;clear U7;obtain⟨q0,q1,q2,q3,q4,q5,q6,q7⟩:=ad4.eight;have SI:=Z3 (And.intro (ha) Xa);have JH:=HW.o.trans hB;have hB1:=Z3 (((Kp.refl _ wr).alloc (.cells #[.string x.name,.slice a1 x.args.length c1,.int .i64 x.ret.kind,.string x.ret.name,.int .i64 x.locals,.int .i64 x.stack,.slice a2 x.code.length c2,.slice a3 x.maps.length c3] 106):Ext wr _).trans hB);have k8w:=k8o.ext JH;have t3:=k8w.Us.2.2.2;have aiJ:=aF t3;have bm:=(ay.new wr 106 #[.string x.name,.slice a1 x.args.length c1,.int .i64 x.ret.kind,.string x.ret.name,.int .i64 x.locals,.int .i64 x.stack,.slice a2 x.code.length c2,.slice a3 x.maps.length c3]).ext hB;obtain⟨hzm,m0,m1,m2,m3,m4,m5,m6,m7, -⟩:=bm.ca;clear hy ad4 tm ha Xa s0 s1 s2 s3 g0 g1 g2 g3 g4 g5 g6 g7 k8w ht bm;have HAM:=Z3 (bQ.ext aG.stays ((Kp.refl _ wr).alloc (.cells #[.string x.name,.slice a1 x.args.length c1,.int .i64 x.ret.kind,.string x.ret.name,.int .i64 x.locals,.int .i64 x.stack,.slice a2 x.code.length c2,.slice a3 x.maps.length c3] 106)) HMx.o |> bQ.ext aG.stays hB);have o0:=((j4o.ext JH).c 0 (.int .i64 low.keeper) rfl);have o1:=((j5o.ext JH).c 0 (.int .i64 high.keeper) rfl);have oz:=(j5o.ext JH).lt;have HR:Zs (decide (x.ret=y.ret)=decide (x.ret.kind=y.ret.kind∧x.ret.name=y.ret.name)):=Z3 (decide_eq_decide.2 M.Kind.gJ);rcases ym x.ret.kind y.ret.kind x.ret.name y.ret.name with⟨e1,e2⟩|⟨e1,mR,yD⟩|⟨sM,qy⟩
          · have e1':(x.ret.kind==y.ret.kind)=true:=beq_iff_eq.2 e1;have e2':(x.ret.name.toList==y.ret.name.toList)=true:=by rw[e2];simp
            have DF:Zs (M.dV p low high x=(decide (x.args=y.args)&&M.bX p low.keeper high.keeper x)):=Z3 (by rw[HT.o,HR.o];simp[e1,e2]);clear e1 e2;cases hq:decide (x.args=y.args)
            · have HT':Zs (M.dV p low high x=false):=Z3 (by rw[DF.o,hq];rfl);have HQ:=Z3 hq;clear hq;go_wp2_with fail;refine(Dc _ _ _ _ _ _ _ ((SI.o.1.ext jv.stays (hE.trans hB1.o)).ext jv.stays (Kp.rr.alloc _)) (SI.o.2.ext jv.stays (Kp.rr.alloc _))).mono ?_;rintro e w2 ⟨rfl,hB2⟩;rw[HQ.o];go_wp2;go_ret;exact⟨af (by rw[HL.o,l6 HX.o HT'.o];simp),Z2⟩
            · have ZA:Zs (M.dV p low high x=M.bX p low.keeper high.keeper x):=Z3 (by rw[DF.o,hq];rfl);have HQ:=Z3 hq;clear hq;go_wp2_with fail;refine(Dc _ _ _ _ _ _ _ ((SI.o.1.ext jv.stays (hE.trans hB1.o)).ext jv.stays (Kp.rr.alloc _)) (SI.o.2.ext jv.stays (Kp.rr.alloc _))).mono ?_;rintro e w2 ⟨rfl,hB2⟩;rw[HQ.o];have NC:=Z3 (((Kp.refl _ w1).alloc (.cells #[.string y.name,.slice a1' y.args.length c1',.int .i64 y.ret.kind,.string y.ret.name,.int .i64 y.locals,.int .i64 y.stack,.slice a2' y.code.length c2',.slice a3' y.maps.length c3'] 106):Ext w1 _).trans hB2);have n0:=NC.o.aD m0;have n1:=NC.o.aD m1;have n2:=NC.o.aD m2;have n3:=NC.o.aD m3;have n4:=NC.o.aD m4;have n5:=NC.o.aD m5;have n6:=NC.o.aD m6;have n7:=NC.o.aD m7;have u0:=NC.o.aD o0;have u1:=NC.o.aD o1;have⟨Jk,wE⟩:=aJ (bQ.ext aG.stays NC.o HAM.o) (HLo.o.ext (JH.trans NC.o));clear m0 m1 m2 m3 m4 m5 m6 m7 q0 q1 q2 q3 q4 q5 q6 q7 o0 o1 t3;cases hm:M.bX p low.keeper high.keeper x
              all_goals
               have HAg:=Z3 hm;clear hm;go_wp2_with fail;refine(rA _ _ _ wE.o _ _ _ _ _ Jk.o).mono ?_;rintro e w3 ⟨rfl,Hp⟩;rw[HAg.o];go_wp2
              · go_ret;exact⟨af (by rw[HL.o,l6 HX.o (ZA.o.trans HAg.o)];simp),Z2⟩
              · go_roundw
                case rel=>exact⟨k+1,by omega,by go_num,Z2,Z3 (all_succ HA.o HX.o (ZA.o.trans HAg.o))⟩
                case measure=>simp[intOf];omega
          · have HT':Zs (M.dV p low high x=false):=Z3 (by rw[HT.o,HR.o];simp[yD]);have e1':(x.ret.kind==y.ret.kind)=true:=beq_iff_eq.2 e1;clear yD e1;go_wp2;go_ret;exact⟨af (by rw[HL.o,l6 HX.o HT'.o];simp),Z2⟩
          · have HT':Zs (M.dV p low high x=false):=Z3 (by rw[HT.o,HR.o];simp[qy]);clear qy;go_wp2;go_ret;exact⟨af (by rw[HL.o,l6 HX.o HT'.o];simp),Z2⟩
      · go_wp2;go_ret;exact⟨af (by rw[HL.o,HF.o,kD HA.o Wg];rfl),Z2⟩
theorem SliceOf.drop{α:Type}{k:Nat}{R:iJ α}{w:World}{I:Nat→Prop}{b off n cap:Nat}{xs:List α}(h:SliceOf k R w I (.slice (some ⟨b,off,none⟩) n cap) xs){i:Nat}(hi:i≤xs.length):
    SliceOf k R w I (.slice (some ⟨b,off+i*k,none⟩) (xs.length - i) (cap - i)) (xs.drop i):=by
 obtain⟨a',cap',e,h1,h2,h3⟩:=h;cases e;refine⟨some ⟨b,off+i*k,none⟩,cap - i,by rw[List.length_drop],by rw[List.length_drop];omega,by rw[List.length_drop];omega,fun j x hx=>?_⟩;rw[List.getElem?_drop]at hx;obtain⟨b',off',cs,ea,hI,hr,hl,hc⟩:=h3 _ x hx;cases ea;refine⟨b,_,cs,rfl,hI,hr,hl,?_⟩;rw[Nat.add_assoc,←Nat.add_mul];exact hc
theorem jY{α:Type}{xs:List α}{k:Nat}{x:α}(hx:xs[k]?=some x):xs.drop k=x::xs.drop (k+1):=by
 obtain⟨h,rfl⟩:=List.getElem?_eq_some_iff.1 hx;exact List.drop_eq_getElem_cons h
theorem vE (w : World) (l : aH) (p : M.ax) (h : aC w l p) (I : Nat → Prop) (v : Value) (xs : List M.Ref) (hs : SliceOf 2 zn w I v xs) (dY : ∀ r ∈ xs, ∃ c, M.cls? p r = some c) :
    Calls Tryz.prog 85 #[.pointer (some ⟨l.L,0,none⟩),v] w fun e w'=>
     e=.returned (.bool (M.ek p xs))∧Ext w w':=by
 have H:=Z3 h;clear h;have HO:=Z3 dY;clear dY;obtain⟨a,cap,rfl,hn,dm⟩:=hs.form;go_enter Tryz.func85,Tryz.ntmps85;go_wp2;go_loopw [11] (fun i wr=>∃k:Nat,k≤xs.length∧i=.int .i64 k∧Ext w wr∧Zs (M.ek p xs=M.ek p (xs.drop k))) (fun i _=>xs.length - (intOf i).toNat)
 case atStart=>exact⟨0,Nat.zero_le _,rfl,Kp.rr,Z3 rfl⟩
 case round =>
  obtain⟨k,hk,rfl,hE,HA⟩:=hrel;by_cases bY:k<xs.length
  · obtain ⟨x, hx⟩ := get_some bY; obtain ⟨b, off, cs, rfl, hI, rfl, -, hc⟩ := hs.get hx; obtain ⟨g0, g1⟩ := (hc.ext hE).two; have HX := Z3 hx; have sM : (0 : Int) ≤ (k : Int) + 1 := by omega
    have qy:(k:Int)+1≤xs.length:=by omega
    have rO:(xs.length:Int)≤cap:=by omega
    have HD:Zs (M.ek p xs=((xs.drop (k+1)).all (M.ja p x)&&M.ek p (xs.drop (k+1)))):=Z3 (by
     rw[HA.o,jY hx];rfl)
    obtain⟨cx,BU⟩:=HO.o x (List.mem_of_getElem? hx);have Xx:=Z3 BU;clear hx hc BU;by_cases hcp:cap=k+1
    · have hz:xs.length - (k+1)=0:=by omega
      have Rn:Zs (xs.drop (k+1)=[]):=Z3 (List.drop_eq_nil_of_le Wg);go_wp2;go_loopw [21] (fun i wi=>i=.int .i64 0∧Ext wr wi) (fun i _=>0)
      case atStart=>exact⟨rfl,kx⟩
      case round=>
       obtain⟨rfl,WS⟩:=hrel;go_wp2;go_roundw
       case rel=>exact⟨k+1,by omega,by go_num,ZS,Z3 (by rw[HD.o,Rn.o];rfl)⟩
       case measure=>simp[intOf];omega
    · have sd := hs.drop (i := k + 1) Wg; have hlen : (xs.drop (k + 1)).length = xs.length - (k + 1) := List.length_drop; have HY : Zs (∀ r ∈ xs.drop (k + 1), ∃ c, M.cls? p r = some c) := Z3 (fun r hr => HO.o r (List.mem_of_mem_drop hr)); have HDr : Zs (M.ek p xs = ((xs.drop (k + 1)).all (M.ja p x) && M.ek p (xs.drop (k + 1)))) := HD; obtain ⟨wo, rfl⟩ : ∃ wo : World, wo = wr := ⟨_, rfl⟩; go_wp2; have bx := ay.new wo 70 #[.int .i64 x.keeper, .string x.name]; have UI : Ext w (wo.alloc (.cells #[.int .i64 x.keeper, .string x.name] 70)) := kx; have HLw := Z3 (H.o.ext UI); have kv : (wo.alloc (.cells #[.int .i64 x.keeper, .string x.name] 70)).heap.size = wo.heap.size + 1 := by simp
      go_loopw [21] (fun i wi=>∃j:Nat,j≤xs.length - (k+1)∧i=.int .i64 j∧Ext (wo.alloc (.cells #[.int .i64 x.keeper,.string x.name] 70)) wi∧Zs (((xs.drop (k+1)).take j).all (M.ja p x)=true)) (fun i _=>xs.length - (k+1) - (intOf i).toNat)
      case atStart=>exact⟨0,Nat.zero_le _,rfl,Kp.rr,Z3 Wf⟩
      case round =>
       obtain⟨j,hj,rfl,WS,HB⟩:=hrel;by_cases hjt:j<xs.length - (k+1)
       · obtain⟨y,hy⟩:=get_some (l:=xs.drop (k+1)) (k:=j) (by rw[hlen];exact hjt);obtain⟨b',off',cs',he,Yn,rfl, -,Bl⟩:=sd.get hy;obtain⟨rfl,rfl⟩:b'=b∧off'=off+(k+1)*2:=by simp only[Option.some.injEq,Addr.mk.injEq,and_true]at he;exact⟨he.1.symm,he.2.symm⟩
         obtain⟨q0,q1⟩:=(Bl.ext (UI.trans WS)).two;have bxi:=bx.ext WS;obtain⟨zx,x0,x1, -⟩:=bxi.ca;obtain⟨cy,Xd⟩:=HY.o y (List.mem_of_getElem? hy);have⟨HCY,HYy,HLi⟩:=bg Xd hy ((HLw.o.ext WS).ext (Kp.rr.alloc (.cells #[.int .i64 y.keeper,.string y.name] 70)));clear Bl he bxi Xd hy g0 g1;cases hp:M.ja p x y
         all_goals
          have HP:=Z3 hp;clear hp;go_wp2_with fail;refine(FU _ _ _ HLi.o x y _ _ Xx.o HCY.o).mono ?_;rintro e w1 ⟨rfl,hB⟩;rw[HP.o];go_wp2
         · go_ret;exact⟨af (by rw[HD.o,l6 HYy.o HP.o];rfl),ZS⟩
         · go_roundw
           case rel=>exact⟨j+1,by omega,by go_num,ZS,Z3 (all_succ HB.o HYy.o HP.o)⟩
           case measure=>simp[intOf];omega
       · have mQ:=Z3 (kD HB.o (by rw[hlen];omega));go_wp2;go_roundw
         case rel=>exact⟨k+1,by omega,by go_num,ZS,Z3 (by rw[HD.o,mQ.o];rfl)⟩
         case measure=>simp[intOf];omega
  · go_wp2;go_ret;exact⟨af (by rw[HA.o,List.drop_eq_nil_of_le Wg];rfl),kx⟩
theorem Hk{p:M.ax}:∀(f:Nat) (r:M.Ref) (refs:List M.Ref),M.bT p f r=some refs→(∃c,M.cls? p r=some c)→∀x∈refs,∃c,M.cls? p x=some c:=by
 intro f;induction f with
 |zero=>intro r refs h;simp[M.bT]at h
 |succ f ih=>
  intro r refs h ho x hx;unfold M.bT at h;split at h
  · cases h;simp at hx;subst hx;exact ho
  · split at h
    · rename_i hc;cases hg:M.bT p f (M.resolve p r.keeper (M.aL p r)).1 with
      |none=>rw[hg]at h;simp at h
      |some rs=>
       rw[hg]at h;simp at h;subst h;rcases List.mem_cons.1 hx with rfl|hx
       · exact ho
       · exact ih _ _ hg (fu hc) x hx
    · cases h
theorem FT{p:M.ax}{r:M.Ref}(h:M.fo p r=true):∃c,M.cls? p r=some c:=by
 unfold M.fo M.find at h;by_cases hc:(M.resolve p r.keeper r.name).2=1
 · rw[if_pos hc]at h;split at h
   · simp at h;rw[←h];exact fu hc
   · simp at h
 · rw[if_neg hc]at h;simp at h;exact absurd h.1 hc
theorem dM{p:M.ax}{r:M.Ref}:∀x∈M.chain p r,∃c,M.cls? p x=some c:=by
 intro x hx;unfold M.chain at hx;split at hx
 · rename_i hl;cases hc:M.jw p r with
   |none=>rw[hc]at hx;simp at hx
   |some refs=>
    rw[hc]at hx;exact Hk 6 r refs hc (FT hl) x (by simpa using hx)
 · simp at hx
theorem aC.Y6{w w':World}{l:aH}{p:M.ax}(h:aC w l p)(hk:Kp (·=l.D) w w')(hm:∃m,jk w' l.D m∧∀k s v,look m (k,s)=some v→v=if M.bu p ⟨k,s⟩then 1 else 2):aC w' l p:=by
 obtain⟨o1,o2,o3⟩:=h.ord;refine⟨h.ok,h.ord,?_,?_,?_,hm⟩
 · obtain⟨a,cap,hb,hs⟩:=h.blk;exact⟨a,cap,hb.kp hk Wg,hs.keep aB.stays (Kp.same hk fun b hb e=>by omega) fun _ h=>h⟩
 · obtain⟨m,h1,h2⟩:=h.own;exact⟨m,h1.kp hk Wg,h2⟩
 · obtain⟨m,h1,h2⟩:=h.ask;exact⟨m,h1.kp hk Wg,h2⟩
theorem ik(w:World)(l:aH)(p:M.ax)(h:aC w l p)(r:M.Ref):
    Calls Tryz.prog 39 #[.pointer (some ⟨l.L,0,none⟩),.agg #[.int .i64 r.keeper,.string r.name]] w fun e w'=>
     e=.returned (.bool (M.bu p r))∧aC w' l p∧Kp (·=l.D) w w':=by
 obtain⟨m,hm,G6⟩:=h.laid;have aU:Ext w (w.alloc (.cells #[.int .i64 r.keeper,.string r.name] 70)).drew:=kx;have lk:=zK (hm.kp aU fun x=>x) r.keeper r.name;obtain⟨a,cap,hs,c0,c1,c2,c3⟩:=h.cells;have d3:=c3 _ (Kp.refl _ w);have hzL:=aF d3;have⟨H0,H⟩:=aJ h (h.ext aU);have b3:=(ay.new w 70 #[.int .i64 r.keeper,.string r.name]);clear hs c0 c1 c2 h;cases hl:look m (r.keeper,r.name)with
 | some v =>
  have hv:=G6 _ _ _ hl;rw[hl]at lk;simp only[Option.getD_some]at lk;have HM:=Z3 (And.intro hm G6);clear hm G6 hl c3;cases hc:M.bu p r
  all_goals
   have Bl:M.bu p ⟨r.keeper,r.name⟩=_:=hc;rw[Bl]at hv;have HC:=Z3 hc;clear hc Bl;simp at hv;subst hv;go_enter Tryz.func39,Tryz.ntmps39;go_wp2;(refine jo 6 Wr Wr ?_);(simp only[List.take_succ_cons,List.take_zero,List.drop_succ_cons,List.drop_zero]);(repeat still_step);(refine wpStill_nil ?_);go_wp2;go_ret;exact⟨rfl,H0.o.ext kx |> fun h=>h,(kx:Ext w _).any⟩
 | none =>
  rw[hl]at lk;simp only[Option.getD_none]at lk;have⟨HM,zY⟩:=aJ (And.intro hm (And.intro G6 hl)) c3;clear hm G6 hl c3;go_enter Tryz.func39,Tryz.ntmps39;go_wp2;(refine jo 6 Wr Wr ?_);(simp only[List.take_succ_cons,List.take_zero,List.drop_succ_cons,List.drop_zero]);(repeat still_step);(refine wpStill_nil ?_);go_wp2_with fail;refine(mH _ _ _ H.o _).mono ?_;rintro e w1 ⟨⟨v,rfl,hs⟩,hB⟩;obtain⟨a',cap',rfl,hn,dm⟩:=hs.form;have bH:Ext w w1:=aU.trans hB;have d1:=zY.o _ bH;have⟨H1,HMD⟩:=aJ (H0.o.ext bH) (HM.o.1.kp bH fun x=>x);have PZ:=((b3.ext (Kp.rr.drew)).ext hB);obtain⟨qz,q0,q1, -⟩:=PZ.ca;have fU:Zs (M.bu p r=(!(M.chain p r).isEmpty&&M.ek p (M.chain p r))):=Z3 rfl;have Yr:Zs (∀x∈M.chain p r,∃c,M.cls? p x=some c):=Z3 dM;have HU:Zs (∀W W',Ext w W→jk W' l.D (m++[((r.keeper,r.name),if M.bu p r then 1 else 2)])→Kp (·=l.D) W W'→aC W' l p):=Z3 (fun W W' hW hm' JK=>(H0.o.ext hW).Y6 JK ⟨_,hm',fun k s v hv=>by
   by_cases Yw:((k,s):Key)=(r.keeper,r.name)
   · rw[Yw,xu HM.o.2.2]at hv;cases hv;simp only[Prod.mk.injEq]at Yw;obtain⟨rfl,rfl⟩:=Yw;rfl
   · rw[vG Yw]at hv;exact HM.o.2.1 k s v hv⟩)
  clear hB b3 PZ lk d3 aU;generalize M.chain p r=xs at*;cases xs with
  |nil=>
   have pW:M.bu p r=false:=fU.o;rw[pW]at HU;have TJ:=Z3 pW;clear pW;clear hs;go_wp2;(refine jo 5 Wr Wr ?_);(simp only[List.take_succ_cons,List.take_zero,List.drop_succ_cons,List.drop_zero]);(repeat still_step);(refine wpStill_nil ?_);refine iE _ rfl _ _ _ rfl l.D m r.keeper r.name 2 rfl rfl rfl (HMD.o.kp ((Kp.refl (fun _=>False) _).drew) fun x=>x) HM.o.2.2 ?_;intro w2 Rm qy NI;go_wp2;go_ret;exact⟨af TJ.o.symm,HU.o _ _ ((bH).drew) Rm qy,((bH.drew).any:Kp (·=l.D) w _).trans qy⟩
  |cons y ys=>
   have hlen:((y::ys).length:Int)≠0:=by simp;omega
   have ahI:(((y::ys).length:Int)==0)=false:=beq_eq_false_iff_ne.2 hlen;cases U0:M.ek p (y::ys)
   · have pW:M.bu p r=false:=by rw[fU.o,U0];rfl
     rw[pW]at HU;have⟨TJ,HCh⟩:=aJ pW U0;clear pW U0;generalize (y::ys)=xs at*;go_wp2_with fail;refine(vE _ _ _ H1.o _ _ _ hs Yr.o).mono ?_;rintro e w2 ⟨rfl,hB2⟩;rw[HCh.o];have d2:=zY.o _ (bH.trans hB2);have p0:=hB2.aD q0;have p1:=hB2.aD q1;have bZ:Ext w w2:=bH.trans hB2;clear q0 q1 d1 hB2 qz hs;go_wp2;(refine jo 5 Wr Wr ?_);(simp only[List.take_succ_cons,List.take_zero,List.drop_succ_cons,List.drop_zero]);(repeat still_step);(refine wpStill_nil ?_);refine iE _ rfl _ _ _ rfl l.D m r.keeper r.name 2 rfl rfl rfl ((HM.o.1.kp bZ fun x=>x).kp ((Kp.refl (fun _=>False) _).drew) fun x=>x) HM.o.2.2 ?_;intro w3 hm3 rO KQ;go_wp2;go_ret;exact⟨af TJ.o.symm,HU.o _ _ ((bZ).drew) hm3 rO,((bZ.drew).any:Kp (·=l.D) w _).trans rO⟩
   · have pW:M.bu p r=true:=by rw[fU.o,U0];rfl
     rw[pW]at HU;have⟨TJ,HCh⟩:=aJ pW U0;clear pW U0;generalize (y::ys)=xs at*;go_wp2_with fail;refine(vE _ _ _ H1.o _ _ _ hs Yr.o).mono ?_;rintro e w2 ⟨rfl,hB2⟩;rw[HCh.o];have d2:=zY.o _ (bH.trans hB2);have p0:=hB2.aD q0;have p1:=hB2.aD q1;have bZ:Ext w w2:=bH.trans hB2;clear q0 q1 d1 hB2 qz hs;go_wp2;(refine jo 5 Wr Wr ?_);(simp only[List.take_succ_cons,List.take_zero,List.drop_succ_cons,List.drop_zero]);(repeat still_step);(refine wpStill_nil ?_);refine iE _ rfl _ _ _ rfl l.D m r.keeper r.name 1 rfl rfl rfl ((HM.o.1.kp bZ fun x=>x).kp ((Kp.refl (fun _=>False) _).drew) fun x=>x) HM.o.2.2 ?_;intro w3 hm3 rO KQ;go_wp2;go_ret;exact⟨af TJ.o.symm,HU.o _ _ ((bZ).drew) hm3 rO,((bZ.drew).any:Kp (·=l.D) w _).trans rO⟩
def vO(p:M.ax)(k i:Nat)(q:Int)(s:ByteArray):Option Int:=
 if q<k then(M.tu p ⟨q,s⟩).map Int.ofNat else if q=k then((p[k]?).bind fun Q=>(Q.owns.take i).findIdx? fun c=>decide (c.name=s)).map Int.ofNat else none
def vK(p:M.ax)(k i:Nat)(q:Int)(s:ByteArray):Option Int:=
 if q<k then M.ug p q s else if q=k then((p[k]?).bind fun Q=>((Q.asks.take i).find? fun a=>decide (a.name=s)).map M.Ask.keeper)else none
theorem FL(p:M.ax)(k:Nat):M.fw p (k:Int)=p[k]?:=by
 unfold M.fw;rw[if_pos Wg];rfl
theorem uH{p:M.ax}{q:Int}(h:q<0∨(p.length:Int)≤q):M.fw p q=none:=by
 unfold M.fw;split
 · rw[List.getElem?_eq_none_iff];omega
 · rfl
theorem V6(p:M.ax)(q:Int)(s:ByteArray):vO p 0 0 q s=none:=by
 unfold vO;split
 · unfold M.tu;rw[uH (.inl (by simpa using ‹q<((0:Nat):Int)›))];rfl
 · split
   · simp
   · rfl
theorem T9(p:M.ax)(q:Int)(s:ByteArray):vK p 0 0 q s=none:=by
 unfold vK;split
 · unfold M.ug;rw[uH (.inl (by simpa using ‹q<((0:Nat):Int)›))];rfl
 · split
   · simp
   · rfl
theorem V5{p:M.ax}{k i:Nat}{Q:M.eY}{c:M.Class}(hQ:p[k]?=some Q)(hc:Q.owns[i]?=some c)(hn:vO p k i k c.name=none)(q:Int)(s:ByteArray):
    vO p k (i+1) q s=if q=k∧s=c.name then some (i:Int)else vO p k i q s:=by
 have hi:i<Q.owns.length:=(List.getElem?_eq_some_iff.1 hc).1;unfold vO at*;rw[hQ]at hn ⊢;simp only[Int.lt_irrefl,if_false,if_true,Option.bind_some]at hn ⊢;by_cases h1:q<k
 · rw[if_pos h1,if_pos h1,if_neg Wg]
 · rw [if_neg h1, if_neg h1]; by_cases h2 : q = k
   · rw[if_pos h2,if_pos h2,List.take_add_one,hc];simp only[Option.toList_some,List.findIdx?_append,List.length_take,Nat.min_eq_left (Nat.le_of_lt hi)];by_cases h3:s=c.name
     · subst h3;rw[if_pos ⟨h2,rfl⟩];have:(Q.owns.take i).findIdx? (fun x=>decide (x.name=c.name))=none:=by simpa using hn
       rw[this];simp[List.findIdx?_cons]
     · rw[if_neg (fun h=>h3 h.2)];have Tc:¬c.name=s:=fun h=>h3 h.symm;simp[List.findIdx?_cons,Tc]
   · rw[if_neg h2,if_neg h2,if_neg (fun h=>h2 h.1)]
theorem TZ{p:M.ax}{k i:Nat}{Q:M.eY}{a:M.Ask}(hQ:p[k]?=some Q)(ha:Q.asks[i]?=some a)(hn:vK p k i k a.name=none)(q:Int)(s:ByteArray):
    vK p k (i+1) q s=if q=k∧s=a.name then some a.keeper else vK p k i q s:=by
 unfold vK at*;rw[hQ]at hn ⊢;simp only[Int.lt_irrefl,if_false,if_true,Option.bind_some]at hn ⊢;by_cases h1:q<k
 · rw[if_pos h1,if_pos h1,if_neg Wg]
 · rw [if_neg h1, if_neg h1]; by_cases h2 : q = k
   · rw[if_pos h2,if_pos h2,List.take_add_one,ha];simp only[Option.toList_some,List.find?_append];by_cases h3:s=a.name
     · subst h3;rw[if_pos ⟨h2,rfl⟩];have:(Q.asks.take i).find? (fun x=>decide (x.name=a.name))=none:=by simpa using hn
       rw[this];simp
     · rw[if_neg (fun h=>h3 h.2)];have Tc:¬a.name=s:=fun h=>h3 h.symm;simp[Tc]
   · rw[if_neg h2,if_neg h2,if_neg (fun h=>h2 h.1)]
theorem YZ{p:M.ax}{k:Nat}{Q:M.eY}(hQ:p[k]?=some Q)(q:Int)(s:ByteArray):vO p (k+1) 0 q s=vO p k Q.owns.length q s:=by
 unfold vO;by_cases h1:q<k
 · rw[if_pos Wg,if_pos h1]
 · by_cases h2:q=k
   · subst h2;rw[if_pos Wg,if_neg h1,if_pos rfl,hQ];unfold M.tu;rw[FL,hQ,Option.bind_some,Option.bind_some,List.take_of_length_le (Nat.le_refl _)]
   · rw[if_neg Wg,if_neg h1,if_neg h2];split
     · cases p[k+1]?<;>simp
     · rfl
theorem XP{p:M.ax}{k:Nat}{Q:M.eY}(hQ:p[k]?=some Q)(q:Int)(s:ByteArray):vK p (k+1) 0 q s=vK p k Q.asks.length q s:=by
 unfold vK;by_cases h1:q<k
 · rw[if_pos Wg,if_pos h1]
 · by_cases h2:q=k
   · subst h2;rw[if_pos Wg,if_neg h1,if_pos rfl,hQ];unfold M.ug;rw[FL,hQ,Option.bind_some,Option.bind_some,List.take_of_length_le (Nat.le_refl _)]
   · rw[if_neg Wg,if_neg h1,if_neg h2];split
     · cases p[k+1]?<;>simp
     · rfl
theorem YY(p:M.ax)(q:Int)(s:ByteArray):vO p p.length 0 q s=(M.tu p ⟨q,s⟩).map Int.ofNat:=by
 unfold vO;by_cases h1:q<p.length
 · rw[if_pos h1]
 · rw[if_neg h1];unfold M.tu;rw[uH (.inr (by show(p.length:Int)≤q;omega))];split
   · simp
   · rfl
theorem XO(p:M.ax)(q:Int)(s:ByteArray):vK p p.length 0 q s=M.ug p q s:=by
 unfold vK;by_cases h1:q<p.length
 · rw[if_pos h1]
 · rw[if_neg h1];unfold M.ug;rw[uH (.inr (by show(p.length:Int)≤q;omega))];split
   · simp
   · rfl
theorem I1{m:List (Key×Int)}{f g:Int→ByteArray→Option Int}{k v:Int}{n:ByteArray}(hm:∀q s,look m (q,s)=f q s)(hn:f k n=none)
    (hg:∀q s,g q s=if q=k∧s=n then some v else f q s):∀q s,look (m++[((k,n),v)]) (q,s)=g q s:=by
 intro q s;rw[hg];by_cases h:q=k∧s=n
 · obtain⟨rfl,rfl⟩:=h;rw[if_pos ⟨rfl,rfl⟩,xu (by rw[hm];exact hn)]
 · rw[if_neg h,vG (fun e=>h (by simpa using e)),hm]
structure gP(w:World)(l:aH)(p:M.ax)(k i j:Nat):Prop where
 ord:l.O<l.A∧l.A<l.D∧l.D<l.L
 blk:∃a cap,ay w l.L 90 #[.slice a p.length cap,.map (some l.O),.map (some l.A),.map (some l.D)]∧SliceOf 2 aB w (· <l.O) (.slice a p.length cap) p
 own:∃m,jk w l.O m∧∀q s,look m (q,s)=vO p k i q s
 ask:∃m,jk w l.A m∧∀q s,look m (q,s)=vK p k j q s
 laid:jk w l.D []
theorem gP.lt{w:World}{l:aH}{p:M.ax}{k i j:Nat}(h:gP w l p k i j):l.L<w.heap.size:=by
 obtain⟨a,cap,hb,_⟩:=h.blk;exact hb.lt
theorem gP.ext{w w':World}{l:aH}{p:M.ax}{k i j:Nat}(h:gP w l p k i j)(hE:Ext w w'):gP w' l p k i j:=by
 obtain⟨a,cap,hb,hs⟩:=h.blk;obtain⟨m1,h1,e1⟩:=h.own;obtain⟨m2,h2,e2⟩:=h.ask;exact⟨h.ord,⟨a,cap,hb.ext hE,hs.ext aB.stays hE⟩,⟨m1,h1.kp hE fun x=>x,e1⟩,⟨m2,h2.kp hE fun x=>x,e2⟩,h.laid.kp hE fun x=>x⟩
theorem gP.ace{w w':World}{l:aH}{p:M.ax}{k i i' j:Nat}(h:gP w l p k i j)(hk:Kp (·=l.O) w w')(hm:∃m,jk w' l.O m∧∀q s,look m (q,s)=vO p k i' q s):gP w' l p k i' j:=by
 obtain⟨o1,o2,o3⟩:=h.ord;obtain⟨a,cap,hb,hs⟩:=h.blk;obtain⟨m2,h2,e2⟩:=h.ask;exact⟨h.ord,⟨a,cap,hb.kp hk Wg,hs.keep aB.stays (Kp.same hk fun b hb e=>by omega) fun _ h=>h⟩,hm,⟨m2,h2.kp hk Wg,e2⟩,h.laid.kp hk Wg⟩
theorem gP.acd{w w':World}{l:aH}{p:M.ax}{k i j j':Nat}(h:gP w l p k i j)(hk:Kp (·=l.A) w w')(hm:∃m,jk w' l.A m∧∀q s,look m (q,s)=vK p k j' q s):gP w' l p k i j':=by
 obtain⟨o1,o2,o3⟩:=h.ord;obtain⟨a,cap,hb,hs⟩:=h.blk;obtain⟨m1,h1,e1⟩:=h.own;exact⟨h.ord,⟨a,cap,hb.kp hk Wg,hs.keep aB.stays (Kp.same hk fun b hb e=>by omega) fun _ h=>h⟩,⟨m1,h1.kp hk Wg,e1⟩,hm,h.laid.kp hk Wg⟩
theorem gP.done{w:World}{l:aH}{p:M.ax}(h:gP w l p p.length 0 0)(jM:M.dF p=true):aC w l p:=by
 obtain⟨m1,h1,e1⟩:=h.own;obtain⟨m2,h2,e2⟩:=h.ask;exact⟨jM,h.ord,h.blk,⟨m1,h1,fun k s=>(e1 k s).trans (YY p k s)⟩,⟨m2,h2,fun k s=>(e2 k s).trans (XO p k s)⟩,⟨[],h.laid,fun k s v hv=>by cases hv⟩⟩
theorem gP.next{w:World}{l:aH}{p:M.ax}{k:Nat}{Q:M.eY}(h:gP w l p k Q.owns.length Q.asks.length)(hQ:p[k]?=some Q):gP w l p (k+1) 0 0:=by
 obtain⟨m1,h1,e1⟩:=h.own;obtain⟨m2,h2,e2⟩:=h.ask;exact⟨h.ord,h.blk,⟨m1,h1,fun q s=>(e1 q s).trans (YZ hQ q s).symm⟩,⟨m2,h2,fun q s=>(e2 q s).trans (XP hQ q s).symm⟩,h.laid⟩
theorem xm(w:World)(L:Nat)(a:Option Addr)(n cap:Nat)(hc:w.cell? ⟨L,0,none⟩=some (.slice a n cap))(k:Int):
    Calls Tryz.prog 19 #[.pointer (some ⟨L,0,none⟩),.int .i64 k] w fun e w'=>e=.returned (.bool (decide (0≤k)&&decide (k<n)))∧w=w':=by
 go_enter Tryz.func19,Tryz.ntmps19;go_wp2
 · go_ret;exact⟨af (by rw[decide_eq_true (p:=0≤k) Wg];rfl),rfl⟩
 · go_ret;exact⟨af (by rw[decide_eq_false (p:=0≤k) Wg];rfl),rfl⟩
theorem gP.Ka{w:World}{l:aH}{p:M.ax}{k i j:Nat}(h:gP w l p k i j)(q:Int)(s:ByteArray):
    (Instr.lookup 88 (.map (some l.O)) (.agg #[.int .i64 q,.string s]) true).run Tryz.prog w=.ok (.tuple #[.int .i64 ((vO p k i q s).getD 0),.bool (vO p k i q s).isSome]) w:=by
 obtain⟨m,hm,e⟩:=h.own;rw[oJ hm,e]
theorem gP.J9{w:World}{l:aH}{p:M.ax}{k i j:Nat}(h:gP w l p k i j)(q:Int)(s:ByteArray):
    (Instr.lookup 88 (.map (some l.A)) (.agg #[.int .i64 q,.string s]) true).run Tryz.prog w=.ok (.tuple #[.int .i64 ((vK p k j q s).getD 0),.bool (vK p k j q s).isSome]) w:=by
 obtain⟨m,hm,e⟩:=h.ask;rw[oJ hm,e]
theorem MQ{p:M.ax}{k i:Nat}{Q:M.eY}(hQ:p[k]?=some Q)(s:ByteArray):(vO p k i k s).isSome=(((Q.owns.take i).map M.Class.name).any fun y=>decide (y=s)):=by
 unfold vO;rw[if_neg Wg,if_pos rfl,hQ,Option.bind_some,Option.isSome_map,List.findIdx?_isSome,List.any_map];rfl
theorem Lm{p:M.ax}{k i:Nat}{Q:M.eY}(hQ:p[k]?=some Q)(s:ByteArray):(vK p k i k s).isSome=(((Q.asks.take i).map M.Ask.name).any fun y=>decide (y=s)):=by
 unfold vK;rw[if_neg Wg,if_pos rfl,hQ,Option.bind_some,Option.isSome_map,List.any_map,Bool.eq_iff_iff,List.find?_isSome];simp
theorem CU{α:Type}{name:α→ByteArray}{ok:α→Bool}{l:List α}{i:Nat}{x:α}(hx:l[i]?=some x):
    M.aZ name ok (l.drop i) ((l.take i).map name)=(ok x&& !(((l.take i).map name).any fun y=>decide (y=name x))&&M.aZ name ok (l.drop (i+1)) ((l.take (i+1)).map name)):=by
 rw[jY hx,List.take_add_one,hx];simp only[M.aZ,Option.toList_some,List.map_append,List.map_cons,List.map_nil]
abbrev KOA(l:aH):Nat→Prop:=fun b=>b=l.O∨b=l.A
theorem Mm (w : World) (l : aH) (p : M.ax) (k : Nat) (Q : M.eY) (hQ : p[k]? = some Q) (h : gP w l p k 0 0) :
    Calls Tryz.prog 37 #[.pointer (some ⟨l.L,0,none⟩),.int .i64 k] w fun e w'=>
     e=.returned (.bool (M.bA p Q))∧Kp (KOA l) w w'∧(M.bA p Q=true→gP w' l p (k+1) 0 0):=by
 obtain⟨a,cap,hb,hs⟩:=h.blk;obtain⟨b,off,cs,rfl,hI,Bn, -,hc⟩:=hs.get hQ;obtain⟨vo,va,rfl,s1,s2⟩:=Bn;obtain⟨a1,c1,rfl,mR,hm1⟩:=s1.form;obtain⟨a2,c2,rfl,yD,Rm⟩:=s2.form;obtain⟨g0,g1⟩:=hc.two;have jr:k<p.length:=(List.getElem?_eq_some_iff.1 hQ).1;obtain⟨hzL,d0, -⟩:=hb.ca;have⟨H0,HQ⟩:=aJ h hQ;have aU:Ext w (w.alloc (.cells #[.slice a1 Q.owns.length c1,.slice a2 Q.asks.length c2] 33)):=(Kp.rr.alloc _);have bK:=ay.new w 33 #[.slice a1 Q.owns.length c1,.slice a2 Q.asks.length c2];clear h hQ hc;have Ny:Zs (M.bA p Q=(decide (Q.owns.length≤5)&&decide (Q.asks.length≤4)&&M.aZ M.Class.name M.jF Q.owns []&&M.aZ M.Ask.name (fun a=>M.aT a.name&&M.has p a.keeper) Q.asks [])):=Z3 rfl;by_cases Bo:5<Q.owns.length
 · have hF:Zs (M.bA p Q=false):=Z3 (by rw[Ny.o,decide_eq_false (p:=Q.owns.length≤5) Wg];rfl);go_enter Tryz.func37,Tryz.ntmps37;go_wp2;go_ret;exact⟨af hF.o.symm,aU.any,fun e=>by rw[hF.o]at e;cases e⟩
 by_cases Hw:4<Q.asks.length
 · have hF:Zs (M.bA p Q=false):=Z3 (by rw[Ny.o,decide_eq_false (p:=Q.asks.length≤4) Wg];simp);go_enter Tryz.func37,Tryz.ntmps37;go_wp2;go_ret;exact⟨af hF.o.symm,aU.any,fun e=>by rw[hF.o]at e;cases e⟩
 have XD:Zs (M.bA p Q=(M.aZ M.Class.name M.jF Q.owns []&&M.aZ M.Ask.name (fun a=>M.aT a.name&&M.has p a.keeper) Q.asks [])):=Z3 (by
  rw[Ny.o,decide_eq_true (p:=Q.owns.length≤5) Wg,decide_eq_true (p:=Q.asks.length≤4) Wg];rfl)
 clear Ny;go_enter Tryz.func37,Tryz.ntmps37;go_wp2;generalize bI:(w.alloc (.cells #[.slice a1 Q.owns.length c1,.slice a2 Q.asks.length c2] 33))=w0 at*;have aiA:w0.heap.size=w.heap.size+1:=by rw[←bI];simp
 clear bI;go_loopw [36] (fun i wr=>∃n:Nat,n≤Q.owns.length∧i=.int .i64 n∧Kp (KOA l) w0 wr∧Zs (gP wr l p k n 0)∧Zs (M.aZ M.Class.name M.jF Q.owns []=M.aZ M.Class.name M.jF (Q.owns.drop n) ((Q.owns.take n).map M.Class.name))) (fun i _=>Q.owns.length - (intOf i).toNat)
 case atStart=>exact⟨0,Nat.zero_le _,rfl,Kp.rr,Z3 (H0.o.ext aU),Z3 rfl⟩
 case round =>
  obtain⟨n,hn,rfl,hK,HH,HA⟩:=hrel;by_cases bY:n<Q.owns.length
  · obtain⟨x,hx⟩:=get_some bY;obtain⟨b',off',cs,he,Yn,BU, -,jy⟩:=s1.get hx;subst he;obtain⟨o1,o2,o3⟩:=HH.o.ord;have hIk:∀z,z<l.O→¬KOA l z:=fun z hz e=>by rcases e with e|e<;>omega
    have Yt:ae wr b' (off'+n*4) cs:=(jy.ext aU).keep fun o v hv=>hK.jg hv (hIk _ Yn);have ad7:=bQ.kp aP.stays hK hIk (bQ.ext aP.stays aU BU);obtain⟨y1,z1,y2,z2,rfl⟩:=BU.form;obtain⟨e0,e1,e2,e3⟩:=Yt.four;obtain⟨ma,aht,UZ, -⟩:=HH.o.blk;obtain⟨Tp, -,r1, -⟩:=UZ.ca;have⟨HX,Xx⟩:=aJ hx ad7;have hW:Ext wr ((wr.alloc (.cells #[.string x.name,.string x.aL,.slice y1 x.fields.length z1,.slice y2 x.methods.length z2] 75)).alloc (.cells #[.int .i64 k,.string x.name] 70)):=kx;have lk:=fun d=>(HH.o.ext (hW.drewN d)).Ka k x.name;have Ay:=MQ (i:=n) HQ.o x.name;have Zq:=Z3 (CU (name:=M.Class.name) (ok:=M.jF) hx);clear hx jy Yt BU ad7 UZ;cases Rp:vO p k n k x.name with
    |some v=>
     rw[Rp]at lk Ay;simp only[Option.getD_some,Option.isSome_some]at lk;have hF:Zs (M.bA p Q=false):=Z3 (by rw[XD.o,HA.o,Zq.o,←Ay];simp);clear Rp Ay;go_wp2;go_quiet (fail);go_wp2;go_ret;exact⟨af hF.o.symm,(aU.any.trans hK).trans (kx:Ext wr _).any,fun e=>by rw[hF.o]at e;cases e⟩
    | none =>
     have XI:=Z3 Rp;rw[Rp]at lk Ay;simp only[Option.getD_none,Option.isSome_none]at lk;have bC:=(ay.new wr 75 #[.string x.name,.string x.aL,.slice y1 x.fields.length z1,.slice y2 x.methods.length z2]).ext (Kp.rr.alloc (.cells #[.int .i64 k,.string x.name] 70));obtain⟨-,q0,q1,q2,q3, -⟩:=bC.ca;have bR:=ay.new (wr.alloc (.cells #[.string x.name,.string x.aL,.slice y1 x.fields.length z1,.slice y2 x.methods.length z2] 75)) 70 #[.int .i64 k,.string x.name];simp only[World.size_alloc]at bR;have afE:=Z3 (fun d=>bQ.ext aP.stays (hW.drewN d) Xx.o);cases jM:M.jF x
     all_goals
      have rH:=Z3 jM;clear jM Rp;go_wp2;go_quiet (fail);go_wp2_with fail;refine(Jw _ _ _ _ (afE.o _)).mono ?_;rintro e w1 ⟨rfl,hB⟩;rw[rH.o];have rr1:=((hW.drewN _).trans hB).aD r1;have bR2:=(bR.ext (Kp.rr.drewN _)).ext hB;obtain⟨uz,u0,u1, -⟩:=bR2.ca;have JH:=(hW.drewN _).trans hB;clear e0 e1 e2 e3 q0 q1 q2 q3 r1 bC bR bR2 lk hB hW
     · have hF:Zs (M.bA p Q=false):=Z3 (by rw[XD.o,HA.o,Zq.o,rH.o];simp);go_wp2;go_ret;exact⟨af hF.o.symm,(aU.any.trans hK).trans JH.any,fun e=>by rw[hF.o]at e;cases e⟩
     · go_wp2;(refine jo 6 Wr Wr ?_);(simp only[List.take_succ_cons,List.take_zero,List.drop_succ_cons,List.drop_zero]);(repeat still_step);(refine wpStill_nil ?_);have hHd:gP w1.drew l p k n 0:=HH.o.ext (JH.drew);obtain⟨m,hm,G6⟩:=hHd.own;have HHd:=Z3 hHd;refine iE _ rfl _ _ _ rfl l.O m k x.name n rfl rfl rfl hm (by rw[G6];exact XI.o) ?_;intro w2 Rm qy NI;go_wp2;go_roundw
       case rel=>
        refine⟨n+1,by omega,by go_num,?_,Z3 (HHd.o.ace qy ⟨_,Rm,I1 G6 XI.o (V5 HQ.o HX.o XI.o)⟩),Z3 ?_⟩
        · exact(hK.trans (JH.drew).any).trans (qy.weak fun _ _ e=>.inl e)
        · rw[HA.o,Zq.o,rH.o,←MQ HQ.o,XI.o];rfl
       case measure=>simp[intOf];omega
  · have JM : n = Q.owns.length := by omega
    subst JM;have XE:Zs (M.bA p Q=M.aZ M.Ask.name (fun a=>M.aT a.name&&M.has p a.keeper) Q.asks []):=Z3 (by
     rw[XD.o,HA.o,List.drop_eq_nil_of_le (Nat.le_refl _)];rfl)
    have hKx:Kp (KOA l) w wr:=aU.any.trans hK;have hbO:b<l.O:=hI;have hIk:∀z,z<l.O→¬KOA l z:=by
     obtain⟨o1,o2,o3⟩:=HH.o.ord;exact fun z hz e=>by rcases e with e|e<;>omega
    have hzz:=hK.size;have hOz:l.A<l.L:=by obtain⟨o1,o2,o3⟩:=HH.o.ord;omega
    have bKr:=bK.kp hK (fun e=>by obtain⟨o1,o2,o3⟩:=HH.o.ord;rcases e with e|e<;>omega);obtain⟨hzK, -,v1, -⟩:=bKr.ca;clear HA XD bK;obtain⟨wo,rfl⟩:∃wo:World,wo=wr:=⟨_,rfl⟩;go_wp2;go_loopw [70] (fun i wr=>∃n:Nat,n≤Q.asks.length∧i=.int .i64 n∧Kp (KOA l) w wr∧Zs (gP wr l p k Q.owns.length n)∧Zs (M.aZ M.Ask.name (fun a=>M.aT a.name&&M.has p a.keeper) Q.asks []=M.aZ M.Ask.name (fun a=>M.aT a.name&&M.has p a.keeper) (Q.asks.drop n) ((Q.asks.take n).map M.Ask.name))) (fun i _=>Q.asks.length - (intOf i).toNat)
    case atStart=>exact⟨0,Nat.zero_le _,rfl,hKx,HH,Z3 rfl⟩
    case round=>
     obtain⟨n,hn,rfl,hK,HH,HA⟩:=hrel;by_cases bY:n<Q.asks.length
     · obtain⟨x,hx⟩:=get_some bY;obtain⟨b',off',cs,he,Yn,rfl, -,jy⟩:=s2.get hx;subst he;have Yt:ae wr b' (off'+n*2) [.string x.name,.int .i64 x.keeper]:=jy.keep fun o v hv=>hK.jg hv (hIk _ Yn);obtain⟨e0,e1⟩:=Yt.two;obtain⟨ma,aht,UZ, -⟩:=HH.o.blk;obtain⟨Tp,r0, -,r2, -⟩:=UZ.ca;have HX:=Z3 hx;have hW:Ext wr ((wr.alloc (.cells #[.string x.name,.int .i64 x.keeper] 55)).alloc (.cells #[.int .i64 k,.string x.name] 70)):=kx;have lk:=fun d=>(HH.o.ext (hW.drewN d)).J9 k x.name;have Ay:=Lm (i:=n) HQ.o x.name;have Zq:=Z3 (CU (name:=M.Ask.name) (ok:=fun a=>M.aT a.name&&M.has p a.keeper) hx);clear hx jy Yt UZ;cases Rp:vK p k n k x.name with
       |some v=>
        rw[Rp]at lk Ay;simp only[Option.getD_some,Option.isSome_some]at lk;have hF:Zs (M.bA p Q=false):=Z3 (by rw[XE.o,HA.o,Zq.o,←Ay];simp);clear Rp Ay;go_wp2;go_quiet (fail);go_wp2;go_ret;exact⟨af hF.o.symm,hK.trans (kx:Ext wr _).any,fun e=>by rw[hF.o]at e;cases e⟩
       |none=>
        have XI:=Z3 Rp;rw[Rp]at lk Ay;simp only[Option.getD_none,Option.isSome_none]at lk;cases jM:M.aT x.name
        · have rH:=Z3 jM;have hF:Zs (M.bA p Q=false):=Z3 (by rw[XE.o,HA.o,Zq.o,jM];simp);clear jM Rp;go_wp2;go_quiet (fail);go_wp2_with (go_at_call 17;refine(iK _ _).mono ?_;rintro e w1 ⟨rfl,rfl⟩;rw[rH.o]);go_ret;exact⟨af hF.o.symm,hK.trans (kx:Ext wr _).any,fun e=>by rw[hF.o]at e;cases e⟩
        · have rH:=Z3 jM;clear jM;have BX:M.has p x.keeper=(decide (0≤x.keeper)&&decide (x.keeper<p.length)):=rfl;cases H7:M.has p x.keeper
          · have hF:Zs (M.bA p Q=false):=Z3 (by rw[XE.o,HA.o,Zq.o,H7];simp);have aaR:Zs ((decide (0≤x.keeper)&&decide (x.keeper<p.length))=false):=Z3 H7;clear H7 Rp BX;go_wp2;go_quiet (fail);go_wp2_with (first|(go_at_call 17;refine(iK _ _).mono ?_;rintro e w1 ⟨rfl,rfl⟩;rw[rH.o])|(go_at_call 19;refine(xm _ _ _ _ _ ((hW.drewN _).aD r0) _).mono ?_;rintro e w1 ⟨rfl,rfl⟩;rw[aaR.o]));go_ret;exact⟨af hF.o.symm,hK.trans (kx:Ext wr _).any,fun e=>by rw[hF.o]at e;cases e⟩
          · have aaR:Zs ((decide (0≤x.keeper)&&decide (x.keeper<p.length))=true):=Z3 H7;have afC:=Z3 H7;clear H7 Rp BX;go_wp2;go_quiet (fail);go_wp2_with (first|(go_at_call 17;refine(iK _ _).mono ?_;rintro e w1 ⟨rfl,rfl⟩;rw[rH.o])|(go_at_call 19;refine(xm _ _ _ _ _ ((hW.drewN _).aD r0) _).mono ?_;rintro e w1 ⟨rfl,rfl⟩;rw[aaR.o]));obtain⟨m,hm,G6⟩:=HH.o.ask;have HHd:=Z3 HH.o;(refine jo 7 Wr Wr ?_);(simp only[List.take_succ_cons,List.take_zero,List.drop_succ_cons,List.drop_zero]);(repeat still_step);(refine wpStill_nil ?_);refine iE _ rfl _ _ _ rfl l.A m k x.name x.keeper rfl rfl rfl (hm.kp ((hW.drewN _).drew) fun x=>x) (by rw[G6];exact XI.o) ?_;intro w2 Rm qy NI;have⟨NC,hKn⟩:=aJ (HHd.o.ext ((hW.drewN _).drew)|>.acd qy ⟨_,Rm,I1 G6 XI.o (TZ HQ.o HX.o XI.o)⟩) ((hK.trans ((hW.drewN _).drew).any).trans (qy.weak fun _ _ e=>.inr e));go_wp2;go_roundw
            case rel=>
             refine⟨n+1,by omega,by go_num,hKn.o,NC,Z3 ?_⟩;rw[HA.o,Zq.o,rH.o,afC.o,←Lm HQ.o,XI.o];rfl
            case measure=>simp[intOf];omega
     · have JM:n=Q.asks.length:=by omega
       subst JM;have hF:Zs (M.bA p Q=true):=Z3 (by rw[XE.o,HA.o,List.drop_eq_nil_of_le (Nat.le_refl _)];rfl);go_wp2;go_ret;exact⟨af hF.o.symm,hK,fun _=>HH.o.next HQ.o⟩
theorem TY{α:Type}{f:α→Bool}{l:List α}{k:Nat}{x:α}(hx:l[k]?=some x):(l.drop k).all f=(f x&&(l.drop (k+1)).all f):=by
 rw[jY hx,List.all_cons]
theorem Ci(w:World)(I:Nat→Prop)(v:Value)(p:M.ax)(h:SliceOf 2 aB w I v p)(hI:∀b,I b→b<w.heap.size):
    Calls Tryz.prog 18 #[.agg #[v]] w fun e w'=>
     Ext w w'∧((M.dF p=false∧e=.returned (.pointer none))∨(M.dF p=true∧∃l:aH,e=.returned (.pointer (some ⟨l.L,0,none⟩))∧aC w' l p∧w.heap.size≤l.O)):=by
 obtain⟨a,cap,rfl,hn,dm⟩:=h.form;by_cases Bo:p.length<1
 · have hF:Zs (M.dF p=false):=Z3 (by unfold M.dF;rw[decide_eq_false (p:=1≤p.length) Wg];rfl);go_enter Tryz.func18,Tryz.ntmps18;go_wp2;go_ret;exact⟨kx,.inl ⟨hF.o,rfl⟩⟩
 by_cases Hw:3<p.length
 · have hF:Zs (M.dF p=false):=Z3 (by unfold M.dF;rw[decide_eq_false (p:=p.length≤3) Wg];simp);go_enter Tryz.func18,Tryz.ntmps18;go_wp2;go_ret;exact⟨kx,.inl ⟨hF.o,rfl⟩⟩
 have HK:Zs (M.dF p=p.all (M.bA p)):=Z3 (by unfold M.dF;rw[decide_eq_true (p:=1≤p.length) Wg,decide_eq_true (p:=p.length≤3) Wg];rfl);have mk:∀W:World,(Instr.makeMap 88 none).run Tryz.prog W=.ok (.map (some W.heap.size)) (W.alloc (.map #[] 0)):=fun W=>by kernel_rfl
 have bH:Ext w (((((w.alloc (.cells #[.slice a p.length cap] 25)).alloc (.map #[] 0)).alloc (.map #[] 0)).alloc (.map #[] 0)).alloc (.cells #[.slice a p.length cap,.map (some (w.heap.size+1)),.map (some (w.heap.size+1+1)),.map (some (w.heap.size+1+1+1))] 90)):=kx;have hH:gP (((((w.alloc (.cells #[.slice a p.length cap] 25)).alloc (.map #[] 0)).alloc (.map #[] 0)).alloc (.map #[] 0)).alloc (.cells #[.slice a p.length cap,.map (some (w.heap.size+1)),.map (some (w.heap.size+1+1)),.map (some (w.heap.size+1+1+1))] 90)) ⟨w.heap.size+1+1+1+1,w.heap.size+1,w.heap.size+1+1,w.heap.size+1+1+1⟩ p 0 0 0:=by
  have e1:=jk.new (w.alloc (.cells #[.slice a p.length cap] 25));have e2:=jk.new ((w.alloc (.cells #[.slice a p.length cap] 25)).alloc (.map #[] 0));have e3:=jk.new (((w.alloc (.cells #[.slice a p.length cap] 25)).alloc (.map #[] 0)).alloc (.map #[] 0));have e4:=ay.new ((((w.alloc (.cells #[.slice a p.length cap] 25)).alloc (.map #[] 0)).alloc (.map #[] 0)).alloc (.map #[] 0)) 90 #[.slice a p.length cap,.map (some (w.heap.size+1)),.map (some (w.heap.size+1+1)),.map (some (w.heap.size+1+1+1))];simp only[World.size_alloc]at e1 e2 e3 e4;refine⟨⟨Nat.lt_succ_self _,Nat.lt_succ_self _,Nat.lt_succ_self _⟩,⟨a,cap,e4,h.keep aB.stays (Ext.same bH) fun b hb=>Nat.lt_succ_of_lt (hI b hb)⟩,⟨[],e1.kp (((((Kp.refl (fun _=>False) _).alloc _).alloc _).alloc _)) fun x=>x,fun q s=>(V6 p q s).symm⟩,⟨[],e2.kp ((((Kp.refl (fun _=>False) _).alloc _).alloc _)) fun x=>x,fun q s=>(T9 p q s).symm⟩,e3.kp ((Kp.refl (fun _=>False) _).alloc _) fun x=>x⟩
 go_enter Tryz.func18,Tryz.ntmps18;go_wp2;obtain⟨l,hl⟩:∃l:aH,l=⟨w.heap.size+1+1+1+1,w.heap.size+1,w.heap.size+1+1,w.heap.size+1+1+1⟩:=⟨_,rfl⟩;have hL:w.heap.size+1+1+1+1=l.L:=by rw[hl]
 have hO:w.heap.size<l.O∧w.heap.size<l.A:=by rw[hl];exact⟨Nat.lt_succ_self _,by show w.heap.size<w.heap.size+1+1;omega⟩
 rw[←hl]at hH;generalize (((((w.alloc (.cells #[.slice a p.length cap] 25)).alloc (.map #[] 0)).alloc (.map #[] 0)).alloc (.map #[] 0)).alloc (.cells #[.slice a p.length cap,.map (some (w.heap.size+1)),.map (some (w.heap.size+1+1)),.map (some (w.heap.size+1+1+1))] 90))=w1 at*;rw[hL];have HL:=Z3 hl;clear hl mk;go_loopw [25] (fun i wr=>∃n:Nat,n≤p.length∧i=.int .i64 n∧Kp (KOA l) w1 wr∧Zs (gP wr l p n 0 0)∧Zs (p.all (M.bA p)=(p.drop n).all (M.bA p))) (fun i _=>p.length - (intOf i).toNat)
 case atStart=>exact⟨0,Nat.zero_le _,rfl,Kp.rr,Z3 hH,Z3 rfl⟩
 case round =>
  obtain⟨n,hn,rfl,hK,HH,HA⟩:=hrel;have hEr:Ext w wr:=bH.own hK (fun b hb=>by rcases hb with rfl|rfl<;>omega);by_cases bY:n<p.length
  · obtain⟨Q,hQ⟩:=get_some bY;have hdr:=TY (f:=M.bA p) hQ;have HDR:=Z3 hdr;go_wp2_with fail;refine(Mm _ _ _ _ _ hQ HH.o).mono ?_;rintro e w2 ⟨rfl,ag,Vd⟩;cases jM:M.bA p Q
    · have HF:Zs (M.dF p=false):=Z3 (by rw[HK.o,HA.o,HDR.o,jM];rfl);clear Vd hdr;go_wp2;go_ret;exact⟨hEr.own ag (fun b hb=>by rcases hb with rfl|rfl<;>omega),.inl ⟨HF.o,rfl⟩⟩
    · have HN:=Z3 (Vd jM);have HOk:=Z3 jM;clear Vd hdr;go_wp2;go_roundw
      case rel=>exact⟨n+1,by omega,by go_num,hK.trans ag,HN,Z3 (by rw[HA.o,HDR.o,HOk.o];rfl)⟩
      case measure=>simp[intOf];omega
  · have JM:n=p.length:=by omega
    subst JM;have HF:Zs (M.dF p=true):=Z3 (by rw[HK.o,HA.o,List.drop_eq_nil_of_le (Nat.le_refl _)];rfl);go_wp2;go_ret;exact⟨hEr,.inr ⟨HF.o,l,rfl,HH.o.done HF.o,Nat.le_of_lt hO.1⟩⟩
def lD:M.kI:=⟨⟨0,M.none_⟩,0⟩
theorem FV(w:World)(l:aH)(p:M.ax)(h:aC w l p)(r:M.Ref)(n:ByteArray):
    Calls Tryz.prog 87 #[.pointer (some ⟨l.L,0,none⟩),.agg #[.int .i64 r.keeper,.string r.name],.string n] w fun e w'=>
     e=.returned (.tuple #[.agg #[.int .i64 ((M.pick p r n).getD lD).of.keeper,.string ((M.pick p r n).getD lD).of.name,.int .i64 ((M.pick p r n).getD lD).at_],.bool (M.pick p r n).isSome])∧aC w' l p∧Kp (·=l.D) w w':=by
 have aU:Ext w ((w.alloc (.cells #[.int .i64 r.keeper,.string r.name] 70)).alloc (.cells #[.int .i64 0,.string ⟨#[]⟩,.int .i64 0] 94)):=kx;have H:=Z3 (h.ext aU);have bY:=h.lt;have hDL:l.D<l.L:=h.ord.2.2;clear h;have b4:=(ay.new w 70 #[.int .i64 r.keeper,.string r.name]).ext (Kp.rr.alloc (.cells #[.int .i64 0,.string ⟨#[]⟩,.int .i64 0] 94));have b6:=ay.new (w.alloc (.cells #[.int .i64 r.keeper,.string r.name] 70)) 94 #[.int .i64 0,.string ⟨#[]⟩,.int .i64 0];simp only[World.size_alloc]at b6;go_enter Tryz.func87,Tryz.ntmps87;go_wp2_with fail;generalize ((w.alloc (.cells #[.int .i64 r.keeper,.string r.name] 70)).alloc (.cells #[.int .i64 0,.string ⟨#[]⟩,.int .i64 0] 94))=w0 at*;refine(ik _ _ _ H.o r).mono ?_;rintro e w1 ⟨rfl,Aq,lI⟩;have c4:=b4.kp lI Wg;have c6:=b6.kp lI Wg;have Ap:Kp (·=l.D) w w1:=(aU.any).trans lI;obtain⟨-,p0,p1, -⟩:=c4.ca;obtain⟨-,q0,q1,q2, -⟩:=c6.ca;obtain⟨f0,f1,f2, -⟩:=c6.fz;have Bw:=Z3 Aq;have Xj:=c6.lt;clear b4 b6 H aU Aq lI;cases pW:M.bu p r
 · have hP:M.pick p r n=none:=by unfold M.pick;rw[pW];rfl
   have HP:=Z3 hP;clear pW hP;go_wp2;refine bodyPost_ret (v:=.tuple #[.agg #[.int .i64 0,.string ⟨#[]⟩,.int .i64 0],.bool false]) (by simp[results,Tryz.results87,go_sem,q0,q1,q2]) rfl ?_;have mU:Kp (·=w.heap.size+1) w1 (((w1.setCell ⟨w.heap.size+1,0,none⟩ (.int .i64 0)).setCell ⟨w.heap.size+1,1,none⟩ (.string ⟨#[]⟩)).setCell ⟨w.heap.size+1,2,none⟩ (.int .i64 0)):=
    (((Kp.refl (·=w.heap.size+1) w1).setCell (p:=⟨w.heap.size+1,0,none⟩) (fun _=>rfl) _).setCell (p:=⟨w.heap.size+1,1,none⟩) (fun _=>rfl) _).setCell (p:=⟨w.heap.size+1,2,none⟩) (fun _=>rfl) _
   exact⟨by rw[HP.o];rfl,Bw.o.kp mU (fun k hk e=>by omega),Ap.own mU (fun k hk=>by omega)⟩
 · have hP:M.pick p r n=M.jU p n (M.chain p r):=by unfold M.pick;rw[pW];rfl
   have HP:=Z3 hP;clear pW hP;go_wp2_with fail;refine(mH _ _ _ Bw.o _).mono ?_;rintro e w2 ⟨⟨v,rfl,hs⟩,hB⟩;obtain⟨a,cap,rfl,hn,dm⟩:=hs.form;have HO:Zs (∀x∈M.chain p r,∃c,M.cls? p x=some c):=Z3 dM;have wE:=Z3 (Bw.o.ext hB);have c62:=c6.ext hB;have ag:Kp (·=l.D) w w2:=Ap.trans hB.any;clear p0 p1 q0 q1 q2 f0 f1 f2 Xj c4 c6 Ap hB Bw;generalize M.chain p r=xs at*;go_wp2;go_loopw [20] (fun i wr=>∃k:Nat,k≤xs.length∧i=.int .i64 k∧Ext w2 wr∧Zs (M.jU p n xs=M.jU p n (xs.drop k))) (fun i _=>xs.length - (intOf i).toNat)
   case atStart=>exact⟨0,Nat.zero_le _,rfl,Kp.rr,Z3 rfl⟩
   case round=>
    obtain⟨k,hk,rfl,hE,HA⟩:=hrel;have c6r:=c62.ext hE;obtain⟨Xj,q0,q1,q2, -⟩:=c6r.ca;obtain⟨f0,f1,f2, -⟩:=c6r.fz;have mU:Zs (∀W (u v t:Value),Ext w2 W→Kp (·=l.D) w (((W.setCell ⟨w.heap.size+1,0,none⟩ u).setCell ⟨w.heap.size+1,1,none⟩ v).setCell ⟨w.heap.size+1,2,none⟩ t)∧aC (((W.setCell ⟨w.heap.size+1,0,none⟩ u).setCell ⟨w.heap.size+1,1,none⟩ v).setCell ⟨w.heap.size+1,2,none⟩ t) l p):=Z3 (fun W u v t hW=>by
     have mU:Kp (·=w.heap.size+1) W (((W.setCell ⟨w.heap.size+1,0,none⟩ u).setCell ⟨w.heap.size+1,1,none⟩ v).setCell ⟨w.heap.size+1,2,none⟩ t):=
      (((Kp.refl (·=w.heap.size+1) W).setCell (p:=⟨w.heap.size+1,0,none⟩) (fun _=>rfl) _).setCell (p:=⟨w.heap.size+1,1,none⟩) (fun _=>rfl) _).setCell (p:=⟨w.heap.size+1,2,none⟩) (fun _=>rfl) _
     exact⟨(ag.trans hW.any).own mU (fun k hk=>by omega),(wE.o.ext hW).kp mU (fun k hk e=>by omega)⟩)
    by_cases bY:k<xs.length
    · obtain⟨x,hx⟩:=get_some bY;obtain⟨b,off,cs,rfl,hI,rfl, -,hc⟩:=hs.get hx;obtain⟨g0,g1⟩:=(hc.ext hE).two;obtain⟨c,BU⟩:=HO.o x (List.mem_of_getElem? hx);have⟨HX,Xx⟩:=aJ hx BU;have Ma:Zs (M.jU p n xs=match M.lM c n with|some i=>some ⟨x,i⟩|none=>M.jU p n (xs.drop (k+1))):=Z3 (by
       rw[HA.o,jY hx];have jy:M.cls p x=c:=by unfold M.cls;rw[BU];rfl
       rw[←jy];rfl)
      clear hx hc BU;have bx:=ay.new wr 70 #[.int .i64 x.keeper,.string x.name];go_wp2_with fail;refine(mI _ _ _ (wE.o.ext (hE.alloc (.cells #[.int .i64 x.keeper,.string x.name] 70))) _ _ _ Xx.o).mono ?_;rintro e w3 ⟨⟨cs,fU,rfl⟩,Hp⟩;have qh:=Z3 (bQ.ext aP.stays Hp fU);have dK:Ext wr w3:=((Kp.refl (fun _=>False) wr).alloc (.cells #[.int .i64 x.keeper,.string x.name] 70)).trans Hp;have bx3:=bx.ext Hp;have c63:=c6r.ext dK;clear q0 q1 q2 f0 f1 f2 Xj g0 g1 bx;go_wp2_with fail;refine(Ch _ _ _ _ qh.o _).mono ?_;rintro e w4 ⟨rfl,Bj⟩;have bx4:=bx3.ext Bj;obtain⟨xz,x0,x1, -⟩:=bx4.ca;have c64:=c63.ext Bj;obtain⟨Xj,q0,q1,q2, -⟩:=c64.ca;obtain⟨f0,f1,f2, -⟩:=c64.fz;have dI:=(hE.trans dK).trans Bj;clear bx3 bx4 c63 c64 c6r;cases hix:M.lM c n with
      |none=>
       have HS:=Z3 (Ma.o.trans (by rw[hix]));simp only[Xk,Option.elim];clear hix;go_wp2;go_roundw
       case rel=>exact⟨k+1,by omega,by go_num,dI,Z3 HS.o⟩
       case measure=>simp[intOf];omega
      |some i=>
       have HS:=Z3 (Ma.o.trans (by rw[hix]));simp only[Xk,Option.elim];clear hix;have hi0:(0:Int)≤(i:Int):=by omega
       go_wp2;refine bodyPost_ret (v:=.tuple #[.agg #[.int .i64 x.keeper,.string x.name,.int .i64 i],.bool true]) (by simp[results,Tryz.results87,go_sem,q0,q1,q2]) rfl ?_;have:=mU.o w4 (.int .i64 x.keeper) (.string x.name) (.int .i64 i) dI;exact⟨by rw[HP.o,HS.o];rfl,this.2,this.1⟩
    · go_wp2;refine bodyPost_ret (v:=.tuple #[.agg #[.int .i64 0,.string ⟨#[]⟩,.int .i64 0],.bool false]) (by simp[results,Tryz.results87,go_sem,q0,q1,q2]) rfl ?_;have:=mU.o wr (.int .i64 0) (.string ⟨#[]⟩) (.int .i64 0) hE;exact⟨by rw[HP.o,HA.o,List.drop_eq_nil_of_le Wg];rfl,this.2,this.1⟩
def EB(w:World)(ev:Value)(code:Int):Prop:=(code=1∧ev=Value.nilIface)∨(code≠1∧∃b,ev=.iface 155 (.pointer (some ⟨b,0,none⟩))∧ay w b 157 #[.int .i64 code])
theorem vF(w:World)(l:aH)(p:M.ax)(h:aC w l p)(k:Int)(n m:ByteArray):
    Calls Tryz.prog 86 #[.pointer (some ⟨l.L,0,none⟩),.int .i64 k,.string n,.string m] w fun e w'=>
     (∃ev,e=.returned (.tuple #[.agg #[.int .i64 (M.aS p k n m).1.keeper,.string (M.aS p k n m).1.name],ev])∧EB w' ev (M.aS p k n m).2)∧aC w' l p∧Kp (·=l.D) w w':=by
 have aU:Ext w (w.alloc (.cells #[.int .i64 0,.string ⟨#[]⟩] 70)):=kx;have⟨H,H0⟩:=aJ (h.ext aU) h;have bY:=h.lt;have hDL:l.D<l.L:=h.ord.2.2;clear h;have b8:=ay.new w 70 #[.int .i64 0,.string ⟨#[]⟩];obtain⟨-,c0,c1, -⟩:=b8.ca;have tO:Zs (¬(M.has p k&&M.aT n&&M.aT m)=true→M.aS p k n m=(M.qg,2)):=Z3 (fun h=>by unfold M.aS;rw[if_neg h]);have H8:Zs ((M.has p k&&M.aT n&&M.aT m)=true→M.aS p k n m=(if(M.find p k n).2=1 then(if M.bu p (M.find p k n).1 then((M.find p k n).1,1)else(M.qg,4))else(M.qg,2))):=Z3 (fun h=>by unfold M.aS;rw[if_pos h]);have FIN:Zs (∀(e:Ending) (w':World) (b:Nat),M.aS p k n m=(M.qg,2)→e=.returned (.tuple #[.agg #[.int .i64 0,.string ⟨#[]⟩],.iface 155 (.pointer (some ⟨b,0,none⟩))])→ay w' b 157 #[.int .i64 2]→aC w' l p→Kp (·=l.D) w w'→
     (∃ev,e=.returned (.tuple #[.agg #[.int .i64 (M.aS p k n m).1.keeper,.string (M.aS p k n m).1.name],ev])∧EB w' ev (M.aS p k n m).2)∧aC w' l p∧Kp (·=l.D) w w'):=Z3 (fun e w' b e1 e2 e3 e4 e5=>by
  rw[e1];exact⟨⟨_,e2,.inr ⟨by decide,b,rfl,e3⟩⟩,e4,e5⟩)
 cases h1:M.has p k
 · have H1:=Z3 h1;have HN:Zs (M.aS p k n m=(M.qg,2)):=Z3 (tO.o (by rw[h1];simp));clear h1;go_enter Tryz.func86,Tryz.ntmps86;go_wp2_with (go_at_call 19;refine(oh _ _ _ H.o _).mono ?_;rintro e w1 ⟨rfl,rfl⟩;rw[H1.o]);refine bodyPost_ret (v:=.tuple #[.agg #[.int .i64 0,.string ⟨#[]⟩],.iface 155 (.pointer (some ⟨w.heap.size+1,0,none⟩))]) (by simp[results,Tryz.results86,go_sem,c0,c1]) rfl ?_;refine FIN.o _ _ _ HN.o rfl ?_ (H0.o.ext kx) (kx:Ext w _).any;have:=ay.new (w.alloc (.cells #[.int .i64 0,.string ⟨#[]⟩] 70)) 157 #[.int .i64 2];simpa only[World.size_alloc]using this
 have H1:=Z3 h1;cases h2:M.aT n
 · have H2:=Z3 h2;have HN:Zs (M.aS p k n m=(M.qg,2)):=Z3 (tO.o (by rw[h2];simp));clear h1 h2;go_enter Tryz.func86,Tryz.ntmps86;go_wp2_with (first|(go_at_call 19;refine(oh _ _ _ H.o _).mono ?_;rintro e w1 ⟨rfl,rfl⟩;rw[H1.o])|(go_at_call 17;refine(iK _ _).mono ?_;rintro e w1 ⟨rfl,rfl⟩;rw[H2.o]));refine bodyPost_ret (v:=.tuple #[.agg #[.int .i64 0,.string ⟨#[]⟩],.iface 155 (.pointer (some ⟨w.heap.size+1,0,none⟩))]) (by simp[results,Tryz.results86,go_sem,c0,c1]) rfl ?_;refine FIN.o _ _ _ HN.o rfl ?_ (H0.o.ext kx) (kx:Ext w _).any;have:=ay.new (w.alloc (.cells #[.int .i64 0,.string ⟨#[]⟩] 70)) 157 #[.int .i64 2];simpa only[World.size_alloc]using this
 have H2:=Z3 h2;cases h3:M.aT m
 · have H3:=Z3 h3;have HN:Zs (M.aS p k n m=(M.qg,2)):=Z3 (tO.o (by rw[h3];simp));clear h1 h2 h3;go_enter Tryz.func86,Tryz.ntmps86;go_wp2_with fail;refine(oh _ _ _ H.o _).mono ?_;rintro e w1 ⟨rfl,rfl⟩;rw[H1.o];go_wp2_with fail;refine(iK _ _).mono ?_;rintro e w1 ⟨rfl,rfl⟩;rw[H2.o];go_wp2_with fail;refine(iK _ _).mono ?_;rintro e w1 ⟨rfl,rfl⟩;rw[H3.o];go_wp2;refine bodyPost_ret (v:=.tuple #[.agg #[.int .i64 0,.string ⟨#[]⟩],.iface 155 (.pointer (some ⟨w.heap.size+1,0,none⟩))]) (by simp[results,Tryz.results86,go_sem,c0,c1]) rfl ?_;refine FIN.o _ _ _ HN.o rfl ?_ (H0.o.ext kx) (kx:Ext w _).any;have:=ay.new (w.alloc (.cells #[.int .i64 0,.string ⟨#[]⟩] 70)) 157 #[.int .i64 2];simpa only[World.size_alloc]using this
 have⟨H3,HY⟩:=aJ h3 (H8.o (by rw[h1,h2,h3];rfl));clear h1 h2 h3 tO H8;go_enter Tryz.func86,Tryz.ntmps86;go_wp2_with fail;refine(oh _ _ _ H.o _).mono ?_;rintro e w1 ⟨rfl,rfl⟩;rw[H1.o];go_wp2_with fail;refine(iK _ _).mono ?_;rintro e w1 ⟨rfl,rfl⟩;rw[H2.o];go_wp2_with fail;refine(iK _ _).mono ?_;rintro e w1 ⟨rfl,rfl⟩;rw[H3.o];go_wp2_with fail;refine(jR _ _ _ H.o _ _).mono ?_;rintro e w1 ⟨rfl,hB⟩;have b81:=b8.ext hB;obtain⟨hz,q0,q1, -⟩:=b81.ca;obtain⟨f0,f1, -⟩:=b81.fz;have bH:Ext w w1:=aU.trans hB;have Bw:=Z3 (H0.o.ext bH);clear c0 c1 H hB b8;have aa9:Zs (∀(W:World) (u v:Value),Kp (·=w.heap.size) W ((W.setCell ⟨w.heap.size,0,none⟩ u).setCell ⟨w.heap.size,1,none⟩ v)):=Z3 (fun W u v=>((Kp.refl (·=w.heap.size) W).setCell (p:=⟨w.heap.size,0,none⟩) (fun _=>rfl) _).setCell (p:=⟨w.heap.size,1,none⟩) (fun _=>rfl) _);have afz:Zs (∀(W:World) (u v x:Value),ay (((W.setCell ⟨w.heap.size,0,none⟩ u).setCell ⟨w.heap.size,1,none⟩ v).alloc (.cells #[x] 157)) W.heap.size 157 #[x]):=Z3 (fun W u v x=>by
  have:=ay.new ((W.setCell ⟨w.heap.size,0,none⟩ u).setCell ⟨w.heap.size,1,none⟩ v) 157 #[x];simpa using this)
 generalize M.find p k n=F at*;obtain⟨⟨fk,fn⟩,code⟩:=F;simp only at*;by_cases hc:code=1
 · subst hc;have bF:=ay.new w1 70 #[.int .i64 fk,.string fn];go_wp2_with fail;refine(ik _ _ _ (Bw.o.ext (Kp.rr.alloc (.cells #[.int .i64 fk,.string fn] 70))) ⟨fk,fn⟩).mono ?_;rintro e w2 ⟨rfl,hL2,ag⟩;have hD1:l.D<w1.heap.size:=by have:=bH.size;omega
   have bF2:=bF.kp ag Wg;have S9:=(b81.ext (Kp.rr.alloc (.cells #[.int .i64 fk,.string fn] 70))).kp ag Wg;obtain⟨uz,u0,u1, -⟩:=bF2.ca;obtain⟨ez,r0,r1, -⟩:=S9.ca;obtain⟨e0,e1, -⟩:=S9.fz;have Ap:Kp (·=l.D) w w2:=((bH.alloc _).any).trans ag;clear q0 q1 f0 f1 b81 bF ag;have mU:Kp (·=w.heap.size) w2 ((w2.setCell ⟨w.heap.size,0,none⟩ (.int .i64 0)).setCell ⟨w.heap.size,1,none⟩ (.string ⟨#[]⟩)):=((Kp.refl (·=w.heap.size) w2).setCell (p:=⟨w.heap.size,0,none⟩) (fun _=>rfl) _).setCell (p:=⟨w.heap.size,1,none⟩) (fun _=>rfl) _;clear mU;have wE:=Z3 hL2;cases pW:M.bu p ⟨fk,fn⟩
   · have HN:Zs (M.aS p k n m=(M.qg,4)):=Z3 (by rw[HY.o,pW];rfl);clear pW;go_wp2;refine bodyPost_ret (v:=.tuple #[.agg #[.int .i64 0,.string ⟨#[]⟩],.iface 155 (.pointer (some ⟨w2.heap.size,0,none⟩))]) (by simp[results,Tryz.results86,go_sem,r0,r1,ez]) rfl ?_;have mU:=aa9.o w2 (.int .i64 0) (.string ⟨#[]⟩);rw[HN.o];exact⟨⟨_,rfl,.inr ⟨by decide,_,rfl,afz.o w2 _ _ _⟩⟩,(wE.o.kp mU (fun j hj e=>by omega)).ext (Kp.rr.alloc _),(Ap.own mU (fun j hj=>by omega)).alloc _⟩
   · have HN:Zs (M.aS p k n m=(⟨fk,fn⟩,1)):=Z3 (by rw[HY.o,pW];rfl);clear pW;go_wp2;refine bodyPost_ret (v:=.tuple #[.agg #[.int .i64 fk,.string fn],Value.nilIface]) (by simp[results,Tryz.results86,go_sem,r0,r1,ez]) rfl ?_;have mU:=aa9.o w2 (.int .i64 fk) (.string fn);rw[HN.o];exact⟨⟨_,rfl,.inl ⟨rfl,rfl⟩⟩,wE.o.kp mU (fun j hj e=>by omega),Ap.own mU (fun j hj=>by omega)⟩
 · have Bl:(code !=1)=true:=bne_iff_ne.2 hc;have HN:Zs (M.aS p k n m=(M.qg,2)):=Z3 (by rw[HY.o,if_neg hc]);clear hc HY;go_wp2;refine bodyPost_ret (v:=.tuple #[.agg #[.int .i64 0,.string ⟨#[]⟩],.iface 155 (.pointer (some ⟨w1.heap.size+1,0,none⟩))]) (by simp[results,Tryz.results86,go_sem,q0,q1,hz]) rfl ?_;have mU:=aa9.o w1 (.int .i64 0) (.string ⟨#[]⟩);refine FIN.o _ _ _ HN.o rfl ?_ ((Bw.o.kp mU (fun j hj e=>by omega)).ext ((Kp.rr.alloc _).alloc _)) (((bH.any.own mU (fun j hj=>by omega)).alloc _).alloc _);have:=ay.new (((w1.setCell ⟨w.heap.size,0,none⟩ (.int .i64 0)).setCell ⟨w.heap.size,1,none⟩ (.string ⟨#[]⟩)).alloc (.cells #[.int .i64 fk,.string fn] 70)) 157 #[.int .i64 2];simpa using this
end Go.Proofs.YtkmclfpjpajjeaaGreat
