/- Walks. -/
import Derived.Test.YtcepdbbapgfcdaaGreatVmCorek
set_option maxRecDepth 100000
set_option maxHeartbeats 4000000
set_option linter.unusedSimpArgs false
set_option linter.unusedVariables false
namespace Go.Proofs.YtcepdbbapgfcdaaGreat
open Go Go.RowKit
theorem GK{p:M.au}:∀(f:Nat) (r:M.Ref) (refs:List M.Ref),M.dh p f r=some refs→(∃c,M.cls? p r=some c)→∀x∈refs,∃c,M.cls? p x=some c:=by
 intro f;induction f with
 |zero=>intro r refs h;simp[M.dh]at h
 |succ f ih=>
  intro r refs h ho x hx;unfold M.dh at h;split at h
  · cases h;simp at hx;subst hx;exact ho
  · split at h
    · rename_i hc;cases hg:M.dh p f (M.resolve p r.keeper (M.aQ p r)).1 with
      |none=>rw[hg]at h;simp at h
      |some rs=>
       rw[hg]at h;simp at h;subst h;rcases List.mem_cons.1 hx with rfl|hx
       · exact ho
       · exact ih _ _ hg (gU hc) x hx
    · cases h
theorem Fe{p:M.au}{r:M.Ref}(h:M.iO p r=true):∃c,M.cls? p r=some c:=by
 unfold M.iO M.find at h;by_cases hc:(M.resolve p r.keeper r.name).2=1
 · rw[if_pos hc]at h;split at h
   · simp at h;rw[←h];exact gU hc
   · simp at h
 · rw[if_neg hc]at h;simp at h;exact absurd h.1 hc
theorem jc{p:M.au}{r:M.Ref}:∀x∈M.chain p r,∃c,M.cls? p x=some c:=by
 intro x hx;unfold M.chain at hx;split at hx
 · rename_i hl;cases hc:M.qc p r with
   |none=>rw[hc]at hx;simp at hx
   |some refs=>
    rw[hc]at hx;exact GK 6 r refs hc (Fe hl) x (by simpa using hx)
 · simp at hx
theorem aF.Xp{w w':World}{l:aI}{p:M.au}(h:aF w l p)(hk:Kp (·=l.D) w w')(hm:∃m,jb w' l.D m∧∀k s v,look m (k,s)=some v→v=if M.cZ p ⟨k,s⟩then 1 else 2):aF w' l p:=by
 obtain⟨o1,o2,o3⟩:=h.ord;refine⟨h.ok,h.ord,?_,?_,?_,hm⟩
 · obtain⟨a,cap,hb,hs⟩:=h.blk;exact⟨a,cap,hb.kp hk (by omega),hs.keep az.stays (Kp.same hk fun b hb e=>by omega) fun _ h=>h⟩
 · obtain⟨m,h1,h2⟩:=h.own;exact⟨m,h1.kp hk (by omega),h2⟩
 · obtain⟨m,h1,h2⟩:=h.ask;exact⟨m,h1.kp hk (by omega),h2⟩
theorem iG(w:World)(l:aI)(p:M.au)(h:aF w l p)(r:M.Ref):
    Calls Tryz.prog 45 #[.pointer (some ⟨l.L,0,none⟩),.agg #[.int .i64 r.keeper,.string r.name]] w fun e w'=>
     e=.returned (.bool (M.cZ p r))∧aF w' l p∧Kp (·=l.D) w w':=by
 obtain⟨m,hm,Gp⟩:=h.laid;have aU:Ext w (w.alloc (.cells #[.int .i64 r.keeper,.string r.name] 40)).drew:=kx;have lk:=y8 (hm.kp aU fun x=>x) r.keeper r.name;obtain⟨a,cap,hs,c0,c1,c2,c3⟩:=h.cells;have d3:=c3 _ (Kp.refl _ w);have hzL:=aG d3;have H0:=Ys h;have H:=Ys (h.ext aU);have b3:=(aC.new w 40 #[.int .i64 r.keeper,.string r.name]);clear hs c0 c1 c2 h;cases hl:look m (r.keeper,r.name)with
 | some v =>
  have hv:=Gp _ _ _ hl;rw[hl]at lk;simp only[Option.getD_some]at lk;have HM:=Ys (And.intro hm Gp);clear hm Gp hl c3;cases hc:M.cZ p r
  all_goals
   have zW:M.cZ p ⟨r.keeper,r.name⟩=_:=hc;rw[zW]at hv;have HC:=Ys hc;clear hc zW;simp at hv;subst hv;go_enter Tryz.func45,Tryz.ntmps45;go_wp2;(refine jg 6 (by kernel_rfl) (by kernel_rfl) ?_);(simp only[List.take_succ_cons,List.take_zero,List.drop_succ_cons,List.drop_zero]);(repeat still_step);(refine wpStill_nil ?_);go_wp2;go_ret;exact⟨rfl,H0.o.ext kx |> fun h=>h,(kx:Ext w _).any⟩
 | none =>
  rw[hl]at lk;simp only[Option.getD_none]at lk;have HM:=Ys (And.intro hm (And.intro Gp hl));have vQ:=Ys c3;clear hm Gp hl c3;go_enter Tryz.func45,Tryz.ntmps45;go_wp2;(refine jg 6 (by kernel_rfl) (by kernel_rfl) ?_);(simp only[List.take_succ_cons,List.take_zero,List.drop_succ_cons,List.drop_zero]);(repeat still_step);(refine wpStill_nil ?_);go_wp2_with fail;refine(oF _ _ _ H.o _).mono ?_;rintro e w1 ⟨⟨v,rfl,hs⟩,hB⟩;obtain⟨a',cap',rfl,hn,dn⟩:=hs.form;have bA:Ext w w1:=aU.trans hB;have d1:=vQ.o _ bA;have H1:=Ys (H0.o.ext bA);have HMD:=Ys (HM.o.1.kp bA fun x=>x);have IM:=((b3.ext ((Kp.refl _ _).drew)).ext hB);have q0:=IM.c 0 (.int .i64 r.keeper) rfl;have q1:=IM.c 1 (.string r.name) rfl;have qz:=IM.lt;have fV:Zs (M.cZ p r=(!(M.chain p r).isEmpty&&M.iw p (M.chain p r))):=Ys rfl;have Wq:Zs (∀x∈M.chain p r,∃c,M.cls? p x=some c):=Ys jc;have HU:Zs (∀W W',Ext w W→jb W' l.D (m++[((r.keeper,r.name),if M.cZ p r then 1 else 2)])→Kp (·=l.D) W W'→aF W' l p):=Ys (fun W W' hW hm' Jh=>(H0.o.ext hW).Xp Jh ⟨_,hm',fun k s v hv=>by
   by_cases Wy:((k,s):Key)=(r.keeper,r.name)
   · rw[Wy,wO HM.o.2.2]at hv;cases hv;simp only[Prod.mk.injEq]at Wy;obtain⟨rfl,rfl⟩:=Wy;rfl
   · rw[uV Wy]at hv;exact HM.o.2.1 k s v hv⟩)
  clear hB b3 IM lk d3 aU;generalize M.chain p r=xs at*;cases xs with
  |nil=>
   have pG:M.cZ p r=false:=fV.o;rw[pG]at HU;have RX:=Ys pG;clear pG;clear hs;go_wp2;(refine jg 5 (by kernel_rfl) (by kernel_rfl) ?_);(simp only[List.take_succ_cons,List.take_zero,List.drop_succ_cons,List.drop_zero]);(repeat still_step);(refine wpStill_nil ?_);refine il _ rfl _ _ _ rfl l.D m r.keeper r.name 2 rfl rfl rfl (HMD.o.kp ((Kp.refl (fun _=>False) _).drew) fun x=>x) HM.o.2.2 ?_;intro w2 PZ qJ EX;go_wp2;go_ret;exact⟨ag RX.o.symm,HU.o _ _ ((bA).drew) PZ qJ,((bA.drew).any:Kp (·=l.D) w _).trans qJ⟩
  |cons y ys=>
   have hlen:((y::ys).length:Int)≠0:=by simp;omega
   have afj:(((y::ys).length:Int)==0)=false:=beq_eq_false_iff_ne.2 hlen;cases hch:M.iw p (y::ys)
   · have pG:M.cZ p r=false:=by rw[fV.o,hch];rfl
     rw[pG]at HU;have RX:=Ys pG;have HCh:=Ys hch;clear pG hch;generalize (y::ys)=xs at*;go_wp2_with fail;refine(uT _ _ _ H1.o _ _ _ hs Wq.o).mono ?_;rintro e w2 ⟨rfl,hB2⟩;rw[HCh.o];have d2:=vQ.o _ (bA.trans hB2);have p0:=hB2.aA q0;have p1:=hB2.aA q1;have bP:Ext w w2:=bA.trans hB2;clear q0 q1 d1 hB2 qz hs;go_wp2;(refine jg 5 (by kernel_rfl) (by kernel_rfl) ?_);(simp only[List.take_succ_cons,List.take_zero,List.drop_succ_cons,List.drop_zero]);(repeat still_step);(refine wpStill_nil ?_);refine il _ rfl _ _ _ rfl l.D m r.keeper r.name 2 rfl rfl rfl ((HM.o.1.kp bP fun x=>x).kp ((Kp.refl (fun _=>False) _).drew) fun x=>x) HM.o.2.2 ?_;intro w3 Ym rF K7;go_wp2;go_ret;exact⟨ag RX.o.symm,HU.o _ _ ((bP).drew) Ym rF,((bP.drew).any:Kp (·=l.D) w _).trans rF⟩
   · have pG:M.cZ p r=true:=by rw[fV.o,hch];rfl
     rw[pG]at HU;have RX:=Ys pG;have HCh:=Ys hch;clear pG hch;generalize (y::ys)=xs at*;go_wp2_with fail;refine(uT _ _ _ H1.o _ _ _ hs Wq.o).mono ?_;rintro e w2 ⟨rfl,hB2⟩;rw[HCh.o];have d2:=vQ.o _ (bA.trans hB2);have p0:=hB2.aA q0;have p1:=hB2.aA q1;have bP:Ext w w2:=bA.trans hB2;clear q0 q1 d1 hB2 qz hs;go_wp2;(refine jg 5 (by kernel_rfl) (by kernel_rfl) ?_);(simp only[List.take_succ_cons,List.take_zero,List.drop_succ_cons,List.drop_zero]);(repeat still_step);(refine wpStill_nil ?_);refine il _ rfl _ _ _ rfl l.D m r.keeper r.name 1 rfl rfl rfl ((HM.o.1.kp bP fun x=>x).kp ((Kp.refl (fun _=>False) _).drew) fun x=>x) HM.o.2.2 ?_;intro w3 Ym rF K7;go_wp2;go_ret;exact⟨ag RX.o.symm,HU.o _ _ ((bP).drew) Ym rF,((bP.drew).any:Kp (·=l.D) w _).trans rF⟩
def vE(p:M.au)(k i:Nat)(q:Int)(s:ByteArray):Option Int:=
 if q<k then(M.sN p ⟨q,s⟩).map Int.ofNat else if q=k then((p[k]?).bind fun Q=>(Q.owns.take i).findIdx? fun c=>decide (c.name=s)).map Int.ofNat else none
def vg(p:M.au)(k i:Nat)(q:Int)(s:ByteArray):Option Int:=
 if q<k then M.zI p q s else if q=k then((p[k]?).bind fun Q=>((Q.asks.take i).find? fun a=>decide (a.name=s)).map M.Ask.keeper)else none
theorem ui(p:M.au)(k:Nat):M.jK p (k:Int)=p[k]?:=by
 unfold M.jK;rw[if_pos (by omega)];rfl
theorem uj{p:M.au}{q:Int}(h:q<0∨(p.length:Int)≤q):M.jK p q=none:=by
 unfold M.jK;split
 · rw[List.getElem?_eq_none_iff];omega
 · rfl
theorem Uz(p:M.au)(q:Int)(s:ByteArray):vE p 0 0 q s=none:=by
 unfold vE;split
 · unfold M.sN;rw[uj (.inl (by simpa using ‹q<((0:Nat):Int)›))];rfl
 · split
   · simp
   · rfl
theorem Sj(p:M.au)(q:Int)(s:ByteArray):vg p 0 0 q s=none:=by
 unfold vg;split
 · unfold M.zI;rw[uj (.inl (by simpa using ‹q<((0:Nat):Int)›))];rfl
 · split
   · simp
   · rfl
theorem Uy{p:M.au}{k i:Nat}{Q:M.gy}{c:M.Class}(hQ:p[k]?=some Q)(hc:Q.owns[i]?=some c)(hn:vE p k i k c.name=none)(q:Int)(s:ByteArray):
    vE p k (i+1) q s=if q=k∧s=c.name then some (i:Int)else vE p k i q s:=by
 have hi:i<Q.owns.length:=(List.getElem?_eq_some_iff.1 hc).1;unfold vE at*;rw[hQ]at hn ⊢;simp only[Int.lt_irrefl,if_false,if_true,Option.bind_some]at hn ⊢;by_cases h1:q<k
 · rw[if_pos h1,if_pos h1,if_neg (by omega)]
 · rw [if_neg h1, if_neg h1]; by_cases h2 : q = k
   · rw[if_pos h2,if_pos h2,List.take_add_one,hc];simp only[Option.toList_some,List.findIdx?_append,List.length_take,Nat.min_eq_left (Nat.le_of_lt hi)];by_cases h3:s=c.name
     · subst h3;rw[if_pos ⟨h2,rfl⟩];have:(Q.owns.take i).findIdx? (fun x=>decide (x.name=c.name))=none:=by simpa using hn
       rw[this];simp[List.findIdx?_cons]
     · rw[if_neg (fun h=>h3 h.2)];have Rf:¬c.name=s:=fun h=>h3 h.symm;simp[List.findIdx?_cons,Rf]
   · rw[if_neg h2,if_neg h2,if_neg (fun h=>h2 h.1)]
theorem Si{p:M.au}{k i:Nat}{Q:M.gy}{a:M.Ask}(hQ:p[k]?=some Q)(ha:Q.asks[i]?=some a)(hn:vg p k i k a.name=none)(q:Int)(s:ByteArray):
    vg p k (i+1) q s=if q=k∧s=a.name then some a.keeper else vg p k i q s:=by
 unfold vg at*;rw[hQ]at hn ⊢;simp only[Int.lt_irrefl,if_false,if_true,Option.bind_some]at hn ⊢;by_cases h1:q<k
 · rw[if_pos h1,if_pos h1,if_neg (by omega)]
 · rw [if_neg h1, if_neg h1]; by_cases h2 : q = k
   · rw[if_pos h2,if_pos h2,List.take_add_one,ha];simp only[Option.toList_some,List.find?_append];by_cases h3:s=a.name
     · subst h3;rw[if_pos ⟨h2,rfl⟩];have:(Q.asks.take i).find? (fun x=>decide (x.name=a.name))=none:=by simpa using hn
       rw[this];simp
     · rw[if_neg (fun h=>h3 h.2)];have Rf:¬a.name=s:=fun h=>h3 h.symm;simp[Rf]
   · rw[if_neg h2,if_neg h2,if_neg (fun h=>h2 h.1)]
theorem Xj{p:M.au}{k:Nat}{Q:M.gy}(hQ:p[k]?=some Q)(q:Int)(s:ByteArray):vE p (k+1) 0 q s=vE p k Q.owns.length q s:=by
 unfold vE;by_cases h1:q<k
 · rw[if_pos (by omega),if_pos h1]
 · by_cases h2:q=k
   · subst h2;rw[if_pos (by omega),if_neg h1,if_pos rfl,hQ];unfold M.sN;rw[ui,hQ,Option.bind_some,Option.bind_some,List.take_of_length_le (Nat.le_refl _)]
   · rw[if_neg (by omega),if_neg h1,if_neg h2];split
     · cases p[k+1]?<;>simp
     · rfl
theorem VP{p:M.au}{k:Nat}{Q:M.gy}(hQ:p[k]?=some Q)(q:Int)(s:ByteArray):vg p (k+1) 0 q s=vg p k Q.asks.length q s:=by
 unfold vg;by_cases h1:q<k
 · rw[if_pos (by omega),if_pos h1]
 · by_cases h2:q=k
   · subst h2;rw[if_pos (by omega),if_neg h1,if_pos rfl,hQ];unfold M.zI;rw[ui,hQ,Option.bind_some,Option.bind_some,List.take_of_length_le (Nat.le_refl _)]
   · rw[if_neg (by omega),if_neg h1,if_neg h2];split
     · cases p[k+1]?<;>simp
     · rfl
theorem Xi(p:M.au)(q:Int)(s:ByteArray):vE p p.length 0 q s=(M.sN p ⟨q,s⟩).map Int.ofNat:=by
 unfold vE;by_cases h1:q<p.length
 · rw[if_pos h1]
 · rw[if_neg h1];unfold M.sN;rw[uj (.inr (by show(p.length:Int)≤q;omega))];split
   · simp
   · rfl
theorem VO(p:M.au)(q:Int)(s:ByteArray):vg p p.length 0 q s=M.zI p q s:=by
 unfold vg;by_cases h1:q<p.length
 · rw[if_pos h1]
 · rw[if_neg h1];unfold M.zI;rw[uj (.inr (by show(p.length:Int)≤q;omega))];split
   · simp
   · rfl
theorem Ih{m:List (Key×Int)}{f g:Int→ByteArray→Option Int}{k v:Int}{n:ByteArray}(hm:∀q s,look m (q,s)=f q s)(hn:f k n=none)
    (hg:∀q s,g q s=if q=k∧s=n then some v else f q s):∀q s,look (m++[((k,n),v)]) (q,s)=g q s:=by
 intro q s;rw[hg];by_cases h:q=k∧s=n
 · obtain⟨rfl,rfl⟩:=h;rw[if_pos ⟨rfl,rfl⟩,wO (by rw[hm];exact hn)]
 · rw[if_neg h,uV (fun e=>h (by simpa using e)),hm]
structure gu(w:World)(l:aI)(p:M.au)(k i j:Nat):Prop where
 ord:l.O<l.A∧l.A<l.D∧l.D<l.L
 blk:∃a cap,aC w l.L 105 #[.slice a p.length cap,.map (some l.O),.map (some l.A),.map (some l.D)]∧SliceOf 2 az w (· <l.O) (.slice a p.length cap) p
 own:∃m,jb w l.O m∧∀q s,look m (q,s)=vE p k i q s
 ask:∃m,jb w l.A m∧∀q s,look m (q,s)=vg p k j q s
 laid:jb w l.D []
theorem gu.lt{w:World}{l:aI}{p:M.au}{k i j:Nat}(h:gu w l p k i j):l.L<w.heap.size:=by
 obtain⟨a,cap,hb,_⟩:=h.blk;exact hb.lt
theorem gu.ext{w w':World}{l:aI}{p:M.au}{k i j:Nat}(h:gu w l p k i j)(hE:Ext w w'):gu w' l p k i j:=by
 obtain⟨a,cap,hb,hs⟩:=h.blk;obtain⟨m1,h1,e1⟩:=h.own;obtain⟨m2,h2,e2⟩:=h.ask;exact⟨h.ord,⟨a,cap,hb.ext hE,hs.ext az.stays hE⟩,⟨m1,h1.kp hE fun x=>x,e1⟩,⟨m2,h2.kp hE fun x=>x,e2⟩,h.laid.kp hE fun x=>x⟩
theorem gu.aaH{w w':World}{l:aI}{p:M.au}{k i i' j:Nat}(h:gu w l p k i j)(hk:Kp (·=l.O) w w')(hm:∃m,jb w' l.O m∧∀q s,look m (q,s)=vE p k i' q s):gu w' l p k i' j:=by
 obtain⟨o1,o2,o3⟩:=h.ord;obtain⟨a,cap,hb,hs⟩:=h.blk;obtain⟨m2,h2,e2⟩:=h.ask;exact⟨h.ord,⟨a,cap,hb.kp hk (by omega),hs.keep az.stays (Kp.same hk fun b hb e=>by omega) fun _ h=>h⟩,hm,⟨m2,h2.kp hk (by omega),e2⟩,h.laid.kp hk (by omega)⟩
theorem gu.aaG{w w':World}{l:aI}{p:M.au}{k i j j':Nat}(h:gu w l p k i j)(hk:Kp (·=l.A) w w')(hm:∃m,jb w' l.A m∧∀q s,look m (q,s)=vg p k j' q s):gu w' l p k i j':=by
 obtain⟨o1,o2,o3⟩:=h.ord;obtain⟨a,cap,hb,hs⟩:=h.blk;obtain⟨m1,h1,e1⟩:=h.own;exact⟨h.ord,⟨a,cap,hb.kp hk (by omega),hs.keep az.stays (Kp.same hk fun b hb e=>by omega) fun _ h=>h⟩,⟨m1,h1.kp hk (by omega),e1⟩,hm,h.laid.kp hk (by omega)⟩
theorem gu.done{w:World}{l:aI}{p:M.au}(h:gu w l p p.length 0 0)(gp:M.bU p=true):aF w l p:=by
 obtain⟨m1,h1,e1⟩:=h.own;obtain⟨m2,h2,e2⟩:=h.ask;exact⟨gp,h.ord,h.blk,⟨m1,h1,fun k s=>(e1 k s).trans (Xi p k s)⟩,⟨m2,h2,fun k s=>(e2 k s).trans (VO p k s)⟩,⟨[],h.laid,fun k s v hv=>by cases hv⟩⟩
theorem gu.next{w:World}{l:aI}{p:M.au}{k:Nat}{Q:M.gy}(h:gu w l p k Q.owns.length Q.asks.length)(hQ:p[k]?=some Q):gu w l p (k+1) 0 0:=by
 obtain⟨m1,h1,e1⟩:=h.own;obtain⟨m2,h2,e2⟩:=h.ask;exact⟨h.ord,h.blk,⟨m1,h1,fun q s=>(e1 q s).trans (Xj hQ q s).symm⟩,⟨m2,h2,fun q s=>(e2 q s).trans (VP hQ q s).symm⟩,h.laid⟩
theorem wM(w:World)(L:Nat)(a:Option Addr)(n cap:Nat)(hc:w.cell? ⟨L,0,none⟩=some (.slice a n cap))(k:Int):
    Calls Tryz.prog 24 #[.pointer (some ⟨L,0,none⟩),.int .i64 k] w fun e w'=>e=.returned (.bool (decide (0≤k)&&decide (k<n)))∧w=w':=by
 go_enter Tryz.func24,Tryz.ntmps24;go_wp2
 · go_ret;exact⟨ag (by rw[decide_eq_true (p:=0≤k) (by omega)];rfl),rfl⟩
 · go_ret;exact⟨ag (by rw[decide_eq_false (p:=0≤k) (by omega)];rfl),rfl⟩
theorem gu.JB{w:World}{l:aI}{p:M.au}{k i j:Nat}(h:gu w l p k i j)(q:Int)(s:ByteArray):
    (Instr.lookup 103 (.map (some l.O)) (.agg #[.int .i64 q,.string s]) true).run Tryz.prog w=.ok (.tuple #[.int .i64 ((vE p k i q s).getD 0),.bool (vE p k i q s).isSome]) w:=by
 obtain⟨m,hm,e⟩:=h.own;rw[og hm,e]
theorem gu.JA{w:World}{l:aI}{p:M.au}{k i j:Nat}(h:gu w l p k i j)(q:Int)(s:ByteArray):
    (Instr.lookup 103 (.map (some l.A)) (.agg #[.int .i64 q,.string s]) true).run Tryz.prog w=.ok (.tuple #[.int .i64 ((vg p k j q s).getD 0),.bool (vg p k j q s).isSome]) w:=by
 obtain⟨m,hm,e⟩:=h.ask;rw[og hm,e]
theorem LH{p:M.au}{k i:Nat}{Q:M.gy}(hQ:p[k]?=some Q)(s:ByteArray):(vE p k i k s).isSome=(((Q.owns.take i).map M.Class.name).any fun y=>decide (y=s)):=by
 unfold vE;rw[if_neg (by omega),if_pos rfl,hQ,Option.bind_some,Option.isSome_map,List.findIdx?_isSome,List.any_map];rfl
theorem KA{p:M.au}{k i:Nat}{Q:M.gy}(hQ:p[k]?=some Q)(s:ByteArray):(vg p k i k s).isSome=(((Q.asks.take i).map M.Ask.name).any fun y=>decide (y=s)):=by
 unfold vg;rw[if_neg (by omega),if_pos rfl,hQ,Option.bind_some,Option.isSome_map,List.any_map,Bool.eq_iff_iff,List.find?_isSome];simp
theorem Cr{α:Type}{name:α→ByteArray}{ok:α→Bool}{l:List α}{i:Nat}{x:α}(hx:l[i]?=some x):
    M.dU name ok (l.drop i) ((l.take i).map name)=(ok x&& !(((l.take i).map name).any fun y=>decide (y=name x))&&M.dU name ok (l.drop (i+1)) ((l.take (i+1)).map name)):=by
 rw[jS hx,List.take_add_one,hx];simp only[M.dU,Option.toList_some,List.map_append,List.map_cons,List.map_nil]
abbrev ZA(l:aI):Nat→Prop:=fun b=>b=l.O∨b=l.A
theorem Lg (w : World) (l : aI) (p : M.au) (k : Nat) (Q : M.gy) (hQ : p[k]? = some Q) (h : gu w l p k 0 0) :
    Calls Tryz.prog 42 #[.pointer (some ⟨l.L,0,none⟩),.int .i64 k] w fun e w'=>
     e=.returned (.bool (M.eP p Q))∧Kp (ZA l) w w'∧(M.eP p Q=true→gu w' l p (k+1) 0 0):=by
 obtain⟨a,cap,hb,hs⟩:=h.blk;obtain⟨b,off,cs,rfl,hI,Aa, -,hc⟩:=hs.get hQ;obtain⟨vo,va,rfl,s1,s2⟩:=Aa;obtain⟨a1,c1,rfl,mG,hm1⟩:=s1.form;obtain⟨a2,c2,rfl,xR,PZ⟩:=s2.form;obtain⟨g0,g1⟩:=hc.two;have jD:k<p.length:=(List.getElem?_eq_some_iff.1 hQ).1;have d0:=hb.c 0 _ rfl;have hzL:=hb.lt;have H0:=Ys h;have HQ:=Ys hQ;have aU:Ext w (w.alloc (.cells #[.slice a1 Q.owns.length c1,.slice a2 Q.asks.length c2] 82)):=((Kp.refl _ _).alloc _);have bK:=aC.new w 82 #[.slice a1 Q.owns.length c1,.slice a2 Q.asks.length c2];clear h hQ hc;have Q7:Zs (M.eP p Q=(decide (Q.owns.length≤5)&&decide (Q.asks.length≤4)&&M.dU M.Class.name M.oW Q.owns []&&M.dU M.Ask.name (fun a=>M.aY a.name&&M.has p a.keeper) Q.asks [])):=Ys rfl;by_cases Bt:5<Q.owns.length
 · have hF:Zs (M.eP p Q=false):=Ys (by rw[Q7.o,decide_eq_false (p:=Q.owns.length≤5) (by omega)];rfl);go_enter Tryz.func42,Tryz.ntmps42;go_wp2;go_ret;exact⟨ag hF.o.symm,aU.any,fun e=>by rw[hF.o]at e;cases e⟩
 by_cases Bu:4<Q.asks.length
 · have hF:Zs (M.eP p Q=false):=Ys (by rw[Q7.o,decide_eq_false (p:=Q.asks.length≤4) (by omega)];simp);go_enter Tryz.func42,Tryz.ntmps42;go_wp2;go_ret;exact⟨ag hF.o.symm,aU.any,fun e=>by rw[hF.o]at e;cases e⟩
 have VD:Zs (M.eP p Q=(M.dU M.Class.name M.oW Q.owns []&&M.dU M.Ask.name (fun a=>M.aY a.name&&M.has p a.keeper) Q.asks [])):=Ys (by
  rw[Q7.o,decide_eq_true (p:=Q.owns.length≤5) (by omega),decide_eq_true (p:=Q.asks.length≤4) (by omega)];rfl)
 clear Q7;go_enter Tryz.func42,Tryz.ntmps42;go_wp2;generalize bD:(w.alloc (.cells #[.slice a1 Q.owns.length c1,.slice a2 Q.asks.length c2] 82))=w0 at*;have af7:w0.heap.size=w.heap.size+1:=by rw[←bD];simp
 clear bD;go_loopw [36] (fun i wr=>∃n:Nat,n≤Q.owns.length∧i=.int .i64 n∧Kp (ZA l) w0 wr∧Zs (gu wr l p k n 0)∧Zs (M.dU M.Class.name M.oW Q.owns []=M.dU M.Class.name M.oW (Q.owns.drop n) ((Q.owns.take n).map M.Class.name))) (fun i _=>Q.owns.length - (intOf i).toNat)
 case atStart=>exact⟨0,Nat.zero_le _,rfl,Kp.refl _ _,Ys (H0.o.ext aU),Ys rfl⟩
 case round =>
  obtain⟨n,hn,rfl,hK,HH,HA⟩:=hrel;by_cases bZ:n<Q.owns.length
  · obtain⟨x,hx⟩:=get_some bZ;obtain⟨b',off',cs,he,Wl,uO, -,jh⟩:=s1.get hx;subst he;obtain⟨o1,o2,o3⟩:=HH.o.ord;have hIk:∀z,z<l.O→¬ZA l z:=fun z hz e=>by rcases e with e|e<;>omega
    have Ws:ae wr b' (off'+n*4) cs:=(jh.ext aU).keep fun o v hv=>hK.iX hv (hIk _ Wl);have ab6:=bQ.kp aX.stays hK hIk (bQ.ext aX.stays aU uO);obtain⟨y1,z1,y2,z2,rfl⟩:=uO.form;obtain⟨e0,e1,e2,e3⟩:=Ws.four;obtain⟨ma,ae3,OQ, -⟩:=HH.o.blk;have r1:=OQ.c 1 _ rfl;have TQ:=OQ.lt;have HX:=Ys hx;have Vx:=Ys ab6;have hW:Ext wr ((wr.alloc (.cells #[.string x.name,.string x.aQ,.slice y1 x.fields.length z1,.slice y2 x.methods.length z2] 58)).alloc (.cells #[.int .i64 k,.string x.name] 40)):=kx;have lk:=fun d=>(HH.o.ext (hW.drewN d)).JB k x.name;have Ac:=LH (i:=n) HQ.o x.name;have XF:=Ys (Cr (name:=M.Class.name) (ok:=M.oW) hx);clear hx jh Ws uO ab6 OQ;cases P8:vE p k n k x.name with
    |some v=>
     rw[P8]at lk Ac;simp only[Option.getD_some,Option.isSome_some]at lk;have hF:Zs (M.eP p Q=false):=Ys (by rw[VD.o,HA.o,XF.o,←Ac];simp);clear P8 Ac;go_wp2;go_quiet (fail);go_wp2;go_ret;exact⟨ag hF.o.symm,(aU.any.trans hK).trans (kx:Ext wr _).any,fun e=>by rw[hF.o]at e;cases e⟩
    | none =>
     have VJ:=Ys P8;rw[P8]at lk Ac;simp only[Option.getD_none,Option.isSome_none]at lk;have bC:=(aC.new wr 58 #[.string x.name,.string x.aQ,.slice y1 x.fields.length z1,.slice y2 x.methods.length z2]).ext ((Kp.refl _ _).alloc (.cells #[.int .i64 k,.string x.name] 40));have q0:=bC.c 0 _ rfl;have q1:=bC.c 1 _ rfl;have q2:=bC.c 2 _ rfl;have q3:=bC.c 3 _ rfl;have bR:=aC.new (wr.alloc (.cells #[.string x.name,.string x.aQ,.slice y1 x.fields.length z1,.slice y2 x.methods.length z2] 58)) 40 #[.int .i64 k,.string x.name];simp only[World.size_alloc]at bR;have adn:=Ys (fun d=>bQ.ext aX.stays (hW.drewN d) Vx.o);cases gp:M.oW x
     all_goals
      have ry:=Ys gp;clear gp P8;go_wp2;go_quiet (fail);go_wp2_with fail;refine(IV _ _ _ _ (adn.o _)).mono ?_;rintro e w1 ⟨rfl,hB⟩;rw[ry.o];have rr1:=((hW.drewN _).trans hB).aA r1;have bR2:=(bR.ext ((Kp.refl _ _).drewN _)).ext hB;have u0:=bR2.c 0 _ rfl;have u1:=bR2.c 1 _ rfl;have uz:=bR2.lt;have Jd:=(hW.drewN _).trans hB;clear e0 e1 e2 e3 q0 q1 q2 q3 r1 bC bR bR2 lk hB hW
     · have hF:Zs (M.eP p Q=false):=Ys (by rw[VD.o,HA.o,XF.o,ry.o];simp);go_wp2;go_ret;exact⟨ag hF.o.symm,(aU.any.trans hK).trans Jd.any,fun e=>by rw[hF.o]at e;cases e⟩
     · go_wp2;(refine jg 6 (by kernel_rfl) (by kernel_rfl) ?_);(simp only[List.take_succ_cons,List.take_zero,List.drop_succ_cons,List.drop_zero]);(repeat still_step);(refine wpStill_nil ?_);have hHd:gu w1.drew l p k n 0:=HH.o.ext (Jd.drew);obtain⟨m,hm,Gp⟩:=hHd.own;have HHd:=Ys hHd;refine il _ rfl _ _ _ rfl l.O m k x.name n rfl rfl rfl hm (by rw[Gp];exact VJ.o) ?_;intro w2 PZ qJ EX;go_wp2;go_roundw
       case rel=>
        refine⟨n+1,by omega,by go_num,?_,Ys (HHd.o.aaH qJ ⟨_,PZ,Ih Gp VJ.o (Uy HQ.o HX.o VJ.o)⟩),Ys ?_⟩
        · exact(hK.trans (Jd.drew).any).trans (qJ.weak fun _ _ e=>.inl e)
        · rw[HA.o,XF.o,ry.o,←LH HQ.o,VJ.o];rfl
       case measure=>simp[intOf];omega
  · have Mo : n = Q.owns.length := by omega
    subst Mo;have VE:Zs (M.eP p Q=M.dU M.Ask.name (fun a=>M.aY a.name&&M.has p a.keeper) Q.asks []):=Ys (by
     rw[VD.o,HA.o,List.drop_eq_nil_of_le (Nat.le_refl _)];rfl)
    have hKx:Kp (ZA l) w wr:=aU.any.trans hK;have hbO:b<l.O:=hI;have hIk:∀z,z<l.O→¬ZA l z:=by
     obtain⟨o1,o2,o3⟩:=HH.o.ord;exact fun z hz e=>by rcases e with e|e<;>omega
    have hzz:=hK.size;have hOz:l.A<l.L:=by obtain⟨o1,o2,o3⟩:=HH.o.ord;omega
    have bKr:=bK.kp hK (fun e=>by obtain⟨o1,o2,o3⟩:=HH.o.ord;rcases e with e|e<;>omega);have v1:=bKr.c 1 _ rfl;have hzK:=bKr.lt;clear HA VD bK;obtain⟨wo,rfl⟩:∃wo:World,wo=wr:=⟨_,rfl⟩;go_wp2;go_loopw [70] (fun i wr=>∃n:Nat,n≤Q.asks.length∧i=.int .i64 n∧Kp (ZA l) w wr∧Zs (gu wr l p k Q.owns.length n)∧Zs (M.dU M.Ask.name (fun a=>M.aY a.name&&M.has p a.keeper) Q.asks []=M.dU M.Ask.name (fun a=>M.aY a.name&&M.has p a.keeper) (Q.asks.drop n) ((Q.asks.take n).map M.Ask.name))) (fun i _=>Q.asks.length - (intOf i).toNat)
    case atStart=>exact⟨0,Nat.zero_le _,rfl,hKx,HH,Ys rfl⟩
    case round=>
     obtain⟨n,hn,rfl,hK,HH,HA⟩:=hrel;by_cases bZ:n<Q.asks.length
     · obtain⟨x,hx⟩:=get_some bZ;obtain⟨b',off',cs,he,Wl,rfl, -,jh⟩:=s2.get hx;subst he;have Ws:ae wr b' (off'+n*2) [.string x.name,.int .i64 x.keeper]:=jh.keep fun o v hv=>hK.iX hv (hIk _ Wl);obtain⟨e0,e1⟩:=Ws.two;obtain⟨ma,ae3,OQ, -⟩:=HH.o.blk;have r0:=OQ.c 0 _ rfl;have r2:=OQ.c 2 _ rfl;have TQ:=OQ.lt;have HX:=Ys hx;have hW:Ext wr ((wr.alloc (.cells #[.string x.name,.int .i64 x.keeper] 150)).alloc (.cells #[.int .i64 k,.string x.name] 40)):=kx;have lk:=fun d=>(HH.o.ext (hW.drewN d)).JA k x.name;have Ac:=KA (i:=n) HQ.o x.name;have XF:=Ys (Cr (name:=M.Ask.name) (ok:=fun a=>M.aY a.name&&M.has p a.keeper) hx);clear hx jh Ws OQ;cases P8:vg p k n k x.name with
       |some v=>
        rw[P8]at lk Ac;simp only[Option.getD_some,Option.isSome_some]at lk;have hF:Zs (M.eP p Q=false):=Ys (by rw[VE.o,HA.o,XF.o,←Ac];simp);clear P8 Ac;go_wp2;go_quiet (fail);go_wp2;go_ret;exact⟨ag hF.o.symm,hK.trans (kx:Ext wr _).any,fun e=>by rw[hF.o]at e;cases e⟩
       |none=>
        have VJ:=Ys P8;rw[P8]at lk Ac;simp only[Option.getD_none,Option.isSome_none]at lk;cases gp:M.aY x.name
        · have ry:=Ys gp;have hF:Zs (M.eP p Q=false):=Ys (by rw[VE.o,HA.o,XF.o,gp];simp);clear gp P8;go_wp2;go_quiet (fail);go_wp2_with (go_at_call 25;refine(fZ _ _).mono ?_;rintro e w1 ⟨rfl,rfl⟩;rw[ry.o]);go_ret;exact⟨ag hF.o.symm,hK.trans (kx:Ext wr _).any,fun e=>by rw[hF.o]at e;cases e⟩
        · have ry:=Ys gp;clear gp;have Bq:M.has p x.keeper=(decide (0≤x.keeper)&&decide (x.keeper<p.length)):=rfl;cases GZ:M.has p x.keeper
          · have hF:Zs (M.eP p Q=false):=Ys (by rw[VE.o,HA.o,XF.o,GZ];simp);have Y3:Zs ((decide (0≤x.keeper)&&decide (x.keeper<p.length))=false):=Ys GZ;clear GZ P8 Bq;go_wp2;go_quiet (fail);go_wp2_with (first|(go_at_call 25;refine(fZ _ _).mono ?_;rintro e w1 ⟨rfl,rfl⟩;rw[ry.o])|(go_at_call 24;refine(wM _ _ _ _ _ ((hW.drewN _).aA r0) _).mono ?_;rintro e w1 ⟨rfl,rfl⟩;rw[Y3.o]));go_ret;exact⟨ag hF.o.symm,hK.trans (kx:Ext wr _).any,fun e=>by rw[hF.o]at e;cases e⟩
          · have Y3:Zs ((decide (0≤x.keeper)&&decide (x.keeper<p.length))=true):=Ys GZ;have adm:=Ys GZ;clear GZ P8 Bq;go_wp2;go_quiet (fail);go_wp2_with (first|(go_at_call 25;refine(fZ _ _).mono ?_;rintro e w1 ⟨rfl,rfl⟩;rw[ry.o])|(go_at_call 24;refine(wM _ _ _ _ _ ((hW.drewN _).aA r0) _).mono ?_;rintro e w1 ⟨rfl,rfl⟩;rw[Y3.o]));obtain⟨m,hm,Gp⟩:=HH.o.ask;have HHd:=Ys HH.o;(refine jg 7 (by kernel_rfl) (by kernel_rfl) ?_);(simp only[List.take_succ_cons,List.take_zero,List.drop_succ_cons,List.drop_zero]);(repeat still_step);(refine wpStill_nil ?_);refine il _ rfl _ _ _ rfl l.A m k x.name x.keeper rfl rfl rfl (hm.kp ((hW.drewN _).drew) fun x=>x) (by rw[Gp];exact VJ.o) ?_;intro w2 PZ qJ EX;have Mk:=Ys (HHd.o.ext ((hW.drewN _).drew)|>.aaG qJ ⟨_,PZ,Ih Gp VJ.o (Si HQ.o HX.o VJ.o)⟩);have hKn:=Ys ((hK.trans ((hW.drewN _).drew).any).trans (qJ.weak fun _ _ e=>.inr e));go_wp2;go_roundw
            case rel=>
             refine⟨n+1,by omega,by go_num,hKn.o,Mk,Ys ?_⟩;rw[HA.o,XF.o,ry.o,adm.o,←KA HQ.o,VJ.o];rfl
            case measure=>simp[intOf];omega
     · have Mo:n=Q.asks.length:=by omega
       subst Mo;have hF:Zs (M.eP p Q=true):=Ys (by rw[VE.o,HA.o,List.drop_eq_nil_of_le (Nat.le_refl _)];rfl);go_wp2;go_ret;exact⟨ag hF.o.symm,hK,fun _=>HH.o.next HQ.o⟩
theorem Sg{α:Type}{f:α→Bool}{l:List α}{k:Nat}{x:α}(hx:l[k]?=some x):(l.drop k).all f=(f x&&(l.drop (k+1)).all f):=by
 rw[jS hx,List.all_cons]
theorem Il(w:World)(I:Nat→Prop)(v:Value)(p:M.au)(h:SliceOf 2 az w I v p)(hI:∀b,I b→b<w.heap.size):
    Calls Tryz.prog 23 #[.agg #[v]] w fun e w'=>
     Ext w w'∧((M.bU p=false∧e=.returned (.pointer none))∨(M.bU p=true∧∃l:aI,e=.returned (.pointer (some ⟨l.L,0,none⟩))∧aF w' l p∧w.heap.size≤l.O)):=by
 obtain⟨a,cap,rfl,hn,dn⟩:=h.form;by_cases Bt:p.length<1
 · have hF:Zs (M.bU p=false):=Ys (by unfold M.bU;rw[decide_eq_false (p:=1≤p.length) (by omega)];rfl);go_enter Tryz.func23,Tryz.ntmps23;go_wp2;go_ret;exact⟨kx,.inl ⟨hF.o,rfl⟩⟩
 by_cases Bu:3<p.length
 · have hF:Zs (M.bU p=false):=Ys (by unfold M.bU;rw[decide_eq_false (p:=p.length≤3) (by omega)];simp);go_enter Tryz.func23,Tryz.ntmps23;go_wp2;go_ret;exact⟨kx,.inl ⟨hF.o,rfl⟩⟩
 have HK:Zs (M.bU p=p.all (M.eP p)):=Ys (by unfold M.bU;rw[decide_eq_true (p:=1≤p.length) (by omega),decide_eq_true (p:=p.length≤3) (by omega)];rfl);have mk:∀W:World,(Instr.makeMap 103 none).run Tryz.prog W=.ok (.map (some W.heap.size)) (W.alloc (.map #[] 0)):=fun W=>by kernel_rfl
 have bA:Ext w (((((w.alloc (.cells #[.slice a p.length cap] 25)).alloc (.map #[] 0)).alloc (.map #[] 0)).alloc (.map #[] 0)).alloc (.cells #[.slice a p.length cap,.map (some (w.heap.size+1)),.map (some (w.heap.size+1+1)),.map (some (w.heap.size+1+1+1))] 105)):=kx;have hH:gu (((((w.alloc (.cells #[.slice a p.length cap] 25)).alloc (.map #[] 0)).alloc (.map #[] 0)).alloc (.map #[] 0)).alloc (.cells #[.slice a p.length cap,.map (some (w.heap.size+1)),.map (some (w.heap.size+1+1)),.map (some (w.heap.size+1+1+1))] 105)) ⟨w.heap.size+1+1+1+1,w.heap.size+1,w.heap.size+1+1,w.heap.size+1+1+1⟩ p 0 0 0:=by
  have e1:=jb.new (w.alloc (.cells #[.slice a p.length cap] 25));have e2:=jb.new ((w.alloc (.cells #[.slice a p.length cap] 25)).alloc (.map #[] 0));have e3:=jb.new (((w.alloc (.cells #[.slice a p.length cap] 25)).alloc (.map #[] 0)).alloc (.map #[] 0));have e4:=aC.new ((((w.alloc (.cells #[.slice a p.length cap] 25)).alloc (.map #[] 0)).alloc (.map #[] 0)).alloc (.map #[] 0)) 105 #[.slice a p.length cap,.map (some (w.heap.size+1)),.map (some (w.heap.size+1+1)),.map (some (w.heap.size+1+1+1))];simp only[World.size_alloc]at e1 e2 e3 e4;refine⟨⟨Nat.lt_succ_self _,Nat.lt_succ_self _,Nat.lt_succ_self _⟩,⟨a,cap,e4,h.keep az.stays (Ext.same bA) fun b hb=>Nat.lt_succ_of_lt (hI b hb)⟩,⟨[],e1.kp (((((Kp.refl (fun _=>False) _).alloc _).alloc _).alloc _)) fun x=>x,fun q s=>(Uz p q s).symm⟩,⟨[],e2.kp ((((Kp.refl (fun _=>False) _).alloc _).alloc _)) fun x=>x,fun q s=>(Sj p q s).symm⟩,e3.kp ((Kp.refl (fun _=>False) _).alloc _) fun x=>x⟩
 go_enter Tryz.func23,Tryz.ntmps23;go_wp2;obtain⟨l,hl⟩:∃l:aI,l=⟨w.heap.size+1+1+1+1,w.heap.size+1,w.heap.size+1+1,w.heap.size+1+1+1⟩:=⟨_,rfl⟩;have hL:w.heap.size+1+1+1+1=l.L:=by rw[hl]
 have hO:w.heap.size<l.O∧w.heap.size<l.A:=by rw[hl];exact⟨Nat.lt_succ_self _,by show w.heap.size<w.heap.size+1+1;omega⟩
 rw[←hl]at hH;generalize (((((w.alloc (.cells #[.slice a p.length cap] 25)).alloc (.map #[] 0)).alloc (.map #[] 0)).alloc (.map #[] 0)).alloc (.cells #[.slice a p.length cap,.map (some (w.heap.size+1)),.map (some (w.heap.size+1+1)),.map (some (w.heap.size+1+1+1))] 105))=w1 at*;rw[hL];have HL:=Ys hl;clear hl mk;go_loopw [25] (fun i wr=>∃n:Nat,n≤p.length∧i=.int .i64 n∧Kp (ZA l) w1 wr∧Zs (gu wr l p n 0 0)∧Zs (p.all (M.eP p)=(p.drop n).all (M.eP p))) (fun i _=>p.length - (intOf i).toNat)
 case atStart=>exact⟨0,Nat.zero_le _,rfl,Kp.refl _ _,Ys hH,Ys rfl⟩
 case round =>
  obtain⟨n,hn,rfl,hK,HH,HA⟩:=hrel;have zo:Ext w wr:=bA.own hK (fun b hb=>by rcases hb with rfl|rfl<;>omega);by_cases bZ:n<p.length
  · obtain⟨Q,hQ⟩:=get_some bZ;have hdr:=Sg (f:=M.eP p) hQ;have HDR:=Ys hdr;go_wp2_with fail;refine(Lg _ _ _ _ _ hQ HH.o).mono ?_;rintro e w2 ⟨rfl,af,Tw⟩;cases gp:M.eP p Q
    · have HF:Zs (M.bU p=false):=Ys (by rw[HK.o,HA.o,HDR.o,gp];rfl);clear Tw hdr;go_wp2;go_ret;exact⟨zo.own af (fun b hb=>by rcases hb with rfl|rfl<;>omega),.inl ⟨HF.o,rfl⟩⟩
    · have HN:=Ys (Tw gp);have HOk:=Ys gp;clear Tw hdr;go_wp2;go_roundw
      case rel=>exact⟨n+1,by omega,by go_num,hK.trans af,HN,Ys (by rw[HA.o,HDR.o,HOk.o];rfl)⟩
      case measure=>simp[intOf];omega
  · have Mo:n=p.length:=by omega
    subst Mo;have HF:Zs (M.bU p=true):=Ys (by rw[HK.o,HA.o,List.drop_eq_nil_of_le (Nat.le_refl _)];rfl);go_wp2;go_ret;exact⟨zo,.inr ⟨HF.o,l,rfl,HH.o.done HF.o,Nat.le_of_lt hO.1⟩⟩
def kL:M.kT:=⟨⟨0,M.none_⟩,0⟩
theorem Fg(w:World)(l:aI)(p:M.au)(h:aF w l p)(r:M.Ref)(n:ByteArray):
    Calls Tryz.prog 89 #[.pointer (some ⟨l.L,0,none⟩),.agg #[.int .i64 r.keeper,.string r.name],.string n] w fun e w'=>
     e=.returned (.tuple #[.agg #[.int .i64 ((M.pick p r n).getD kL).of.keeper,.string ((M.pick p r n).getD kL).of.name,.int .i64 ((M.pick p r n).getD kL).at_],.bool (M.pick p r n).isSome])∧aF w' l p∧Kp (·=l.D) w w':=by
 have aU:Ext w ((w.alloc (.cells #[.int .i64 r.keeper,.string r.name] 40)).alloc (.cells #[.int .i64 0,.string ⟨#[]⟩,.int .i64 0] 42)):=kx;have H:=Ys (h.ext aU);have bZ:=h.lt;have hDL:l.D<l.L:=h.ord.2.2;clear h;have b4:=(aC.new w 40 #[.int .i64 r.keeper,.string r.name]).ext ((Kp.refl _ _).alloc (.cells #[.int .i64 0,.string ⟨#[]⟩,.int .i64 0] 42));have b6:=aC.new (w.alloc (.cells #[.int .i64 r.keeper,.string r.name] 40)) 42 #[.int .i64 0,.string ⟨#[]⟩,.int .i64 0];simp only[World.size_alloc]at b6;go_enter Tryz.func89,Tryz.ntmps89;go_wp2_with fail;generalize ((w.alloc (.cells #[.int .i64 r.keeper,.string r.name] 40)).alloc (.cells #[.int .i64 0,.string ⟨#[]⟩,.int .i64 0] 42))=w0 at*;refine(iG _ _ _ H.o r).mono ?_;rintro e w1 ⟨rfl,Ct,lU⟩;have c4:=b4.kp lU (by omega);have c6:=b6.kp lU (by omega);have zV:Kp (·=l.D) w w1:=(aU.any).trans lU;have p0:=c4.c 0 _ rfl;have p1:=c4.c 1 _ rfl;have q0:=c6.c 0 _ rfl;have q1:=c6.c 1 _ rfl;have q2:=c6.c 2 _ rfl;have f0:=c6.frozen 0;have f1:=c6.frozen 1;have f2:=c6.frozen 2;have J2:=Ys Ct;have Vq:=c6.lt;clear b4 b6 H aU Ct lU;cases pG:M.cZ p r
 · have hP:M.pick p r n=none:=by unfold M.pick;rw[pG];rfl
   have HP:=Ys hP;clear pG hP;go_wp2;refine bodyPost_ret (v:=.tuple #[.agg #[.int .i64 0,.string ⟨#[]⟩,.int .i64 0],.bool false]) (by simp[results,Tryz.results89,go_sem,q0,q1,q2]) rfl ?_;have mf:Kp (·=w.heap.size+1) w1 (((w1.setCell ⟨w.heap.size+1,0,none⟩ (.int .i64 0)).setCell ⟨w.heap.size+1,1,none⟩ (.string ⟨#[]⟩)).setCell ⟨w.heap.size+1,2,none⟩ (.int .i64 0)):=
    (((Kp.refl (·=w.heap.size+1) w1).setCell (p:=⟨w.heap.size+1,0,none⟩) (fun _=>rfl) _).setCell (p:=⟨w.heap.size+1,1,none⟩) (fun _=>rfl) _).setCell (p:=⟨w.heap.size+1,2,none⟩) (fun _=>rfl) _
   exact⟨by rw[HP.o];rfl,J2.o.kp mf (fun k hk e=>by omega),zV.own mf (fun k hk=>by omega)⟩
 · have hP:M.pick p r n=M.nR p n (M.chain p r):=by unfold M.pick;rw[pG];rfl
   have HP:=Ys hP;clear pG hP;go_wp2_with fail;refine(oF _ _ _ J2.o _).mono ?_;rintro e w2 ⟨⟨v,rfl,hs⟩,hB⟩;obtain⟨a,cap,rfl,hn,dn⟩:=hs.form;have HO:Zs (∀x∈M.chain p r,∃c,M.cls? p x=some c):=Ys jc;have zA:=Ys (J2.o.ext hB);have c62:=c6.ext hB;have af:Kp (·=l.D) w w2:=zV.trans hB.any;clear p0 p1 q0 q1 q2 f0 f1 f2 Vq c4 c6 zV hB J2;generalize M.chain p r=xs at*;go_wp2;go_loopw [20] (fun i wr=>∃k:Nat,k≤xs.length∧i=.int .i64 k∧Ext w2 wr∧Zs (M.nR p n xs=M.nR p n (xs.drop k))) (fun i _=>xs.length - (intOf i).toNat)
   case atStart=>exact⟨0,Nat.zero_le _,rfl,Kp.refl _ _,Ys rfl⟩
   case round=>
    obtain⟨k,hk,rfl,hE,HA⟩:=hrel;have VU:=c62.ext hE;have q0:=VU.c 0 _ rfl;have q1:=VU.c 1 _ rfl;have q2:=VU.c 2 _ rfl;have f0:=VU.frozen 0;have f1:=VU.frozen 1;have f2:=VU.frozen 2;have Vq:=VU.lt;have mf:Zs (∀W (u v t:Value),Ext w2 W→Kp (·=l.D) w (((W.setCell ⟨w.heap.size+1,0,none⟩ u).setCell ⟨w.heap.size+1,1,none⟩ v).setCell ⟨w.heap.size+1,2,none⟩ t)∧aF (((W.setCell ⟨w.heap.size+1,0,none⟩ u).setCell ⟨w.heap.size+1,1,none⟩ v).setCell ⟨w.heap.size+1,2,none⟩ t) l p):=Ys (fun W u v t hW=>by
     have mf:Kp (·=w.heap.size+1) W (((W.setCell ⟨w.heap.size+1,0,none⟩ u).setCell ⟨w.heap.size+1,1,none⟩ v).setCell ⟨w.heap.size+1,2,none⟩ t):=
      (((Kp.refl (·=w.heap.size+1) W).setCell (p:=⟨w.heap.size+1,0,none⟩) (fun _=>rfl) _).setCell (p:=⟨w.heap.size+1,1,none⟩) (fun _=>rfl) _).setCell (p:=⟨w.heap.size+1,2,none⟩) (fun _=>rfl) _
     exact⟨(af.trans hW.any).own mf (fun k hk=>by omega),(zA.o.ext hW).kp mf (fun k hk e=>by omega)⟩)
    by_cases bZ:k<xs.length
    · obtain⟨x,hx⟩:=get_some bZ;obtain⟨b,off,cs,rfl,hI,rfl, -,hc⟩:=hs.get hx;obtain⟨g0,g1⟩:=(hc.ext hE).two;obtain⟨c,uO⟩:=HO.o x (List.mem_of_getElem? hx);have HX:=Ys hx;have Vx:=Ys uO;have K4:Zs (M.nR p n xs=match M.mK c n with|some i=>some ⟨x,i⟩|none=>M.nR p n (xs.drop (k+1))):=Ys (by
       rw[HA.o,jS hx];have jh:M.cls p x=c:=by unfold M.cls;rw[uO];rfl
       rw[←jh];rfl)
      clear hx hc uO;have bx:=aC.new wr 40 #[.int .i64 x.keeper,.string x.name];go_wp2_with fail;refine(oG _ _ _ (zA.o.ext (hE.alloc (.cells #[.int .i64 x.keeper,.string x.name] 40))) _ _ _ Vx.o).mono ?_;rintro e w3 ⟨⟨cs,fV,rfl⟩,GM⟩;have pQ:=Ys (bQ.ext aX.stays GM fV);have dm:Ext wr w3:=((Kp.refl (fun _=>False) wr).alloc (.cells #[.int .i64 x.keeper,.string x.name] 40)).trans GM;have bx3:=bx.ext GM;have c63:=VU.ext dm;clear q0 q1 q2 f0 f1 f2 Vq g0 g1 bx;go_wp2_with fail;refine(BG _ _ _ _ pQ.o _).mono ?_;rintro e w4 ⟨rfl,yg⟩;have bx4:=bx3.ext yg;have x0:=bx4.c 0 _ rfl;have x1:=bx4.c 1 _ rfl;have xz:=bx4.lt;have c64:=c63.ext yg;have q0:=c64.c 0 _ rfl;have q1:=c64.c 1 _ rfl;have q2:=c64.c 2 _ rfl;have f0:=c64.frozen 0;have f1:=c64.frozen 1;have f2:=c64.frozen 2;have Vq:=c64.lt;have dA:=(hE.trans dm).trans yg;clear bx3 bx4 c63 c64 VU;cases hix:M.mK c n with
      |none=>
       have HS:=Ys (K4.o.trans (by rw[hix]));simp only[Vr,Option.elim];clear hix;go_wp2;go_roundw
       case rel=>exact⟨k+1,by omega,by go_num,dA,Ys HS.o⟩
       case measure=>simp[intOf];omega
      |some i=>
       have HS:=Ys (K4.o.trans (by rw[hix]));simp only[Vr,Option.elim];clear hix;have hi0:(0:Int)≤(i:Int):=by omega
       go_wp2;refine bodyPost_ret (v:=.tuple #[.agg #[.int .i64 x.keeper,.string x.name,.int .i64 i],.bool true]) (by simp[results,Tryz.results89,go_sem,q0,q1,q2]) rfl ?_;have:=mf.o w4 (.int .i64 x.keeper) (.string x.name) (.int .i64 i) dA;exact⟨by rw[HP.o,HS.o];rfl,this.2,this.1⟩
    · go_wp2;refine bodyPost_ret (v:=.tuple #[.agg #[.int .i64 0,.string ⟨#[]⟩,.int .i64 0],.bool false]) (by simp[results,Tryz.results89,go_sem,q0,q1,q2]) rfl ?_;have:=mf.o wr (.int .i64 0) (.string ⟨#[]⟩) (.int .i64 0) hE;exact⟨by rw[HP.o,HA.o,List.drop_eq_nil_of_le (by omega)];rfl,this.2,this.1⟩
def DX(w:World)(ev:Value)(code:Int):Prop:=(code=1∧ev=Value.nilIface)∨(code≠1∧∃b,ev=.iface 160 (.pointer (some ⟨b,0,none⟩))∧aC w b 162 #[.int .i64 code])
theorem uU(w:World)(l:aI)(p:M.au)(h:aF w l p)(k:Int)(n m:ByteArray):
    Calls Tryz.prog 88 #[.pointer (some ⟨l.L,0,none⟩),.int .i64 k,.string n,.string m] w fun e w'=>
     (∃ev,e=.returned (.tuple #[.agg #[.int .i64 (M.bN p k n m).1.keeper,.string (M.bN p k n m).1.name],ev])∧DX w' ev (M.bN p k n m).2)∧aF w' l p∧Kp (·=l.D) w w':=by
 have aU:Ext w (w.alloc (.cells #[.int .i64 0,.string ⟨#[]⟩] 40)):=kx;have H:=Ys (h.ext aU);have H0:=Ys h;have bZ:=h.lt;have hDL:l.D<l.L:=h.ord.2.2;clear h;have b8:=aC.new w 40 #[.int .i64 0,.string ⟨#[]⟩];have c0:=b8.c 0 _ rfl;have c1:=b8.c 1 _ rfl;have sZ:Zs (¬(M.has p k&&M.aY n&&M.aY m)=true→M.bN p k n m=(M.pO,2)):=Ys (fun h=>by unfold M.bN;rw[if_neg h]);have G7:Zs ((M.has p k&&M.aY n&&M.aY m)=true→M.bN p k n m=(if(M.find p k n).2=1 then(if M.cZ p (M.find p k n).1 then((M.find p k n).1,1)else(M.pO,4))else(M.pO,2))):=Ys (fun h=>by unfold M.bN;rw[if_pos h]);have FIN:Zs (∀(e:Ending) (w':World) (b:Nat),M.bN p k n m=(M.pO,2)→e=.returned (.tuple #[.agg #[.int .i64 0,.string ⟨#[]⟩],.iface 160 (.pointer (some ⟨b,0,none⟩))])→aC w' b 162 #[.int .i64 2]→aF w' l p→Kp (·=l.D) w w'→
     (∃ev,e=.returned (.tuple #[.agg #[.int .i64 (M.bN p k n m).1.keeper,.string (M.bN p k n m).1.name],ev])∧DX w' ev (M.bN p k n m).2)∧aF w' l p∧Kp (·=l.D) w w'):=Ys (fun e w' b e1 e2 e3 e4 e5=>by
  rw[e1];exact⟨⟨_,e2,.inr ⟨by decide,b,rfl,e3⟩⟩,e4,e5⟩)
 cases h1:M.has p k
 · have H1:=Ys h1;have HN:Zs (M.bN p k n m=(M.pO,2)):=Ys (sZ.o (by rw[h1];simp));clear h1;go_enter Tryz.func88,Tryz.ntmps88;go_wp2_with (go_at_call 24;refine(nN _ _ _ H.o _).mono ?_;rintro e w1 ⟨rfl,rfl⟩;rw[H1.o]);refine bodyPost_ret (v:=.tuple #[.agg #[.int .i64 0,.string ⟨#[]⟩],.iface 160 (.pointer (some ⟨w.heap.size+1,0,none⟩))]) (by simp[results,Tryz.results88,go_sem,c0,c1]) rfl ?_;refine FIN.o _ _ _ HN.o rfl ?_ (H0.o.ext kx) (kx:Ext w _).any;have:=aC.new (w.alloc (.cells #[.int .i64 0,.string ⟨#[]⟩] 40)) 162 #[.int .i64 2];simpa only[World.size_alloc]using this
 have H1:=Ys h1;cases h2:M.aY n
 · have H2:=Ys h2;have HN:Zs (M.bN p k n m=(M.pO,2)):=Ys (sZ.o (by rw[h2];simp));clear h1 h2;go_enter Tryz.func88,Tryz.ntmps88;go_wp2_with (first|(go_at_call 24;refine(nN _ _ _ H.o _).mono ?_;rintro e w1 ⟨rfl,rfl⟩;rw[H1.o])|(go_at_call 25;refine(fZ _ _).mono ?_;rintro e w1 ⟨rfl,rfl⟩;rw[H2.o]));refine bodyPost_ret (v:=.tuple #[.agg #[.int .i64 0,.string ⟨#[]⟩],.iface 160 (.pointer (some ⟨w.heap.size+1,0,none⟩))]) (by simp[results,Tryz.results88,go_sem,c0,c1]) rfl ?_;refine FIN.o _ _ _ HN.o rfl ?_ (H0.o.ext kx) (kx:Ext w _).any;have:=aC.new (w.alloc (.cells #[.int .i64 0,.string ⟨#[]⟩] 40)) 162 #[.int .i64 2];simpa only[World.size_alloc]using this
 have H2:=Ys h2;cases h3:M.aY m
 · have H3:=Ys h3;have HN:Zs (M.bN p k n m=(M.pO,2)):=Ys (sZ.o (by rw[h3];simp));clear h1 h2 h3;go_enter Tryz.func88,Tryz.ntmps88;go_wp2_with fail;refine(nN _ _ _ H.o _).mono ?_;rintro e w1 ⟨rfl,rfl⟩;rw[H1.o];go_wp2_with fail;refine(fZ _ _).mono ?_;rintro e w1 ⟨rfl,rfl⟩;rw[H2.o];go_wp2_with fail;refine(fZ _ _).mono ?_;rintro e w1 ⟨rfl,rfl⟩;rw[H3.o];go_wp2;refine bodyPost_ret (v:=.tuple #[.agg #[.int .i64 0,.string ⟨#[]⟩],.iface 160 (.pointer (some ⟨w.heap.size+1,0,none⟩))]) (by simp[results,Tryz.results88,go_sem,c0,c1]) rfl ?_;refine FIN.o _ _ _ HN.o rfl ?_ (H0.o.ext kx) (kx:Ext w _).any;have:=aC.new (w.alloc (.cells #[.int .i64 0,.string ⟨#[]⟩] 40)) 162 #[.int .i64 2];simpa only[World.size_alloc]using this
 have H3:=Ys h3;have HY:=Ys (G7.o (by rw[h1,h2,h3];rfl));clear h1 h2 h3 sZ G7;go_enter Tryz.func88,Tryz.ntmps88;go_wp2_with fail;refine(nN _ _ _ H.o _).mono ?_;rintro e w1 ⟨rfl,rfl⟩;rw[H1.o];go_wp2_with fail;refine(fZ _ _).mono ?_;rintro e w1 ⟨rfl,rfl⟩;rw[H2.o];go_wp2_with fail;refine(fZ _ _).mono ?_;rintro e w1 ⟨rfl,rfl⟩;rw[H3.o];go_wp2_with fail;refine(jM _ _ _ H.o _ _).mono ?_;rintro e w1 ⟨rfl,hB⟩;have ZK:=b8.ext hB;have q0:=ZK.c 0 _ rfl;have q1:=ZK.c 1 _ rfl;have f0:=ZK.frozen 0;have f1:=ZK.frozen 1;have hz:=ZK.lt;have bA:Ext w w1:=aU.trans hB;have J2:=Ys (H0.o.ext bA);clear c0 c1 H hB b8;have Zr:Zs (∀(W:World) (u v:Value),Kp (·=w.heap.size) W ((W.setCell ⟨w.heap.size,0,none⟩ u).setCell ⟨w.heap.size,1,none⟩ v)):=Ys (fun W u v=>((Kp.refl (·=w.heap.size) W).setCell (p:=⟨w.heap.size,0,none⟩) (fun _=>rfl) _).setCell (p:=⟨w.heap.size,1,none⟩) (fun _=>rfl) _);have adj:Zs (∀(W:World) (u v x:Value),aC (((W.setCell ⟨w.heap.size,0,none⟩ u).setCell ⟨w.heap.size,1,none⟩ v).alloc (.cells #[x] 162)) W.heap.size 162 #[x]):=Ys (fun W u v x=>by
  have:=aC.new ((W.setCell ⟨w.heap.size,0,none⟩ u).setCell ⟨w.heap.size,1,none⟩ v) 162 #[x];simpa using this)
 generalize M.find p k n=F at*;obtain⟨⟨fk,fn⟩,code⟩:=F;simp only at*;by_cases hc:code=1
 · subst hc;have bF:=aC.new w1 40 #[.int .i64 fk,.string fn];go_wp2_with fail;refine(iG _ _ _ (J2.o.ext ((Kp.refl _ _).alloc (.cells #[.int .i64 fk,.string fn] 40))) ⟨fk,fn⟩).mono ?_;rintro e w2 ⟨rfl,hL2,af⟩;have hD1:l.D<w1.heap.size:=by have:=bA.size;omega
   have bF2:=bF.kp af (by omega);have zJ:=(ZK.ext ((Kp.refl _ _).alloc (.cells #[.int .i64 fk,.string fn] 40))).kp af (by omega);have u0:=bF2.c 0 _ rfl;have u1:=bF2.c 1 _ rfl;have uz:=bF2.lt;have r0:=zJ.c 0 _ rfl;have r1:=zJ.c 1 _ rfl;have e0:=zJ.frozen 0;have e1:=zJ.frozen 1;have ez:=zJ.lt;have zV:Kp (·=l.D) w w2:=((bA.alloc _).any).trans af;clear q0 q1 f0 f1 ZK bF af;have mf:Kp (·=w.heap.size) w2 ((w2.setCell ⟨w.heap.size,0,none⟩ (.int .i64 0)).setCell ⟨w.heap.size,1,none⟩ (.string ⟨#[]⟩)):=((Kp.refl (·=w.heap.size) w2).setCell (p:=⟨w.heap.size,0,none⟩) (fun _=>rfl) _).setCell (p:=⟨w.heap.size,1,none⟩) (fun _=>rfl) _;clear mf;have zA:=Ys hL2;cases pG:M.cZ p ⟨fk,fn⟩
   · have HN:Zs (M.bN p k n m=(M.pO,4)):=Ys (by rw[HY.o,pG];rfl);clear pG;go_wp2;refine bodyPost_ret (v:=.tuple #[.agg #[.int .i64 0,.string ⟨#[]⟩],.iface 160 (.pointer (some ⟨w2.heap.size,0,none⟩))]) (by simp[results,Tryz.results88,go_sem,r0,r1,ez]) rfl ?_;have mf:=Zr.o w2 (.int .i64 0) (.string ⟨#[]⟩);rw[HN.o];exact⟨⟨_,rfl,.inr ⟨by decide,_,rfl,adj.o w2 _ _ _⟩⟩,(zA.o.kp mf (fun j hj e=>by omega)).ext ((Kp.refl _ _).alloc _),(zV.own mf (fun j hj=>by omega)).alloc _⟩
   · have HN:Zs (M.bN p k n m=(⟨fk,fn⟩,1)):=Ys (by rw[HY.o,pG];rfl);clear pG;go_wp2;refine bodyPost_ret (v:=.tuple #[.agg #[.int .i64 fk,.string fn],Value.nilIface]) (by simp[results,Tryz.results88,go_sem,r0,r1,ez]) rfl ?_;have mf:=Zr.o w2 (.int .i64 fk) (.string fn);rw[HN.o];exact⟨⟨_,rfl,.inl ⟨rfl,rfl⟩⟩,zA.o.kp mf (fun j hj e=>by omega),zV.own mf (fun j hj=>by omega)⟩
 · have zW:(code !=1)=true:=bne_iff_ne.2 hc;have HN:Zs (M.bN p k n m=(M.pO,2)):=Ys (by rw[HY.o,if_neg hc]);clear hc HY;go_wp2;refine bodyPost_ret (v:=.tuple #[.agg #[.int .i64 0,.string ⟨#[]⟩],.iface 160 (.pointer (some ⟨w1.heap.size+1,0,none⟩))]) (by simp[results,Tryz.results88,go_sem,q0,q1,hz]) rfl ?_;have mf:=Zr.o w1 (.int .i64 0) (.string ⟨#[]⟩);refine FIN.o _ _ _ HN.o rfl ?_ ((J2.o.kp mf (fun j hj e=>by omega)).ext (((Kp.refl _ _).alloc _).alloc _)) (((bA.any.own mf (fun j hj=>by omega)).alloc _).alloc _);have:=aC.new (((w1.setCell ⟨w.heap.size,0,none⟩ (.int .i64 0)).setCell ⟨w.heap.size,1,none⟩ (.string ⟨#[]⟩)).alloc (.cells #[.int .i64 fk,.string fn] 40)) 162 #[.int .i64 2];simpa using this
theorem CQ(w:World)(k o:Nat)(T:TypeId)(cs:Array Value)(vs:Value)(n:Nat)(hB:aC w k T cs)(h0:cs[o]?=some vs)(hv:∃a c,vs=.slice a n c)(c:Nat)(hc:n<c)(Gl:c≤1000):
    Calls Tryz.prog 98 #[.pointer (some ⟨k,o,none⟩),.int .i64 c] w fun e w'=>e=.returned (.tuple #[.slice none 0 0,.bool false])∧w=w':=by
 obtain⟨a,cp,rfl⟩:=hv;have c0:=hB.c o _ h0;have hz:=aG c0;have jh:(n:Int) - c<0:=by omega
 have hw:IntKind.i64.wrap ((n:Int) - c)=(n:Int) - c:=IntWalk.i64_in _ (by omega);clear hB h0;go_enter Tryz.func98,Tryz.ntmps98;go_wp2;go_ret2;exact⟨rfl,rfl⟩
theorem dN(w:World)(k o B:Nat)(T:TypeId)(cs:Array Value)(vs:Value)(n:Nat)(xs:List M.Val)(hB:aC w k T cs)(h0:cs[o]?=some vs)(own:w.ownsRow B 32 2 vs n (xs.flatMap bW))(hl:xs.length=n)
    (c:Nat) (hc:c≤n) (Jf:0<c) (hn:n≤1000) (oC:vs.ownBlock≠some k):
    Calls Tryz.prog 98 #[.pointer (some ⟨k,o,none⟩),.int .i64 c] w fun e w'=>
     ∃v',e=.returned (.tuple #[v',.bool true])∧w'.ownsRow w.heap.size 32 2 v' c ((xs.drop (n - c)).flatMap bW)∧
      (∃a c',vs=.slice a n c'∧aC w' k T (cs.setIfInBounds o (.slice a (n - c) c')))∧Kp (·=k) w w':=by
 obtain⟨g,cp,rfl,hg,hgl,hcp⟩:=cO own (by omega);obtain⟨r,hr⟩:∃r,n=r+c:=⟨n - c,by omega⟩;have hrn:n - c=r:=by omega
 have c0:=hB.c o _ h0;have f0:=hB.frozen o;have hz:=aG c0;have hw:IntKind.i64.wrap ((n:Int) - c)=(r:Int):=by rw[IntWalk.i64_in _ (by omega)];omega
 have iV:(n:Int) - c=(r:Int):=by omega
 have hr0:(0:Int)≤(r:Int):=by omega
 have TC:(r:Int)≤n:=by omega
 have WO:(n:Int)≤cp:=by omega
 have hr3:¬cp=r:=by omega
 have hf:=FC own (kD uy xs) (i:=r) (cp - r);have hnr:n - r=c:=by omega
 have HNR:=Ys hnr;have hd:(xs.flatMap bW).drop (r*2)=(xs.drop r).flatMap bW:=by
  rw[←List.take_append_drop r xs,List.flatMap_append,List.drop_left' (by rw[je (k:=2) (fun _=>rfl)];simp;omega)];simp
 rw[hd]at hf;have HF:=Ys hf;have U7:=Ys hrn;have HB:=Ys hB;have HO:=Ys own;have kN:=Ys oC;clear hf hd hrn hB own oC h0 hr hnr;go_enter Tryz.func98,Tryz.ntmps98;go_wp2_with fail;refine(pU _ _ _ _ HF.o (by omega)).mono ?_;rintro e w1 ⟨⟨v',rfl,dX⟩,hE⟩;obtain⟨a',c',rfl⟩:=bV dX;have HW:=Ys dX;have hB1:=HB.o.ext hE;have d0:=hE.aA c0;have e0:=hB1.frozen o;have z1:=hB1.lt;have vJ:=Ys hB1;have HE:=Ys hE;clear hE dX hB1 c0 f0 hz;go_wp2;go_ret2;refine⟨_,rfl,?_,⟨_,_,rfl,by rw[U7.o];exact vJ.o.bI _ _⟩,Kp.setCell (p:=⟨k,o,none⟩) (D:=(·=k)) HE.o.any (fun _=>rfl) _⟩;have h2:w1.ownsRow w.heap.size 32 2 (.slice a' (n - r) c') c ((xs.drop (n - c)).flatMap bW):=by
  have h2:=HW.o;rw[HNR.o]at h2;rw[HNR.o,U7.o];exact h2
 refine aD (D:=(·=k)) h2 (Kp.setCell (p:=⟨k,o,none⟩) (D:=(·=k)) (Kp.refl _ _) (fun _=>rfl) _) (fun q hq hb e=>?_);have e':q=k:=e;subst e';have:=HB.o.lt;omega
theorem UB(w:World)(k o:Nat)(T:TypeId)(cs:Array Value)(vs:Value)(hB:aC w k T cs)(h0:cs[o]?=some vs)(hv:∃a c,vs=.slice a 0 c):
    Calls Tryz.prog 96 #[.pointer (some ⟨k,o,none⟩)] w fun e w'=>e=.returned (.tuple #[.agg #[.int .i64 0,.int .i64 0],.bool false])∧Ext w w':=by
 have HB:=Ys hB;have H0:=Ys h0;have HV:=Ys hv;have hz:=hB.lt;clear hB h0 hv;go_enter Tryz.func96,Tryz.ntmps96;go_wp2_with fail;refine(CQ _ _ _ _ _ _ 0 (HB.o.ext kx) H0.o HV.o 1 (by omega) (by omega)).mono ?_;rintro e w1 ⟨rfl,rfl⟩;go_wp2;refine bodyPost_ret (v:=.tuple #[.agg #[.int .i64 0,.int .i64 0],.bool false]) (by simp[results,Tryz.results96,go_sem]) rfl ?_;exact⟨rfl,kx⟩
theorem UC(w:World)(k o B:Nat)(T:TypeId)(cs:Array Value)(vs:Value)(n:Nat)(xs:List M.Val)(x:M.Val)(hB:aC w k T cs)(h0:cs[o]?=some vs)(own:w.ownsRow B 32 2 vs (n+1) ((xs++[x]).flatMap bW))(hl:xs.length=n)
    (hn:n+1≤1000) (oC:vs.ownBlock≠some k):
    Calls Tryz.prog 96 #[.pointer (some ⟨k,o,none⟩)] w fun e w'=>
     e=.returned (.tuple #[.agg #[.int .i64 x.kind,.int .i64 x.n],.bool true])∧(∃a c',vs=.slice a (n+1) c'∧aC w' k T (cs.setIfInBounds o (.slice a n c')))∧Kp (·=k) w w':=by
 have HB:=Ys hB;have H0:=Ys h0;have HO:=Ys own;have kN:=Ys oC;have hz:=hB.lt;have hd:(xs++[x]).drop (n+1 - 1)=[x]:=by rw[Nat.add_sub_cancel,←hl,List.drop_left]
 have HD:=Ys hd;have HL:=Ys hl;have bz:=aC.new w 32 #[.int .i64 0,.int .i64 0];clear hB h0 own oC hd hl;go_enter Tryz.func96,Tryz.ntmps96;go_wp2_with fail;refine(dN _ k o B _ _ _ (n+1) (xs++[x]) (HB.o.ext kx) H0.o (aD (D:=fun _=>False) HO.o kx fun _ _ _ x=>x) (by have:=HL.o;simp;omega) 1 (by omega) (by omega) hn kN.o).mono ?_;rintro e w1 ⟨v',rfl,dX,⟨a,c',rfl,hB1⟩,hK⟩;rw[HD.o]at dX;obtain⟨g,cp,rfl,hg,hgl,hcp⟩:=cO dX (by omega);have q0:=dX.cells (g:=g) rfl 0 (.int .i64 x.kind) rfl;have q1:=dX.cells (g:=g) rfl 1 (.int .i64 x.n) rfl;simp only[Addr.add_lit,Nat.zero_add]at q0 q1;have bz1:=bz.kp hK (by omega);have y0:=bz1.c 0 _ rfl;have y1:=bz1.c 1 _ rfl;have u0:=bz1.frozen 0;have u1:=bz1.frozen 1;have vJ:=Ys hB1;have HK:=Ys hK;have HZ:Zs (k<w.heap.size):=Ys hz;clear dX hB1 hK bz bz1 hz;go_wp2;have mf:∀D:Nat→Prop,D w.heap.size→Kp D w1 ((w1.setCell ⟨w.heap.size,0,none⟩ (.int .i64 x.kind)).setCell ⟨w.heap.size,1,none⟩ (.int .i64 x.n)):=fun D hD=>((Kp.refl D w1).setCell (p:=⟨w.heap.size,0,none⟩) (fun _=>hD) _).setCell (p:=⟨w.heap.size,1,none⟩) (fun _=>hD) _;refine bodyPost_ret (v:=.tuple #[.agg #[.int .i64 x.kind,.int .i64 x.n],.bool true]) (by simp[results,Tryz.results96,go_sem,y0,y1]) rfl ?_;refine⟨rfl,⟨a,c',rfl,?_⟩,?_⟩
 · exact vJ.o.kp (mf (·=w.heap.size) rfl) (by have:=HZ.o;omega)
 · exact((((Kp.refl _ _).alloc _:Ext w _).any).trans HK.o).own (mf (·=w.heap.size) rfl) (fun q hq=>by omega)
theorem Jz(w:World)(l:aI)(p:M.au)(h:aF w l p)(k:Int)(n:ByteArray)(i:Nat)(c:M.Class)(m:M.Method)(hc:M.cls? p ⟨k,n⟩=some c)(hm:c.methods[i]?=some m):
    Calls Tryz.prog 48 #[.pointer (some ⟨l.L,0,none⟩),.agg #[.int .i64 k,.string n,.int .i64 i]] w fun e w'=>
     (∃cs,aH w' (· <l.O) m cs∧e=.returned (.agg cs.toArray))∧Ext w w':=by
 have hil:i<c.methods.length:=(List.getElem?_eq_some_iff.1 hm).1;have H:=Ys h;have H0:=Ys h;have HC:=Ys hc;have HM:=Ys hm;clear h hc hm;have b3:=(aC.new w 42 #[.int .i64 k,.string n,.int .i64 i]);have q0:=b3.c 0 _ rfl;have q1:=b3.c 1 _ rfl;have q2:=b3.c 2 _ rfl;clear b3;go_enter Tryz.func48,Tryz.ntmps48;go_upto_region 1 with(fail);first|(go_region_with (go_at_call 91;refine(oG _ l p (H.o.ext kx) k n c HC.o).mono ?_;rintro e w1 ⟨⟨cs,fV,rfl⟩,hB⟩;obtain⟨y1,z1,y2,z2,rfl⟩:=fV.form;obtain⟨uN,hf1⟩:=KD hB;have ym:∀W,(Instr.field 58 (.agg #[.string c.name,.string c.aQ,.slice y1 c.fields.length z1,.slice y2 c.methods.length z2]) 3).run Tryz.prog W=.ok (.slice y2 c.methods.length z2) W:=(fun W=>by kernel_rfl);obtain⟨vf',vm',Yg, -,s2⟩:=bQ.ext aX.stays hB fV;simp only[List.cons.injEq,and_true,true_and]at Yg;obtain⟨rfl,rfl⟩:=Yg;obtain⟨b',off',cs,rfl,Wl,lu, -,jh⟩:=s2.get HM.o;have Gf:=Ys lu;obtain⟨a1,c1,a2,c2,a3,c3,rfl⟩:=lu.form;obtain⟨g0,g1,g2,g3,g4,g5,g6,g7⟩:=jh.eight))|fail
 all_goals
  have bz:=((aC.new (w.alloc (.cells #[.int .i64 k,.string n,.int .i64 i] 42)) 54 #[.string ⟨#[]⟩,.slice none 0 0,.int .i64 0,.string ⟨#[]⟩,.int .i64 0,.int .i64 0,.slice none 0 0,.slice none 0 0]).ext ((Kp.refl _ _).drew)).ext hB;simp only[World.size_alloc]at bz;have B:=(((((((bz.bI 0 (.string m.name)).bI 1 (.slice a1 m.args.length c1)).bI 2 (.int .i64 m.ret.kind)).bI 3 (.string m.ret.name)).bI 4 (.int .i64 m.locals)).bI 5 (.int .i64 m.stack)).bI 6 (.slice a2 m.code.length c2)).bI 7 (.slice a3 m.maps.length c3);have O0:∀(D:Nat→Prop),D (w.heap.size+1)→Kp D w1 ((((((((w1.setCell ⟨w.heap.size+1,0,none⟩ (.string m.name)).setCell ⟨w.heap.size+1,1,none⟩ (.slice a1 m.args.length c1)).setCell ⟨w.heap.size+1,2,none⟩ (.int .i64 m.ret.kind)).setCell ⟨w.heap.size+1,3,none⟩ (.string m.ret.name)).setCell ⟨w.heap.size+1,4,none⟩ (.int .i64 m.locals)).setCell ⟨w.heap.size+1,5,none⟩ (.int .i64 m.stack)).setCell ⟨w.heap.size+1,6,none⟩ (.slice a2 m.code.length c2)).setCell ⟨w.heap.size+1,7,none⟩ (.slice a3 m.maps.length c3)):=fun D hD=>
   ((((((((Kp.refl D w1).setCell (p:=⟨w.heap.size+1,0,none⟩) (fun _=>hD) _).setCell (p:=⟨w.heap.size+1,1,none⟩) (fun _=>hD) _).setCell (p:=⟨w.heap.size+1,2,none⟩) (fun _=>hD) _).setCell (p:=⟨w.heap.size+1,3,none⟩) (fun _=>hD) _).setCell (p:=⟨w.heap.size+1,4,none⟩) (fun _=>hD) _).setCell (p:=⟨w.heap.size+1,5,none⟩) (fun _=>hD) _).setCell (p:=⟨w.heap.size+1,6,none⟩) (fun _=>hD) _).setCell (p:=⟨w.heap.size+1,7,none⟩) (fun _=>hD) _
  have bA:Ext w w1:=((((Kp.refl _ w).alloc _).alloc _).drew).trans hB;clear uN hf1 ym g0 g1 g2 g3 g4 g5 g6 g7 q0 q1 q2 jh bz fV s2;revert B O0;generalize ((((((((w1.setCell ⟨w.heap.size+1,0,none⟩ (.string m.name)).setCell ⟨w.heap.size+1,1,none⟩ (.slice a1 m.args.length c1)).setCell ⟨w.heap.size+1,2,none⟩ (.int .i64 m.ret.kind)).setCell ⟨w.heap.size+1,3,none⟩ (.string m.ret.name)).setCell ⟨w.heap.size+1,4,none⟩ (.int .i64 m.locals)).setCell ⟨w.heap.size+1,5,none⟩ (.int .i64 m.stack)).setCell ⟨w.heap.size+1,6,none⟩ (.slice a2 m.code.length c2)).setCell ⟨w.heap.size+1,7,none⟩ (.slice a3 m.maps.length c3))=W;intro B O0;have HB:=Ys (ae.gX B);have HSK:=Ys O0;clear O0 B;have hOw:l.O<w.heap.size:=by have:=H0.o.ord;have:=H0.o.lt;omega
  go_wp2_with fail;refine bodyPost_ret (v:=.agg #[.string m.name,.slice a1 m.args.length c1,.int .i64 m.ret.kind,.string m.ret.name,.int .i64 m.locals,.int .i64 m.stack,.slice a2 m.code.length c2,.slice a3 m.maps.length c3]) (aT MV rfl _ _ (w.heap.size+1) rfl _ HB.o rfl) rfl ?_;trace "x";exact⟨⟨_,bQ.kp aH.stays (HSK.o (·=w.heap.size+1) rfl) (fun b hb e=>by omega) Gf.o,rfl⟩,bA.own (HSK.o (·=w.heap.size+1) rfl) (fun j hj=>by omega)⟩
structure LC(l:aI)(p:M.au)(w W:World):Prop where
 kp:Kp (·=l.D) w W
 at_:aF W l p
theorem LC.refl{l:aI}{p:M.au}{w:World}(h:aF w l p):LC l p w w:=⟨Kp.refl _ _,h⟩
theorem LC.ext{l:aI}{p:M.au}{w W W':World}(h:LC l p w W)(hE:Ext W W'):LC l p w W':=⟨h.kp.trans hE.any,h.at_.ext hE⟩
theorem LC.drew{l:aI}{p:M.au}{w W:World}(h:LC l p w W):LC l p w W.drew:=h.ext (Kp.refl _ _).drew
theorem LC.step{l:aI}{p:M.au}{w W W':World}(h:LC l p w W)(h1:aF W' l p)(h2:Kp (·=l.D) W W'):LC l p w W':=⟨h.kp.trans h2,h1⟩
theorem LC.trans{l:aI}{p:M.au}{w W W':World}(h:LC l p w W)(h2:LC l p W W'):LC l p w W':=h.step h2.at_ h2.kp
theorem aF.IW{w:World}{l:aI}{p:M.au}(h:aF w l p):l.D<w.heap.size:=by have:=h.lt;have:=h.ord;omega
theorem qR(w:World)(l:aI)(p:M.au)(h:aF w l p)(k:Int)(n:ByteArray)(c:M.Class)(Nj:M.cls? p ⟨k,n⟩=some c):
    ∃cs,aX w (· <l.O) c cs∧∀W,Kp (·=l.D) w W→
    Calls Tryz.prog 91 #[.pointer (some ⟨l.L,0,none⟩),.agg #[.int .i64 k,.string n]] W fun e w'=>e=.returned (.agg cs.toArray)∧Ext W w':=by
 obtain⟨q,i,hq,hi,hqi,hil⟩:=M.Be Nj;obtain⟨uP,tY⟩:=M.IU Nj;simp only at uP tY;obtain⟨k,rfl⟩:=Int.eq_ofNat_of_zero_le uP;have jD:p[k]?=some q:=by
  unfold M.jK at hq;rw[if_pos uP]at hq;exact hq
 obtain⟨a,cap,hs,c0,c1,c2,c3⟩:=h.cells;obtain⟨mm,hm,hme⟩:=h.own;obtain⟨b,off,cs,rfl,hI,Aa, -,hc⟩:=hs.get jD;obtain⟨vo,va,rfl,s1,s2⟩:=Aa;obtain⟨a1,ad6,rfl,mG,lJ⟩:=s1.form;obtain⟨b1,ae4,cs1,rfl,hI1,fV, -,jh⟩:=s1.get hqi;obtain⟨y1,z1,y2,z2,rfl⟩:=fV.form;obtain⟨g0,g1⟩:=hc.two;obtain⟨e0,e1,e2,e3⟩:=jh.four;have hp3:(p.length:Int)≤3:=by have:=(M.BA h.ok).2;omega
 have hO:=h.ord;have bZ:=h.lt;refine⟨_,fV,fun W hK=>?_⟩;have l1:∀W',Ext W W'→(Instr.lookup 103 (.map (some l.O)) (.agg #[.int .i64 (k:Int),.string n]) false).run Tryz.prog W'=.ok (.int .i64 i) W':=by
  intro W' hW;rw[y8 ((hm.kp hK (by omega)).kp hW fun x=>x),hme,hi];rfl
 have l2:=fun(X Y:Obj)=>l1 _ ((((Kp.refl _ W).alloc X).alloc Y).drew);clear l1;have d0:=hK.iX (c0 _ (Kp.refl _ w)) (by omega);have d1:=hK.iX (c1 _ (Kp.refl _ w)) (by omega);replace g0:=hK.iX g0 (by omega);replace g1:=hK.iX g1 (by omega);replace e0:=hK.iX e0 (by omega);replace e1:=hK.iX e1 (by omega);replace e2:=hK.iX e2 (by omega);replace e3:=hK.iX e3 (by omega);have hbw:=aG g0;have aef:=aG e0;have hbl:=aG d0;clear hm hme fV hs s1 s2 hc jh c0 c1 c2 c3 jD hqi hq hi Nj h bZ hK;have acd:k<p.length:=by omega
 clear uP tY;go_enter Tryz.func91,Tryz.ntmps91;go_wp2;(refine jg 17 (by kernel_rfl) (by kernel_rfl) ?_);(simp only[List.take_succ_cons,List.take_zero,List.drop_succ_cons,List.drop_zero]);(repeat still_step);(refine wpStill_nil ?_);go_wp2;refine bodyPost_ret (v:=.agg #[.string c.name,.string c.aQ,.slice y1 c.fields.length z1,.slice y2 c.methods.length z2]) (by simp[results,Tryz.results91,go_sem]) rfl ?_;exact⟨rfl,kx⟩
end Go.Proofs.YtcepdbbapgfcdaaGreat
namespace Go.Proofs.YtcepdbbapgfcdaaGreat.M
theorem tL{p:au}:∀(f:Nat) (r:Ref) (l:List Ref),dh p f r=some l→∃t,l=r::t:=by
 intro f;cases f with
 |zero=>intro r l h;simp[dh]at h
 |succ f=>
  intro r l h;unfold dh at h;split at h
  · cases h;exact⟨[],rfl⟩
  · split at h
    · cases hg:dh p f (resolve p r.keeper (aQ p r)).1 with
      |none=>rw[hg]at h;simp at h
      |some rs=>rw[hg]at h;simp at h;exact⟨rs,h.symm⟩
    · cases h
theorem tN {p : au} : ∀ (f : Nat) (r : Ref) (l : List Ref), dh p f r = some l → ∀ g, l.length ≤ g → dh p g r = some l := by
 intro f;induction f with
 |zero=>intro r l h;simp[dh]at h
 | succ f ih =>
  intro r l h g hg;obtain⟨t,rfl⟩:=tL _ _ _ h;cases g with
  |zero=>simp at hg
  |succ g=>
   unfold dh at h ⊢;split at h
   · rename_i h1;rw[if_pos h1];exact h
   · rename_i h1;rw[if_neg h1];split at h
     · rename_i h2;rw[if_pos h2];cases hc:dh p f (resolve p r.keeper (aQ p r)).1 with
       |none=>rw[hc]at h;simp at h
       |some rs=>
        rw[hc]at h;simp at h;subst h;rw[ih _ _ hc g (by simp at hg;omega)];simp
     · cases h
theorem qd {p : au} : ∀ (f : Nat) (r : Ref) (l : List Ref), dh p f r = some l → ∀ i x, l[i]? = some x → ∃ g, dh p g x = some (l.drop i) := by
 intro f;induction f with
 |zero=>intro r l h;simp[dh]at h
 | succ f ih =>
  intro r l h i x hx;cases i with
  |zero=>
   obtain⟨t,rfl⟩:=tL _ _ _ h;simp at hx;subst hx;exact⟨f+1,h⟩
  |succ i=>
   unfold dh at h;split at h
   · cases h;simp at hx
   · split at h
     · cases hc:dh p f (resolve p r.keeper (aQ p r)).1 with
       |none=>rw[hc]at h;simp at h
       |some rs=>
        rw[hc]at h;simp at h;subst h;simpa using ih _ _ hc i x (by simpa using hx)
     · cases h
theorem Co{p:au}{f g:Nat}{r:Ref}{a b:List Ref}(ha:dh p f r=some a)(hb:dh p g r=some b):a=b:=by
 have h1:=tN _ _ _ ha (max a.length b.length) (Nat.le_max_left _ _);have h2:=tN _ _ _ hb (max a.length b.length) (Nat.le_max_right _ _);rw[h1]at h2;exact Option.some.inj h2
theorem GJ{p:au}(f:Nat)(r:Ref)(l:List Ref)(h:dh p f r=some l):l.Nodup:=by
 refine List.pairwise_iff_getElem.2 ?_;intro i j hi hj hij he;obtain⟨g1,e1⟩:=qd _ _ _ h i l[i] (List.getElem?_eq_getElem hi);obtain⟨g2,e2⟩:=qd _ _ _ h j l[i] (by rw[he];exact List.getElem?_eq_getElem hj);have:=congrArg List.length (Co e1 e2);simp at this;omega
theorem QA{α:Type}{l:List α}(h:l.Nodup):l.reverse.Nodup:=
 List.pairwise_reverse.2 (h.imp fun h=>fun e=>h e.symm)
theorem Cm(p:au)(r:Ref):(chain p r).Nodup:=by
 unfold chain;split
 · unfold qc;cases h:dh p 6 r with
   |none=>simp
   |some l=>exact GJ _ _ _ h
 · simp
theorem Cn{p:au}:∀(f:Nat) (r:Ref) (l:List Ref),dh p f r=some l→l.length≤f:=by
 intro f;induction f with
 |zero=>intro r l h;simp[dh]at h
 |succ f ih=>
  intro r l h;unfold dh at h;split at h
  · cases h;simp
  · split at h
    · cases hc:dh p f (resolve p r.keeper (aQ p r)).1 with
      |none=>rw[hc]at h;simp at h
      |some rs=>rw[hc]at h;simp at h;subst h;have:=ih _ _ hc;simp;omega
    · cases h
theorem rW(p:au)(r:Ref):(chain p r).length≤6:=by
 unfold chain;split
 · unfold qc;cases h:dh p 6 r with
   |none=>simp
   |some l=>exact Cn _ _ _ h
 · simp
theorem nU(c:Ref):∀(fs:List Field) (acc:List l8),(dO c fs acc).length=acc.length+fs.length:=by
 intro fs;induction fs with
 |nil=>intro acc;rfl
 |cons f r ih=>intro acc;unfold dO;rw[ih];simp;omega
theorem IK(c:Ref):∀(fs:List Field) (acc:List l8) (i:Nat) (f:l8),(dO c fs acc)[i]?=some f→
    acc[i]?=some f∨∃j fd,fs[j]?=some fd∧i=acc.length+j∧f=⟨c,i,fd.kind⟩:=by
 intro fs;induction fs with
 |nil=>intro acc i f h;exact .inl h
 |cons fd r ih=>
  intro acc i f h;unfold dO at h;rcases ih _ _ _ h with h1|⟨j,fd',h1,h2,h3⟩
  · rcases Nat.lt_or_ge i acc.length with hi|hi
    · rw[List.getElem?_append_left hi]at h1;exact .inl h1
    · rw[List.getElem?_append_right hi]at h1;have hz:i - acc.length=0:=by
       rcases Nat.eq_zero_or_pos (i - acc.length)with h0|h0
       · exact h0
       · rw[List.getElem?_eq_none (by simp;omega)]at h1;cases h1
      rw[hz]at h1;simp at h1;refine .inr ⟨0,fd,rfl,by omega,?_⟩;rw[←h1,show i=acc.length by omega]
  · exact .inr ⟨j+1,fd',by simpa using h1,by simp at h2;omega,h3⟩
theorem GI(c:Ref):∀(fs:List Field) (acc:List l8),∃t,dO c fs acc=acc++t:=by
 intro fs;induction fs with
 |nil=>intro acc;exact⟨[],by simp[dO]⟩
 |cons fd r ih=>
  intro acc;unfold dO;obtain⟨t,e⟩:=ih (acc++[⟨c,acc.length,fd.kind⟩]);exact⟨_,by rw[e,List.append_assoc]⟩
theorem Js(p:au):∀(L:List Ref) (acc:List l8),∃t,eF p L acc=acc++t:=by
 intro L;induction L with
 |nil=>intro acc;exact⟨[],by simp[eF]⟩
 |cons c r ih=>
  intro acc;unfold eF;obtain⟨t,e⟩:=ih (dO c (cls p c).fields acc);obtain⟨t',e'⟩:=GI c (cls p c).fields acc;exact⟨t'++t,by rw[e,e',List.append_assoc]⟩
theorem uS(p:au):∀(L K:List Ref) (acc:List l8),eF p (L++K) acc=eF p K (eF p L acc):=by
 intro L;induction L with
 |nil=>intro K acc;rfl
 |cons c r ih=>intro K acc;simp only[List.cons_append,eF];rw[ih]
theorem Ld(p:au):∀(L:List Ref) (acc:List l8),L.Nodup→∀(i:Nat) (f:l8),(eF p L acc)[i]?=some f→
    acc[i]?=some f∨∃c∈L,∃j fd,(cls p c).fields[j]?=some fd∧i=jJ p c L acc.length+j∧f=⟨c,i,fd.kind⟩:=by
 intro L;induction L with
 |nil=>intro acc _ i f h;exact .inl h
 |cons c r ih=>
  intro acc hn i f h;unfold eF at h;rw[List.nodup_cons]at hn;rcases ih _ hn.2 _ _ h with h1|⟨c',zW,j,fd,h1,h2,h3⟩
  · rcases IK _ _ _ _ _ h1 with h1|⟨j,fd,h1,h2,h3⟩
    · exact .inl h1
    · exact .inr ⟨c,by simp,j,fd,h1,by simp[jJ];exact h2,h3⟩
  · refine .inr ⟨c',by simp[zW],j,fd,h1,?_,h3⟩;unfold jJ;rw[if_neg (by rintro rfl;exact hn.1 zW),←nU];exact h2
theorem Bz{p:au}{r:Ref}{i:Nat}{f:l8}(h:(layout p r)[i]?=some f):
    cZ p r=true∧f.of∈chain p r∧f.at_=i∧∃j fd,(cls p f.of).fields[j]?=some fd∧i=jk p f.of r+j∧f.kind=fd.kind:=by
 unfold layout at h;split at h
 · rename_i hc;rcases Ld p _ _ (QA (Cm p r)) _ _ h with h1|⟨c,zW,j,fd,h1,h2,rfl⟩
   · simp at h1
   · exact⟨hc,List.mem_reverse.1 zW,rfl,j,fd,h1,h2,rfl⟩
 · simp at h
theorem IZ{p:au}{r:Ref}{f:l8}{j:Nat}{fd:Field}(h1:(cls p f.of).fields[j]?=some fd)(h2:f.at_=((jk p f.of r+j:Nat):Int)):
    fieldName p r f=fd.name:=by
 unfold fieldName;rw[show(f.at_ - jk p f.of r).toNat=j by omega,h1];rfl
end Go.Proofs.YtcepdbbapgfcdaaGreat.M
namespace Go.Proofs.YtcepdbbapgfcdaaGreat
open Go Go.RowKit
def jB(f:M.l8):List Value:=[.int .i64 f.of.keeper,.string f.of.name,.int .i64 f.at_,.int .i64 f.kind.kind,.string f.kind.name]
def RL:fP M.l8:=fun _ _ x cs=>cs=jB x
theorem RL.stays:bQ RL:=fun _ _ _ _ _ _ _ _ h=>h
theorem Uw(x:M.l8):∀u∈jB x,u.oneCell'=true:=by simp[jB,Value.oneCell']
theorem Pz:Elem 132 166 5:=iF (z:=.agg #[.int .i64 0,.string ⟨#[]⟩,.int .i64 0,.int .i64 0,.string ⟨#[]⟩]) (bytes:=56) Tryz.underlying132 (by kernel_rfl) rfl (by decide) (by decide)
theorem Ei{c:M.Ref}{fs:List M.Field}{acc:List M.l8}{k:Nat}{x:M.Field}(hx:fs[k]?=some x):
    M.dO c (fs.take (k+1)) acc=M.dO c (fs.take k) acc++[⟨c,(M.dO c (fs.take k) acc).length,x.kind⟩]:=by
 rw[List.take_add_one,hx];have:∀(l:List M.Field) (acc:List M.l8),M.dO c (l++[x]) acc=M.dO c l acc++[⟨c,(M.dO c l acc).length,x.kind⟩]:=by
  intro l;induction l with
  |nil=>intro acc;rfl
  |cons y r ih=>intro acc;simp only[List.cons_append,M.dO];rw[ih]
 exact this _ _
theorem Kp.mix{D D':Nat→Prop}{w a b:World}(h:Kp D w a)(hk:Kp D' a b)(hD:∀k,k<w.heap.size→D' k→D k):Kp D w b:=
 ⟨hk.os.trans h.os,hk.tape.trans h.tape,hk.output.trans h.output,Nat.le_trans h.size hk.size,
  fun k Br hd=>(hk.block k (Nat.lt_of_lt_of_le Br h.size) (fun x=>hd (hD k Br x))).trans (h.block k Br hd)⟩
theorem ae.Qy{W:World}{g:Nat}(t:TypeId)(cs:Array Value)(h:W.heap.size=g):ae (W.alloc (.cells cs t)).drew g 0 cs.toList:=(ae.fB t cs h).ext ((Kp.refl _ _).drew)
theorem KE (w : World) (bb B : Nat) (vs : Value) (acc : List M.l8) (c : M.Ref) (I : Nat → Prop) (vf : Value) (fs : List M.Field) (hB : aC w bb 182 #[vs]) (own : w.ownsRow B 166 5 vs acc.length (acc.flatMap jB))
    (hf:SliceOf 3 eO w I vf fs) (hI:∀b,I b→b<B∧b≠bb) (hbB:B≤w.heap.size) (hlen:acc.length+fs.length≤1000) (oC:vs.ownBlock≠some bb):
    Calls Tryz.prog 107 #[.pointer (some ⟨bb,0,none⟩),.agg #[.int .i64 c.keeper,.string c.name],vf] w fun e w'=>
     e=.returned (.tuple #[])∧∃vs',aC w' bb 182 #[vs']∧w'.ownsRow B 166 5 vs' (acc.length+fs.length) ((M.dO c fs acc).flatMap jB)∧vs'.ownBlock≠some bb∧Kp (fun b=>b=bb∨vs.ownBlock=some b) w w':=by
 obtain⟨va,vc,rfl,hn,dn⟩:=hf.form;have hz:=hB.lt;have b4:=aC.new w 40 #[.int .i64 c.keeper,.string c.name];have aU:Ext w (w.alloc (.cells #[.int .i64 c.keeper,.string c.name] 40)):=kx;have HF:=Ys hf;have HI:=Ys hI;have kN:=Ys oC;have R0:Zs (aC (w.alloc (.cells #[.int .i64 c.keeper,.string c.name] 40)) bb 182 #[vs]∧(w.alloc (.cells #[.int .i64 c.keeper,.string c.name] 40)).ownsRow B 166 5 vs acc.length ((M.dO c (fs.take 0) acc).flatMap jB)∧(∀g,vs.ownBlock=some g→vs.ownBlock=some g∨w.heap.size<g)∧
     Kp (fun b=>b=bb∨vs.ownBlock=some b) w (w.alloc (.cells #[.int .i64 c.keeper,.string c.name] 40))∧aC (w.alloc (.cells #[.int .i64 c.keeper,.string c.name] 40)) w.heap.size 40 #[.int .i64 c.keeper,.string c.name]):=
  Ys ⟨hB.ext aU,aD (D:=fun _=>False) own aU fun _ _ _ x=>x,fun g h=>.inl h,aU.any,b4⟩
 have HBV:Zs (∀g,vs.ownBlock=some g→B≤g∧g<w.heap.size):=Ys fun g hg=>own.lt g hg;clear hB own hf hI oC b4 aU;go_enter Tryz.func107,Tryz.ntmps107;go_wp2;go_loopw [10] (fun i wr=>∃(k m:Nat) (v':Value),k≤fs.length∧i=.int .i64 k∧Zs (m=acc.length+k)∧Zs (aC wr bb 182 #[v']∧wr.ownsRow B 166 5 v' m ((M.dO c (fs.take k) acc).flatMap jB)∧
     (∀g,v'.ownBlock=some g→vs.ownBlock=some g∨w.heap.size<g)∧Kp (fun b=>b=bb∨vs.ownBlock=some b) w wr∧aC wr w.heap.size 40 #[.int .i64 c.keeper,.string c.name])) (fun i _=>fs.length - (intOf i).toNat)
 case atStart=>exact⟨0,acc.length,vs,Nat.zero_le _,rfl,Ys rfl,R0⟩
 case round =>
  obtain⟨k,m,v',hk,rfl,HM,HR⟩:=hrel;by_cases bZ:k<fs.length
  · obtain⟨x,hx⟩:=get_some bZ;obtain⟨b,off,cs,rfl,J6,rfl, -,hc⟩:=HF.o.get hx;have afD:=(HI.o b J6).1;have aed:=(HI.o b J6).2;have Yx:Same (·=b) w wr:=Kp.same HR.o.2.2.2.1 (fun q hq e=>by
     subst hq;rcases e with rfl|e
     · exact aed rfl
     · have:=HBV.o _ e;omega)
    have zW:=hc.keep fun o v hv=>Yx b o v rfl hv;obtain⟨g0,g1,g2⟩:=zW.three;have gz:=aG g0;have j6:w.heap.size≤wr.heap.size:=HR.o.2.2.2.1.size;have HX:=Ys hx;clear hx hc zW Yx;have dX:=HR.o.2.1;obtain⟨a,cp,rfl⟩:=bV dX;have aas:(Value.slice a m cp).ownBlock≠some bb:=fun e=>by
     rcases HR.o.2.2.1 _ e with h|h
     · exact kN.o h
     · omega
    obtain⟨W0,hW0,aU,b7⟩:=nu wr #[.string x.name,.int .i64 x.kind.kind,.string x.kind.name] 203;have b1:=HR.o.1.ext aU;have b4:=HR.o.2.2.2.2.ext aU;have uR:W0.heap.size=wr.heap.size+1:=by rw[hW0];simp
    obtain⟨T,f,dB,HT⟩:=iq.ex (fun W=>Kp (fun b=>(Value.slice a m cp).ownBlock=some b) W0 W) _ (Kp.refl _ _);have WS:¬(Value.slice a m cp).ownBlock=some wr.heap.size:=fun e=>by have:=(dX.lt _ e).2;omega
    have hv4:¬(Value.slice a m cp).ownBlock=some w.heap.size:=fun e=>by
     rcases HR.o.2.2.1 _ e with h|h
     · have:=(HBV.o _ h).2;omega
     · omega
    have r0:=fun s=>(b1.kp (HT.aJ s) aas).c 0 (.slice a m cp) rfl;have r4:=fun s=>(b4.kp (HT.aJ s) hv4).c 0 (.int .i64 c.keeper) rfl;have r5:=fun s=>(b4.kp (HT.aJ s) hv4).c 1 (.string c.name) rfl;have r7:=fun s=>(b7.kp (HT.aJ s) WS).c 1 (.int .i64 x.kind.kind) rfl;have r8:=fun s=>(b7.kp (HT.aJ s) WS).c 2 (.string x.kind.name) rfl;have aj:=Ys HT;have vJ:=Ys b1;have bJ:=Ys aU;have abf:=Ys aas;have HO0:=Ys (aD (D:=fun _=>False) dX aU fun _ _ _ x=>x);have dQ:=Ys hW0;have Kr:=Ys uR;have hmn:m+1≤4294967296:=by have:=HM.o;omega
    clear b1 b4 b7 dX aas WS hv4 HT aU uR;go_wp2;rw[←dQ.o];clear hW0 g0 g1 g2;(refine dZ aj 16 [([0,1,2,3,4,5,6,7,8,9,10,11,12,13],14),([],15)] [] ?_ ?_)
    · exact(Kp.refl _ _).drew
    (refine di [_,_,_,_,_,_,_,_,_,_,_,_,_,_] rfl rfl fun K hK=>?_);(repeat (go_big_quiet_step (fail)));(refine qn hK fun K2 af=>?_);clear hK K;go_wp2_with fail;(refine kk aj af kx ?_);clear af K2;(refine ic rfl fun K2 af=>?_);refine aB Pz rfl (.tmp 18) (.tmp 28) rfl B (.slice a m cp) m _ rfl (aD (D:=fun _=>False) HO0.o kx fun _ _ _ x=>x) W0.heap.size 1 (jB ⟨c,m,x.kind⟩) rfl rfl (ae.Qy _ _ rfl) (Uw _) hmn ?_ ?_
    · have:=Kr.o;simp;omega
    intro g2 c2 w1 Mj lU PX;have HG2:Zs ((Value.slice a m cp).ownBlock=some g2∨w.heap.size<g2):=Ys (by
     rcases PX with h|h
     · exact .inl h
     · right;have:=Kr.o;simp at h;omega)
    clear PX;change K2 _ _;have Df:Kp (fun b=>(Value.slice a m cp).ownBlock=some b) W0 w1:=(kx:Ext W0 _).any.trans lU;(refine kk aj af Df ?_);clear af K2;have hB1:=vJ.o.kp Df abf.o;have d0:=hB1.c 0 (.slice a m cp) rfl;have e0:=hB1.frozen 0;have z1:=hB1.lt;have lD:=Ys hB1;have yG:=Ys Mj;have XG:=Ys Df;clear Mj lU Df hB1 r0 r4 r5 r7 r8;(refine dW ?_);go_wp2;have bH:∀D:Nat→Prop,D bb→∀v,Kp D w1 (w1.setCell ⟨bb,0,none⟩ v):=fun D hD v=>(Kp.refl D w1).setCell (p:=⟨bb,0,none⟩) (fun _=>hD) v;have hgb:g2≠bb:=fun e=>by
     subst e;rcases HG2.o with h|h
     · exact abf.o h
     · omega
    have gF:¬w.heap.size=bb:=by omega
    have acj:(M.dO c (fs.take k) acc).length=m:=by rw[M.nU,HM.o,List.length_take];omega
    refine⟨⟨k+1,m+1,.slice (some ⟨g2,0,none⟩) (m+1) c2,by omega,by go_num,Ys (by have:=HM.o;omega),Ys ⟨?_,?_,?_,?_,?_⟩⟩,by simp[intOf];omega⟩
    · exact lD.o.bI 0 _
    · rw[Ei HX.o,List.flatMap_append,acj];have h2:=aD yG.o (bH (·=bb) rfl (.slice (some ⟨g2,0,none⟩) (m+1) c2)) (fun q hq _ e=>by cases hq;exact hgb e);simpa using h2
    · intro q hq;cases hq;rcases HG2.o with h|h
      · rcases HR.o.2.2.1 _ h with h|h
        · exact .inl h
        · exact .inr h
      · exact .inr h
    · refine((HR.o.2.2.2.1.trans bJ.o.any).mix XG.o (fun q hq e=>?_)).trans (bH _ (.inl rfl) _);rcases HR.o.2.2.1 _ e with h|h
      · exact .inr h
      · omega
    · exact((HR.o.2.2.2.2.ext bJ.o).kp XG.o (fun e=>by
       rcases HR.o.2.2.1 _ e with h|h
       · have:=(HBV.o _ h).2;omega
       · omega)).kp (bH (·=bb) rfl _) gF
  · have Aa:k=fs.length:=by omega
    subst Aa;go_wp2;((try simp only[Exit.inBlock,Exit.then]);(first|refine bodyPost_ret (results_none rfl _ _ _) rfl ?_|refine bodyPost_end (results_none rfl _ _ _) rfl ?_));refine⟨rfl,v',HR.o.1,?_,?_,HR.o.2.2.2.1⟩
    · have h2:=HR.o.2.1;rw[HM.o,List.take_length]at h2;exact h2
    · intro e;rcases HR.o.2.2.1 _ e with h|h
      · exact kN.o h
      · omega
end Go.Proofs.YtcepdbbapgfcdaaGreat
