/- Walks. -/
import Derived.Test.YtkmclfpjpajjeaaGreatTnCoreLo
set_option maxRecDepth 100000
set_option maxHeartbeats 4000000
set_option linter.unusedSimpArgs false
set_option linter.unusedVariables false
namespace Go.Proofs.YtkmclfpjpajjeaaGreat
open Go Go.RowKit
theorem Uf:Elem 180 244 2:=iP (z:=.agg #[.slice none 0 0,.slice none 0 0]) (bytes:=48) Tryz.underlying180 Wr rfl Wk Wk
def ab7(x:Value×Value):List Value:=[x.1,x.2]
def Nz(W:World)(S:Nat)(v vl vs:Value)(b:Nat):Prop:=S≤b∧b<W.heap.size∧v.ownBlock≠some b∧vl.ownBlock≠some b∧vs.ownBlock≠some b
def TU(W:World)(S:Nat)(v vl vs:Value)(known:List M.iY)(cs:List (Value×Value)):Prop:=
 cs.length=known.length∧W.ownsRow S 244 2 v known.length (cs.flatMap ab7)∧
  ∀(j:Nat) (c:Value×Value) (f:M.iY),cs[j]?=some c→known[j]?=some f→SliceOf 2 eB W (Nz W S v vl vs) c.1 f.locals∧SliceOf 2 eB W (Nz W S v vl vs) c.2 f.stack
def Kn(W:World)(S:Nat)(v vl vs:Value)(known:List M.iY):Prop:=∃cs:List (Value×Value),TU W S v vl vs known cs
theorem Kn.nil(W:World)(S:Nat)(vl vs:Value):Kn W S (.slice none 0 0) vl vs []:=
 ⟨[],rfl,World.ownsRow_nil _ _ _ _,fun j c f h=>by simp at h⟩
theorem jm{w:World}{base e k n:Nat}{v:Value}{xs:List Value}(h:w.ownsRow base e k v n xs){g:Nat}(hg:v.ownBlock=some g):∃cur,ay w g e cur:=by
 rcases h.2 with⟨h1,_⟩|⟨g',cap,cur,h1,_,hb,_⟩
 · rw[h1]at hg;cases hg
 · rw[h1]at hg;cases hg;exact⟨cur,hb⟩
theorem Kn.kp{W W':World}{S:Nat}{l:aH}{p:M.ax}{B kb:Nat}{k:Int}{m:M.Method}{t:qj}{at_:Int}{s:M.iY}{v vl vs tJ vs':Value}{known:List M.iY}(h:Kn W S v vl vs known)
    (hA:aQ W l p B kb k m t at_ s vl vs) (hk:Kp (jf l kb vl vs) W W') (hO:bW W.heap.size vl vs tJ vs') (hkb:kb<S):Kn W' S v tJ vs' known:=by
 obtain⟨cs,h1,h2,h3⟩:=h;have hB:=hA.hB;have hBk:=hA.hk;have Aw:=hA.dN.ord;refine⟨cs,h1,aA h2 hk fun g hg hS e=>?_,fun j c f hc hf=>?_⟩
 · obtain⟨cur,hb⟩:=jm h2 hg;rcases e with e|e|e|e
   · omega
   · omega
   · obtain⟨cur',Qk⟩:=jm hA.loc e;exact absurd (ay.inj hb Qk) Wk
   · obtain⟨cur',Qk⟩:=jm hA.dD e;exact absurd (ay.inj hb Qk) Wk
 · have same:Same (Nz W S v vl vs) W W':=Kp.same hk fun b hb e=>by
    obtain⟨q1,q2,q3,q4,q5⟩:=hb;rcases e with e|e|e|e
    · omega
    · omega
    · exact q4 e
    · exact q5 e
   have sub:∀b,Nz W S v vl vs b→Nz W' S v tJ vs' b:=fun b ⟨q1,q2,q3,q4,q5⟩=>⟨q1,Nat.lt_of_lt_of_le q2 hk.size,q3,fun e=>by
    rcases hO b (.inl e)with x|x|x
    · exact q4 x
    · exact q5 x
    · omega,fun e=>by
    rcases hO b (.inr e)with x|x|x
    · exact q4 x
    · exact q5 x
    · omega⟩
   obtain⟨a1,a2⟩:=h3 j c f hc hf;exact⟨a1.keep eB.stays same sub,a2.keep eB.stays same sub⟩
theorem TU.snoc{W W':World}{S:Nat}{v v' vl vs c1 c2:Value}{known:List M.iY}{f:M.iY}{cs:List (Value×Value)}(h:TU W S v vl vs known cs)
    (h1:SliceOf 2 eB W (Nz W S v vl vs) c1 f.locals) (h2:SliceOf 2 eB W (Nz W S v vl vs) c2 f.stack)
    (bN:W'.ownsRow S 244 2 v' (known.length+1) (cs.flatMap ab7++[c1,c2])) (hk:Kp (fun b=>v.ownBlock=some b) W W') (hv:∀g,v'.ownBlock=some g→v.ownBlock=some g∨W.heap.size≤g):Kn W' S v' vl vs (known++[f]):=by
 obtain⟨e1,e2,e3⟩:=h;have same:Same (Nz W S v vl vs) W W':=Kp.same hk fun b hb e=>hb.2.2.1 e;have sub:∀b,Nz W S v vl vs b→Nz W' S v' vl vs b:=fun b ⟨q1,q2,q3,q4,q5⟩=>⟨q1,Nat.lt_of_lt_of_le q2 hk.size,fun e=>by
  rcases hv b e with x|x
  · exact q3 x
  · omega,q4,q5⟩
 refine⟨cs++[(c1,c2)],by simp[e1],?_,fun j c f' hc hf=>?_⟩
 · rw[List.length_append,List.flatMap_append];simpa [ab7]using bN
 · rcases Nat.lt_trichotomy j cs.length with hj|hj|hj
   · rw[List.getElem?_append_left hj]at hc;rw[List.getElem?_append_left Wg]at hf;obtain⟨a1,a2⟩:=e3 j c f' hc hf;exact⟨a1.keep eB.stays same sub,a2.keep eB.stays same sub⟩
   · subst hj;rw[List.getElem?_append_right (Nat.le_refl _)]at hc;rw[e1,List.getElem?_append_right (Nat.le_refl _)]at hf;simp at hc hf;subst hc hf;exact⟨h1.keep eB.stays same sub,h2.keep eB.stays same sub⟩
   · rw[List.getElem?_eq_none X2]at hc;cases hc
theorem TU.ext{W W':World}{S:Nat}{v vl vs:Value}{known:List M.iY}{cs:List (Value×Value)}(h:TU W S v vl vs known cs)(hE:Ext W W'):TU W' S v vl vs known cs:=by
 obtain⟨e1,e2,e3⟩:=h;have sub:∀b,Nz W S v vl vs b→Nz W' S v vl vs b:=fun b ⟨q1,q2,q3⟩=>⟨q1,Nat.lt_of_lt_of_le q2 hE.size,q3⟩;refine⟨e1,aA e2 hE (fun _ _ _ x=>x),fun j c f hc hf=>?_⟩;obtain⟨a1,a2⟩:=e3 j c f hc hf;exact⟨a1.keep eB.stays (Ext.same hE) sub,a2.keep eB.stays (Ext.same hE) sub⟩
abbrev Own:=Nat→Option (Nat×Nat)
def iw(n:Nat)(own own':Own):Prop:=∀b,b<n→own' b=own b
theorem iw.refl(n:Nat)(own:Own):iw n own own:=fun _ _=>rfl
theorem iw.trans{n n':Nat}{a b c:Own}(h:iw n a b)(h':iw n' b c)(hn:n≤n'):iw n a c:=fun k hk=>(h' k Wg).trans (h k hk)
def Own.add(own:Own)(g:Nat)(r:Nat×Nat):Own:=fun b=>if b=g then some r else own b
theorem Own.add_eq(own:Own)(g:Nat)(r:Nat×Nat):own.add g r g=some r:=by simp[Own.add]
theorem Own.gQ{own:Own}{g b:Nat}(r:Nat×Nat)(h:b≠g):own.add g r b=own b:=by simp[Own.add,h]
theorem Own.xL{own:Own}{g n:Nat}{r:Nat×Nat}(h:own g=some r∨n≤g):iw n own (own.add g r):=fun b hb=>by
 by_cases e:b=g
 · subst e;rcases h with h|h
   · rw[Own.add_eq,h]
   · omega
 · exact Own.gQ r e
def MO(l:aH)(own:Own)(b:Nat):Prop:=b=l.D∨own b≠none
def PO(own:Own)(R:Nat×Nat→Prop)(b:Nat):Prop:=∃r,own b=some r∧R r
theorem PO.mo{l:aH}{own:Own}{R:Nat×Nat→Prop}{b:Nat}(h:PO own R b):MO l own b:=by
 obtain⟨r,h,_⟩:=h;exact .inr (by rw[h];simp)
theorem Kp.mo{l:aH}{own own':Own}{w a b:World}(h:Kp (MO l own) w a)(hk:Kp (MO l own') a b)(ha:iw w.heap.size own own'):Kp (MO l own) w b:=
 ⟨hk.os.trans h.os,hk.tape.trans h.tape,hk.output.trans h.output,Nat.le_trans h.size hk.size,
  fun k BZ hd=>(hk.block k (Nat.lt_of_lt_of_le BZ h.size) (fun x=>hd (by
   rcases x with x|x
   · exact .inl x
   · exact .inr (by rw[←ha k BZ];exact x)))).trans (h.block k BZ hd)⟩
structure hZ(w:World)(own:Own)(B:Nat)(r:Nat×Nat)(e k:Nat)(v:Value)(n:Nat)(xs:List Value):Prop where
 row:w.ownsRow B e k v n xs
 role:∀g,v.ownBlock=some g→own g=some r
section
variable {w w':World} {own own':Own} {B:Nat} {r:Nat×Nat} {e k:Nat} {v:Value} {n:Nat} {xs:List Value} {R:Nat×Nat→Prop} {D:Nat→Prop}
theorem hZ.keep(h:hZ w own B r e k v n xs)(hk:Kp D w w')(ha:iw w.heap.size own own')(hD:∀b,own b=some r→B≤b→¬D b):hZ w' own' B r e k v n xs:=
 ⟨aA h.row hk (fun g hg hb=>hD g (h.role g hg) hb),fun g hg=>(ha g (h.row.lt g hg).2).trans (h.role g hg)⟩
theorem hZ.nil(w:World)(own:Own)(B:Nat)(r:Nat×Nat)(e k:Nat):hZ w own B r e k (.slice none 0 0) 0 []:=
 ⟨World.ownsRow_nil _ _ _ _,fun g h=>by cases h⟩
theorem hZ.form(h:hZ w own B r e k v n xs):∃a c,v=.slice a n c:=bO h.row
theorem hZ.take{g c:Nat}(h:hZ w own B r e k (.slice (some ⟨g,0,none⟩) n c) n xs){j:Nat}(hj:j≤n):hZ w own B r e k (.slice (some ⟨g,0,none⟩) j c) j (xs.take (j*k)):=
 ⟨Ck h.row hj,fun q hq=>h.role q hq⟩
theorem hZ.ext(h:hZ w own B r e k v n xs)(hE:Ext w w'):hZ w' own B r e k v n xs:=h.keep hE (iw.refl _ _) fun _ _ _ x=>x
theorem hZ.blk(h:hZ w own B r e k v n xs){g:Nat}(hg:v.ownBlock=some g):B≤g∧g<w.heap.size:=h.row.lt g hg
theorem hZ.wm(h:hZ w own B r e k v n xs)(hk:Kp (PO own R) w w')(ha:iw w.heap.size own own')(hr:¬R r):hZ w' own' B r e k v n xs:=
 h.keep hk ha fun b hb _ ⟨r',h1,h2⟩=>by rw[hb]at h1;cases h1;exact hr h2
end
structure GC where
 f:M.Fr
 cb:Nat
 t:qj
 vl:Value
 vs:Value
structure GO where
 o:M.nP
 v:Value
structure Gh where
 status:Int
 cs:List GC
 os:List GO
 outs:List Int
 back:M.Val
 vc:Value
 vh:Value
 vo:Value
def Gh.st(g:Gh):M.St:=⟨g.status,g.cs.map GC.f,g.os.map GO.o,g.outs,g.back⟩
def E5(p:M.ax)(c:GC):Array Value:=
 #[.int .i64 c.f.of.of.keeper,.string c.f.of.of.name,.int .i64 c.f.of.at_,.string (M.method p c.f.of).name,.slice c.t.a1 (M.method p c.f.of).args.length c.t.c1,.int .i64 (M.method p c.f.of).ret.kind,.string (M.method p c.f.of).ret.name,
  .int .i64 (M.method p c.f.of).locals,.int .i64 (M.method p c.f.of).stack,.slice c.t.a2 (M.method p c.f.of).code.length c.t.c2,.slice c.t.a3 (M.method p c.f.of).maps.length c.t.c3,.int .i64 c.f.pc,c.vl,c.vs,.int .i64 (M.method p c.f.of).stack]
def tC(c:GC):List Value:=[.pointer (some ⟨c.cb,0,none⟩)]
def kV(o:GO):List Value:=[.int .i64 o.o.of.keeper,.string o.o.of.name,o.v]
def zF(l:aH)(lk:Bool)(g:Gh):Array Value:=#[.pointer (some ⟨l.L,0,none⟩),.bool lk,.int .i64 g.status,g.vc,g.vh,g.vo,.int .i64 g.back.kind,.int .i64 g.back.n]
structure lF(w:World)(l:aH)(p:M.ax)(own:Own)(B i:Nat)(c:GC):Prop where
 blk:ay w c.cb 125 (E5 p c)
 role:own c.cb=some (4,i)
 low:B≤c.cb
 ml:aG w (· <l.O) (M.method p c.f.of) (iC (M.method p c.f.of) c.t)
 loc:hZ w own B (5,i) 38 2 c.vl c.f.locals.length (c.f.locals.flatMap bV)
 dD:hZ w own B (6,i) 38 2 c.vs c.f.stack.length (c.f.stack.flatMap bV)
structure aI(w:World)(l:aH)(p:M.ax)(own:Own)(B mb:Nat)(lk:Bool)(g:Gh):Prop where
 dN:aC w l p
 hB:l.L<B
 blk:ay w mb 65 (zF l lk g)
 role:own mb=some (0,0)
 low:B≤mb
 calls:hZ w own B (1,0) 120 1 g.vc g.cs.length (g.cs.flatMap tC)
 call:∀i c,g.cs[i]?=some c→lF w l p own B i c
 heap:hZ w own B (2,0) 160 3 g.vh g.os.length (g.os.flatMap kV)
 obj:∀j o,g.os[j]?=some o→hZ w own B (7,j) 38 2 o.v o.o.fields.length (o.o.fields.flatMap bV)
 outs:hZ w own B (3,0) 3 1 g.vo g.outs.length (g.outs.flatMap sU)
 dom:∀b,own b≠none→B≤b∧b<w.heap.size
 good:M.Good p g.st
section
variable {w w':World} {l:aH} {p:M.ax} {own own':Own} {B mb:Nat} {lk:Bool} {g:Gh} {D:Nat→Prop} {R:Nat×Nat→Prop}
theorem lF.keep{i:Nat}{c:GC}(h:lF w l p own B i c)(hk:Kp D w w')(ha:iw w.heap.size own own')(hD:∀b,(own b=some (4,i)∨own b=some (5,i)∨own b=some (6,i))→B≤b→¬D b)(hO:∀b,b<l.O→¬D b):lF w' l p own' B i c:=
 ⟨h.blk.kp hk (hD _ (.inl h.role) h.low),(ha _ h.blk.lt).trans h.role,h.low,bQ.kp aG.stays hk (fun b hb=>hO b hb) h.ml,h.loc.keep hk ha (fun b hb=>hD b (.inr (.inl hb))),h.dD.keep hk ha (fun b hb=>hD b (.inr (.inr hb)))⟩
theorem aI.keep(h:aI w l p own B mb lk g)(hk:Kp D w w')(ha:iw w.heap.size own own')(hd:∀b,own' b≠none→B≤b∧b<w'.heap.size)(hL:aC w' l p)(hD:∀b,own b≠none→¬D b)(hO:∀b,b<l.O→¬D b):aI w' l p own' B mb lk g:=by
 have hx:∀b r,own b=some r→¬D b:=fun b r hb=>hD b (by rw[hb];simp);exact⟨hL,h.hB,h.blk.kp hk (hx _ _ h.role),(ha _ h.blk.lt).trans h.role,h.low,h.calls.keep hk ha fun b hb _=>hx b _ hb,
  fun i c hc=>(h.call i c hc).keep hk ha (fun b hb _=>by rcases hb with hb|hb|hb<;>exact hx b _ hb) hO,
  h.heap.keep hk ha fun b hb _=>hx b _ hb,fun j o ho=>(h.obj j o ho).keep hk ha fun b hb _=>hx b _ hb,h.outs.keep hk ha fun b hb _=>hx b _ hb,hd,h.good⟩
theorem aI.Ah(h:aI w l p own B mb lk g)(hs:w.heap.size≤w'.heap.size):∀b,own b≠none→B≤b∧b<w'.heap.size:=fun b hb=>⟨(h.dom b hb).1,Nat.lt_of_lt_of_le (h.dom b hb).2 hs⟩
theorem aI.ext(h:aI w l p own B mb lk g)(hE:Ext w w'):aI w' l p own B mb lk g:=
 h.keep hE (iw.refl _ _) (h.Ah hE.size) (h.dN.ext hE) (fun _ _ x=>x) (fun _ _ x=>x)
theorem aI.ab3(h:aI w l p own B mb lk g){b:Nat}(hb:b≤l.L):own b=none:=by
 cases e:own b with
 |none=>rfl
 |some r=>have:=(h.dom b (by rw[e];simp)).1;have:=h.hB;omega
theorem aI.kM(h:aI w l p own B mb lk g)(hk:Kp (·=l.D) w w')(hL:aC w' l p):aI w' l p own B mb lk g:=
 h.keep hk (iw.refl _ _) (h.Ah hk.size) hL (fun b hb e=>by have:=h.dN.ord;exact hb (h.ab3 Wg)) (fun b hb e=>by have:=h.dN.ord;omega)
theorem aI.IZ(h:aI w l p own B mb lk g)(hk:Kp (PO own R) w w'):aC w' l p:=
 h.dN.kp hk fun k Bn ⟨r,e,_⟩=>by rw[h.ab3 Bn]at e;cases e
theorem aI.xw(h:aI w l p own B mb lk g):∀b,b<l.O→¬PO own R b:=fun b hb ⟨r,e,_⟩=>by
 have:=h.dN.ord;rw[h.ab3 Wg]at e;cases e
theorem lF.wm{i:Nat}{c:GC}(h:lF w l p own B i c)(hk:Kp (PO own R) w w')(ha:iw w.heap.size own own')(hR:¬R (4,i)∧¬R (5,i)∧¬R (6,i))(hO:∀b,b<l.O→¬PO own R b):lF w' l p own' B i c:=
 h.keep hk ha (fun b hb _ ⟨r,h1,h2⟩=>by
  rcases hb with hb|hb|hb<;>rw[hb]at h1<;>cases h1
  · exact hR.1 h2
  · exact hR.2.1 h2
  · exact hR.2.2 h2) hO
theorem aI.at_(h:aI w l p own B mb lk g){r:List GC}{c:GC}(hc:g.cs=r++[c]):lF w l p own B r.length c:=h.call _ _ (by rw[hc];simp)
theorem aI.Kt(h:aI w l p own B mb lk g){r:List GC}{c c':GC}(cK:g.cs=r++[c])(hcb:c'.cb=c.cb)(hk:Kp (PO own fun q=>q=(4,r.length)∨q=(5,r.length)∨q=(6,r.length)) w w')(ha:iw w.heap.size own own')(hd:∀b,own' b≠none→B≤b∧b<w'.heap.size)
    (hc:lF w' l p own' B r.length c') (hG:M.Good p {g with cs:=r++[c']}.st):aI w' l p own' B mb lk {g with cs:=r++[c']}:=by
 refine⟨h.IZ hk,h.hB,h.blk.kp hk ?_,(ha _ h.blk.lt).trans h.role,h.low,?_,?_,h.heap.wm hk ha Wf,fun j o ho=>(h.obj j o ho).wm hk ha Wf,h.outs.wm hk ha Wf,hd,hG⟩
 · rintro⟨q,h1,h2⟩;rw[h.role]at h1;cases h1;simp at h2
 · have:=h.calls.wm hk ha Wf;rw[cK]at this;simpa [tC,hcb]using this
 · intro i c1 mE;simp only at mE;rcases Nat.lt_trichotomy i r.length with hi|hi|hi
   · rw[List.getElem?_append_left hi]at mE;refine(h.call i c1 (by rw[cK,List.getElem?_append_left hi];exact mE)).wm hk ha ?_ h.xw;refine⟨?_,?_,?_⟩<;>simp<;>omega
   · subst hi;simp at mE;subst mE;exact hc
   · rw[List.getElem?_eq_none X2]at mE;cases mE
theorem aI.Kr(h:aI w l p own B mb lk g)(g':Gh)(hk:Kp (PO own (·=(0,0))) w w')(hb:ay w' mb 65 (zF l lk g'))(cK:(g'.cs=g.cs∧g'.vc=g.vc)∨(hZ w own B (1,0) 120 1 g'.vc g'.cs.length (g'.cs.flatMap tC)∧∃r,g.cs=g'.cs++r))
    (OJ:g'.os=g.os∧g'.vh=g.vh∧g'.outs=g.outs∧g'.vo=g.vo) (hG:M.Good p g'.st):aI w' l p own B mb lk g':=by
 obtain⟨e1,e2,e3,e4⟩:=OJ;have ha:=iw.refl w.heap.size own;refine⟨h.IZ hk,h.hB,hb,h.role,h.low,?_,?_,?_,?_,?_,h.Ah hk.size,hG⟩
 · rcases cK with⟨a,b⟩|⟨a,_⟩
   · rw[a,b];exact h.calls.wm hk ha Wf
   · exact a.wm hk ha Wf
 · intro i c hc;refine(h.call i c ?_).wm hk ha Wf h.xw;rcases cK with⟨a,_⟩|⟨_,r,a⟩
   · rw[←a];exact hc
   · rw[a,List.getElem?_append_left (List.getElem?_eq_some_iff.1 hc).1];exact hc
 · rw[e1,e2];exact h.heap.wm hk ha Wf
 · rw[e1];exact fun j o ho=>(h.obj j o ho).wm hk ha Wf
 · rw[e3,e4];exact h.outs.wm hk ha Wf
end
def cu(w:World)(l:aH)(p:M.ax)(own:Own)(B mb:Nat)(lk:Bool)(v:Value)(s:M.St)(e:Ending)(w':World):Prop:=
 e=.returned v∧Kp (MO l own) w w'∧∃own' g',iw w.heap.size own own'∧aI w' l p own' B mb lk g'∧g'.st=s
theorem cu.after{w w1 w2:World}{l:aH}{p:M.ax}{own gq:Own}{B mb:Nat}{lk:Bool}{v:Value}{s:M.St}{e:Ending}(hK:Kp (MO l own) w w1)(ha:iw w.heap.size own gq)(h:cu w1 l p gq B mb lk v s e w2):cu w l p own B mb lk v s e w2:=by
 obtain⟨h1,h2,own',g',h3,h4,h5⟩:=h;exact⟨h1,hK.mo h2 ha,own',g',ha.trans h3 hK.size,h4,h5⟩
theorem cu.behind{w w1 w2:World}{l:aH}{p:M.ax}{own:Own}{B mb:Nat}{lk:Bool}{v:Value}{s:M.St}{e:Ending}(hE:Ext w w1)(h:cu w1 l p own B mb lk v s e w2):cu w l p own B mb lk v s e w2:=
 h.after hE.any (iw.refl _ _)
theorem aI.stop{w w':World}{l:aH}{p:M.ax}{own:Own}{B mb:Nat}{lk:Bool}{g:Gh}{v:Value}(h:aI w l p own B mb lk g)(hE:Ext w w'):cu w l p own B mb lk v g.st (.returned v) w':=
 ⟨rfl,hE.any,own,g,iw.refl _ _,h.ext hE,rfl⟩
end Go.Proofs.YtkmclfpjpajjeaaGreat
namespace Go.Proofs.YtkmclfpjpajjeaaGreat
open Go Go.RowKit
section
variable {w w':World} {l:aH} {p:M.ax} {own:Own} {B mb:Nat} {lk:Bool} {g:Gh} {r:List GC} {c:GC}
theorem Gh.fr(cK:g.cs=r++[c]):g.st.frames=r.map GC.f++[c.f]:=by unfold Gh.st;rw[cK];simp
theorem Gh.top(cK:g.cs=r++[c]):M.top g.st=c.f:=M.iM (Gh.fr cK)
theorem aI.DL(h:aI w l p own B mb lk g)(cK:g.cs=r++[c]):M.dX p c.f g.st.heap.length=true:=h.good.top (Gh.fr cK)
theorem aI.mi(h:aI w l p own B mb lk g)(cK:g.cs=r++[c]):M.EO (M.method p c.f.of):=
 M.pG (M.ji h.dN.ok (M.aM.1 (h.DL cK)).1).1
theorem aI.setStack(h:aI w l p own B mb lk g)(cK:g.cs=r++[c])(xs:List M.Val)(v':Value)(hb:ay w' c.cb 125 ((E5 p c).setIfInBounds 13 v'))(ho:w'.ownsRow B 38 2 v' xs.length (xs.flatMap bV))
    (hn:∀q,v'.ownBlock=some q→c.vs.ownBlock=some q∨w.heap.size≤q) (hk:Kp (fun b=>b=c.cb∨c.vs.ownBlock=some b) w w') (hG:M.Good p {g with cs:=r++[{c with f:={c.f with stack:=xs},vs:=v'}]}.st):
    Kp (MO l own) w w'∧∃own',iw w.heap.size own own'∧aI w' l p own' B mb lk {g with cs:=r++[{c with f:={c.f with stack:=xs},vs:=v'}]}:=by
 have hc:=h.at_ cK;have hpo:∀b,(b=c.cb∨c.vs.ownBlock=some b)→PO own (fun q=>q=(4,r.length)∨q=(6,r.length)) b:=fun b hb=>by
  rcases hb with e|e
  · subst e;exact⟨_,hc.role,.inl rfl⟩
  · exact⟨_,hc.dD.role b e,.inr rfl⟩
 have jr:=hk.weak fun b _ e=>hpo b e;refine⟨hk.weak fun b _ e=>(hpo b e).mo,?_⟩;have⟨own',ha,hd,aez⟩:∃own',iw w.heap.size own own'∧(∀b,own' b≠none→B≤b∧b<w'.heap.size)∧∀q,v'.ownBlock=some q→own' q=some (6,r.length):=by
  cases e:v'.ownBlock with
  |none=>exact⟨own,iw.refl _ _,h.Ah hk.size,fun q hq=>by cases hq⟩
  |some q=>
   refine⟨own.add q (6,r.length),Own.xL ?_,fun b hb=>?_,fun q' hq=>by cases hq;exact Own.add_eq _ _ _⟩
   · rcases hn q e with x|x
     · exact .inl (hc.dD.role q x)
     · exact .inr x
   · by_cases eb:b=q
     · subst eb;exact ho.lt b e
     · rw[Own.gQ _ eb]at hb;exact h.Ah hk.size b hb
 have hnr:¬((5,r.length)=((4,r.length):Nat×Nat)∨(5,r.length)=((6,r.length):Nat×Nat)):=by simp
 refine⟨own',ha,h.Kt cK rfl (jr.weak fun b _ ⟨q,e1,e2⟩=>⟨q,e1,e2.elim .inl fun e=>.inr (.inr e)⟩) ha hd ⟨hb,(ha _ hc.blk.lt).trans hc.role,hc.low,bQ.kp aG.stays jr (fun b hb=>h.xw b hb) hc.ml,hc.loc.wm jr ha hnr,⟨ho,aez⟩⟩ hG⟩
theorem aI.ae2(h:aI w l p own B mb lk g)(cK:g.cs=r++[c])(n:Int)(hG:M.Good p {g with cs:=r++[{c with f:={c.f with pc:=n}}]}.st):
    Kp (MO l own) w (w.setCell ⟨c.cb,11,none⟩ (.int .i64 n))∧aI (w.setCell ⟨c.cb,11,none⟩ (.int .i64 n)) l p own B mb lk {g with cs:=r++[{c with f:={c.f with pc:=n}}]}:=by
 have hc:=h.at_ cK;have hk:Kp (·=c.cb) w (w.setCell ⟨c.cb,11,none⟩ (.int .i64 n)):=(Kp.refl (·=c.cb) w).setCell (p:=⟨c.cb,11,none⟩) (fun _=>rfl) _;have jr:Kp (PO own (·=(4,r.length))) w (w.setCell ⟨c.cb,11,none⟩ (.int .i64 n)):=hk.weak fun b _ e=>⟨_,by rw[e];exact hc.role,rfl⟩;have ha:=iw.refl w.heap.size own;refine⟨jr.weak fun b _ e=>e.mo,h.Kt cK rfl (jr.weak fun b _ ⟨q,e1,e2⟩=>⟨q,e1,.inl e2⟩) ha (h.Ah hk.size) ⟨hc.blk.bE 11 _,hc.role,hc.low,bQ.kp aG.stays jr (fun b hb=>h.xw b hb) hc.ml,hc.loc.wm jr ha Wf,hc.dD.wm jr ha Wf⟩ hG⟩
end
def EP(n:Nat)(q:Nat×Nat):Prop:=q=(4,n)∨q=(6,n)
theorem Kp.po{own own':Own}{R:Nat×Nat→Prop}{w a b:World}(h:Kp (PO own R) w a)(hk:Kp (PO own' R) a b)(ha:iw w.heap.size own own'):Kp (PO own R) w b:=
 ⟨hk.os.trans h.os,hk.tape.trans h.tape,hk.output.trans h.output,Nat.le_trans h.size hk.size,
  fun k BZ hd=>(hk.block k (Nat.lt_of_lt_of_le BZ h.size) (fun⟨q,e1,e2⟩=>hd ⟨q,by rw[←ha k BZ];exact e1,e2⟩)).trans (h.block k BZ hd)⟩
theorem aI.Ky{w w' w'':World}{l:aH}{p:M.ax}{own:Own}{B mb:Nat}{lk:Bool}{g:Gh}{r:List GC}{c:GC}(h:aI w l p own B mb lk g)(cK:g.cs=r++[c])(hk:Kp (fun b=>b=c.cb∨c.vs.ownBlock=some b) w' w''):Kp (PO own (EP r.length)) w' w'':=
 hk.weak fun b _ e=>by
  rcases e with e|e
  · subst e;exact⟨_,(h.at_ cK).role,.inl rfl⟩
  · exact⟨_,(h.at_ cK).dD.role b e,.inr rfl⟩
theorem eD(w:World)(l:aH)(p:M.ax)(own:Own)(B mb:Nat)(lk:Bool)(g:Gh)(h:aI w l p own B mb lk g)(r:List GC)(c:GC)(cK:g.cs=r++[c]):
    Calls Tryz.prog 68 #[.pointer (some ⟨mb,0,none⟩)] w fun e w'=>e=.returned (.pointer (some ⟨c.cb,0,none⟩))∧Ext w w':=by
 have hn:g.cs.length=r.length+1:=by rw[cK];simp
 obtain⟨b,cap,hv, -, -,dm⟩:=cB h.calls.row Wg;have bN:=h.calls.row;rw[hv,hn]at bN;have wU:=(fC (enc:=tC) (k:=1) (fun _=>rfl) (l:=g.cs) bN (i:=r.length) (x:=c) (by rw[cK];simp)).one;rw[Nat.mul_one]at wU;rw[hn]at hv;have hcells:(zF l lk g)[3]?=some (.slice (some ⟨b,0,none⟩) (r.length+1) cap):=by rw[←hv];rfl
 have hle:r.length+1≤8:=by have:=h.good.nf;rw[Gh.fr cK]at this;simpa using this
 have hw:IntKind.i64.wrap ((r.length:Int)+1 - 1)=r.length:=by rw[IntWalk.i64_in _ Wg];omega
 obtain⟨T,f,dA,HT⟩:=iN.ex (fun W'=>Ext w W') _ Kp.rr;have r3:=fun q=>(h.blk.ext (HT.aW q)).c 3 _ hcells;have rt:=fun q=>(HT.aW q).aD wU;have⟨aj,H⟩:=aJ HT h;clear h HT hcells wU bN hv;go_enter Tryz.func68,Tryz.ntmps68;go_wp2_with fail;(refine Hb aj ?_ ?_);rotate_left;(repeat (go_big_quiet_step ((fail))));(refine wpQuiet_nil ?_);(rintro _ ⟨sW,rfl⟩);rotate_left
 · exact Kp.rr.drew
 have bH:=aj.o.aW sW;generalize f sW=w1 at*;clear aj r3 rt;go_wp2_with fail;go_ret;exact⟨rfl,bH⟩
theorem cu.mk'{w w':World}{l:aH}{p:M.ax}{own own':Own}{B mb:Nat}{lk:Bool}{v:Value}{s:M.St}{g':Gh}(hK:Kp (MO l own) w w')(ha:iw w.heap.size own own')(h:aI w' l p own' B mb lk g')(hs:g'.st=s):cu w l p own B mb lk v s (.returned v) w':=
 ⟨rfl,hK,own',g',ha,h,hs⟩
theorem FZ(w:World)(l:aH)(p:M.ax)(own:Own)(B mb:Nat)(lk:Bool)(g:Gh)(h:aI w l p own B mb lk g)(r:List GC)(c:GC)(cK:g.cs=r++[c])(dw:g.status=1)(tt:Int)(h0:0≤tt):
    Calls Tryz.prog 102 #[.pointer (some ⟨mb,0,none⟩),.int .i64 tt] w fun e w'=>cu w l p own B mb lk (.int .i64 (M.jump p tt g.st).1) (M.jump p tt g.st).2 e w'∧Kp (PO own (EP r.length)) w w':=by
 have H:=Z3 h;have HJ:Zs (M.jump p tt g.st=if((M.method p c.f.of).code.length:Int)≤tt then(10,g.st)else(1,{g.st with frames:=r.map GC.f++[{c.f with pc:=tt}]})):=Z3 (by
  unfold M.jump;rw[Gh.top cK,M.j6 (Gh.fr cK)])
 have HG:=Z3 (M.sV h.good (Gh.fr cK) dw h0).2.2.1;have fE:=Z3 cK;clear h cK;go_enter Tryz.func102,Tryz.ntmps102;go_wp2_with fail;refine(eD _ _ _ _ _ _ _ _ H.o r c fE.o).mono ?_;rintro e w1 ⟨rfl,bH⟩;have hA:=H.o.ext bH;have hc:=hA.at_ fE.o;obtain⟨hz, -, -, -, -, -, -, -, -, -,c9, -,c11, -⟩:=hc.blk.ca;have f11:=hc.blk.frozen 11;have⟨HA,eQ⟩:=aJ hA bH;clear hA hc bH;by_cases hle:((M.method p c.f.of).code.length:Int)≤tt
 · have HV:Zs (M.jump p tt g.st=(10,g.st)):=Z3 (by rw[HJ.o,if_pos hle]);have agU:decide (((M.method p c.f.of).code.length:Int)≤tt)=true:=decide_eq_true hle;go_wp2_with fail;go_ret;rw[HV.o];exact⟨cu.mk' eQ.o.any (iw.refl _ _) HA.o rfl,eQ.o.any⟩
 · have HV:Zs (M.jump p tt g.st=(1,{g.st with frames:=r.map GC.f++[{c.f with pc:=tt}]})):=Z3 (by rw[HJ.o,if_neg hle]);have agU:(((M.method p c.f.of).code.length:Int)≤tt)=False:=eq_false hle;clear hle;go_wp2_with fail;go_ret;have hG:=HG.o;rw[HV.o]at hG;rw[HV.o];have hs:(⟨g.status,r++[{c with f:={c.f with pc:=tt}}],g.os,g.outs,g.back,g.vc,g.vh,g.vo⟩:Gh).st={g.st with frames:=r.map GC.f++[{c.f with pc:=tt}]}:=by simp[Gh.st]
   obtain⟨hK,hM⟩:=HA.o.ae2 fE.o tt (by rw[hs];exact hG);exact⟨cu.mk' (eQ.o.any.trans hK) (iw.refl _ _) hM hs,eQ.o.any.trans (HA.o.Ky fE.o ((Kp.refl _ w1).setCell (p:=⟨c.cb,11,none⟩) (fun _=>.inl rfl) _))⟩
theorem Cf(w:World)(l:aH)(p:M.ax)(own:Own)(B mb:Nat)(lk:Bool)(g:Gh)(h:aI w l p own B mb lk g)(r:List GC)(c:GC)(cK:g.cs=r++[c])(dw:g.status=1)(tt:Int)(h0:0≤tt):
    Calls Tryz.prog 102 #[.pointer (some ⟨mb,0,none⟩),.int .i64 tt] w (cu w l p own B mb lk (.int .i64 (M.jump p tt g.st).1) (M.jump p tt g.st).2):=
 (FZ w l p own B mb lk g h r c cK dw tt h0).mono fun _ _ h=>h.1
end Go.Proofs.YtkmclfpjpajjeaaGreat
namespace Go.Proofs.YtkmclfpjpajjeaaGreat
open Go Go.RowKit
theorem F5(w:World)(l:aH)(p:M.ax)(own:Own)(B mb:Nat)(lk:Bool)(g:Gh)(h:aI w l p own B mb lk g)(r:List GC)(c:GC)(cK:g.cs=r++[c])(dw:g.status=1):
    Calls Tryz.prog 96 #[.pointer (some ⟨mb,0,none⟩)] w fun e w'=>cu w l p own B mb lk (.int .i64 (M.next p g.st).1) (M.next p g.st).2 e w'∧Kp (PO own (EP r.length)) w w':=by
 have H:=Z3 h;have HJ:Zs (M.next p g.st=M.jump p (c.f.pc+1) g.st):=Z3 (by unfold M.next;rw[Gh.top cK]);have lX:=M.aM.1 (h.DL cK);have Yr:=(h.mi cK).code;have hp0:=lX.2.1;have hp1:=lX.2.2.1;have YH:IntKind.i64.wrap (c.f.pc+1)=c.f.pc+1:=IntWalk.i64_in _ Wg;have fE:=Z3 cK;clear h cK lX;go_enter Tryz.func96,Tryz.ntmps96;go_wp2_with fail;refine(eD _ _ _ _ _ _ _ _ H.o r c fE.o).mono ?_;rintro e w1 ⟨rfl,bH⟩;have hA:=H.o.ext bH;have hc:=hA.at_ fE.o;have c11:=hc.blk.c 11 (.int .i64 c.f.pc) rfl;have⟨HA,eQ⟩:=aJ hA bH;clear hA hc bH;go_wp2_with fail;refine(FZ _ _ _ _ _ _ _ _ HA.o r c fE.o dw (c.f.pc+1) Wg).mono ?_;rintro e w2 ⟨aV,Tf⟩;have XG:Zs (Kp (PO own (EP r.length)) w w2):=Z3 (eQ.o.any.trans Tf);clear Tf;have HZ:=Z3 (cu.behind eQ.o aV);obtain⟨rfl, -⟩:=aV;rw[←HJ.o]at HZ ⊢;go_wp2_with fail;go_ret;exact⟨HZ.o,XG.o⟩
theorem qB(w:World)(l:aH)(p:M.ax)(own:Own)(B mb:Nat)(lk:Bool)(g:Gh)(h:aI w l p own B mb lk g)(r:List GC)(c:GC)(cK:g.cs=r++[c])(dw:g.status=1):
    Calls Tryz.prog 96 #[.pointer (some ⟨mb,0,none⟩)] w (cu w l p own B mb lk (.int .i64 (M.next p g.st).1) (M.next p g.st).2):=
 (F5 w l p own B mb lk g h r c cK dw).mono fun _ _ h=>h.1
theorem I5(w:World)(l:aH)(p:M.ax)(own:Own)(B mb:Nat)(lk:Bool)(g:Gh)(h:aI w l p own B mb lk g)(r:List GC)(c:GC)(cK:g.cs=r++[c])(dw:g.status=1)(v:M.Val)(hv:M.bD v g.os.length=true):
    Calls Tryz.prog 94 #[.pointer (some ⟨mb,0,none⟩),.agg #[.int .i64 v.kind,.int .i64 v.n]] w fun e w'=>cu w l p own B mb lk (.int .i64 (M.push p v g.st).1) (M.push p v g.st).2 e w'∧Kp (PO own (EP r.length)) w w':=by
 obtain⟨w0,bI,aU,b3⟩:=nu w #[.int .i64 v.kind,.int .i64 v.n] 38;have hA:=h.ext aU;have lX:=M.aM.1 (h.DL cK);have hms:=(h.mi cK).stack;have vC:=lX.2.2.2.2.1;have hc:=h.at_ cK;have OI:¬(w.heap.size=c.cb∨c.vs.ownBlock=some w.heap.size):=by
  rintro(e|e)
  · have:=hc.blk.lt;omega
  · have:=(hc.dD.blk e).2;omega
 have HJ:Zs (M.push p v g.st=if(M.method p c.f.of).stack≤(c.f.stack.length:Int)then(10,g.st)else M.next p {g.st with frames:=r.map GC.f++[{c.f with stack:=c.f.stack++[v]}]}):=Z3 (by
  unfold M.push;rw[Gh.top cK,M.j6 (Gh.fr cK)])
 have hG':(c.f.stack.length:Int)<(M.method p c.f.of).stack→M.Good p {g.st with frames:=r.map GC.f++[{c.f with stack:=c.f.stack++[v]}]}:=fun bY=>by
  refine h.good.turn (Gh.fr cK) (M.aM.2 ⟨lX.1,lX.2.1,lX.2.2.1,lX.2.2.2.1,by simp;omega,lX.2.2.2.2.2.1,?_⟩);intro u hu;rcases List.mem_append.1 hu with hu|hu
  · exact lX.2.2.2.2.2.2 u hu
  · simp only[List.mem_singleton]at hu;subst hu;simpa [Gh.st]using hv
 obtain⟨T,f,dA,HT⟩:=iN.ex (fun W'=>Kp (fun b=>b=c.cb∨c.vs.ownBlock=some b) w0 W') _ Kp.rr;obtain⟨-,r0,r1, -⟩:=ay.kY fun z=>(b3.kp (HT.aW z) OI);have⟨aj,HA,bM,dO⟩:=gD HT hA aU bI;have HGG:=Z3 hG';have fE:=Z3 cK;clear h hA aU bI b3 HT hG' hc cK lX;go_enter Tryz.func94,Tryz.ntmps94;go_wp2_with fail;rw[←dO.o];(refine eO aj 7 [([0,4],1),([2,3],5)] [6] ?_ ?_)
 · exact Kp.rr.drew
 refine iX ?_;intro K2 ag;go_wp2_with fail;refine(eD _ _ _ _ _ _ _ _ (HA.o.ext Kp.rr.drew) r c fE.o).mono ?_;rintro e w1 ⟨rfl,bH⟩;have eQ:Zs (Ext w0 w1):=Z3 (((Kp.refl _ w0).drew:Ext w0 _).trans bH);clear bH;go_wp2_with fail;(refine kk aj ag eQ.o.any ?_);clear ag K2;refine iX ?_;intro K2 ag;have rZ:=HA.o.ext eQ.o;have mE:=rZ.at_ fE.o;have⟨kX,He⟩:=aJ rZ mE;clear rZ mE;by_cases bY:(c.f.stack.length:Int)<(M.method p c.f.of).stack
 · replace HJ:Zs (M.push p v g.st=M.next p {g.st with frames:=r.map GC.f++[{c.f with stack:=c.f.stack++[v]}]}):=Z3 (by rw[HJ.o,if_neg Wg]);go_wp2_with fail;refine(Px w1 c.cb 13 B _ _ _ c.f.stack.length _ (M.method p c.f.of).stack He.o.blk rfl rfl v.kind v.n He.o.dD.row Wg bY ?_ ?_).mono ?_
   · intro e;have:=He.o.dD.role _ e;rw[He.o.role]at this;cases this
   · have:=He.o.low;have:=He.o.blk.lt;omega
   rintro e w2 ⟨rfl,gg,gc,UR,Rl,hB2,Rh⟩;have hs:(⟨g.status,r++[{c with f:={c.f with stack:=c.f.stack++[v]},vs:=.slice (some ⟨gg,0,none⟩) (c.f.stack.length+1) gc}],g.os,g.outs,g.back,g.vc,g.vh,g.vo⟩:Gh).st={g.st with frames:=r.map GC.f++[{c.f with stack:=c.f.stack++[v]}]}:=by simp[Gh.st]
   obtain⟨Ox,own',Xa,UQ⟩:=kX.o.setStack fE.o (c.f.stack++[v]) (.slice (some ⟨gg,0,none⟩) (c.f.stack.length+1) gc) hB2 (by
    rw[List.length_append,List.flatMap_append];simpa [bV]using UR) (fun q hq=>by
    have:gg=q:=by simpa [Value.ownBlock]using hq
    subst this;exact Rl) Rh (by rw[hs];exact HGG.o bY)
   have afV:Zs (Kp (fun b=>b=c.cb∨c.vs.ownBlock=some b) w0 w2):=Z3 (eQ.o.any.trans Rh);have XG:Zs (Kp (PO own (EP r.length)) w w2):=Z3 ((bM.o.trans eQ.o).any.trans (kX.o.Ky fE.o Rh));have HKM:Zs (Kp (MO l own) w w2):=Z3 ((bM.o.trans eQ.o).any.trans Ox);have HM':=Z3 UQ;have HAG:Zs (iw w.heap.size own own'):=Z3 (fun b hb=>Xa b (by have:=bM.o.size;have:=eQ.o.size;omega));rw[←hs]at HJ;clear UR Rl hB2 Rh Ox Xa UQ hs r0 r1;go_wp2_with fail;(refine kk aj ag afV.o ?_);clear ag K2;clear aj;refine qa ?_;go_wp2_with fail;refine(F5 _ _ _ _ _ _ _ _ HM'.o r _ rfl dw).mono ?_;rintro e w3 ⟨aV,Tf⟩;have af9:Zs (Kp (PO own (EP r.length)) w w3):=Z3 (XG.o.po Tf HAG.o);clear Tf;have HZ:=Z3 (cu.after HKM.o HAG.o aV);obtain⟨rfl, -⟩:=aV;rw[←HJ.o]at HZ ⊢;go_wp2_with fail;go_ret;exact⟨HZ.o,af9.o⟩
 · replace HJ:Zs (M.push p v g.st=(10,g.st)):=Z3 (by rw[HJ.o,if_pos Wg]);go_wp2_with fail;refine(D5 w1 c.cb 13 _ _ _ c.f.stack.length (M.method p c.f.of).stack He.o.blk rfl rfl He.o.dD.form v.kind v.n Wg).mono ?_;rintro e w2 ⟨rfl,bZ⟩;have gL:Zs (Ext w0 w2):=Z3 (eQ.o.trans bZ);clear bZ r0 r1;go_wp2_with fail;(refine kk aj ag gL.o.any ?_);clear ag K2;clear aj;refine qa ?_;go_wp2_with fail;go_ret;rw[HJ.o];exact⟨cu.behind bM.o (HA.o.stop gL.o),(bM.o.trans gL.o).any⟩
theorem nE(w:World)(l:aH)(p:M.ax)(own:Own)(B mb:Nat)(lk:Bool)(g:Gh)(h:aI w l p own B mb lk g)(r:List GC)(c:GC)(cK:g.cs=r++[c])(dw:g.status=1)(v:M.Val)(hv:M.bD v g.os.length=true):
    Calls Tryz.prog 94 #[.pointer (some ⟨mb,0,none⟩),.agg #[.int .i64 v.kind,.int .i64 v.n]] w (cu w l p own B mb lk (.int .i64 (M.push p v g.st).1) (M.push p v g.st).2):=
 (I5 w l p own B mb lk g h r c cK dw v hv).mono fun _ _ h=>h.1
def Lf(w:World)(vh:Value)(h:List M.nP):Prop:=
 ∃a cap,vh=.slice a h.length cap∧∀(n:Nat) (o:M.nP),h[n]?=some o→∃b off v,a=some ⟨b,off,none⟩∧ae w b (off+n*3) [.int .i64 o.of.keeper,.string o.of.name,v]
theorem Lf.ext{w w':World}{vh:Value}{h:List M.nP}(hh:Lf w vh h)(hE:Ext w w'):Lf w' vh h:=by
 obtain⟨a,cap,e,h1⟩:=hh;exact⟨a,cap,e,fun n o ho=>by
  obtain⟨b,off,v,h2,h3⟩:=h1 n o ho;exact⟨b,off,v,h2,h3.ext hE⟩⟩
theorem aI.U4{w:World}{l:aH}{p:M.ax}{own:Own}{B mb:Nat}{lk:Bool}{g:Gh}(h:aI w l p own B mb lk g):Lf w g.vh g.st.heap:=by
 obtain⟨a,c,e⟩:=h.heap.form;refine⟨a,c,by rw[e];simp[Gh.st],fun n o ho=>?_⟩;simp only[Gh.st,List.getElem?_map,Option.map_eq_some_iff]at ho;obtain⟨q,hq,rfl⟩:=ho;have bN:=h.heap.row;obtain⟨gg,cc,e2,_⟩:=cB bN (by have:=(List.getElem?_eq_some_iff.1 hq).1;omega);rw[e2]at bN e;cases e;have:=fC (enc:=kV) (k:=3) (fun _=>rfl) bN hq;exact⟨gg,0,q.v,rfl,by simpa [kV]using this⟩
theorem iR(w:World)(cb:Nat)(k:Int)(hc:w.cell? ⟨cb,0,none⟩=some (.int .i64 k)):Calls Tryz.prog 100 #[.pointer (some ⟨cb,0,none⟩)] w fun e w'=>e=.returned (.int .i64 k)∧w=w':=by
 go_enter Tryz.func100,Tryz.ntmps100;go_wp2;go_ret;exact⟨rfl,rfl⟩
theorem AY{h:List M.nP}{n:Nat}{o:M.nP}(ho:h[n]?=some o):M.oD h n=o.of:=by simp[M.oD,ho]
theorem rP(w:World)(l:aH)(p:M.ax)(h:aC w l p)(k:Int)(vh:Value)(hs:List M.nP)(hh:Lf w vh hs)(v:M.Val)(hv:v.kind=2→0≤v.n∧v.n<hs.length)(t:M.Kind):
    Calls Tryz.prog 91 #[.pointer (some ⟨l.L,0,none⟩),.int .i64 k,vh,.agg #[.int .i64 v.kind,.int .i64 v.n],.agg #[.int .i64 t.kind,.string t.name]] w fun e w'=>e=.returned (.bool (M.hasType p k hs v t))∧Ext w w':=by
 obtain⟨tk,tn⟩:=t;obtain⟨vk,vn⟩:=v;obtain⟨w0,bI⟩:∃w0,w0=(w.alloc (.cells #[.int .i64 vk,.int .i64 vn] 38)).alloc (.cells #[.int .i64 tk,.string tn] 102):=⟨_,rfl⟩;have aU:Ext w w0:=by rw[bI];exact kx
 have b8:ay w0 w.heap.size 38 #[.int .i64 vk,.int .i64 vn]:=by rw[bI];exact(ay.new _ _ _).ext kx
 have b9:ay w0 (w.heap.size+1) 102 #[.int .i64 tk,.string tn]:=by rw[bI];exact ay.newAt _ _ Wf
 have⟨HH,HL,bM,yt,zR,dO⟩:=qU (hh.ext aU) (h.ext aU) aU b8 b9 bI;obtain⟨a,cap,rfl, -⟩:=hh;clear h aU b8 b9 bI;by_cases ht:tk=1
 · subst ht;have HV:Zs (M.hasType p k hs ⟨vk,vn⟩ ⟨1,tn⟩=decide (vk=1)):=Z3 (by unfold M.hasType;rw[if_pos rfl]);go_enter Tryz.func91,Tryz.ntmps91;go_wp2_with fail;go_ret;exact⟨af (by rw[HV.o];rfl),by rw[←dO.o];exact bM.o⟩
 have Az:(tk==1)=false:=beq_eq_false_iff_ne.2 ht;by_cases Vq:vk=3
 · subst Vq;have HV:Zs (M.hasType p k hs ⟨3,vn⟩ ⟨tk,tn⟩=true):=Z3 (by unfold M.hasType;rw[if_neg ht,if_pos rfl]);go_enter Tryz.func91,Tryz.ntmps91;go_wp2_with fail;go_ret;exact⟨af HV.o.symm,by rw[←dO.o];exact bM.o⟩
 have aho:(vk==3)=false:=beq_eq_false_iff_ne.2 Vq;by_cases hv2:vk=2
 · subst hv2;have HV:Zs (M.hasType p k hs ⟨2,vn⟩ ⟨tk,tn⟩=(decide ((M.find p k tn).2=1)&&M.under p (M.oD hs vn) (M.find p k tn).1)):=Z3 (by unfold M.hasType;rw[if_neg ht,if_neg Vq];rfl);obtain⟨IV,mR⟩:=hv rfl;simp only at IV mR;obtain⟨n,rfl⟩:∃n:Nat,vn=n:=⟨vn.toNat,by omega⟩;obtain⟨o,ho⟩:∃o,hs[n]?=some o:=⟨hs[n]'Wg,List.getElem?_eq_getElem _⟩;obtain⟨a',cap',ea,hcells⟩:=HH.o;cases ea;obtain⟨b,off,fv,rfl,jy⟩:=hcells n o ho;replace HV:Zs (M.hasType p k hs ⟨2,n⟩ ⟨tk,tn⟩=(decide ((M.find p k tn).2=1)&&M.under p o.of (M.find p k tn).1)):=Z3 (by rw[HV.o,AY ho]);obtain⟨qz, -,q1, -⟩:=zR.o.ca;have HC:=Z3 jy;clear hcells ho jy;go_enter Tryz.func91,Tryz.ntmps91;go_wp2_with fail;rw[←dO.o];refine(jR _ _ _ HL.o k tn).mono ?_;rintro e w1 ⟨rfl,bH⟩;generalize M.find p k tn=F1 at*;obtain⟨⟨xk,xn⟩,c1⟩:=F1;simp only at*;obtain⟨w2,ny,bZ,b11⟩:=nu w1 #[.int .i64 xk,.string xn] 70;have⟨Bi,gL⟩:=aJ ny (bH.trans bZ);obtain⟨T,f,dA,HT⟩:=iN.ex (fun W'=>Ext w2 W') _ Kp.rr;have r81:=fun z=>((yt.o.ext gL.o).ext (HT.aW z)).c 1 (.int .i64 n) rfl;obtain⟨-,aiM,aiN, -⟩:=ay.kY fun z=>(b11.ext (HT.aW z));have rh0:=fun z=>(HC.o.ext (gL.o.trans (HT.aW z))).three.1;have rh1:=fun z=>(HC.o.ext (gL.o.trans (HT.aW z))).three.2.1;have aj:=Z3 HT;clear ny bZ b11 HT bH q1 qz;by_cases mE:c1=1
   · subst mE;replace HV:Zs (M.hasType p k hs ⟨2,n⟩ ⟨tk,tn⟩=M.under p o.of ⟨xk,xn⟩):=Z3 (by rw[HV.o];rfl);go_wp2_with fail;rw[←Bi.o];(refine eO aj 13 [([0,1,2,3,4,5,6,7,8,9,10],11)] [12] ?_ ?_)
     · exact Kp.rr.drew
     refine iX ?_;intro K2 ag;go_wp2_with fail;refine(rC _ _ _ (HL.o.ext (gL.o.trans Kp.rr.drew)) o.of ⟨xk,xn⟩).mono ?_;rintro e w4 ⟨rfl,dI⟩;have iG:Zs (Ext w2 w4):=Z3 (((Kp.refl _ w2).drew:Ext w2 _).trans dI);clear dI;go_wp2_with fail;(refine kk aj ag iG.o ?_);clear ag K2;(refine vI [_] rfl fun K hK=>?_);(repeat (go_big_quiet_step (fail)));(refine qn hK ?_);clear hK K;go_wp2_with fail;go_ret;exact⟨af HV.o.symm,bM.o.trans (gL.o.trans iG.o)⟩
   · have ad1:(c1==1)=false:=beq_eq_false_iff_ne.2 mE;replace HV:Zs (M.hasType p k hs ⟨2,n⟩ ⟨tk,tn⟩=false):=Z3 (by rw[HV.o];simp[mE]);clear mE;go_wp2_with fail;rw[←Bi.o];(refine eO aj 13 [([0,1,2,3,4,5,6,7,8,9,10],11)] [12] ?_ ?_)
     · exact Kp.rr.drew
     refine iX ?_;intro K2 ag;go_wp2_with fail;(refine kk aj ag ((Kp.refl _ w2).drew:Ext w2 _) ?_);clear ag K2;(refine vI [_] rfl fun K hK=>?_);(repeat (go_big_quiet_step (fail)));(refine qn hK ?_);clear hK K;go_wp2_with fail;go_ret;exact⟨af HV.o.symm,bM.o.trans (gL.o.drew)⟩
 · have ahn:(vk !=2)=true:=bne_iff_ne.2 hv2;have HV:Zs (M.hasType p k hs ⟨vk,vn⟩ ⟨tk,tn⟩=false):=Z3 (by unfold M.hasType;rw[if_neg ht,if_neg Vq,if_pos hv2]);go_enter Tryz.func91,Tryz.ntmps91;go_wp2_with fail;go_ret;exact⟨af HV.o.symm,by rw[←dO.o];exact bM.o⟩
theorem xx(w:World)(l:aH)(p:M.ax)(own:Own)(B mb:Nat)(lk:Bool)(g:Gh)(h:aI w l p own B mb lk g)(v:M.Val)(hv:M.bD v g.os.length=true)(t:M.Ref):
    Calls Tryz.prog 101 #[.pointer (some ⟨mb,0,none⟩),.agg #[.int .i64 v.kind,.int .i64 v.n],.agg #[.int .i64 t.keeper,.string t.name]] w fun e w'=>e=.returned (.int .i64 (M.object p v t g.st))∧Ext w w':=by
 obtain⟨vk,vn⟩:=v;obtain⟨w0,bI⟩:∃w0,w0=(w.alloc (.cells #[.int .i64 vk,.int .i64 vn] 38)).alloc (.cells #[.int .i64 t.keeper,.string t.name] 70):=⟨_,rfl⟩;have aU:Ext w w0:=by rw[bI];exact kx
 have b4:ay w0 w.heap.size 38 #[.int .i64 vk,.int .i64 vn]:=by rw[bI];exact(ay.new _ _ _).ext kx
 have b5:ay w0 (w.heap.size+1) 70 #[.int .i64 t.keeper,.string t.name]:=by rw[bI];exact ay.newAt _ _ Wf
 have⟨HA,bM,kP,lC,dO⟩:=kL (h.ext aU) aU b4 b5 bI;clear h aU b4 b5 bI;by_cases Vq:vk=3
 · subst Vq;have HV:Zs (M.object p ⟨3,vn⟩ t g.st=3):=Z3 (by unfold M.object;rw[if_pos rfl]);go_enter Tryz.func101,Tryz.ntmps101;go_wp2_with fail;go_ret;exact⟨by rw[HV.o];rfl,by rw[←dO.o];exact bM.o⟩
 have aho:(vk==3)=false:=beq_eq_false_iff_ne.2 Vq;obtain⟨T,f,dA,HT⟩:=iN.ex (fun W'=>Ext w0 W') _ Kp.rr;have yX:=fun z=>(HA.o.ext (HT.aW z)).blk.c 0 (.pointer (some ⟨l.L,0,none⟩)) rfl;obtain⟨ha,dm,qV⟩:=HA.o.heap.form;have Y3:=fun z=>(HA.o.ext (HT.aW z)).blk.c 4 (.slice ha g.os.length dm) (by rw[←qV];rfl);obtain⟨-,Tv,V9, -⟩:=ay.kY fun z=>(kP.o.ext (HT.aW z));obtain⟨-,r50,r51, -⟩:=ay.kY fun z=>(lC.o.ext (HT.aW z));by_cases hv2:vk=2
 · subst hv2;obtain⟨IV,mR⟩:=M.lv hv rfl;simp only at IV mR;obtain⟨n,rfl⟩:∃n:Nat,vn=n:=⟨vn.toNat,by omega⟩;obtain⟨o,ho⟩:∃o,g.os[n]?=some o:=⟨g.os[n]'Wg,List.getElem?_eq_getElem _⟩;have HV:Zs (M.object p ⟨2,n⟩ t g.st=if M.under p o.o.of t then 1 else 10):=Z3 (by
    have:M.oD g.st.heap n=o.o.of:=AY (by simp[Gh.st,ho]);unfold M.object;rw[if_neg Vq,this];rfl)
   have bN:=HA.o.heap.row;rw[qV]at bN;obtain⟨b,agq,eb, -⟩:=cB bN Wg;cases eb;have jy:=fC (enc:=kV) (k:=3) (fun _=>rfl) bN ho;have rh0:=fun z=>(ae.ext jy (HT.aW z)).three.1;have rh1:=fun z=>(ae.ext jy (HT.aW z)).three.2.1;have⟨aj,TP⟩:=aJ HT qV;clear HT qV bN jy ho hv Vq;go_enter Tryz.func101,Tryz.ntmps101;go_wp2_with fail;rw[←dO.o];(refine eO aj 21 [([0,1,2,3,4,5,6,7,8,9,10,11,12,13,14,15,16,17],18)] [19,20] ?_ ?_)
   · exact Kp.rr.drew
   refine iX ?_;intro K2 ag;go_wp2_with fail;refine(rC _ _ _ (HA.o.dN.ext Kp.rr.drew) o.o.of t).mono ?_;rintro e w4 ⟨rfl,dI⟩;have iG:Zs (Ext w0 w4):=Z3 (((Kp.refl _ w0).drew:Ext w0 _).trans dI);clear dI;cases hu:M.under p o.o.of t
   · replace HV:Zs (M.object p ⟨2,n⟩ t g.st=10):=Z3 (by rw[HV.o,hu];rfl);clear hu;go_wp2_with fail;(refine kk aj ag iG.o ?_);clear ag K2;refine qa ?_;go_wp2_with fail;go_ret;exact⟨by rw[HV.o];rfl,bM.o.trans iG.o⟩
   · replace HV:Zs (M.object p ⟨2,n⟩ t g.st=1):=Z3 (by rw[HV.o,hu];rfl);clear hu;go_wp2_with fail;(refine kk aj ag iG.o ?_);clear ag K2;refine qa ?_;go_wp2_with fail;go_ret;exact⟨by rw[HV.o];rfl,bM.o.trans iG.o⟩
 · have ahn:(vk !=2)=true:=bne_iff_ne.2 hv2;have HV:Zs (M.object p ⟨vk,vn⟩ t g.st=10):=Z3 (by unfold M.object;rw[if_neg Vq,if_pos hv2]);have⟨aj,TP⟩:=aJ HT qV;clear HT qV hv Vq hv2;go_enter Tryz.func101,Tryz.ntmps101;go_wp2_with fail;rw[←dO.o];(refine eO aj 21 [([0,1,2,3,4,5,6,7,8,9,10,11,12,13,14,15,16,17],18)] [19,20] ?_ ?_)
   · exact Kp.rr.drew
   refine iX ?_;intro K2 ag;go_wp2_with fail;(refine kk aj ag ((Kp.refl _ w0).drew:Ext w0 _) ?_);clear ag K2;refine qa ?_;go_wp2_with fail;go_ret;exact⟨by rw[HV.o];rfl,bM.o.drew⟩
theorem Mt(w:World)(l:aH)(p:M.ax)(own:Own)(B mb:Nat)(lk:Bool)(g:Gh)(h:aI w l p own B mb lk g)(c:Int):
    Calls Tryz.prog 45 #[.pointer (some ⟨mb,0,none⟩),.int .i64 c] w (cu w l p own B mb lk (.tuple #[]) (M.end_ c g.st)):=by
 have c2:=h.blk.c 2 (.int .i64 g.status) rfl;obtain⟨ca,cc,JQ⟩:=h.calls.form;have c3:=h.blk.c 3 (.slice ca g.cs.length cc) (by rw[←JQ];rfl);have f2:=h.blk.frozen 2;have f3:=h.blk.frozen 3;have hz:=h.blk.lt;have⟨H,NW⟩:=aJ h JQ;clear h JQ;by_cases hc:c=1
 · subst hc;have HV:Zs (M.end_ 1 g.st=g.st):=Z3 (by unfold M.end_;rw[if_pos rfl]);go_enter Tryz.func45,Tryz.ntmps45;go_wp2_with fail;((try simp only[Exit.inBlock,Exit.then]);(first|refine bodyPost_ret (results_none rfl _ _ _) rfl ?_|refine bodyPost_end (results_none rfl _ _ _) rfl ?_));rw[HV.o];exact H.o.stop Kp.rr
 · have Bl:(c !=1)=true:=bne_iff_ne.2 hc;have HV:Zs (M.end_ c g.st={g.st with status:=c,frames:=[]}):=Z3 (by unfold M.end_;rw[if_neg hc]);clear hc;go_enter Tryz.func45,Tryz.ntmps45;go_wp2_with fail;((try simp only[Exit.inBlock,Exit.then]);(first|refine bodyPost_ret (results_none rfl _ _ _) rfl ?_|refine bodyPost_end (results_none rfl _ _ _) rfl ?_));rw[HV.o];have hK:Kp (·=mb) w ((w.setCell ⟨mb,2,none⟩ (.int .i64 c)).setCell ⟨mb,3,none⟩ (.slice none 0 0)):=
    ((Kp.refl (·=mb) w).setCell (p:=⟨mb,2,none⟩) (fun _=>rfl) _).setCell (p:=⟨mb,3,none⟩) (fun _=>rfl) _
   have hK':Kp (PO own (·=(0,0))) w ((w.setCell ⟨mb,2,none⟩ (.int .i64 c)).setCell ⟨mb,3,none⟩ (.slice none 0 0)):=hK.weak fun b _ e=>⟨_,by rw[e];exact H.o.role,rfl⟩;refine cu.mk' (hK'.weak fun b _ e=>e.mo) (iw.refl _ _) (H.o.Kr {g with status:=c,cs:=[],vc:=.slice none 0 0} hK' ((H.o.blk.bE 2 _).bE 3 _) (.inr ⟨hZ.nil _ _ _ _ _ _,g.cs,rfl⟩) ⟨rfl,rfl,rfl,rfl⟩ ?_) (by simp[Gh.st]);exact⟨H.o.good.heap,by simp[Gh.st],by simp[Gh.st],H.o.good.outs,H.o.good.l9,H.o.good.back⟩
theorem LC.set2{l:aH}{p:M.ax}{w W:World}{b:Nat}(h:LC l p w W)(hb:w.heap.size≤b)(v0 v1:Value)(hL:l.L<w.heap.size):LC l p w ((W.setCell ⟨b,0,none⟩ v0).setCell ⟨b,1,none⟩ v1):=by
 have hk:Kp (·=b) W ((W.setCell ⟨b,0,none⟩ v0).setCell ⟨b,1,none⟩ v1):=((Kp.refl (·=b) W).setCell (p:=⟨b,0,none⟩) (fun _=>rfl) v0).setCell (p:=⟨b,1,none⟩) (fun _=>rfl) v1;exact⟨h.kp.own hk (fun k e=>by omega),h.at_.kp hk (fun k hk e=>by omega)⟩
theorem FY(w:World)(l:aH)(p:M.ax)(own:Own)(B mb:Nat)(lk:Bool)(g:Gh)(h:aI w l p own B mb lk g)(r:List GC)(c:GC)(cK:g.cs=r++[c])(n:ByteArray):
    Calls Tryz.prog 98 #[.pointer (some ⟨mb,0,none⟩),.string n] w fun e w'=>
     e=.returned (.tuple #[.agg #[.int .i64 (M.fT p n g.st).1.keeper,.string (M.fT p n g.st).1.name],.bool (M.fT p n g.st).2])∧LC l p w w':=by
 obtain⟨w0,bI,aU,b4⟩:=nu w #[.int .i64 0,.string ⟨#[]⟩] 70;have CV:l.L<w0.heap.size:=(h.ext aU).dN.lt;have agw:=h.dN.lt;have KM:=h.dN.Hl;have HM:=Z3 h.blk.lt;obtain⟨⟨⟨xk,xn⟩,c1⟩,hF⟩:∃F,M.find p c.f.of.of.keeper n=F:=⟨_,rfl⟩;have HV:Zs (M.fT p n g.st=(⟨xk,xn⟩,decide (c1=1)&&M.bu p ⟨xk,xn⟩)):=Z3 (by unfold M.fT;rw[Gh.top cK,hF]);have IQ:∀W,LC l p w0 W→Calls Tryz.prog 38 #[.pointer (some ⟨l.L,0,none⟩),.int .i64 c.f.of.of.keeper,.string n] W fun e w'=>e=.returned (.tuple #[.agg #[.int .i64 xk,.string xn],.int .i64 c1])∧Ext W w':=fun W hW=>by
  have:=jR W l p hW.at_ c.f.of.of.keeper n;rw[hF]at this;exact this
 have KY:=Z3 IQ;have HC:Zs (LC l p w0 w0.drew):=Z3 (LC.refl (h.ext aU).dN).drew;obtain⟨T,f,dA,HT⟩:=iN.ex (fun W'=>LC l p w0 W') w0 (LC.refl (h.ext aU).dN);have HA:=Z3 (h.ext aU);have r0:=fun z=>(HA.o.kM (HT.aW z).kp (HT.aW z).at_).blk.c 0 (.pointer (some ⟨l.L,0,none⟩)) rfl;have⟨aj,bM,kP,dO,fE⟩:=kL HT aU b4 bI cK;have Xi:=b4.lt;clear h HT aU b4 bI hF IQ cK;rw[HV.o];go_enter Tryz.func98,Tryz.ntmps98;go_wp2_with fail;rw[←dO.o];rename_i K hK
 have tail : ∀ (b6 : Nat) (w7 : World), LC l p w0 w7 → ay w7 b6 70 #[.int .i64 xk, .string xn] → w0.heap.size ≤ b6 → K { tmps := #[.pointer (some ⟨mb, 0, none⟩), .string n, undef, undef, .pointer (some ⟨w.heap.size, 0, none⟩), .bool false, .pointer (some ⟨b6, 0, none⟩), .int .i64 c1, .tuple #[.agg #[.int .i64 xk, .string xn], .int .i64 c1], .pointer (some ⟨mb, 0, none⟩), .pointer (some ⟨mb, 0, none⟩), .pointer (some ⟨mb, 0, none⟩), .pointer (some ⟨l.L, 0, none⟩), .pointer (some ⟨mb, 0, none⟩), .pointer (some ⟨c.cb, 0, none⟩), .int .i64 c.f.of.of.keeper, .string n, .tuple #[.agg #[.int .i64 xk, .string xn], .int .i64 c1], .agg #[.int .i64 xk, .string xn], .int .i64 c1, undef, undef, undef, undef, undef, undef, undef, undef, undef, undef, undef], defers := [] } w7 := by
  intro b6 w7 hC hB pQ;refine hK _ _ ?_;clear hK aj r0 HC KY;have U9:¬(w.heap.size=l.D):=by omega
  have ah2:w.heap.size<w0.heap.size:=Xi;have Bj:=kP.o.kp hC.kp U9;have ain:¬b6=w.heap.size:=by omega
  have aio:¬w.heap.size=b6:=by omega
  have hDL:l.D<l.L:=HA.o.dN.ord.2.2;have x0:=Bj.c 0 (.int .i64 0) rfl;obtain⟨T,f,dA,HT⟩:=iN.ex (fun W'=>Kp (fun b=>b=l.D∨b=w.heap.size) w7 W'∧aC W' l p) w7 ⟨Kp.rr,hC.at_⟩;have agA:¬(b6=l.D∨b6=w.heap.size):=by omega
  have hmD:¬(mb=l.D∨mb=w.heap.size):=by
   have:=HA.o.hB;have:=HA.o.low;have:=HM.o;omega
  obtain⟨-,q0,q1, -⟩:=ay.kY fun z=>(hB.kp (HT.aW z).1 agA);have qm:=fun z=>((HA.o.kM hC.kp hC.at_).blk.kp (HT.aW z).1 hmD).c 0 (.pointer (some ⟨l.L,0,none⟩)) rfl;have⟨aj,wD,za⟩:=bg HT hC Bj;clear hC hB HT Bj x0;have fin:∀W b,Kp (·=l.D) w7 W→aC W l p→W.heap[w.heap.size]?=w7.heap[w.heap.size]?→b=(decide (c1=1)&&M.bu p ⟨xk,xn⟩)→
      Kp (fun b=>b=l.D∨b=w.heap.size) w7 ((W.setCell ⟨w.heap.size,0,none⟩ (.int .i64 xk)).setCell ⟨w.heap.size,1,none⟩ (.string xn))∧aC ((W.setCell ⟨w.heap.size,0,none⟩ (.int .i64 xk)).setCell ⟨w.heap.size,1,none⟩ (.string xn)) l p∧
      LC l p w ((W.setCell ⟨w.heap.size,0,none⟩ (.int .i64 xk)).setCell ⟨w.heap.size,1,none⟩ (.string xn))∧ay ((W.setCell ⟨w.heap.size,0,none⟩ (.int .i64 xk)).setCell ⟨w.heap.size,1,none⟩ (.string xn)) w.heap.size 70 #[.int .i64 xk,.string xn]:=fun W b hk hL hb _=>by
   have h4:ay W w.heap.size 70 #[.int .i64 0,.string ⟨#[]⟩]:=za.o.keep hb;have h5:LC l p w W:=(⟨bM.o.any,HA.o.dN⟩:LC l p w w0).trans (wD.o.trans ⟨hk,hL⟩);have h6:=LC.set2 h5 (Nat.le_refl _) (.int .i64 xk) (.string xn) agw;exact⟨(hk.weak fun b _ e=>.inl e).trans (((Kp.refl _ W).setCell (p:=⟨w.heap.size,0,none⟩) (fun _=>.inr rfl) _).setCell (p:=⟨w.heap.size,1,none⟩) (fun _=>.inr rfl) _),h6.at_,h6,h4.set2 _ _⟩
  have jL:=Z3 fin;clear fin;by_cases mE:c1=1
  · subst mE;go_wp2_with fail;(refine eO aj 12 [([0,1,2,3,4,5,6,7,8],9),([10],11)] [] ?_ ?_)
    · exact⟨Kp.rr.drew,wD.o.at_.ext Kp.rr.drew⟩
    refine iX ?_;intro K2 ag;go_wp2_with fail;refine(ik _ _ _ (wD.o.at_.ext Kp.rr.drew) ⟨xk,xn⟩).mono ?_;rintro e w9 ⟨rfl,hL9,fM⟩;have hk9:Kp (·=l.D) w7 w9:=((Kp.refl _ w7).drew).trans fM;obtain⟨f1,f2,f3,f4⟩:=jL.o w9 _ hk9 hL9 (hk9.block _ (by have:=za.o.lt;exact this) U9) rfl;have vQ:=za.o.kp hk9 U9;obtain⟨gz,x0,x1, -⟩:=vQ.ca;obtain⟨g0,g1, -⟩:=vQ.fz;have⟨F1,F2,F3,F4,vM⟩:=kL f1 f2 f3 f4 (And.intro (hk9.weak (D':=fun b=>b=l.D∨b=w.heap.size) fun b _ e=>.inl e) hL9);clear fM hL9 hk9 f1 f2 f3 f4 vQ;go_wp2_with fail;(refine kk aj ag vM.o ?_);clear ag K2;refine iX ?_;intro K2 ag;go_wp2_with fail;(refine kk aj ag ⟨F1.o,F2.o⟩ ?_);clear ag K2;(refine dW ?_);go_wp2_with fail;refine bodyPost_ret (au PY rfl _ _ w.heap.size rfl [.int .i64 xk,.string xn] (ae.gM F4.o) rfl) rfl ?_;exact⟨by simp,F3.o⟩
  · have ad1:(c1==1)=false:=beq_eq_false_iff_ne.2 mE;have hd:(decide (c1=1)&&M.bu p ⟨xk,xn⟩)=false:=by rw[decide_eq_false mE];rfl
    have HD:=Z3 hd;obtain⟨f1,f2,f3,f4⟩:=jL.o w7.drew _ Kp.rr.drew (wD.o.at_.ext Kp.rr.drew) rfl rfl;obtain⟨gz,x0,x1, -⟩:=za.o.ca;obtain⟨g0,g1, -⟩:=za.o.fz;have⟨F1,F2,F3,F4⟩:=gD f1 f2 f3 f4;clear f1 f2 f3 f4 mE hd;go_wp2_with fail;(refine eO aj 12 [([0,1,2,3,4,5,6,7,8],9),([10],11)] [] ?_ ?_)
    · exact⟨Kp.rr.drew,wD.o.at_.ext Kp.rr.drew⟩
    refine iX ?_;intro K2 ag;go_wp2_with fail;(refine kk aj ag ⟨Kp.rr.drew,wD.o.at_.ext Kp.rr.drew⟩ ?_);clear ag K2;refine iX ?_;intro K2 ag;go_wp2_with fail;(refine kk aj ag ⟨F1.o,F2.o⟩ ?_);clear ag K2;(refine dW ?_);go_wp2_with fail;refine bodyPost_ret (au PY rfl _ _ w.heap.size rfl [.int .i64 xk,.string xn] (ae.gM F4.o) rfl) rfl ?_;exact⟨by rw[HD.o];rfl,F3.o⟩
 have TAIL:=Z3 tail;clear tail;clear hK;(refine lN aj 14 (.two [0,1,2,3,4,7] 5 12 (.two [] 6 12 (.two [] 8 12 (.one [9,10,11] 12 (.one [] 13 (.fin []))) (.one [] 8 (.one [9,10,11] 13 (.fin [])))) (.one [] 6 (.one [] 8 (.one [9,10,11] 13 (.fin []))))) (.one [] 5 (.one [] 6 (.one [] 8 (.one [9,10,11] 13 (.fin [])))))) ?_ ?_)
 · exact HC.o
 (refine two [_,_,_,_,_,_] rfl rfl rfl fun K hK=>?_);(repeat (go_big_quiet_step (fail)));((refine Gj hK (fun K2 ag=>?_) fun K2 ag=>?_)<;>clear hK K)
 · go_wp2_with fail;refine(eD _ _ _ _ _ _ _ _ (HA.o.kM HC.o.kp HC.o.at_) r c fE.o).mono ?_;rintro e wc ⟨rfl,Hs⟩;replace HC:=Z3 (HC.o.ext Hs);clear Hs;go_wp2_with fail;(refine kk aj ag HC.o ?_);clear ag K2;(refine vW rfl rfl (fun K2 ag=>?_) fun K2 ag=>?_)
   · go_wp2_with fail;refine(iR _ _ c.f.of.of.keeper (((HA.o.kM HC.o.kp HC.o.at_).at_ fE.o).blk.c 0 _ rfl)).mono ?_;rintro e we ⟨rfl,rfl⟩;go_wp2_with fail;(refine kk aj ag HC.o ?_);clear ag K2;(refine vW rfl rfl (fun K2 ag=>?_) fun K2 ag=>?_)
     · go_wp2_with fail;refine(KY.o _ HC.o).mono ?_;rintro e wc ⟨rfl,Hs⟩;replace HC:=Z3 (HC.o.ext Hs);clear Hs;go_wp2_with fail;(refine kk aj ag HC.o ?_);clear ag K2;refine Ey ?_;intro K2 ag;go_wp2_with fail;(refine kk aj ag (HC.o.ext (Kp.rr.alloc _)) ?_);clear ag K2;(refine aX rfl fun K2 ag=>?_);go_wp2_with fail;(refine kk aj ag (HC.o.ext (Kp.rr.alloc _)) ?_);clear ag K2;have pQ:=HC.o.kp.size;have dL:=Z3 (ay.new (wc) 70 #[.int .i64 xk,.string xn]);replace HC:=Z3 (HC.o.ext (Kp.rr.alloc (.cells #[.int .i64 xk,.string xn] 70)));clear aj r0;(refine bU ?_);go_wp2_with fail;exact TAIL.o _ _ HC.o dL.o pQ
     · go_wp2_with fail;(refine kk aj ag (HC.o.ext (Kp.rr.alloc _)) ?_);clear ag K2;have pQ:w0.heap.size≤wc.heap.size:=HC.o.kp.size;have dL:Zs (ay (wc.alloc (.cells #[.int .i64 0,.string ⟨#[]⟩] 70)) wc.heap.size 70 #[.int .i64 0,.string ⟨#[]⟩]):=Z3 (ay.new _ _ _);replace HC:=Z3 (HC.o.ext (Kp.rr.alloc (.cells #[.int .i64 0,.string ⟨#[]⟩] 70)));(refine aX rfl fun K2 ag=>?_);go_wp2_with fail;refine(KY.o _ HC.o).mono ?_;rintro e wc ⟨rfl,Hs⟩;replace dL:=Z3 (dL.o.ext Hs);replace HC:=Z3 (HC.o.ext Hs);clear Hs;go_wp2_with fail;(refine kk aj ag HC.o ?_);clear ag K2;refine Ey ?_;intro K2 ag;obtain⟨z6,y0,y1, -⟩:=dL.o.ca;obtain⟨g0,g1, -⟩:=dL.o.fz;go_wp2_with fail;replace HC:=Z3 (LC.set2 HC.o pQ (.int .i64 xk) (.string xn) CV);replace dL:=Z3 (dL.o.set2 (.int .i64 xk) (.string xn));(refine kk aj ag HC.o ?_);clear ag K2;clear y0 y1 g0 g1 z6;clear aj r0;(refine bU ?_);go_wp2_with fail;exact TAIL.o _ _ HC.o dL.o pQ
   · go_wp2_with fail;(refine kk aj ag (HC.o.ext (Kp.rr.alloc _)) ?_);clear ag K2;have pQ:w0.heap.size≤wc.heap.size:=HC.o.kp.size;have dL:Zs (ay (wc.alloc (.cells #[.int .i64 0,.string ⟨#[]⟩] 70)) wc.heap.size 70 #[.int .i64 0,.string ⟨#[]⟩]):=Z3 (ay.new _ _ _);replace HC:=Z3 (HC.o.ext (Kp.rr.alloc (.cells #[.int .i64 0,.string ⟨#[]⟩] 70)));(refine aX rfl fun K2 ag=>?_);go_wp2_with fail;refine(iR _ _ c.f.of.of.keeper (((HA.o.kM HC.o.kp HC.o.at_).at_ fE.o).blk.c 0 _ rfl)).mono ?_;rintro e we ⟨rfl,rfl⟩;go_wp2_with fail;(refine kk aj ag HC.o ?_);clear ag K2;(refine aX rfl fun K2 ag=>?_);go_wp2_with fail;refine(KY.o _ HC.o).mono ?_;rintro e wc ⟨rfl,Hs⟩;replace dL:=Z3 (dL.o.ext Hs);replace HC:=Z3 (HC.o.ext Hs);clear Hs;go_wp2_with fail;(refine kk aj ag HC.o ?_);clear ag K2;refine Ey ?_;intro K2 ag;obtain⟨z6,y0,y1, -⟩:=dL.o.ca;obtain⟨g0,g1, -⟩:=dL.o.fz;go_wp2_with fail;replace HC:=Z3 (LC.set2 HC.o pQ (.int .i64 xk) (.string xn) CV);replace dL:=Z3 (dL.o.set2 (.int .i64 xk) (.string xn));(refine kk aj ag HC.o ?_);clear ag K2;clear y0 y1 g0 g1 z6;clear aj r0;(refine bU ?_);go_wp2_with fail;exact TAIL.o _ _ HC.o dL.o pQ
 · go_wp2_with fail;(refine kk aj ag (HC.o.ext (Kp.rr.alloc _)) ?_);clear ag K2;have pQ:w0.heap.size≤w0.heap.size:=HC.o.kp.size;have dL:Zs (ay (w0.drew.alloc (.cells #[.int .i64 0,.string ⟨#[]⟩] 70)) w0.heap.size 70 #[.int .i64 0,.string ⟨#[]⟩]):=Z3 (ay.new _ _ _);replace HC:=Z3 (HC.o.ext (Kp.rr.alloc (.cells #[.int .i64 0,.string ⟨#[]⟩] 70)));(refine aX rfl fun K2 ag=>?_);go_wp2_with fail;refine(eD _ _ _ _ _ _ _ _ (HA.o.kM HC.o.kp HC.o.at_) r c fE.o).mono ?_;rintro e wc ⟨rfl,Hs⟩;replace dL:=Z3 (dL.o.ext Hs);replace HC:=Z3 (HC.o.ext Hs);clear Hs;go_wp2_with fail;(refine kk aj ag HC.o ?_);clear ag K2;(refine aX rfl fun K2 ag=>?_);go_wp2_with fail;refine(iR _ _ c.f.of.of.keeper (((HA.o.kM HC.o.kp HC.o.at_).at_ fE.o).blk.c 0 _ rfl)).mono ?_;rintro e we ⟨rfl,rfl⟩;go_wp2_with fail;(refine kk aj ag HC.o ?_);clear ag K2;(refine aX rfl fun K2 ag=>?_);go_wp2_with fail;refine(KY.o _ HC.o).mono ?_;rintro e wc ⟨rfl,Hs⟩;replace dL:=Z3 (dL.o.ext Hs);replace HC:=Z3 (HC.o.ext Hs);clear Hs;go_wp2_with fail;(refine kk aj ag HC.o ?_);clear ag K2;refine Ey ?_;intro K2 ag;obtain⟨z6,y0,y1, -⟩:=dL.o.ca;obtain⟨g0,g1, -⟩:=dL.o.fz;go_wp2_with fail;replace HC:=Z3 (LC.set2 HC.o pQ (.int .i64 xk) (.string xn) CV);replace dL:=Z3 (dL.o.set2 (.int .i64 xk) (.string xn));(refine kk aj ag HC.o ?_);clear ag K2;clear y0 y1 g0 g1 z6;clear aj r0;(refine bU ?_);go_wp2_with fail;exact TAIL.o _ _ HC.o dL.o pQ
theorem Lv:Elem 36 160 3:=iP (z:=.agg #[.int .i64 0,.string ⟨#[]⟩,.slice none 0 0]) (bytes:=48) Tryz.underlying36 Wr rfl Wk Wk
theorem hZ.relabel{w:World}{own gq:Own}{B:Nat}{r:Nat×Nat}{e k:Nat}{v:Value}{n:Nat}{xs:List Value}(h:hZ w own B r e k v n xs)(hs:∀b r,own b=some r→gq b=some r):hZ w gq B r e k v n xs:=
 ⟨h.row,fun q hq=>hs q r (h.role q hq)⟩
theorem lF.relabel{w:World}{l:aH}{p:M.ax}{own gq:Own}{B i:Nat}{c:GC}(h:lF w l p own B i c)(hs:∀b r,own b=some r→gq b=some r):lF w l p gq B i c:=
 ⟨h.blk,hs _ _ h.role,h.low,h.ml,h.loc.relabel hs,h.dD.relabel hs⟩
theorem aI.relabel{w:World}{l:aH}{p:M.ax}{own gq:Own}{B mb:Nat}{lk:Bool}{g:Gh}(h:aI w l p own B mb lk g)(hs:∀b r,own b=some r→gq b=some r)(hd:∀b,gq b≠none→B≤b∧b<w.heap.size):aI w l p gq B mb lk g:=
 ⟨h.dN,h.hB,h.blk,hs _ _ h.role,h.low,h.calls.relabel hs,fun i c hc=>(h.call i c hc).relabel hs,h.heap.relabel hs,fun j o ho=>(h.obj j o ho).relabel hs,h.outs.relabel hs,hd,h.good⟩
theorem aI.abd{w w':World}{l:aH}{p:M.ax}{own:Own}{B mb:Nat}{lk:Bool}{g:Gh}(h:aI w l p own B mb lk g)(o:M.nP)(fv:Value)(bN:hZ w own B (7,g.os.length) 38 2 fv o.fields.length (o.fields.flatMap bV))
    (g' c':Nat) (ho:w'.ownsRow B 160 3 (.slice (some ⟨g',0,none⟩) (g.os.length+1) c') (g.os.length+1) (g.os.flatMap kV++[.int .i64 o.of.keeper,.string o.of.name,fv])) (hk:Kp (fun b=>g.vh.ownBlock=some b) w w') (hg:g.vh.ownBlock=some g'∨w.heap.size≤g')
    (hG:M.Good p ({g with os:=g.os++[⟨o,fv⟩],vh:=.slice (some ⟨g',0,none⟩) (g.os.length+1) c'}:Gh).st):
    Kp (MO l own) w (w'.setCell ⟨mb,4,none⟩ (.slice (some ⟨g',0,none⟩) (g.os.length+1) c'))∧∃own',iw w.heap.size own own'∧aI (w'.setCell ⟨mb,4,none⟩ (.slice (some ⟨g',0,none⟩) (g.os.length+1) c')) l p own' B mb lk {g with os:=g.os++[⟨o,fv⟩],vh:=.slice (some ⟨g',0,none⟩) (g.os.length+1) c'}:=by
 have qy:Kp (·=mb) w' (w'.setCell ⟨mb,4,none⟩ (.slice (some ⟨g',0,none⟩) (g.os.length+1) c')):=(Kp.refl (·=mb) w').setCell (p:=⟨mb,4,none⟩) (fun _=>rfl) _;obtain⟨W,hW⟩:∃W,W=w'.setCell ⟨mb,4,none⟩ (.slice (some ⟨g',0,none⟩) (g.os.length+1) c'):=⟨_,rfl⟩;have Hx:g.vh.ownBlock≠some mb:=fun e=>by have:=h.heap.role _ e;rw[h.role]at this;cases this
 have hbW:ay W mb 65 (zF l lk {g with os:=g.os++[⟨o,fv⟩],vh:=.slice (some ⟨g',0,none⟩) (g.os.length+1) c'}):=by rw[hW];exact(h.blk.kp hk Hx).bE 4 _
 have hgm:g'≠mb:=fun e=>by
  subst e;rcases hg with x|x
  · exact Hx x
  · have:=h.blk.lt;omega
 have hoW:W.ownsRow B 160 3 (.slice (some ⟨g',0,none⟩) (g.os.length+1) c') (g.os.length+1) (g.os.flatMap kV++[.int .i64 o.of.keeper,.string o.of.name,fv]):=by
  rw[hW];exact aA ho qy (fun q hq _ e=>hgm (by cases hq;exact e))
 rw[←hW]at qy ⊢;clear hW;have jr:Kp (PO own fun q=>q=(0,0)∨q=(2,0)) w W:=(hk.weak fun b _ e=>⟨_,h.heap.role b e,.inr rfl⟩).trans (qy.weak fun b _ e=>⟨_,by rw[e];exact h.role,.inl rfl⟩);have ha:iw w.heap.size own (own.add g' (2,0)):=Own.xL (by
  rcases hg with x|x
  · exact .inl (h.heap.role _ x)
  · exact .inr Wg)
 have hd:∀b,own.add g' (2,0) b≠none→B≤b∧b<W.heap.size:=fun b hb=>by
  by_cases e:b=g'
  · subst e;exact hoW.lt b rfl
  · rw[Own.gQ _ e]at hb;exact h.Ah jr.size b hb
 refine⟨jr.weak fun b _ e=>e.mo,_,ha,h.IZ jr,h.hB,hbW,(ha _ h.blk.lt).trans h.role,h.low,h.calls.wm jr ha Wf,fun i c hc=>(h.call i c hc).wm jr ha Wf h.xw,⟨?_,fun q hq=>?_⟩,?_,h.outs.wm jr ha Wf,hd,hG⟩
 · simpa [kV]using hoW
 · cases hq;exact Own.add_eq _ _ _
 · intro j q hq;simp only at hq;rcases Nat.lt_trichotomy j g.os.length with hj|hj|hj
   · rw[List.getElem?_append_left hj]at hq;exact(h.obj j q hq).wm jr ha Wf
   · subst hj;simp at hq;subst hq;exact bN.wm jr ha Wf
   · rw[List.getElem?_eq_none X2]at hq;cases hq
theorem Dg (w : World) (l : aH) (p : M.ax) (own : Own) (B mb : Nat) (lk : Bool) (g : Gh) (h : aI w l p own B mb lk g) (r : M.Ref) (hr : M.bu p r = true) (hlen : g.os.length < 12) :
    Calls Tryz.prog 43 #[.pointer (some ⟨mb,0,none⟩),.agg #[.int .i64 r.keeper,.string r.name]] w (cu w l p own B mb lk (.agg #[.int .i64 2,.int .i64 g.os.length]) (M.create p r g.st).2):=by
 obtain⟨rk,rn⟩:=r;obtain⟨w0,bI⟩:∃w0,w0=((w.alloc (.cells #[.int .i64 rk,.string rn] 70)).alloc (.cells #[.int .i64 0,.int .i64 0] 38)).alloc (.cells #[.int .i64 rk,.string rn,.slice none 0 0] 160):=⟨_,rfl⟩;have aU:Ext w w0:=by rw[bI];exact kx
 have b3:ay w0 w.heap.size 70 #[.int .i64 rk,.string rn]:=by rw[bI];exact(ay.new _ _ _).ext kx
 have b4:ay w0 (w.heap.size+1) 38 #[.int .i64 0,.int .i64 0]:=by rw[bI];exact(ay.newAt (W:=w.alloc (.cells #[.int .i64 rk,.string rn] 70)) (g:=w.heap.size+1) _ _ Wf).ext kx
 have b5:ay w0 (w.heap.size+2) 160 #[.int .i64 rk,.string rn,.slice none 0 0]:=by rw[bI];exact ay.newAt _ _ Wf
 have CV:=h.dN.lt;have KM:=h.dN.Hl;have⟨HA,bM,gN,kP,lC,dO,H⟩:=pX (h.ext aU) aU b3 b4 b5 bI h;clear h aU b3 b4 b5 bI;go_enter Tryz.func43,Tryz.ntmps43;go_wp2_with fail;rw[←dO.o];obtain⟨T,f,dA,HT⟩:=iN.ex (fun W'=>LC l p w0 W') _ (LC.refl HA.o.dN);have hDD:¬w.heap.size=l.D:=by omega
 have rm:=fun z=>(HA.o.kM (HT.aW z).kp (HT.aW z).at_).blk.c 0 (.pointer (some ⟨l.L,0,none⟩)) rfl;obtain⟨-,r30,r31, -⟩:=ay.kY fun z=>(gN.o.kp (HT.aW z).kp hDD);have aj:=Z3 HT;clear HT;(refine eO aj 8 [([0,1,2,3,4,7],5)] [6] ?_ ?_)
 · exact(LC.refl HA.o.dN).drew
 refine iX ?_;intro K2 ag;go_wp2_with fail;refine(uJ _ _ _ (HA.o.dN.ext Kp.rr.drew) ⟨rk,rn⟩).mono ?_;rintro e w3 ⟨⟨v,rfl,hs⟩,Fu,nL⟩;obtain⟨fa,ahU,rfl,hn,dm⟩:=hs.form;have zY:Zs (LC l p w0 w3):=Z3 ((LC.refl HA.o.dN).drew.step Fu nL);have HS:=Z3 hs;clear hs Fu nL;go_wp2_with fail;(refine kk aj ag zY.o ?_);clear ag K2;clear aj rm r30 r31;refine qa ?_;have KQ:=zY.o.kp.size;have Md:w.heap.size+3≤w0.heap.size:=by have:=lC.o.lt;omega
 have Xr:Zs (ay w3 (w.heap.size+2) 160 #[.int .i64 rk,.string rn,.slice none 0 0]):=Z3 (lC.o.kp zY.o.kp Wg);have HFR:Zs (M.fresh p ⟨rk,rn⟩=⟨⟨rk,rn⟩,(M.layout p ⟨rk,rn⟩).map fun f=>if f.kind.kind=1 then M.gF 0 else M.lY⟩):=Z3 rfl;have abV:(M.layout p ⟨rk,rn⟩).length≤1000:=by
  have h1:=nC H.o.dN.ok (M.chain p ⟨rk,rn⟩).reverse;have h2:=M.sF p ⟨rk,rn⟩;unfold M.layout;rw[if_pos hr];rw[List.length_reverse]at h1;omega
 obtain⟨fs,Yu⟩:∃fs,M.layout p ⟨rk,rn⟩=fs:=⟨_,rfl⟩;rw[Yu]at HS HFR abV;simp only[Yu];clear Yu;go_wp2_with fail;go_loopw [17] (fun i wr=>∃(q:Nat) (fv:Value),q≤fs.length∧i=.int .i64 q∧Kp (·=w.heap.size+2) w3 wr∧ay wr (w.heap.size+2) 160 #[.int .i64 rk,.string rn,fv]∧
     wr.ownsRow w3.heap.size 38 2 fv q (((fs.take q).map fun f=>if f.kind.kind=1 then M.gF 0 else M.lY).flatMap bV)) (fun i _=>fs.length - (intOf i).toNat)
 case atStart=>exact⟨0,.slice none 0 0,Nat.zero_le _,rfl,Kp.rr,Xr.o,World.ownsRow_nil _ _ _ _⟩
 case round =>
  obtain⟨q,fv,hq,rfl,hK,Hq,bN⟩:=hrel;obtain⟨va,vc,rfl⟩:=bO bN;by_cases bY:q<fs.length
  · obtain⟨⟨⟨xk,xn⟩,xa,kq,kn⟩,hx⟩:=iT fs q bY;obtain⟨b,off,cs,rfl,KN,rfl, -,jy⟩:=HS.o.get hx;have ahW:w0.heap.size≤b:=KN;have BS:ae wr b (off+q*5) _:=fun j v hj=>hK.jg (jy j v hj) Wg;have g0:=BS 0 (.int .i64 xk) rfl;have g1:=BS 1 (.string xn) rfl;have g2:=BS 2 (.int .i64 xa) rfl;have g3:=BS 3 (.int .i64 kq) rfl;have g4:=BS 4 (.string kn) rfl;rw[Nat.add_zero]at g0;have gz:=aF g0;have pY:(q:Int)<fs.length:=by omega
    have YH:IntKind.i64.wrap ((q:Int)+1)=q+1:=IntWalk.i64_in _ Wg;obtain⟨w4,vT⟩:∃w4,w4=wr.alloc (.cells #[.int .i64 xk,.string xn,.int .i64 xa,.int .i64 kq,.string kn] 164):=⟨_,rfl⟩;have dI:Ext wr w4:=by rw[vT];exact kx
    have Tn:¬(Value.slice va q vc).ownBlock=some (w.heap.size+2):=fun e=>by have:=(bN.lt _ e).1;omega
    obtain⟨T,f,dA,HT⟩:=iN.ex (fun W'=>Kp (fun b=>(Value.slice va q vc).ownBlock=some b) w4 W') _ Kp.rr;have r2:=fun z=>((Hq.ext dI).kp (HT.aW z) Tn).c 2 (.slice va q vc) rfl;have⟨aj,EN,qD,HV5,zk⟩:=kL HT vT (Hq.ext dI) Tn (aA (D:=fun _=>False) bN dI fun _ _ _ x=>x);have zS:Zs (Kp (·=w.heap.size+2) w3 w4):=Z3 (hK.trans dI.any);have HX:=Z3 hx;have aiI:w3.heap.size≤w4.heap.size:=zS.o.size;clear HT vT dI Hq Tn bN hK hx jy BS KN;by_cases sM:kq=1
    · subst sM;go_wp2_with fail;rw[←EN.o];(refine eO aj 5 [([0,1],2),([],3),([],4)] [] ?_ ?_)
      · exact Kp.rr.drew
      refine iX ?_;intro K2 ag;go_wp2_with fail;refine(Eu 0 _).mono ?_;rintro e w5 ⟨rfl,cZ⟩;have gy:Zs (Ext w4 w5):=Z3 (((Kp.refl _ w4).drew:Ext w4 _).trans cZ);clear cZ;go_wp2_with fail;(refine kk aj ag gy.o.any ?_);clear ag K2;(refine gZ rfl fun K2 ag=>?_);go_wp2_with fail;(refine kk aj ag (gy.o.alloc _).any ?_);clear ag K2;(refine gZ rfl fun K2 ag=>?_);refine az qG rfl (.tmp 26) (.tmp 28) rfl w3.heap.size (.slice va q vc) q _ rfl (aA (D:=fun _=>False) zk.o (gy.o.alloc _) fun _ _ _ x=>x) w5.heap.size 1 (bV (M.gF 0)) rfl rfl (ae.fB _ _ rfl) (uN _) Wg (by have:=gy.o.size;simp;omega) ?_;intro g9 c9 w9 pO qK wW;change K2 _ _;have nV:Kp (fun b=>(Value.slice va q vc).ownBlock=some b) w4 w9:=(gy.o.alloc _).any.trans qK;(refine kk aj ag nV ?_);clear ag K2;have wh:=qD.o.kp nV HV5.o;obtain⟨hz, -, -,x2, -⟩:=wh.ca;have f2:=wh.frozen 2;have Jo:Zs ((w9.ownsRow w3.heap.size 38 2 (.slice (some ⟨g9,0,none⟩) (q+1) c9) (q+1) (((fs.take (q+1)).map fun f=>if f.kind.kind=1 then M.gF 0 else M.lY).flatMap bV))∧Kp (·=w.heap.size+2) w3 w9∧ay w9 (w.heap.size+2) 160 #[.int .i64 rk,.string rn,.slice va q vc]∧g9≠w.heap.size+2):=Z3 (by
       refine⟨?_,?_,wh,?_⟩
       · rw[List.take_add_one,HX.o];simpa [M.gF,bV]using pO
       · exact(zS.o.own nV (fun b e=>zk.o.lt b e |>.1))
       · rcases wW with e|e
         · have:=(zk.o.lt g9 e).1;omega
         · have:=gy.o.size;simp at e;omega)
      clear aj r2 wh pO qK wW nV;(refine dW ?_);go_wp2_with fail;have dw:Kp (·=w.heap.size+2) w9 (w9.setCell ⟨w.heap.size+2,2,none⟩ (.slice (some ⟨g9,0,none⟩) (q+1) c9)):=(Kp.refl (·=w.heap.size+2) w9).setCell (p:=⟨w.heap.size+2,2,none⟩) (fun _=>rfl) _;obtain⟨q1,q2,q3,q4⟩:=Jo.o;exact⟨⟨q+1,.slice (some ⟨g9,0,none⟩) (q+1) c9,by omega,by go_num,q2.trans dw,q3.bE 2 _,aA q1 dw (fun b hb _ e=>q4 (by cases hb;exact e))⟩,by simp[intOf];omega⟩
    · have aed:(kq==1)=false:=beq_eq_false_iff_ne.2 sM;have HKK:=Z3 sM;clear sM;go_wp2_with fail;rw[←EN.o];(refine eO aj 5 [([0,1],2),([],3),([],4)] [] ?_ ?_)
      · exact Kp.rr.drew
      refine iX ?_;intro K2 ag;go_wp2_with fail;refine(MI _).mono ?_;rintro e w5 ⟨rfl,cZ⟩;have gy:Zs (Ext w4 w5):=Z3 (((Kp.refl _ w4).drew:Ext w4 _).trans cZ);clear cZ;go_wp2_with fail;(refine kk aj ag gy.o.any ?_);clear ag K2;(refine gZ rfl fun K2 ag=>?_);go_wp2_with fail;(refine kk aj ag (gy.o.alloc _).any ?_);clear ag K2;(refine gZ rfl fun K2 ag=>?_);refine az qG rfl (.tmp 32) (.tmp 34) rfl w3.heap.size (.slice va q vc) q _ rfl (aA (D:=fun _=>False) zk.o (gy.o.alloc _) fun _ _ _ x=>x) w5.heap.size 1 (bV M.lY) rfl rfl (ae.fB _ _ rfl) (uN _) Wg (by have:=gy.o.size;simp;omega) ?_;intro g9 c9 w9 pO qK wW;change K2 _ _;have nV:Kp (fun b=>(Value.slice va q vc).ownBlock=some b) w4 w9:=(gy.o.alloc _).any.trans qK;(refine kk aj ag nV ?_);clear ag K2;have wh:=qD.o.kp nV HV5.o;obtain⟨hz, -, -,x2, -⟩:=wh.ca;have f2:=wh.frozen 2;have Jo:Zs ((w9.ownsRow w3.heap.size 38 2 (.slice (some ⟨g9,0,none⟩) (q+1) c9) (q+1) (((fs.take (q+1)).map fun f=>if f.kind.kind=1 then M.gF 0 else M.lY).flatMap bV))∧Kp (·=w.heap.size+2) w3 w9∧ay w9 (w.heap.size+2) 160 #[.int .i64 rk,.string rn,.slice va q vc]∧g9≠w.heap.size+2):=Z3 (by
       refine⟨?_,?_,wh,?_⟩
       · rw[List.take_add_one,HX.o];simpa [M.lY,bV,HKK.o]using pO
       · exact(zS.o.own nV (fun b e=>zk.o.lt b e |>.1))
       · rcases wW with e|e
         · have:=(zk.o.lt g9 e).1;omega
         · have:=gy.o.size;simp at e;omega)
      clear aj r2 wh pO qK wW nV;(refine dW ?_);go_wp2_with fail;have dw:Kp (·=w.heap.size+2) w9 (w9.setCell ⟨w.heap.size+2,2,none⟩ (.slice (some ⟨g9,0,none⟩) (q+1) c9)):=(Kp.refl (·=w.heap.size+2) w9).setCell (p:=⟨w.heap.size+2,2,none⟩) (fun _=>rfl) _;obtain⟨q1,q2,q3,q4⟩:=Jo.o;exact⟨⟨q+1,.slice (some ⟨g9,0,none⟩) (q+1) c9,by omega,by go_num,q2.trans dw,q3.bE 2 _,aA q1 dw (fun b hb _ e=>q4 (by cases hb;exact e))⟩,by simp[intOf];omega⟩
  · have G7:q=fs.length:=by omega
    subst G7;rw[List.take_length]at bN;have hFF:(M.fresh p ⟨rk,rn⟩).fields.length=fs.length∧(M.fresh p ⟨rk,rn⟩).of=⟨rk,rn⟩:=by rw[HFR.o];simp
    have Ap:Kp (·=l.D) w wr:=(bM.o.any.trans zY.o.kp).own hK (fun b e=>by omega);have hLr:aC wr l p:=zY.o.at_.kp hK (fun b hb e=>by omega);have hMr:=H.o.kM Ap hLr;obtain⟨gq,Ep,Ql,Vi,mR⟩:∃gq:Own,(∀b r,own b=some r→gq b=some r)∧(∀b,gq b≠none→B≤b∧b<wr.heap.size)∧(∀b,(Value.slice va fs.length vc).ownBlock=some b→gq b=some (7,g.os.length))∧(∀b,b<w3.heap.size→gq b=own b):=by
     have hB0:B≤w.heap.size:=by have:=(H.o.dom mb (by rw[H.o.role];simp)).2;have:=H.o.low;omega
     cases e:(Value.slice va fs.length vc).ownBlock with
     |none=>exact⟨own,fun _ _ h=>h,hMr.dom,(fun b hb=>by cases hb),fun _ _=>rfl⟩
     | some qb =>
      have hqb:=bN.lt qb e;have hqn:own qb=none:=by
       cases e2:own qb with
       |none=>rfl
       |some r=>have:=(H.o.dom qb (by rw[e2];simp)).2;omega
      refine⟨own.add qb (7,g.os.length),fun b r hb=>?_,fun b hb=>?_,(fun b hb=>by cases hb;exact Own.add_eq _ _ _),fun b hb=>Own.gQ _ Wg⟩
      · rw[Own.gQ _ (fun e3=>by subst e3;rw[hqn]at hb;cases hb)];exact hb
      · by_cases e3:b=qb
        · subst e3;exact⟨by omega,hqb.2⟩
        · rw[Own.gQ _ e3]at hb;exact hMr.dom b hb
    have JG:=hMr.relabel Ep Ql;have hB0:B≤w3.heap.size:=by have:=(H.o.dom mb (by rw[H.o.role];simp)).2;have:=H.o.low;omega
    have aaf:hZ wr gq B (7,g.os.length) 38 2 (.slice va fs.length vc) (M.fresh p ⟨rk,rn⟩).fields.length ((M.fresh p ⟨rk,rn⟩).fields.flatMap bV):=by
     rw[hFF.1,HFR.o];exact⟨fI bN hB0,Vi⟩
    obtain⟨ha,LQ,qV⟩:=JG.heap.form;have G9:¬g.vh.ownBlock=some mb:=fun e=>by have:=JG.heap.role _ e;rw[JG.role]at this;cases this
    have Tn:¬g.vh.ownBlock=some (w.heap.size+2):=fun e=>by have:=(H.o.heap.blk e).2;omega
    obtain⟨T,f,dA,HT⟩:=iN.ex (fun W'=>Kp (fun b=>g.vh.ownBlock=some b) wr W') _ Kp.rr;have rm:=fun z=>(JG.blk.kp (HT.aW z) G9).c 4 (.slice ha g.os.length LQ) (by rw[←qV];rfl);obtain⟨-,r50,r51,r52, -⟩:=ay.kY fun z=>(Hq.kp (HT.aW z) Tn);have⟨aj,KH,HR1,KI,TP,Zr⟩:=qU HT JG aaf mR qV Ap;have KU:Zs (ay wr (w.heap.size+1) 38 #[.int .i64 0,.int .i64 0]):=Z3 ((kP.o.kp zY.o.kp Wg).kp hK Wg);have⟨XJ,WJ⟩:=aJ G9 hFF;have Tp:=hK.size;clear HT JG aaf mR qV Ap hLr hMr Ep Ql Vi hK Hq bN G9 Tn hFF;go_wp2_with fail;(refine eO aj 8 [([0,1,2,3,4,5],6),([],7)] [] ?_ ?_)
    · exact Kp.rr.drew
    refine iX ?_;intro K2 ag;go_wp2_with fail;(refine kk aj ag kx ?_);clear ag K2;(refine gZ rfl fun K2 ag=>?_);refine az Lv rfl (.tmp 42) (.tmp 44) rfl B (.slice ha g.os.length LQ) g.os.length (g.os.flatMap kV) rfl (by rw[←TP.o];exact aA (D:=fun _=>False) KH.o.heap.row kx fun _ _ _ x=>x) wr.heap.size 1 [.int .i64 rk,.string rn,.slice va fs.length vc] rfl rfl (ae.RZ _ _ rfl) Ys Wg X2 ?_;intro g9 c9 w9 pO qK wW;change K2 _ _;rw[←TP.o]at qK wW;have nV:Kp (fun b=>g.vh.ownBlock=some b) wr w9:=(kx:Ext wr _).any.trans qK;(refine kk aj ag nV ?_);clear ag K2;have Hx:=KH.o.blk.kp nV XJ.o;have x4:=Hx.c 4 (.slice ha g.os.length LQ) (by rw[←TP.o];rfl);have f4:=Hx.frozen 4;have hz:=Hx.lt;have hs:({g with os:=g.os++[⟨M.fresh p ⟨rk,rn⟩,.slice va fs.length vc⟩],vh:=.slice (some ⟨g9,0,none⟩) (g.os.length+1) c9}:Gh).st=(M.create p ⟨rk,rn⟩ g.st).2:=by simp[Gh.st,M.create]
    obtain⟨Ox,own',Fw,Ri⟩:=KH.o.abd (M.fresh p ⟨rk,rn⟩) (.slice va fs.length vc) HR1.o g9 c9 (by rw[WJ.o.2];exact pO) nV (by
     rcases wW with e|e
     · exact .inl e
     · right;simp at e;omega) (by rw[hs];exact H.o.good.grow hr (by simpa [Gh.st]using hlen))
    have U9:own' (w.heap.size+1)=none:=by
     rw[Fw _ Wg,KI.o _ Wg];cases e:own (w.heap.size+1)with
     |none=>rfl
     |some r=>have:=(H.o.dom _ (by rw[e];simp)).2;omega
    obtain⟨W,hW⟩:∃W,W=w9.setCell ⟨mb,4,none⟩ (.slice (some ⟨g9,0,none⟩) (g.os.length+1) c9):=⟨_,rfl⟩;rw[←hW]at Ox Ri;have y4:=Ri.blk.c 4 (.slice (some ⟨g9,0,none⟩) (g.os.length+1) c9) rfl;have⟨HW,HKM,Bh,HAG,HN4⟩:=kL hW Ox Ri Fw U9;have YB:gq (w.heap.size+1)=none:=by
     rw[KI.o _ Wg];cases e:own (w.heap.size+1)with
     |none=>rfl
     |some r=>have:=(H.o.dom _ (by rw[e];simp)).2;omega
    have adD:=KU.o.kp Ox (fun e=>by
     rcases e with e|e
     · omega
     · exact e YB)
    have abA:=KU.o.kp nV (fun e=>by have:=(H.o.heap.blk e).2;omega);obtain⟨zz,z0,z1, -⟩:=abA.ca;obtain⟨QH,QI, -⟩:=abA.fz;have hmw:=H.o.blk.lt;have ag7:¬mb=w.heap.size+1:=by omega
    have ag8:¬w.heap.size+1=mb:=by omega
    have⟨afr,HS⟩:=aJ adD hs;have sQ:IntKind.i64.wrap ((g.os.length:Int)+1 - 1)=g.os.length:=by rw[IntWalk.i64_in _ Wg];omega
    clear Ox Ri Fw U9 YB adD abA y4 pO qK wW nV Hx aj rm r50 r51 r52 hs hW;(refine dW ?_);go_wp2_with fail;rw[←HW.o];have dw:Kp (·=w.heap.size+1) W ((W.setCell ⟨w.heap.size+1,0,none⟩ (.int .i64 2)).setCell ⟨w.heap.size+1,1,none⟩ (.int .i64 g.os.length)):=((Kp.refl (·=w.heap.size+1) W).setCell (p:=⟨w.heap.size+1,0,none⟩) (fun _=>rfl) _).setCell (p:=⟨w.heap.size+1,1,none⟩) (fun _=>rfl) _;refine bodyPost_ret (aY Af rfl _ _ (w.heap.size+1) rfl [.int .i64 2,.int .i64 g.os.length] (ae.gM (afr.o.set2 _ _)) rfl) rfl ?_;have WW:=Bh.o.dN.kp dw (fun b hb e=>by omega);have Ar:=Bh.o.keep dw (iw.refl _ _) (Bh.o.Ah dw.size) WW (fun b hb e=>by subst e;exact hb HN4.o) (fun b hb e=>by have:=Bh.o.dN.ord;omega);refine cu.mk' ?_ (fun b hb=>?_) Ar HS.o
    · refine Kp.own (D':=(·=w.heap.size+1)) ?_ dw (fun b e=>by omega);exact(Zr.o.weak fun b _ e=>.inl e).mo (HKM.o) (fun b hb=>KI.o b Wg)
    · rw[HAG.o b Wg,KI.o b Wg]
end Go.Proofs.YtkmclfpjpajjeaaGreat
