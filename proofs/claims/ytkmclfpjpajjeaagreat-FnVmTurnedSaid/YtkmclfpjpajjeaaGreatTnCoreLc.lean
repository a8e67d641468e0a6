/- Walks. -/
import Derived.Test.YtkmclfpjpajjeaaGreatTnCoreLb
set_option maxRecDepth 100000
set_option maxHeartbeats 4000000
set_option linter.unusedSimpArgs false
set_option linter.unusedVariables false
namespace Go.Proofs.YtkmclfpjpajjeaaGreat
open Go Go.RowKit
theorem pR:Ea 139 2:=⟨_,Tryz.underlying139,by kernel_rfl⟩
theorem Ef:Ea 55 2:=⟨_,Tryz.underlying55,by kernel_rfl⟩
theorem BF:Ea 135 3:=⟨_,Tryz.underlying135,by kernel_rfl⟩
theorem sw:Ea 75 4:=⟨_,Tryz.underlying75,by kernel_rfl⟩
theorem xG(s:ByteArray)(w:World):Calls Tryz.prog 170 #[.string s] w fun e w'=>ac7 s.size e∧Ext w w':=by
 cases h1:(s.toList==[63])
 · cases h2:(s.toList==[35])
   · cases h3:(s.toList==[33])
     · go_enter Tryz.func170,Tryz.ntmps170;go_wp2_with fail;refine(di s _).mono ?_;rintro e w1 ⟨rfl,rfl⟩;go_wp2_with fail;refine bodyPost_ret (au pR rfl _ _ w.heap.size rfl [.int .i64 2,.string s] (ae.fB _ _ rfl) rfl) rfl ?_;exact⟨⟨_,_,_,rfl,Nat.le_refl _⟩,kx⟩
     · go_enter Tryz.func170,Tryz.ntmps170;go_wp2_with fail;refine bodyPost_ret (au pR rfl _ _ w.heap.size rfl [.int .i64 3,.string ⟨#[]⟩] (ae.fB _ _ rfl) rfl) rfl ?_;exact⟨⟨_,_,_,rfl,Nat.zero_le _⟩,kx⟩
   · go_enter Tryz.func170,Tryz.ntmps170;go_wp2_with fail;refine bodyPost_ret (au pR rfl _ _ w.heap.size rfl [.int .i64 1,.string ⟨#[]⟩] (ae.fB _ _ rfl) rfl) rfl ?_;exact⟨⟨_,_,_,rfl,Nat.zero_le _⟩,kx⟩
 · go_enter Tryz.func170,Tryz.ntmps170;go_wp2_with fail;refine bodyPost_ret (au pR rfl _ _ w.heap.size rfl [.int .i64 0,.string ⟨#[]⟩] (ae.fB _ _ rfl) rfl) rfl ?_;exact⟨⟨_,_,_,rfl,Nat.zero_le _⟩,kx⟩
theorem Kp.Cr{D:Nat→Prop}{w:World}{b:Nat}(hD:D b)(v0 v1 v2:Value):Kp D w (((w.setCell ⟨b,0,none⟩ v0).setCell ⟨b,1,none⟩ v1).setCell ⟨b,2,none⟩ v2):=
 ((((Kp.refl D w).setCell (p:=⟨b,0,none⟩) (fun _=>hD) v0).setCell (p:=⟨b,1,none⟩) (fun _=>hD) v1).setCell (p:=⟨b,2,none⟩) (fun _=>hD) v2)
theorem ay.Cr{w:World}{b:Nat}{t:TypeId}{u0 u1 u2:Value}(h:ay w b t #[u0,u1,u2])(v0 v1 v2:Value):ay (((w.setCell ⟨b,0,none⟩ v0).setCell ⟨b,1,none⟩ v1).setCell ⟨b,2,none⟩ v2) b t #[v0,v1,v2]:=by
 have h0:ay (w.setCell ⟨b,0,none⟩ v0) b t #[v0,u1,u2]:=h.bE 0 v0;have h1:ay ((w.setCell ⟨b,0,none⟩ v0).setCell ⟨b,1,none⟩ v1) b t #[v0,v1,u2]:=h0.bE 1 v1;exact h1.bE 2 v2
def aaF(m:Nat)(e:Ending):Prop:=∃n k s b,e=.returned (.tuple #[.agg #[.string n,.int .i64 k,.string s],.bool b])∧n.size≤m∧s.size≤m
theorem Ga{n:Nat}(h:n≠3):((n:Int)==3)=false∧((n:Int) !=3)=true:=by
 have:(n:Int)≠3:=by omega
 exact⟨beq_eq_false_iff_ne.2 this,by simp[this]⟩
theorem Ij(xs:List ByteArray)(v:Value)(m:Nat)(I:Nat→Prop)(w:World)(hv:SliceOf 1 dP w I v xs)(kv:∀x∈xs,x.size≤m):
    Calls Tryz.prog 136 #[v] w fun e w'=>aaF m e∧Ext w w':=by
 obtain⟨a,cap,rfl,dm, -⟩:=hv.form;by_cases h3:xs.length=3
 · match xs,h3,hv,kv,dm with
   | [x0, x1, x2], _, hv, kv, dm =>
    obtain⟨b,off,rfl,g1⟩:=dP.at_ (i:=1) hv rfl;obtain⟨_,_,e1,g2⟩:=dP.at_ (i:=2) hv rfl;cases e1;have hz:=aF g1;have Er:=kv x1 Wf;have Me:=kv x2 Wf;have HN:=fun W=>Z3 (di x1 W);clear hv kv;simp only[List.length_cons,List.length_nil]at dm ⊢;cases h2:M.aT x1
    · simp only[h2]at HN;go_enter Tryz.func136,Tryz.ntmps136;go_wp2_with fail;refine(HN _).o.mono ?_;rintro e w1 ⟨rfl,rfl⟩;go_wp2_with fail;refine bodyPost_ret (au BF rfl _ _ w.heap.size rfl [.string ⟨#[]⟩,.int .i64 0,.string ⟨#[]⟩] (ae.fB _ _ rfl) rfl) rfl ?_;exact⟨⟨_,_,_,_,rfl,Nat.zero_le _,Nat.zero_le _⟩,kx⟩
    · simp only[h2]at HN;go_enter Tryz.func136,Tryz.ntmps136;go_wp2_with fail;refine(HN _).o.mono ?_;rintro e w1 ⟨rfl,rfl⟩;go_wp2_with fail;refine(xE x2 _).mono ?_;rintro e w2 ⟨⟨k,s,b2,rfl,hs⟩,hE⟩;obtain⟨w3,jD,dK,DT⟩:=nu w2 #[.int .i64 k,.string s] 102;have IM:=(ay.new w 135 #[.string ⟨#[]⟩,.int .i64 0,.string ⟨#[]⟩]).ext (hE.trans dK);have g13:=((((Kp.refl _ w).alloc _).trans hE).trans dK).aD g1;have OI:b≠w.heap.size:=by omega
      have hnc:w2.heap.size≠w.heap.size:=by have:=hE.size;simp at this;omega
      obtain⟨-,z0,z1,z2, -⟩:=IM.ca;obtain⟨f0,f1,f2, -⟩:=IM.fz;have gN:=Z3 IM;have jc:Zs (Ext w w3):=Z3 ((((Kp.refl _ w).alloc _).trans hE).trans dK);have mV:=Z3 jD;obtain⟨T,f,dA,HT⟩:=iN.ex (fun W'=>Kp (·=w.heap.size) w3 W') w3 Kp.rr;have r1:=fun z=>(HT.aW z).jg g13 OI;have r2:=fun z=>(HT.aW z).jg (DT.c 0 (.int .i64 k) rfl) hnc;have r3:=fun z=>(HT.aW z).jg (DT.c 1 (.string s) rfl) hnc;have aj:=Z3 HT;clear HT hE dK jD IM DT HN;go_wp2_with fail;rw[←mV.o];(refine eO aj 7 [([0,1,2,3,4,5],6)] [] ?_ ?_)
      · exact Kp.rr.drew
      refine iX ?_;intro K2 ag;go_wp2_with fail;have hk:=(Kp.Cr (D:=(·=w.heap.size)) (w:=w3) (b:=w.heap.size) rfl (.string x1) (.int .i64 k) (.string s)).drew;(refine kk aj ag hk ?_);clear ag K2;(refine dW ?_);go_wp2_with fail;refine bodyPost_ret (au BF rfl _ _ w.heap.size rfl [.string x1,.int .i64 k,.string s] (ae.gM ((ay.Cr gN.o _ _ _).ext (Kp.rr.drew))) rfl) rfl ?_;exact⟨⟨_,_,_,_,rfl,Er,Nat.le_trans hs Me⟩,jc.o.own hk (fun _ e=>by omega)⟩
 · obtain⟨n,hn⟩:∃n,xs.length=n:=⟨_,rfl⟩;rw[hn]at h3 dm ⊢;obtain⟨n1,n2⟩:=Ga h3;clear hn hv;go_enter Tryz.func136,Tryz.ntmps136;go_wp2_with fail
   all_goals
    refine bodyPost_ret (au BF rfl _ _ w.heap.size rfl [.string ⟨#[]⟩,.int .i64 0,.string ⟨#[]⟩] (ae.fB _ _ rfl) rfl) rfl ?_;exact⟨⟨_,_,_,_,rfl,Nat.zero_le _,Nat.zero_le _⟩,kx⟩
theorem Kp.Gi{D:Nat→Prop}{w:World}{b:Nat}(hD:D b)(v0 v1:Value):Kp D w ((w.setCell ⟨b,0,none⟩ v0).setCell ⟨b,1,none⟩ v1):=
 (((Kp.refl D w).setCell (p:=⟨b,0,none⟩) (fun _=>hD) v0).setCell (p:=⟨b,1,none⟩) (fun _=>hD) v1)
theorem ay.Gi{w:World}{b:Nat}{t:TypeId}{u0 u1:Value}(h:ay w b t #[u0,u1])(v0 v1:Value):ay ((w.setCell ⟨b,0,none⟩ v0).setCell ⟨b,1,none⟩ v1) b t #[v0,v1]:=by
 have h0:ay (w.setCell ⟨b,0,none⟩ v0) b t #[v0,u1]:=h.bE 0 v0;exact h0.bE 1 v1
def afj(m:Nat)(e:Ending):Prop:=∃n k b,e=.returned (.tuple #[.agg #[.string n,.int .i64 k],.bool b])∧n.size≤m
theorem Ku (xs : List ByteArray) (v : Value) (m : Nat) (hm : m ≤ 4000000000) (I : Nat → Prop) (w : World) (hv : SliceOf 1 dP w I v xs) (kv : ∀ x ∈ xs, x.size ≤ m) :
    Calls Tryz.prog 111 #[v] w fun e w'=>afj m e∧Ext w w':=by
 obtain⟨a,cap,rfl,dm, -⟩:=hv.form;by_cases h3:xs.length=3
 · match xs,h3,hv,kv,dm with
   | [x0, x1, x2], _, hv, kv, dm =>
    obtain⟨b,off,rfl,g1⟩:=dP.at_ (i:=1) hv rfl;obtain⟨_,_,e1,g2⟩:=dP.at_ (i:=2) hv rfl;cases e1;have hz:=aF g1;have Er:=kv x1 Wf;have Me:=kv x2 Wf;clear hv kv;simp only[List.length_cons,List.length_nil]at dm ⊢;go_enter Tryz.func111,Tryz.ntmps111;go_wp2_with fail;refine(mP x2 _ Wg).mono ?_;rintro e w2 ⟨⟨n,ok,rfl, -, -, -⟩,hE⟩;have IM:=(ay.new w 55 #[.string ⟨#[]⟩,.int .i64 0]).ext hE;have jc:Zs (Ext w w2):=Z3 (((Kp.refl _ w).alloc _).trans hE);have g13:=jc.o.aD g1;have OI:b≠w.heap.size:=by omega
    obtain⟨-,z0,z1, -⟩:=IM.ca;obtain⟨f0,f1, -⟩:=IM.fz;have gN:=Z3 IM;obtain⟨T,f,dA,HT⟩:=iN.ex (fun W'=>Kp (·=w.heap.size) w2 W') w2 Kp.rr;have r1:=fun z=>(HT.aW z).jg g13 OI;have aj:=Z3 HT;clear HT hE IM g1 g2;cases ok
    · go_wp2_with fail;(refine eO aj 17 [([0,1,2,3,4,5,6,7,8,9,10,11,12,13],14),([15],16)] [] ?_ ?_)
      · exact Kp.rr.drew
      refine iX ?_;intro K2 ag;go_wp2_with (go_at_call 75;refine(di x1 _).mono ?_;rintro e w5 ⟨rfl,rfl⟩);(refine kk aj ag Kp.rr.drew ?_);clear ag K2;refine iX ?_;intro K2 ag;go_wp2_with fail;have hk:=(Kp.Gi (D:=(·=w.heap.size)) (w:=w2) (b:=w.heap.size) rfl (.string x1) (.int .i64 n)).drew;(refine kk aj ag hk ?_);clear ag K2;(refine dW ?_);go_wp2_with fail;refine bodyPost_ret (au Ef rfl _ _ w.heap.size rfl [.string x1,.int .i64 n] (ae.gM ((ay.Gi gN.o _ _).ext (Kp.rr.drew))) rfl) rfl ?_;exact⟨⟨_,_,_,rfl,Er⟩,jc.o.own hk (fun _ e=>by omega)⟩
    · by_cases hn:0≤n
      · go_wp2_with fail;(refine eO aj 17 [([0,1,2,3,4,5,6,7,8,9,10,11,12,13],14),([15],16)] [] ?_ ?_)
        · exact Kp.rr.drew
        refine iX ?_;intro K2 ag;go_wp2_with (go_at_call 75;refine(di x1 _).mono ?_;rintro e w5 ⟨rfl,rfl⟩);(refine kk aj ag Kp.rr.drew ?_);clear ag K2;refine iX ?_;intro K2 ag;go_wp2_with fail;have hk:=(Kp.Gi (D:=(·=w.heap.size)) (w:=w2) (b:=w.heap.size) rfl (.string x1) (.int .i64 n)).drew;(refine kk aj ag hk ?_);clear ag K2;(refine dW ?_);go_wp2_with fail;refine bodyPost_ret (au Ef rfl _ _ w.heap.size rfl [.string x1,.int .i64 n] (ae.gM ((ay.Gi gN.o _ _).ext (Kp.rr.drew))) rfl) rfl ?_;exact⟨⟨_,_,_,rfl,Er⟩,jc.o.own hk (fun _ e=>by omega)⟩
      · have hd:decide (0≤n)=false:=decide_eq_false hn;have bY:n<0:=by omega
        go_wp2_with fail;(refine eO aj 17 [([0,1,2,3,4,5,6,7,8,9,10,11,12,13],14),([15],16)] [] ?_ ?_)
        · exact Kp.rr.drew
        refine iX ?_;intro K2 ag;go_wp2_with (go_at_call 75;refine(di x1 _).mono ?_;rintro e w5 ⟨rfl,rfl⟩);(refine kk aj ag Kp.rr.drew ?_);clear ag K2;refine iX ?_;intro K2 ag;go_wp2_with fail;have hk:=(Kp.Gi (D:=(·=w.heap.size)) (w:=w2) (b:=w.heap.size) rfl (.string x1) (.int .i64 n)).drew;(refine kk aj ag hk ?_);clear ag K2;(refine dW ?_);go_wp2_with fail;refine bodyPost_ret (au Ef rfl _ _ w.heap.size rfl [.string x1,.int .i64 n] (ae.gM ((ay.Gi gN.o _ _).ext (Kp.rr.drew))) rfl) rfl ?_;exact⟨⟨_,_,_,rfl,Er⟩,jc.o.own hk (fun _ e=>by omega)⟩
 · obtain⟨n,hn⟩:∃n,xs.length=n:=⟨_,rfl⟩;rw[hn]at h3 dm ⊢;obtain⟨n1,n2⟩:=Ga h3;clear hn hv;go_enter Tryz.func111,Tryz.ntmps111;go_wp2_with fail
   all_goals
    refine bodyPost_ret (au Ef rfl _ _ w.heap.size rfl [.string ⟨#[]⟩,.int .i64 0] (ae.fB _ _ rfl) rfl) rfl ?_;exact⟨⟨_,_,_,rfl,Nat.zero_le _⟩,kx⟩
def NL(m:Nat)(e:Ending):Prop:=∃n s b,e=.returned (.tuple #[.agg #[.string n,.string s,.slice none 0 0,.slice none 0 0],.bool b])∧n.size≤m∧s.size≤m
theorem Ii (xs : List ByteArray) (v : Value) (m : Nat) (I : Nat → Prop) (w : World) (hv : SliceOf 1 dP w I v xs) (kv : ∀ x ∈ xs, x.size ≤ m) :
    Calls Tryz.prog 112 #[v] w fun e w'=>NL m e∧Ext w w':=by
 obtain⟨a,cap,rfl,dm, -⟩:=hv.form;by_cases h3:xs.length=3
 · match xs,h3,hv,kv,dm with
   | [x0, x1, x2], _, hv, kv, dm =>
    obtain⟨b,off,rfl,g1⟩:=dP.at_ (i:=1) hv rfl;obtain⟨_,_,e1,g2⟩:=dP.at_ (i:=2) hv rfl;cases e1;have hz:=aF g1;have Er:=kv x1 Wf;have Me:=kv x2 Wf;have KI:=fun W=>Z3 (di x1 W);have QP:=fun W=>Z3 (di x2 W);clear hv kv;simp only[List.length_cons,List.length_nil]at dm ⊢;have no:∀(W:World) (b:Bool),Ext w W→NL m (.returned (.tuple #[.agg #[.string ⟨#[]⟩,.string ⟨#[]⟩,.slice none 0 0,.slice none 0 0],.bool b]))∧Ext w W:=fun W b h=>⟨⟨_,_,_,rfl,Nat.zero_le _,Nat.zero_le _⟩,h⟩;have yes:∀(W:World) (s:ByteArray),s.size≤m→Ext w W→NL m (.returned (.tuple #[.agg #[.string x1,.string s,.slice none 0 0,.slice none 0 0],.bool true]))∧Ext w W:=fun W s hs h=>⟨⟨_,_,_,rfl,Er,hs⟩,h⟩;have⟨NO,YES⟩:=aJ no yes;clear no yes;cases h1:M.aT x1<;>simp only[h1]at KI
    · go_enter Tryz.func112,Tryz.ntmps112;go_wp2_with (go_at_call 75;refine(KI _).o.mono ?_;rintro e w5 ⟨rfl,rfl⟩);refine bodyPost_ret (au sw rfl _ _ w.heap.size rfl [.string ⟨#[]⟩,.string ⟨#[]⟩,.slice none 0 0,.slice none 0 0] (ae.fB _ _ rfl) rfl) rfl ?_;exact NO.o _ _ kx
    · cases hq:(x2.toList==[45])
      · cases h2:M.aT x2<;>simp only[h2]at QP
        · go_enter Tryz.func112,Tryz.ntmps112;go_wp2_with fail;refine(KI _).o.mono ?_;rintro e w5 ⟨rfl,rfl⟩;go_wp2_with fail;refine(QP _).o.mono ?_;rintro e w6 ⟨rfl,rfl⟩;go_wp2_with fail;refine bodyPost_ret (au sw rfl _ _ w.heap.size rfl [.string ⟨#[]⟩,.string ⟨#[]⟩,.slice none 0 0,.slice none 0 0] (ae.fB _ _ rfl) rfl) rfl ?_;exact NO.o _ _ kx
        · go_enter Tryz.func112,Tryz.ntmps112;go_wp2_with fail;refine(KI _).o.mono ?_;rintro e w5 ⟨rfl,rfl⟩;go_wp2_with fail;refine(QP _).o.mono ?_;rintro e w6 ⟨rfl,rfl⟩;go_wp2_with fail;refine bodyPost_ret (au sw rfl _ _ w.heap.size rfl [.string x1,.string x2,.slice none 0 0,.slice none 0 0] (ae.gM ((ay.new w _ _).ext (Kp.rr.alloc _))) rfl) rfl ?_;exact YES.o _ _ Me kx
      · go_enter Tryz.func112,Tryz.ntmps112;go_wp2_with (go_at_call 75;refine(KI _).o.mono ?_;rintro e w5 ⟨rfl,rfl⟩);refine bodyPost_ret (au sw rfl _ _ w.heap.size rfl [.string x1,.string ⟨#[]⟩,.slice none 0 0,.slice none 0 0] (ae.gM ((ay.new w _ _).ext (Kp.rr.alloc _))) rfl) rfl ?_;exact YES.o _ _ (Nat.zero_le _) kx
 · obtain⟨n,hn⟩:∃n,xs.length=n:=⟨_,rfl⟩;rw[hn]at h3 dm ⊢;obtain⟨n1,n2⟩:=Ga h3;clear hn hv;go_enter Tryz.func112,Tryz.ntmps112;go_wp2_with fail
   all_goals
    refine bodyPost_ret (au sw rfl _ _ w.heap.size rfl [.string ⟨#[]⟩,.string ⟨#[]⟩,.slice none 0 0,.slice none 0 0] (ae.fB _ _ rfl) rfl) rfl ?_;exact⟨⟨_,_,_,rfl,Nat.zero_le _,Nat.zero_le _⟩,kx⟩
theorem qZ:Ea 138 3:=⟨_,Tryz.underlying138,by kernel_rfl⟩
def Jr(w w':World)(e:Ending):Prop:=∃x c0 c1 c2 b,e=.returned (.tuple #[.agg #[c0,c1,c2],.bool b])∧gY w' (fun b=>w.heap.size≤b∧b<w'.heap.size) x [c0,c1,c2]
theorem Jr.zero(w w':World)(b:Bool):Jr w w' (.returned (.tuple #[.agg #[.int .i64 0,.slice none 0 0,.slice none 0 0],.bool b])):=
 ⟨⟨0,[],[]⟩,_,_,_,b,rfl,_,_,rfl,SliceOf.nil _ _ _ _,SliceOf.nil _ _ _ _⟩
theorem MX (xs : List ByteArray) (v : Value) (m : Nat) (hm : m ≤ 4000000000) (I : Nat → Prop) (w : World) (hv : SliceOf 1 dP w I v xs) (kv : ∀ x ∈ xs, x.size ≤ m) :
    Calls Tryz.prog 138 #[v] w fun e w'=>Jr w w' e∧Ext w w':=by
 obtain⟨a,cap,rfl,dm, -⟩:=hv.form;obtain⟨n,hn⟩:∃n,xs.length=n:=⟨_,rfl⟩;rw[hn]at dm hv ⊢;by_cases h3:n<3
 · have d3:(n:Int)<3:=by omega
   clear hn hv;go_enter Tryz.func138,Tryz.ntmps138;go_wp2_with fail
   all_goals
    refine bodyPost_ret (au qZ rfl _ _ w.heap.size rfl [.int .i64 0,.slice none 0 0,.slice none 0 0] (ae.fB _ _ rfl) rfl) rfl ?_;exact⟨Jr.zero _ _ _,kx⟩
 by_cases h15:15<n
 · have d3:¬(n:Int)<3:=by omega
   have d15:(15:Int)<n:=by omega
   clear hn hv;go_enter Tryz.func138,Tryz.ntmps138;go_wp2_with fail
   all_goals
    refine bodyPost_ret (au qZ rfl _ _ w.heap.size rfl [.int .i64 0,.slice none 0 0,.slice none 0 0] (ae.fB _ _ rfl) rfl) rfl ?_;exact⟨Jr.zero _ _ _,kx⟩
 have d3:¬(n:Int)<3:=by omega
 have d15:¬(15:Int)<n:=by omega
 obtain⟨x1,Er⟩:∃x,xs[1]?=some x:=⟨xs[1]'Wg,List.getElem?_eq_getElem Wg⟩;obtain⟨b,off,rfl,g1⟩:=dP.at_ hv Er;have gz:=aF g1;have Db:=kv x1 (List.mem_of_getElem? Er);have⟨HV,HN,HX⟩:=bg hv hn Er;clear hv hn Er;obtain⟨w0,bI⟩:∃w0,w0=w.alloc (.cells #[.int .i64 0,.slice none 0 0,.slice none 0 0] 138):=⟨_,rfl⟩;have aU:Ext w w0:=by rw[bI];exact kx
 have HB:Zs (ay w0 w.heap.size 138 #[.int .i64 0,.slice none 0 0,.slice none 0 0]):=Z3 (by rw[bI];exact ay.new _ _ _);have g10:=aU.aD g1;have g1z:=aF g10;have⟨bM,dO⟩:=aJ aU bI;clear aU bI;go_enter Tryz.func138,Tryz.ntmps138;go_wp2_with fail;rw[←dO.o];go_wp2_with fail;refine(mP x1 _ Wg).mono ?_;rintro e w2 ⟨⟨at_,ok,rfl, -, -, -⟩,bZ⟩;obtain⟨w3,jD⟩:∃w3,w3=w2.alloc (.cells #[.int .i64 at_,.slice none 0 0,.slice none 0 0] 138):=⟨_,rfl⟩;have dK:Ext w2 w3:=by rw[jD];exact kx
 have zY:Zs (ay w3 w2.heap.size 138 #[.int .i64 at_,.slice none 0 0,.slice none 0 0]):=Z3 (by rw[jD];exact ay.new _ _ _);have Ov:=(bM.o.trans bZ).trans dK;have⟨gN,jc,HV3⟩:=bg (HB.o.ext (bZ.trans dK)) Ov (HV.o.ext dP.stays Ov);have XL:Zs (w3.heap.size=w2.heap.size+1):=Z3 (by rw[jD];simp);have bY:b<w2.heap.size:=by have:=(bM.o.trans bZ).size;omega
 have hle:w.heap.size<w2.heap.size:=(HB.o.ext bZ).lt;have mV:=Z3 jD;clear bZ dK Ov jD g10 g1z g1 gz;go_wp2_with fail;rw[←mV.o];go_loopw [7,8] (fun h i wr=>∃(bh:Bool) (k:Nat) (vl vs:Value) (ls ss:List M.Tag),2≤k∧k≤n∧h=.bool bh∧i=.int .i64 k∧ls.length+ss.length≤k∧ay wr w2.heap.size 138 #[.int .i64 at_,vl,vs]∧
     wr.ownsRow (w2.heap.size+1) 139 2 vl ls.length (ls.flatMap iD)∧wr.ownsRow (w2.heap.size+1) 139 2 vs ss.length (ss.flatMap iD)∧(∀b,vl.ownBlock=some b→vs.ownBlock≠some b)∧Kp (·=w2.heap.size) w3 wr) (fun _ i _=>n - (intOf i).toNat)
 case atStart=>
  exact⟨false,2,_,_,[],[],Nat.le_refl _,by omega,rfl,rfl,by simp,zY.o,⟨rfl,.inl ⟨rfl,rfl⟩⟩,⟨rfl,.inl ⟨rfl,rfl⟩⟩,(fun _ h=>by cases h),Kp.rr⟩
 case round =>
  obtain⟨bh,k,vl,vs,ls,ss,k2,kn,rfl,rfl,hls,hC,hOL,hOS,hd,GX⟩:=hrel;obtain⟨la,lc,rfl⟩:=bO hOL;obtain⟨sa,sc,rfl⟩:=bO hOS;have⟨Ji,WG,KJ,xK,HD,Ec⟩:=qU (gN.o.kp GX Wg) hC hOL hOS hd GX;clear hC hOL hOS hd GX;by_cases Tj:k<n
  · have dk:(k:Int)<n:=by omega
    obtain⟨x,hx⟩:∃x,xs[k]?=some x:=⟨xs[k]'(by have:=HN.o;omega),List.getElem?_eq_getElem (by have:=HN.o;omega)⟩;obtain⟨_,_,e1,g1⟩:=dP.at_ HV3.o hx;cases e1;have gk:=Ec.o.jg g1 Wg;have gz:=aF gk;clear g1 hx;cases hq:(x.toList==[47])
    · cases bh
      · go_wp2_with fail;refine(xG x _).mono ?_;rintro e w4 ⟨⟨t,s,fine,rfl,hs⟩,dI⟩;obtain⟨w5,iA⟩:∃w5,w5=w4.alloc (.cells #[.int .i64 t,.string s] 139):=⟨_,rfl⟩;have rM:Ext w4 w5:=by rw[iA];exact kx
        have TN:Zs (ay w5 w4.heap.size 139 #[.int .i64 t,.string s]):=Z3 (by rw[iA];exact ay.new _ _ _);have cZ:=dI.trans rM;have⟨lC,rX,oW⟩:=bg (Ji.o.ext cZ) (WG.o.ext cZ) (Ec.o.trans cZ.any);have gy:Zs (Ext w w5):=Z3 (jc.o.own oW.o (fun _ e=>by omega));have DJ:Zs (wr.heap.size≤w4.heap.size):=Z3 dI.size;have HY5:Zs (w4.heap.size<w5.heap.size):=Z3 TN.o.lt;have LG:=cZ;clear dI rM cZ;obtain⟨-,z0,z1,z2, -⟩:=lC.o.ca;obtain⟨f0,f1,f2, -⟩:=lC.o.fz;obtain⟨-,c0,c1,c2, -⟩:=rX.o.ca;obtain⟨g0,g1,g2, -⟩:=rX.o.fz;obtain⟨-,y0,y1, -⟩:=TN.o.ca;have z5:=lC.o.lt;have c5:=rX.o.lt;have y5:=TN.o.lt;cases fine
        · subst iA;go_wp2_with fail;refine bodyPost_ret (au qZ rfl _ _ w.heap.size rfl [.int .i64 0,.slice none 0 0,.slice none 0 0] (ae.gM (ay.Cr lC.o _ _ _)) rfl) rfl ?_;exact⟨Jr.zero _ _ _,gy.o.own (Kp.Cr (D:=(·=w.heap.size)) rfl _ _ _) (fun _ e=>by omega)⟩
        · have CY:Ext wr ((w4.alloc (.cells #[.int .i64 t,.string s] 139)).alloc (.cells #[.int .i64 t,.string s] 139)):=(iA▸LG).alloc _;have HG:=Z3 CY;clear CY LG;subst iA;have OG:ls.length+1≤4294967296:=by omega
          have kF:w2.heap.size+1≤(w4.alloc (.cells #[.int .i64 t,.string s] 139)).heap.size:=by have:=Ec.o.size;have:=XL.o;have:=DJ.o;simp;omega
          go_wp2_with (refine az sJ rfl (.tmp 63) (.tmp 65) rfl (w2.heap.size+1) (.slice la ls.length lc) ls.length (ls.flatMap iD) rfl (aA (D:=fun _=>False) KJ.o HG.o fun _ _ _ x=>x) (w4.heap.size+1) 1 [.int .i64 t,.string s] rfl rfl (ae.fB _ _ Wf) Ys OG (by simp at kF ⊢;omega) ?_;rintro g9 c9 w9 pO fM wW;have DN:=(rX.o.ext (Kp.rr.alloc _)).kp fM (fun e=>by have:=(lq KJ.o e).1;omega);have d0:=DN.frozen 1;have d1:=DN.c 1 (.slice la ls.length lc) rfl;have dz:=DN.lt);have lh:Kp (·=w2.heap.size) w3 w9:=Kp.own (oW.o.alloc _) fM (fun b hb=>by have:=(lq KJ.o hb).1;have:=XL.o;omega);have dw:Kp (·=w2.heap.size) w9 (w9.setCell ⟨w2.heap.size,1,none⟩ (.slice (some ⟨g9,0,none⟩) (ls.length+1) c9)):=(Kp.refl (·=w2.heap.size) w9).setCell (p:=⟨w2.heap.size,1,none⟩) (fun _=>rfl) _;have hX9:=aA (aA xK.o HG.o fun _ _ _ x=>x) fM (fun g e1 _ e2=>HD.o g e2 e1);have UW:=aA hX9 dw (fun g _ e2 e3=>by omega);have Fv:=aA pO dw (fun g _ e2 e3=>by omega);have UX:=fun g e=>(lq (aA (D:=fun _=>False) xK.o HG.o fun _ _ _ x=>x) (g:=g) e).2;go_round
          case rel=>
           refine⟨false,k+1,_,_,ls++[⟨t,s⟩],ss,by omega,by omega,rfl,by go_num,by simp;omega,DN.bE 1 _,?_,UW,?_,lh.trans dw⟩
           · simpa [iD]using Fv
           · intro g e1 e2;cases e1;rcases wW with h|h
             · exact HD.o _ h e2
             · have:=UX g9 e2;omega
          case measure=>simp[intOf];omega
      · go_wp2_with fail;refine(xG x _).mono ?_;rintro e w4 ⟨⟨t,s,fine,rfl,hs⟩,dI⟩;obtain⟨w5,iA⟩:∃w5,w5=w4.alloc (.cells #[.int .i64 t,.string s] 139):=⟨_,rfl⟩;have rM:Ext w4 w5:=by rw[iA];exact kx
        have TN:Zs (ay w5 w4.heap.size 139 #[.int .i64 t,.string s]):=Z3 (by rw[iA];exact ay.new _ _ _);have cZ:=dI.trans rM;have⟨lC,rX,oW⟩:=bg (Ji.o.ext cZ) (WG.o.ext cZ) (Ec.o.trans cZ.any);have gy:Zs (Ext w w5):=Z3 (jc.o.own oW.o (fun _ e=>by omega));have DJ:Zs (wr.heap.size≤w4.heap.size):=Z3 dI.size;have HY5:Zs (w4.heap.size<w5.heap.size):=Z3 TN.o.lt;have LG:=cZ;clear dI rM cZ;obtain⟨-,z0,z1,z2, -⟩:=lC.o.ca;obtain⟨f0,f1,f2, -⟩:=lC.o.fz;obtain⟨-,c0,c1,c2, -⟩:=rX.o.ca;obtain⟨g0,g1,g2, -⟩:=rX.o.fz;obtain⟨-,y0,y1, -⟩:=TN.o.ca;have z5:=lC.o.lt;have c5:=rX.o.lt;have y5:=TN.o.lt;cases fine
        · subst iA;go_wp2_with fail;refine bodyPost_ret (au qZ rfl _ _ w.heap.size rfl [.int .i64 0,.slice none 0 0,.slice none 0 0] (ae.gM (ay.Cr lC.o _ _ _)) rfl) rfl ?_;exact⟨Jr.zero _ _ _,gy.o.own (Kp.Cr (D:=(·=w.heap.size)) rfl _ _ _) (fun _ e=>by omega)⟩
        · have CY:Ext wr ((w4.alloc (.cells #[.int .i64 t,.string s] 139)).alloc (.cells #[.int .i64 t,.string s] 139)):=(iA▸LG).alloc _;have HG:=Z3 CY;clear CY LG;subst iA;have OG:ss.length+1≤4294967296:=by omega
          have kF:w2.heap.size+1≤(w4.alloc (.cells #[.int .i64 t,.string s] 139)).heap.size:=by have:=Ec.o.size;have:=XL.o;have:=DJ.o;simp;omega
          go_wp2_with (refine az sJ rfl (.tmp 57) (.tmp 59) rfl (w2.heap.size+1) (.slice sa ss.length sc) ss.length (ss.flatMap iD) rfl (aA (D:=fun _=>False) xK.o HG.o fun _ _ _ x=>x) (w4.heap.size+1) 1 [.int .i64 t,.string s] rfl rfl (ae.fB _ _ Wf) Ys OG (by simp at kF ⊢;omega) ?_;rintro g9 c9 w9 pO fM wW;have DN:=(rX.o.ext (Kp.rr.alloc _)).kp fM (fun e=>by have:=(lq xK.o e).1;omega);have d0:=DN.frozen 2;have d1:=DN.c 2 (.slice sa ss.length sc) rfl;have dz:=DN.lt);have lh:Kp (·=w2.heap.size) w3 w9:=Kp.own (oW.o.alloc _) fM (fun b hb=>by have:=(lq xK.o hb).1;have:=XL.o;omega);have dw:Kp (·=w2.heap.size) w9 (w9.setCell ⟨w2.heap.size,2,none⟩ (.slice (some ⟨g9,0,none⟩) (ss.length+1) c9)):=(Kp.refl (·=w2.heap.size) w9).setCell (p:=⟨w2.heap.size,2,none⟩) (fun _=>rfl) _;have hX9:=aA (aA KJ.o HG.o fun _ _ _ x=>x) fM (fun g e1 _ e2=>HD.o g e1 e2);have UW:=aA hX9 dw (fun g _ e2 e3=>by omega);have Fv:=aA pO dw (fun g _ e2 e3=>by omega);have UX:=fun g e=>(lq (aA (D:=fun _=>False) KJ.o HG.o fun _ _ _ x=>x) (g:=g) e).2;go_round
          case rel=>
           refine⟨true,k+1,_,_,ls,ss++[⟨t,s⟩],by omega,by omega,rfl,by go_num,by simp;omega,DN.bE 2 _,UW,?_,?_,lh.trans dw⟩
           · simpa [iD]using Fv
           · intro g e1 e2;cases e2;rcases wW with h|h
             · exact HD.o _ e1 h
             · have:=UX g9 e1;omega
          case measure=>simp[intOf];omega
    · cases bh
      · go_wp2_with fail;go_round
        case rel=>exact⟨true,k+1,_,_,ls,ss,by omega,by omega,rfl,by go_num,by omega,WG.o,KJ.o,xK.o,HD.o,Ec.o⟩
        case measure=>simp[intOf];omega
      · go_wp2_with fail;refine(xG x _).mono ?_;rintro e w4 ⟨⟨t,s,fine,rfl,hs⟩,dI⟩;obtain⟨w5,iA⟩:∃w5,w5=w4.alloc (.cells #[.int .i64 t,.string s] 139):=⟨_,rfl⟩;have rM:Ext w4 w5:=by rw[iA];exact kx
        have TN:Zs (ay w5 w4.heap.size 139 #[.int .i64 t,.string s]):=Z3 (by rw[iA];exact ay.new _ _ _);have cZ:=dI.trans rM;have⟨lC,rX,oW⟩:=bg (Ji.o.ext cZ) (WG.o.ext cZ) (Ec.o.trans cZ.any);have gy:Zs (Ext w w5):=Z3 (jc.o.own oW.o (fun _ e=>by omega));have DJ:Zs (wr.heap.size≤w4.heap.size):=Z3 dI.size;have HY5:Zs (w4.heap.size<w5.heap.size):=Z3 TN.o.lt;have LG:=cZ;clear dI rM cZ;obtain⟨-,z0,z1,z2, -⟩:=lC.o.ca;obtain⟨f0,f1,f2, -⟩:=lC.o.fz;obtain⟨-,c0,c1,c2, -⟩:=rX.o.ca;obtain⟨g0,g1,g2, -⟩:=rX.o.fz;obtain⟨-,y0,y1, -⟩:=TN.o.ca;have z5:=lC.o.lt;have c5:=rX.o.lt;have y5:=TN.o.lt;cases fine
        · subst iA;go_wp2_with fail;refine bodyPost_ret (au qZ rfl _ _ w.heap.size rfl [.int .i64 0,.slice none 0 0,.slice none 0 0] (ae.gM (ay.Cr lC.o _ _ _)) rfl) rfl ?_;exact⟨Jr.zero _ _ _,gy.o.own (Kp.Cr (D:=(·=w.heap.size)) rfl _ _ _) (fun _ e=>by omega)⟩
        · have CY:Ext wr ((w4.alloc (.cells #[.int .i64 t,.string s] 139)).alloc (.cells #[.int .i64 t,.string s] 139)):=(iA▸LG).alloc _;have HG:=Z3 CY;clear CY LG;subst iA;have OG:ss.length+1≤4294967296:=by omega
          have kF:w2.heap.size+1≤(w4.alloc (.cells #[.int .i64 t,.string s] 139)).heap.size:=by have:=Ec.o.size;have:=XL.o;have:=DJ.o;simp;omega
          go_wp2_with (refine az sJ rfl (.tmp 57) (.tmp 59) rfl (w2.heap.size+1) (.slice sa ss.length sc) ss.length (ss.flatMap iD) rfl (aA (D:=fun _=>False) xK.o HG.o fun _ _ _ x=>x) (w4.heap.size+1) 1 [.int .i64 t,.string s] rfl rfl (ae.fB _ _ Wf) Ys OG (by simp at kF ⊢;omega) ?_;rintro g9 c9 w9 pO fM wW;have DN:=(rX.o.ext (Kp.rr.alloc _)).kp fM (fun e=>by have:=(lq xK.o e).1;omega);have d0:=DN.frozen 2;have d1:=DN.c 2 (.slice sa ss.length sc) rfl;have dz:=DN.lt);have lh:Kp (·=w2.heap.size) w3 w9:=Kp.own (oW.o.alloc _) fM (fun b hb=>by have:=(lq xK.o hb).1;have:=XL.o;omega);have dw:Kp (·=w2.heap.size) w9 (w9.setCell ⟨w2.heap.size,2,none⟩ (.slice (some ⟨g9,0,none⟩) (ss.length+1) c9)):=(Kp.refl (·=w2.heap.size) w9).setCell (p:=⟨w2.heap.size,2,none⟩) (fun _=>rfl) _;have hX9:=aA (aA KJ.o HG.o fun _ _ _ x=>x) fM (fun g e1 _ e2=>HD.o g e1 e2);have UW:=aA hX9 dw (fun g _ e2 e3=>by omega);have Fv:=aA pO dw (fun g _ e2 e3=>by omega);have UX:=fun g e=>(lq (aA (D:=fun _=>False) KJ.o HG.o fun _ _ _ x=>x) (g:=g) e).2;go_round
          case rel=>
           refine⟨true,k+1,_,_,ls,ss++[⟨t,s⟩],by omega,by omega,rfl,by go_num,by simp;omega,DN.bE 2 _,UW,?_,?_,lh.trans dw⟩
           · simpa [iD]using Fv
           · intro g e1 e2;cases e2;rcases wW with h|h
             · exact HD.o _ e1 h
             · have:=UX g9 e1;omega
          case measure=>simp[intOf];omega
  · have dk:¬(k:Int)<n:=by omega
    obtain⟨-,c0,c1,c2, -⟩:=WG.o.ca;obtain⟨zz,z0,z1,z2, -⟩:=Ji.o.ca;obtain⟨f0,f1,f2, -⟩:=Ji.o.fz;have cz:=WG.o.lt;have LY:Kp (·=w.heap.size) wr (((wr.setCell ⟨w.heap.size,0,none⟩ (.int .i64 at_)).setCell ⟨w.heap.size,1,none⟩ (.slice la ls.length lc)).setCell ⟨w.heap.size,2,none⟩ (.slice sa ss.length sc)):=Kp.Cr (D:=(·=w.heap.size)) rfl _ _ _;have hL:=aA KJ.o LY (fun g _ e2 e3=>by omega);have hS:=aA xK.o LY (fun g _ e2 e3=>by omega);have FIN:Zs (∀b,Jr w _ (.returned (.tuple #[.agg #[.int .i64 at_,.slice la ls.length lc,.slice sa ss.length sc],.bool b]))∧Ext w (((wr.setCell ⟨w.heap.size,0,none⟩ (.int .i64 at_)).setCell ⟨w.heap.size,1,none⟩ (.slice la ls.length lc)).setCell ⟨w.heap.size,2,none⟩ (.slice sa ss.length sc))):=Z3 (fun b=>⟨⟨⟨at_,ls,ss⟩,_,_,_,b,rfl,_,_,rfl,
     SliceOf.gH iD hL rfl rfl (fun _ _=>rfl) (fun _ _=>rfl) (fun b h1 h2=>⟨by omega,h2⟩) (show ls.length≤4294967296 by omega),
     SliceOf.gH iD hS rfl rfl (fun _ _=>rfl) (fun _ _=>rfl) (fun b h1 h2=>⟨by omega,h2⟩) (show ss.length≤4294967296 by omega)⟩,
     (jc.o.own Ec.o (fun _ e=>by omega)).own LY (fun _ e=>by omega)⟩)
    clear LY hL hS;cases ok
    · go_wp2_with fail;refine bodyPost_ret (au qZ rfl _ _ w.heap.size rfl [.int .i64 at_,.slice la ls.length lc,.slice sa ss.length sc] (ae.gM (ay.Cr Ji.o _ _ _)) rfl) rfl ?_;exact FIN.o _
    · cases bh
      · go_wp2_with fail;refine bodyPost_ret (au qZ rfl _ _ w.heap.size rfl [.int .i64 at_,.slice la ls.length lc,.slice sa ss.length sc] (ae.gM (ay.Cr Ji.o _ _ _)) rfl) rfl ?_;exact FIN.o _
      · go_wp2_with fail;refine bodyPost_ret (au qZ rfl _ _ w.heap.size rfl [.int .i64 at_,.slice la ls.length lc,.slice sa ss.length sc] (ae.gM (ay.Cr Ji.o _ _ _)) rfl) rfl ?_;exact FIN.o _
theorem Kp.Ko{D:Nat→Prop}{w:World}{b:Nat}(hD:D b)(v0 v1 v2 v3 v4 v5 v6 v7:Value):Kp D w ((((((((w.setCell ⟨b,0,none⟩ v0).setCell ⟨b,1,none⟩ v1).setCell ⟨b,2,none⟩ v2).setCell ⟨b,3,none⟩ v3).setCell ⟨b,4,none⟩ v4).setCell ⟨b,5,none⟩ v5).setCell ⟨b,6,none⟩ v6).setCell ⟨b,7,none⟩ v7):=
 (((((((((Kp.refl D w).setCell (p:=⟨b,0,none⟩) (fun _=>hD) v0).setCell (p:=⟨b,1,none⟩) (fun _=>hD) v1).setCell (p:=⟨b,2,none⟩) (fun _=>hD) v2).setCell (p:=⟨b,3,none⟩) (fun _=>hD) v3).setCell (p:=⟨b,4,none⟩) (fun _=>hD) v4).setCell (p:=⟨b,5,none⟩) (fun _=>hD) v5).setCell (p:=⟨b,6,none⟩) (fun _=>hD) v6).setCell (p:=⟨b,7,none⟩) (fun _=>hD) v7)
theorem ay.Ko{w:World}{b:Nat}{t:TypeId}{u0 u1 u2 u3 u4 u5 u6 u7:Value}(h:ay w b t #[u0,u1,u2,u3,u4,u5,u6,u7])(v0 v1 v2 v3 v4 v5 v6 v7:Value):ay ((((((((w.setCell ⟨b,0,none⟩ v0).setCell ⟨b,1,none⟩ v1).setCell ⟨b,2,none⟩ v2).setCell ⟨b,3,none⟩ v3).setCell ⟨b,4,none⟩ v4).setCell ⟨b,5,none⟩ v5).setCell ⟨b,6,none⟩ v6).setCell ⟨b,7,none⟩ v7) b t #[v0,v1,v2,v3,v4,v5,v6,v7]:=by
 have h0:ay (w.setCell ⟨b,0,none⟩ v0) b t #[v0,u1,u2,u3,u4,u5,u6,u7]:=h.bE 0 v0;have h1:ay ((w.setCell ⟨b,0,none⟩ v0).setCell ⟨b,1,none⟩ v1) b t #[v0,v1,u2,u3,u4,u5,u6,u7]:=h0.bE 1 v1;have h2:ay (((w.setCell ⟨b,0,none⟩ v0).setCell ⟨b,1,none⟩ v1).setCell ⟨b,2,none⟩ v2) b t #[v0,v1,v2,u3,u4,u5,u6,u7]:=h1.bE 2 v2;have h3:ay ((((w.setCell ⟨b,0,none⟩ v0).setCell ⟨b,1,none⟩ v1).setCell ⟨b,2,none⟩ v2).setCell ⟨b,3,none⟩ v3) b t #[v0,v1,v2,v3,u4,u5,u6,u7]:=h2.bE 3 v3;have h4:ay (((((w.setCell ⟨b,0,none⟩ v0).setCell ⟨b,1,none⟩ v1).setCell ⟨b,2,none⟩ v2).setCell ⟨b,3,none⟩ v3).setCell ⟨b,4,none⟩ v4) b t #[v0,v1,v2,v3,v4,u5,u6,u7]:=h3.bE 4 v4;have h5:ay ((((((w.setCell ⟨b,0,none⟩ v0).setCell ⟨b,1,none⟩ v1).setCell ⟨b,2,none⟩ v2).setCell ⟨b,3,none⟩ v3).setCell ⟨b,4,none⟩ v4).setCell ⟨b,5,none⟩ v5) b t #[v0,v1,v2,v3,v4,v5,u6,u7]:=h4.bE 5 v5;have h6:ay (((((((w.setCell ⟨b,0,none⟩ v0).setCell ⟨b,1,none⟩ v1).setCell ⟨b,2,none⟩ v2).setCell ⟨b,3,none⟩ v3).setCell ⟨b,4,none⟩ v4).setCell ⟨b,5,none⟩ v5).setCell ⟨b,6,none⟩ v6) b t #[v0,v1,v2,v3,v4,v5,v6,u7]:=h5.bE 6 v6;have h7:ay ((((((((w.setCell ⟨b,0,none⟩ v0).setCell ⟨b,1,none⟩ v1).setCell ⟨b,2,none⟩ v2).setCell ⟨b,3,none⟩ v3).setCell ⟨b,4,none⟩ v4).setCell ⟨b,5,none⟩ v5).setCell ⟨b,6,none⟩ v6).setCell ⟨b,7,none⟩ v7) b t #[v0,v1,v2,v3,v4,v5,v6,v7]:=h6.bE 7 v7;exact h7
theorem wL:Ea 106 8:=⟨_,Tryz.underlying106,by kernel_rfl⟩
theorem Ug:Elem 100 102 2:=iP (z:=.agg #[.int .i64 0,.string ⟨#[]⟩]) (bytes:=24) Tryz.underlying100 Wr rfl Wk Wk
def Qy(x:M.Kind):List Value:=[.int .i64 x.kind,.string x.name]
def CO(m:Nat)(w w':World)(e:Ending):Prop:=∃n va rk rn l2 l3 b,e=.returned (.tuple #[.agg #[.string n,va,.int .i64 rk,.string rn,.int .i64 l2,.int .i64 l3,.slice none 0 0,.slice none 0 0],.bool b])∧n.size≤m∧∃ks,SliceOf 2 jv w' (fun b=>w.heap.size≤b∧b<w'.heap.size) va ks
theorem CO.zero(m:Nat)(w w':World)(b:Bool):CO m w w' (.returned (.tuple #[.agg #[.string ⟨#[]⟩,.slice none 0 0,.int .i64 0,.string ⟨#[]⟩,.int .i64 0,.int .i64 0,.slice none 0 0,.slice none 0 0],.bool b])):=
 ⟨_,_,_,_,_,_,b,rfl,Nat.zero_le _,[],SliceOf.nil _ _ _ _⟩
theorem Kw(xs:List ByteArray)(v:Value)(m:Nat)(hm:m≤4000000000)(I:Nat→Prop)(w:World)(hv:SliceOf 1 dP w I v xs)(kv:∀x∈xs,x.size≤m):
    Calls Tryz.prog 137 #[v] w fun e w'=>CO m w w' e∧Ext w w':=by
 obtain⟨a,cap,rfl,dm, -⟩:=hv.form;obtain⟨n,hn⟩:∃n,xs.length=n:=⟨_,rfl⟩;rw[hn]at dm hv ⊢;by_cases h5:n<5
 · have d5:(n:Int)<5:=by omega
   clear hn hv;go_enter Tryz.func137,Tryz.ntmps137;go_wp2_with fail
   all_goals
    refine bodyPost_ret (au wL rfl _ _ w.heap.size rfl [.string ⟨#[]⟩,.slice none 0 0,.int .i64 0,.string ⟨#[]⟩,.int .i64 0,.int .i64 0,.slice none 0 0,.slice none 0 0] (ae.fB _ _ rfl) rfl) rfl ?_;exact⟨CO.zero _ _ _ _,kx⟩
 by_cases h8:8<n
 · have d5:¬(n:Int)<5:=by omega
   have d8:(8:Int)<n:=by omega
   clear hn hv;go_enter Tryz.func137,Tryz.ntmps137;go_wp2_with fail
   all_goals
    refine bodyPost_ret (au wL rfl _ _ w.heap.size rfl [.string ⟨#[]⟩,.slice none 0 0,.int .i64 0,.string ⟨#[]⟩,.int .i64 0,.int .i64 0,.slice none 0 0,.slice none 0 0] (ae.fB _ _ rfl) rfl) rfl ?_;exact⟨CO.zero _ _ _ _,kx⟩
 have d5:¬(n:Int)<5:=by omega
 have d8:¬(8:Int)<n:=by omega
 obtain⟨x1,Er⟩:∃x,xs[1]?=some x:=⟨xs[1]'Wg,List.getElem?_eq_getElem Wg⟩;obtain⟨x2,Me⟩:∃x,xs[2]?=some x:=⟨xs[2]'Wg,List.getElem?_eq_getElem Wg⟩;obtain⟨x3,YJ⟩:∃x,xs[3]?=some x:=⟨xs[3]'Wg,List.getElem?_eq_getElem Wg⟩;obtain⟨x4,hx4⟩:∃x,xs[4]?=some x:=⟨xs[4]'Wg,List.getElem?_eq_getElem Wg⟩;obtain⟨b,off,rfl,g1⟩:=dP.at_ hv Er;obtain⟨_,_,e1,g2⟩:=dP.at_ hv Me;cases e1;obtain⟨_,_,e1,g3⟩:=dP.at_ hv YJ;cases e1;obtain⟨_,_,e1,g4⟩:=dP.at_ hv hx4;cases e1;have s1:=kv x1 (List.mem_of_getElem? Er);have s2:=kv x2 (List.mem_of_getElem? Me);have s3:=kv x3 (List.mem_of_getElem? YJ);have s4:=kv x4 (List.mem_of_getElem? hx4);have gz:=aF g1;have⟨HV,HN⟩:=aJ hv hn;have HNM:=fun W=>Z3 (di x1 W);clear hv hn Er Me YJ hx4;obtain⟨w0,bI⟩:∃w0,w0=w.alloc (.cells #[.string ⟨#[]⟩,.slice none 0 0,.int .i64 0,.string ⟨#[]⟩,.int .i64 0,.int .i64 0,.slice none 0 0,.slice none 0 0] 106):=⟨_,rfl⟩;have aU:Ext w w0:=by rw[bI];exact kx
 have HB:Zs (ay w0 w.heap.size 106 #[.string ⟨#[]⟩,.slice none 0 0,.int .i64 0,.string ⟨#[]⟩,.int .i64 0,.int .i64 0,.slice none 0 0,.slice none 0 0]):=Z3 (by rw[bI];exact ay.new _ _ _);have p1:=aU.aD g1;have p2:=aU.aD g2;have p3:=aU.aD g3;have p4:=aU.aD g4;have pz:=aF p1;have⟨bM,HG1⟩:=aJ aU g1;clear aU;cases yF:M.aT x1<;>simp only[yF]at HNM
 · go_enter Tryz.func137,Tryz.ntmps137;subst bI;go_wp2_with fail;refine(HNM _).o.mono ?_;rintro e w5 ⟨rfl,rfl⟩;go_wp2_with fail;refine bodyPost_ret (au wL rfl _ _ w.heap.size rfl [.string ⟨#[]⟩,.slice none 0 0,.int .i64 0,.string ⟨#[]⟩,.int .i64 0,.int .i64 0,.slice none 0 0,.slice none 0 0] (ae.fB _ _ rfl) rfl) rfl ?_;exact⟨CO.zero _ _ _ _,kx⟩
 have dO:=Z3 bI;clear bI;go_enter Tryz.func137,Tryz.ntmps137;go_wp2_with fail;rw[←dO.o];go_wp2_with fail;refine(HNM _).o.mono ?_;rintro e w5 ⟨rfl,rfl⟩;go_wp2_with fail;refine(mP x2 _ Wg).mono ?_;rintro e w1 ⟨⟨l2,ok2,rfl, -, -, -⟩,bH⟩;have t3:=bH.aD p3;have t4:=bH.aD p4;have t1:=bH.aD p1;have tz:=aF t1;have⟨tL,eQ⟩:=aJ (HB.o.ext bH) (bM.o.trans bH);clear bH p1 p2 p3 p4 pz;go_wp2_with fail;refine(mP x3 _ Wg).mono ?_;rintro e w2 ⟨⟨l3,ok3,rfl, -, -, -⟩,bZ⟩;have r4:=bZ.aD t4;have r1:=bZ.aD t1;have rz:=aF r1;have⟨mQ,gL⟩:=aJ (tL.o.ext bZ) (eQ.o.trans bZ);clear bZ t1 t3 t4 tz;go_wp2_with fail;refine(xE x4 _).mono ?_;rintro e w3 ⟨⟨rk,rn,ok4,rfl,hrn⟩,dK⟩;obtain⟨w4,vT,dI,Hv⟩:=nu w3 #[.int .i64 rk,.string rn] 102;have Yi:=dK.trans dI;have q1:=Yi.aD r1;have⟨kP,iG,EN⟩:=bg (mQ.o.ext Yi) (gL.o.trans Yi) vT;obtain⟨T,f,dA,HT⟩:=iN.ex (fun W'=>Ext w4 W') w4 Kp.rr;have y1:=fun z=>(HT.aW z).aD q1;have y2:=fun z=>(HT.aW z).aD (Hv.c 0 (.int .i64 rk) rfl);have y3:=fun z=>(HT.aW z).aD (Hv.c 1 (.string rn) rfl);have aj:=Z3 HT;clear HT dK dI Yi vT r1 r4 rz q1 Hv;go_wp2_with fail;rw[←EN.o];(refine eO aj 8 [([0,1,2,3,4,5,6],7)] [] ?_ ?_)
 · exact Kp.rr.drew
 refine iX ?_;intro K2 ag;go_wp2_with fail;(refine kk aj ag kx ?_);clear ag K2;(refine dW ?_);go_wp2_with fail;obtain⟨w5,iA⟩:∃w5,w5=(w4.alloc (.cells #[.string x1,.slice none 0 0,.int .i64 rk,.string rn,.int .i64 l2,.int .i64 l3,.slice none 0 0,.slice none 0 0] 106)).drew:=⟨_,rfl⟩;have cZ:Ext w4 w5:=by rw[iA];exact kx
 have zY:Zs (ay w5 w4.heap.size 106 #[.string x1,.slice none 0 0,.int .i64 rk,.string rn,.int .i64 l2,.int .i64 l3,.slice none 0 0,.slice none 0 0]):=Z3 (by rw[iA];exact(ay.new _ _ _).ext (Kp.rr.drew));have⟨gN,jc⟩:=aJ (kP.o.ext cZ) (iG.o.trans cZ);have HV3:=Z3 (HV.o.ext dP.stays jc.o);have XL:Zs (w5.heap.size=w4.heap.size+1):=Z3 (by rw[iA];simp);have bY:b<w4.heap.size:=by have:=iG.o.size;omega
 have hle:w.heap.size<w4.heap.size:=kP.o.lt;have tN:=Z3 iA;clear cZ iA y1 y2 y3 g1 g2 g3 g4 gz aj;rw[←tN.o];go_loopw [11] (fun i wr=>∃(k:Nat) (vl:Value) (ls:List M.Kind),5≤k∧k≤n∧i=.int .i64 k∧ls.length≤k∧ay wr w4.heap.size 106 #[.string x1,vl,.int .i64 rk,.string rn,.int .i64 l2,.int .i64 l3,.slice none 0 0,.slice none 0 0]∧
     wr.ownsRow (w4.heap.size+1) 102 2 vl ls.length (ls.flatMap Qy)∧Kp (·=w4.heap.size) w5 wr) (fun i _=>n - (intOf i).toNat)
 case atStart=>
  exact⟨5,_,[],Nat.le_refl _,by omega,rfl,by simp,zY.o,⟨rfl,.inl ⟨rfl,rfl⟩⟩,Kp.rr⟩
 case round =>
  obtain⟨k,vl,ls,k2,kn,rfl,hls,hC,hOL,GX⟩:=hrel;obtain⟨la,lc,rfl⟩:=bO hOL;have⟨Ji,WG,KJ,Ec⟩:=gD (gN.o.kp GX Wg) hC hOL GX;clear hC hOL GX;by_cases Tj:k<n
  · have dk:(k:Int)<n:=by omega
    obtain⟨x,hx⟩:∃x,xs[k]?=some x:=⟨xs[k]'(by have:=HN.o;omega),List.getElem?_eq_getElem (by have:=HN.o;omega)⟩;obtain⟨_,_,e1,g1⟩:=dP.at_ HV3.o hx;cases e1;have gk:=Ec.o.jg g1 Wg;have gz:=aF gk;clear g1 hx;go_wp2_with fail;refine(xE x _).mono ?_;rintro e w6 ⟨⟨t,s,fine,rfl,hs⟩,dC⟩;obtain⟨w7,Da⟩:∃w7,w7=w6.alloc (.cells #[.int .i64 t,.string s] 102):=⟨_,rfl⟩;have UG:Ext w6 w7:=by rw[Da];exact kx
    have HT7:Zs (ay w7 w6.heap.size 102 #[.int .i64 t,.string s]):=Z3 (by rw[Da];exact ay.new _ _ _);have r9:=dC.trans UG;have⟨zW,wD,mh⟩:=bg (Ji.o.ext r9) (WG.o.ext r9) (Ec.o.trans r9.any);have DD:Zs (Ext w w7):=Z3 (jc.o.own mh.o (fun _ e=>by omega));have HZ7:Zs (wr.heap.size≤w6.heap.size):=Z3 dC.size;clear dC UG;obtain⟨-,z0,z1,z2,z3,z4,z5,z6,z7, -⟩:=zW.o.ca;obtain⟨f0,f1,f2,f3,f4,f5,f6,f7, -⟩:=zW.o.fz;obtain⟨-,c0,c1,c2,c3,c4,c5,c6,c7, -⟩:=wD.o.ca;obtain⟨g0,g1,g2,g3,g4,g5,g6,g7, -⟩:=wD.o.fz;obtain⟨-,y0,y1, -⟩:=HT7.o.ca;have z7:=zW.o.lt;have c7:=wD.o.lt;have y7:=HT7.o.lt;cases fine
    · clear r9;subst Da;go_wp2_with fail;refine bodyPost_ret (au wL rfl _ _ w.heap.size rfl [.string ⟨#[]⟩,.slice none 0 0,.int .i64 0,.string ⟨#[]⟩,.int .i64 0,.int .i64 0,.slice none 0 0,.slice none 0 0] (ae.gM (ay.Ko zW.o _ _ _ _ _ _ _ _)) rfl) rfl ?_;exact⟨CO.zero _ _ _ _,DD.o.own (Kp.Ko (D:=(·=w.heap.size)) rfl _ _ _ _ _ _ _ _) (fun _ e=>by omega)⟩
    · have HG:Zs (Ext wr ((w6.alloc (.cells #[.int .i64 t,.string s] 102)).alloc (.cells #[.int .i64 t,.string s] 102))):=Z3 ((Da▸r9).alloc _);clear r9;subst Da;have OG:ls.length+1≤4294967296:=by omega
      have kF:w4.heap.size+1≤(w6.alloc (.cells #[.int .i64 t,.string s] 102)).heap.size:=by have:=Ec.o.size;have:=XL.o;have:=HZ7.o;simp;omega
      go_wp2_with (refine az Ug rfl (.tmp 76) (.tmp 78) rfl (w4.heap.size+1) (.slice la ls.length lc) ls.length (ls.flatMap Qy) rfl (aA (D:=fun _=>False) KJ.o HG.o fun _ _ _ x=>x) (w6.heap.size+1) 1 [.int .i64 t,.string s] rfl rfl (ae.fB _ _ Wf) Ys OG (by simp at kF ⊢;omega) ?_;rintro g9 c9 w9 pO fM wW;have DN:=(wD.o.ext (Kp.rr.alloc _)).kp fM (fun e=>by have:=(lq KJ.o e).1;omega);have d0:=DN.frozen 1;have d1:=DN.c 1 (.slice la ls.length lc) rfl;have dz:=DN.lt);have lh:Kp (·=w4.heap.size) w5 w9:=Kp.own (mh.o.alloc _) fM (fun b hb=>by have:=(lq KJ.o hb).1;have:=XL.o;omega);have dw:Kp (·=w4.heap.size) w9 (w9.setCell ⟨w4.heap.size,1,none⟩ (.slice (some ⟨g9,0,none⟩) (ls.length+1) c9)):=(Kp.refl (·=w4.heap.size) w9).setCell (p:=⟨w4.heap.size,1,none⟩) (fun _=>rfl) _;have Fv:=aA pO dw (fun g _ e2 e3=>by omega);go_round
      case rel=>
       refine⟨k+1,_,ls++[⟨t,s⟩],by omega,by omega,by go_num,by simp;omega,DN.bE 1 _,?_,lh.trans dw⟩;simpa [Qy]using Fv
      case measure=>simp[intOf];omega
  · have dk:¬(k:Int)<n:=by omega
    obtain⟨-,c0,c1,c2,c3,c4,c5,c6,c7, -⟩:=WG.o.ca;obtain⟨zz,z0,z1,z2,z3,z4,z5,z6,z7, -⟩:=Ji.o.ca;obtain⟨f0,f1,f2,f3,f4,f5,f6,f7, -⟩:=Ji.o.fz;have cz:=WG.o.lt;have LY:Kp (·=w.heap.size) wr ((((((((wr.setCell ⟨w.heap.size,0,none⟩ (.string x1)).setCell ⟨w.heap.size,1,none⟩ (.slice la ls.length lc)).setCell ⟨w.heap.size,2,none⟩ (.int .i64 rk)).setCell ⟨w.heap.size,3,none⟩ (.string rn)).setCell ⟨w.heap.size,4,none⟩ (.int .i64 l2)).setCell ⟨w.heap.size,5,none⟩ (.int .i64 l3)).setCell ⟨w.heap.size,6,none⟩ (.slice none 0 0)).setCell ⟨w.heap.size,7,none⟩ (.slice none 0 0)):=Kp.Ko (D:=(·=w.heap.size)) rfl _ _ _ _ _ _ _ _;have hL:=aA KJ.o LY (fun g _ e2 e3=>by omega);have FIN:Zs (∀b,CO m w _ (.returned (.tuple #[.agg #[.string x1,.slice la ls.length lc,.int .i64 rk,.string rn,.int .i64 l2,.int .i64 l3,.slice none 0 0,.slice none 0 0],.bool b]))∧Ext w ((((((((wr.setCell ⟨w.heap.size,0,none⟩ (.string x1)).setCell ⟨w.heap.size,1,none⟩ (.slice la ls.length lc)).setCell ⟨w.heap.size,2,none⟩ (.int .i64 rk)).setCell ⟨w.heap.size,3,none⟩ (.string rn)).setCell ⟨w.heap.size,4,none⟩ (.int .i64 l2)).setCell ⟨w.heap.size,5,none⟩ (.int .i64 l3)).setCell ⟨w.heap.size,6,none⟩ (.slice none 0 0)).setCell ⟨w.heap.size,7,none⟩ (.slice none 0 0))):=Z3 (fun b=>⟨⟨_,_,_,_,_,_,b,rfl,s1,ls,
     SliceOf.gH Qy hL rfl rfl (fun _ _=>rfl) (fun _ _=>rfl) (fun b h1 h2=>⟨by omega,h2⟩) Wg⟩,
     (jc.o.own Ec.o (fun _ e=>by omega)).own LY (fun _ e=>by omega)⟩)
    clear LY hL;cases ok2<;>cases ok3<;>cases ok4<;>by_cases h2:0≤l2
    all_goals
     go_wp2_with fail;refine bodyPost_ret (au wL rfl _ _ w.heap.size rfl [.string x1,.slice la ls.length lc,.int .i64 rk,.string rn,.int .i64 l2,.int .i64 l3,.slice none 0 0,.slice none 0 0] (ae.gM (ay.Ko Ji.o _ _ _ _ _ _ _ _)) rfl) rfl ?_;exact FIN.o _
def AtP{α:Type}(l:List α)(q:α→Bool)(e:Ending):Prop:=∃n:Int,e=.returned (.int .i64 n)∧decide (0≤n)=l.any q
theorem Jt{α:Type}{l:List α}{q:α→Bool}{k:Nat}{x:α}(hx:l[k]?=some x)(h:q x=true):l.any q=true:=List.any_eq_true.2 ⟨x,List.mem_of_getElem? hx,h⟩
theorem wM{α:Type}{l:List α}{q:α→Bool}{k:Nat}{x:α}(hx:l[k]?=some x)(h:q x=false)(h0:(l.take k).any q=false):(l.take (k+1)).any q=false:=by
 rw[List.take_add_one,hx,List.any_append,h0];simp[h]
theorem Pv(w:World)(I:Nat→Prop)(v:Value)(l:List M.Field)(h:SliceOf 3 eF w I v l)(nm:ByteArray):
    Calls Tryz.prog 107 #[v,.string nm] w fun e w'=>AtP l (fun f=>f.name.toList==nm.toList) e∧Ext w w':=by
 obtain⟨a,cap,rfl,hn,dm⟩:=h.form;go_enter Tryz.func107,Tryz.ntmps107;go_wp2_with fail;go_loopw [5] (fun i wr=>∃k:Nat,k≤l.length∧i=.int .i64 k∧wr=w∧Zs ((l.take k).any (fun f=>f.name.toList==nm.toList)=false)) (fun i _=>l.length - (intOf i).toNat)
 case atStart=>exact⟨0,Nat.zero_le _,rfl,rfl,Z3 Wf⟩
 case round =>
  obtain⟨k,hk,rfl,rfl,HA⟩:=hrel;by_cases bY:k<l.length
  · have dk:(k:Int)<l.length:=by omega
    obtain⟨x,hx⟩:∃x,l[k]?=some x:=⟨l[k]'bY,List.getElem?_eq_getElem bY⟩;obtain⟨b',off,cs,rfl,hI,rfl, -,hc⟩:=h.get hx;obtain⟨g0, -⟩:=hc.three;have gz:=aF g0;have HX:=Z3 hx;clear hx hc;cases ht:(x.name.toList==nm.toList)
    · go_wp2_with fail;go_round
      case rel=>exact⟨k+1,by omega,by go_num,trivial,Z3 (wM HX.o ht HA.o)⟩
      case measure=>simp[intOf];omega
    · go_wp2_with fail;go_ret;exact⟨⟨_,rfl,by rw[Jt HX.o ht];simp⟩,Kp.rr⟩
  · have dk:¬(k:Int)<l.length:=by omega
    go_wp2_with fail;go_ret;exact⟨⟨_,rfl,by have:=HA.o;rw[List.take_of_length_le Wg]at this;rw[this];decide⟩,Kp.rr⟩
theorem MZ(w:World)(I:Nat→Prop)(v:Value)(l:List M.Method)(h:SliceOf 8 aG w I v l)(nm:ByteArray):
    Calls Tryz.prog 109 #[v,.string nm] w fun e w'=>AtP l (fun f=>f.name.toList==nm.toList) e∧Ext w w':=by
 obtain⟨a,cap,rfl,hn,dm⟩:=h.form;go_enter Tryz.func109,Tryz.ntmps109;go_wp2_with fail;go_loopw [5] (fun i wr=>∃k:Nat,k≤l.length∧i=.int .i64 k∧wr=w∧Zs ((l.take k).any (fun f=>f.name.toList==nm.toList)=false)) (fun i _=>l.length - (intOf i).toNat)
 case atStart=>exact⟨0,Nat.zero_le _,rfl,rfl,Z3 Wf⟩
 case round =>
  obtain⟨k,hk,rfl,rfl,HA⟩:=hrel;by_cases bY:k<l.length
  · have dk:(k:Int)<l.length:=by omega
    obtain⟨x,hx⟩:∃x,l[k]?=some x:=⟨l[k]'bY,List.getElem?_eq_getElem bY⟩;obtain⟨b',off,cs,rfl,hI,⟨_,_,_,rfl, -, -, -⟩, -,hc⟩:=h.get hx;obtain⟨g0, -⟩:=hc.eight;have gz:=aF g0;have HX:=Z3 hx;clear hx hc;cases ht:(x.name.toList==nm.toList)
    · go_wp2_with fail;go_round
      case rel=>exact⟨k+1,by omega,by go_num,trivial,Z3 (wM HX.o ht HA.o)⟩
      case measure=>simp[intOf];omega
    · go_wp2_with fail;go_ret;exact⟨⟨_,rfl,by rw[Jt HX.o ht];simp⟩,Kp.rr⟩
  · have dk:¬(k:Int)<l.length:=by omega
    go_wp2_with fail;go_ret;exact⟨⟨_,rfl,by have:=HA.o;rw[List.take_of_length_le Wg]at this;rw[this];decide⟩,Kp.rr⟩
theorem Wn(w:World)(I:Nat→Prop)(v v2:Value)(l:List M.Class)(h:SliceOf 4 aP w I v l)(nm:ByteArray):
    Calls Tryz.prog 74 #[.agg #[v,v2],.string nm] w fun e w'=>AtP l (fun f=>f.name.toList==nm.toList) e∧Ext w w':=by
 obtain⟨a,cap,rfl,hn,dm⟩:=h.form;obtain⟨w0,bI,aU,hb⟩:=nu w #[.slice a l.length cap,v2] 33;obtain⟨cz,c0, -⟩:=hb.ca;have⟨H,bM,dO⟩:=bg h aU bI;clear aU hb bI h;go_enter Tryz.func74,Tryz.ntmps74;go_wp2_with fail;rw[←dO.o];go_loopw [5] (fun i wr=>∃k:Nat,k≤l.length∧i=.int .i64 k∧wr=w0∧Zs ((l.take k).any (fun f=>f.name.toList==nm.toList)=false)) (fun i _=>l.length - (intOf i).toNat)
 case atStart=>exact⟨0,Nat.zero_le _,rfl,rfl,Z3 Wf⟩
 case round =>
  obtain⟨k,hk,rfl,rfl,HA⟩:=hrel;by_cases bY:k<l.length
  · have dk:(k:Int)<l.length:=by omega
    obtain⟨x,hx⟩:∃x,l[k]?=some x:=⟨l[k]'bY,List.getElem?_eq_getElem bY⟩;obtain⟨b',off,cs,rfl,hI,⟨_,_,rfl, -, -⟩, -,hc⟩:=H.o.get hx;obtain⟨g0, -⟩:=(hc.ext bM.o).four;have gz:=aF g0;have HX:=Z3 hx;clear hx hc;cases ht:(x.name.toList==nm.toList)
    · go_wp2_with fail;go_round
      case rel=>exact⟨k+1,by omega,by go_num,trivial,Z3 (wM HX.o ht HA.o)⟩
      case measure=>simp[intOf];omega
    · go_wp2_with fail;go_ret;exact⟨⟨_,rfl,by rw[Jt HX.o ht];simp⟩,bM.o⟩
  · have dk:¬(k:Int)<l.length:=by omega
    go_wp2_with fail;go_ret;exact⟨⟨_,rfl,by have:=HA.o;rw[List.take_of_length_le Wg]at this;rw[this];decide⟩,bM.o⟩
def aaB(l:List M.Ask)(nm:ByteArray)(e:Ending):Prop:=∃n:Int,e=.returned (.int .i64 n)∧((∃x∈l,(x.name.toList==nm.toList)=true∧n=x.keeper)∨(l.any (fun f=>f.name.toList==nm.toList)=false∧n= -1))
theorem Sw(w:World)(I:Nat→Prop)(v v2:Value)(l:List M.Ask)(h:SliceOf 2 eu w I v l)(nm:ByteArray):
    Calls Tryz.prog 76 #[.agg #[v2,v],.string nm] w fun e w'=>aaB l nm e∧Ext w w':=by
 obtain⟨a,cap,rfl,hn,dm⟩:=h.form;obtain⟨w0,bI,aU,hb⟩:=nu w #[v2,.slice a l.length cap] 33;obtain⟨cz, -,c0, -⟩:=hb.ca;have⟨H,bM,dO⟩:=bg h aU bI;clear aU hb bI h;go_enter Tryz.func76,Tryz.ntmps76;go_wp2_with fail;rw[←dO.o];go_loopw [5] (fun i wr=>∃k:Nat,k≤l.length∧i=.int .i64 k∧wr=w0∧Zs ((l.take k).any (fun f=>f.name.toList==nm.toList)=false)) (fun i _=>l.length - (intOf i).toNat)
 case atStart=>exact⟨0,Nat.zero_le _,rfl,rfl,Z3 Wf⟩
 case round =>
  obtain⟨k,hk,rfl,rfl,HA⟩:=hrel;by_cases bY:k<l.length
  · have dk:(k:Int)<l.length:=by omega
    obtain⟨x,hx⟩:∃x,l[k]?=some x:=⟨l[k]'bY,List.getElem?_eq_getElem bY⟩;obtain⟨b',off,cs,rfl,hI,rfl, -,hc⟩:=H.o.get hx;obtain⟨g0,g1⟩:=(hc.ext bM.o).two;have gz:=aF g0;have HX:=Z3 hx;clear hx hc;cases ht:(x.name.toList==nm.toList)
    · go_wp2_with fail;go_round
      case rel=>exact⟨k+1,by omega,by go_num,trivial,Z3 (wM HX.o ht HA.o)⟩
      case measure=>simp[intOf];omega
    · go_wp2_with fail;go_ret;exact⟨⟨_,rfl,.inl ⟨x,List.mem_of_getElem? HX.o,ht,rfl⟩⟩,bM.o⟩
  · have dk:¬(k:Int)<l.length:=by omega
    go_wp2_with fail;go_ret;exact⟨⟨_,rfl,.inr ⟨by have:=HA.o;rwa[List.take_of_length_le Wg]at this,rfl⟩⟩,bM.o⟩
theorem kT{s:ByteArray}:decide (s=M.none_)=(s.toList==[]):=by
 rw[←gm];cases s.toList<;>rfl
theorem Sy(k:Int)(s:ByteArray)(w:World):Calls Tryz.prog 185 #[.agg #[.int .i64 k,.string s]] w fun e w'=>e=.returned (.bool (M.nI ⟨k,s⟩))∧Ext w w':=by
 have hv:M.nI ⟨k,s⟩=if k=0∨k=1∨k=3 then(s.toList==[])else if k=2 then M.aT s else false:=by
  unfold M.nI;simp only[kT]
 by_cases h2:k=2
 · subst h2;rw[if_neg Wk,if_pos rfl]at hv;rw[hv];clear hv;go_enter Tryz.func185,Tryz.ntmps185;go_wp2_with (go_at_call 75;refine(di _ _).mono ?_;rintro e w' ⟨rfl,rfl⟩)
   all_goals
    go_ret;exact⟨rfl,kx⟩
 have Hn:(k==2)=false:=beq_eq_false_iff_ne.2 h2;obtain⟨q,hq⟩:∃q,(s.toList==[])=q:=⟨_,rfl⟩;by_cases h0:k=0
 · subst h0;rw[if_pos (.inl rfl),hq]at hv;rw[hv];clear hv Hn;cases q
   all_goals
    go_enter Tryz.func185,Tryz.ntmps185;go_wp2_with fail
    all_goals
     go_ret;exact⟨rfl,kx⟩
 by_cases h1:k=1
 · subst h1;rw[if_pos (.inr (.inl rfl)),hq]at hv;rw[hv];clear hv Hn;cases q
   all_goals
    go_enter Tryz.func185,Tryz.ntmps185;go_wp2_with fail
    all_goals
     go_ret;exact⟨rfl,kx⟩
 by_cases h3:k=3
 · subst h3;rw[if_pos (.inr (.inr rfl)),hq]at hv;rw[hv];clear hv Hn;cases q
   all_goals
    go_enter Tryz.func185,Tryz.ntmps185;go_wp2_with fail
    all_goals
     go_ret;exact⟨rfl,kx⟩
 rw[if_neg Wg,if_neg h2]at hv;rw[hv];clear hv;have X9:(k==0)=false:=beq_eq_false_iff_ne.2 h0;have Ya:(k==1)=false:=beq_eq_false_iff_ne.2 h1;have Tc:(k==3)=false:=beq_eq_false_iff_ne.2 h3;go_enter Tryz.func185,Tryz.ntmps185;go_wp2_with fail
 all_goals
  go_ret;exact⟨rfl,kx⟩
theorem dE(w:World)(I:Nat→Prop)(v:Value)(l:List M.Tag)(h:SliceOf 2 eB w I v l):
    Calls Tryz.prog 168 #[v] w fun e w'=>e=.returned (.bool (l.all M.nI))∧Ext w w':=by
 obtain⟨a,cap,rfl,hn,dm⟩:=h.form;go_enter Tryz.func168,Tryz.ntmps168;go_wp2_with fail;go_loopw [3] (fun i wr=>∃k:Nat,k≤l.length∧i=.int .i64 k∧Ext w wr∧Zs ((l.take k).any (fun x=> !M.nI x)=false)) (fun i _=>l.length - (intOf i).toNat)
 case atStart=>exact⟨0,Nat.zero_le _,rfl,Kp.rr,Z3 Wf⟩
 case round =>
  obtain⟨k,hk,rfl,hE,HA⟩:=hrel;have HE:=Z3 hE;by_cases bY:k<l.length
  · have dk:(k:Int)<l.length:=by omega
    obtain⟨x,hx⟩:∃x,l[k]?=some x:=⟨l[k]'bY,List.getElem?_eq_getElem bY⟩;obtain⟨b',off,cs,rfl,hI,rfl, -,hc⟩:=h.get hx;obtain⟨g0,g1⟩:=(hc.ext hE).two;have gz:=aF g0;have HX:=Z3 hx;clear hx hc hE;go_wp2_with fail;refine(Sy x.kind x.name _).mono ?_;rintro e w2 ⟨rfl,bZ⟩;have gL:=Z3 (HE.o.trans bZ);clear bZ;cases ht:M.nI x
    · go_wp2_with fail;go_ret;exact⟨af (by
       rw[Bool.eq_iff_iff,List.all_eq_true];exact⟨fun e=>(by cases e),fun e=>by rw[e x (List.mem_of_getElem? HX.o)]at ht;cases ht⟩),gL.o⟩
    · go_wp2_with fail;go_round
      case rel=>exact⟨k+1,by omega,by go_num,gL.o,Z3 (wM HX.o (by rw[ht];rfl) HA.o)⟩
      case measure=>simp[intOf];omega
  · have dk:¬(k:Int)<l.length:=by omega
    go_wp2_with fail;go_ret;exact⟨af (by
     have:=HA.o;rw[List.take_of_length_le Wg,List.any_eq_false]at this;symm;rw[List.all_eq_true];intro x hx;simpa using this x hx),HE.o⟩
def dG{α:Type}(R:iJ α)(w:World)(I:Nat→Prop):List α→List (List Value)→Prop
 |[],[]=>True
 |x::xs,c::cs=>R w I x c∧dG R w I xs cs
 |_,_=>False
theorem dG.get{α:Type}{R:iJ α}{w:World}{I:Nat→Prop}:∀{xs:List α} {css:List (List Value)},dG R w I xs css→∀(i:Nat) (x:α),xs[i]?=some x→∃c,css[i]?=some c∧R w I x c
 |[],[],_,i,x,h=>by simp at h
 |y::xs,c::cs,h,0,x,hx=>by
  simp at hx;subst hx;exact⟨c,rfl,h.1⟩
 |y::xs,c::cs,h,i+1,x,hx=>by
  obtain⟨c',h1,h2⟩:=dG.get h.2 i x (by simpa using hx);exact⟨c',by simpa using h1,h2⟩
 |[],_::_,h,_,_,_=>h.elim
 |_::_,[],h,_,_,_=>h.elim
theorem Fg{k:Nat}:∀{css:List (List Value)},(∀c∈css,c.length=k)→∀(i:Nat) (c:List Value),css[i]?=some c→∀(j:Nat) (u:Value),c[j]?=some u→css.flatten[i*k+j]?=some u
 |[],_,i,c,h,_,_,_=>by simp at h
 |d::r,hk,0,c,h,j,u,hu=>by
  simp at h;subst h;rw[List.flatten_cons,List.getElem?_append_left (by have:=(List.getElem?_eq_some_iff.1 hu).1;omega)];simpa using hu
 |d::r,hk,i+1,c,h,j,u,hu=>by
  have hd:=hk d Wf;rw[List.flatten_cons,List.getElem?_append_right (by rw[hd,Nat.succ_mul];omega)];have:=Fg (fun c hc=>hk c (List.mem_cons_of_mem _ hc)) i c (by simpa using h) j u hu;rw[hd,show(i+1)*k+j - k=i*k+j by rw[Nat.succ_mul];omega];exact this
theorem SliceOf.row{α:Type}{k:Nat}{R:iJ α}{w:World}{I:Nat→Prop}{g:Nat}{xs:List α}(css:List (List Value)){cells:List Value}(hc:ae w g 0 cells)(he:cells=css.flatten)(hk:∀c∈css,c.length=k)
    (hR:dG R w I xs css) (hI:I g) {cap:Nat} (dm:xs.length≤cap) (hn:xs.length≤4294967296):SliceOf k R w I (.slice (some ⟨g,0,none⟩) xs.length cap) xs:=
 ⟨_,cap,rfl,dm,hn,fun i x hx=>by
  obtain⟨c,hci,hr⟩:=hR.get i x hx;refine⟨g,0,c,rfl,hI,hr,hk c (List.mem_of_getElem? hci),fun j u hj=>?_⟩;have:=hc _ _ (by rw[he];exact Fg hk i c hci j u hj);simpa [Nat.add_assoc]using this⟩
theorem SliceOf.css{α:Type}{k:Nat}{R:iJ α}{w:World}{I:Nat→Prop}{v:Value}:∀{xs:List α},SliceOf k R w I v xs→∃css:List (List Value),css.length=xs.length∧(∀c∈css,c.length=k)∧dG R w I xs css∧
    ∀(ad:Addr) (n c:Nat),v=.slice (some ad) n c→∀(i:Nat) (c:List Value),css[i]?=some c→∃b off,ad=⟨b,off,none⟩∧I b∧ae w b (off+i*k) c:=by
 intro xs h;obtain⟨a,cap,rfl,h1,h2,h3⟩:=h;have main:∀(ys:List α) (s:Nat),(∀(i:Nat) (x:α),ys[i]?=some x→∃b off cs,a=some ⟨b,off,none⟩∧I b∧R w I x cs∧cs.length=k∧ae w b (off+(s+i)*k) cs)→
     ∃css:List (List Value),css.length=ys.length∧(∀c∈css,c.length=k)∧dG R w I ys css∧∀(i:Nat) (c:List Value),css[i]?=some c→∃b off,a=some ⟨b,off,none⟩∧I b∧ae w b (off+(s+i)*k) c:=by
  intro ys;induction ys with
  |nil=>exact fun s _=>⟨[],rfl,by simp,trivial,fun i c h=>by simp at h⟩
  | cons y r ih =>
   intro s h;obtain⟨css,e1,e2,e3,e4⟩:=ih (s+1) (fun i x hx=>by
    obtain⟨b,off,cs,ea,hI,hr,hl,hc⟩:=h (i+1) x (by simpa using hx);exact⟨b,off,cs,ea,hI,hr,hl,by rw[show s+1+i=s+(i+1) by omega];exact hc⟩)
   obtain⟨b,off,cs,ea,hI,hr,hl,hc⟩:=h 0 y rfl;refine⟨cs::css,by simp[e1],fun c Bl=>(List.mem_cons.1 Bl).elim (fun e=>by rw[e];exact hl) (e2 c),⟨hr,e3⟩,fun i c hi=>?_⟩;cases i with
   |zero=>simp at hi;subst hi;exact⟨b,off,ea,hI,hc⟩
   |succ i=>
    obtain⟨b',off',ea',Yn,Bl⟩:=e4 i c (by simpa using hi);exact⟨b',off',ea',Yn,by rw[show s+(i+1)=s+1+i by omega];exact Bl⟩
 obtain⟨css,e1,e2,e3,e4⟩:=main xs 0 (fun i x hx=>by simpa using h3 i x hx);refine⟨css,e1,e2,e3,fun ad n c hv i d hd=>?_⟩;cases hv;obtain⟨b,off,ea,hI,hc⟩:=e4 i d hd;cases ea;exact⟨b,off,rfl,hI,by simpa using hc⟩
theorem dG.snoc{α:Type}{R:iJ α}{w:World}{I:Nat→Prop}{x:α}{c:List Value}:∀{xs:List α} {css:List (List Value)},dG R w I xs css→R w I x c→dG R w I (xs++[x]) (css++[c])
 |[],[],_,h=>⟨h,trivial⟩
 |_::_,_::_,h,hx=>⟨h.1,dG.snoc h.2 hx⟩
 |[],_::_,h,_=>h.elim
 |_::_,[],h,_=>h.elim
theorem dG.keep{α:Type}{R:iJ α}(hR:bQ R){w w':World}{I J:Nat→Prop}(hs:Same I w w')(WU:∀b,I b→J b):∀{xs:List α} {css:List (List Value)},dG R w I xs css→dG R w' J xs css
 |[],[],_=>trivial
 |_::_,_::_,h=>⟨hR _ _ _ _ _ _ hs WU h.1,dG.keep hR hs WU h.2⟩
 |[],_::_,h=>h.elim
 |_::_,[],h=>h.elim
theorem SliceOf.inside{α:Type}{k:Nat}{R:iJ α}(hR:∀w I x cs,R w I x cs→R w (fun b=>I b∧b<w.heap.size) x cs)(hk:0<k){w:World}{I:Nat→Prop}{v:Value}{xs:List α}(h:SliceOf k R w I v xs):SliceOf k R w (fun b=>I b∧b<w.heap.size) v xs:=by
 obtain⟨a,cap,e,h1,h2,h3⟩:=h;refine⟨a,cap,e,h1,h2,fun i x hx=>?_⟩;obtain⟨b,off,cs,ea,hI,hr,hl,hc⟩:=h3 i x hx;have bY:b<w.heap.size:=by
  cases cs with
  |nil=>simp at hl;omega
  |cons u r=>exact aF (hc 0 u rfl)
 exact⟨b,off,cs,ea,⟨hI,bY⟩,hR _ _ _ _ hr,hl,hc⟩
theorem E8{k:Nat}:∀{css:List (List Value)},(∀c∈css,c.length=k)→css.flatten.length=css.length*k
 |[],_=>by simp
 |c::r,h=>by
  rw[List.flatten_cons,List.length_append,E8 (fun c hc=>h c (List.mem_cons_of_mem _ hc)),h c Wf,List.length_cons,Nat.succ_mul];omega
theorem IA{k:Nat}(hk:0<k):∀{css:List (List Value)},(∀c∈css,c.length=k)→∀j u,css.flatten[j]?=some u→∃i r c,css[i]?=some c∧c[r]?=some u∧j=i*k+r
 |[],_,j,u,h=>by simp at h
 |c::t,h,j,u,hu=>by
  have hc:=h c Wf;rw[List.flatten_cons]at hu;rcases Nat.lt_or_ge j c.length with hj|hj
  · rw[List.getElem?_append_left hj]at hu;exact⟨0,j,c,rfl,hu,by omega⟩
  · rw[List.getElem?_append_right hj]at hu;obtain⟨i,r,d,h1,h2,h3⟩:=IA hk (fun c hc=>h c (List.mem_cons_of_mem _ hc)) _ _ hu;exact⟨i+1,r,d,by simpa using h1,h2,by rw[Nat.succ_mul];omega⟩
def One{α:Type}(R:iJ α):Prop:=∀w I x cs,R w I x cs→∀u∈cs,u.oneCell'=true
theorem One.ins:One tZ:=fun _ _ _ _ h u hu=>by subst h;simp at hu;rcases hu with rfl|rfl|rfl|rfl<;>rfl
theorem One.ask:One eu:=fun _ _ _ _ h u hu=>by subst h;simp at hu;rcases hu with rfl|rfl<;>rfl
theorem One.field:One eF:=fun _ _ _ _ h u hu=>by subst h;simp at hu;rcases hu with rfl|rfl|rfl<;>rfl
theorem One.smap:One gY:=fun _ _ _ _ h u hu=>by obtain⟨_,_,_,_,rfl⟩:=h.form;simp at hu;rcases hu with rfl|rfl|rfl<;>rfl
theorem One.aeU:One aG:=fun _ _ _ _ h u hu=>by obtain⟨_,_,_,_,_,_,rfl⟩:=h.form;simp at hu;rcases hu with rfl|rfl|rfl|rfl|rfl|rfl|rfl|rfl<;>rfl
theorem One.cls:One aP:=fun _ _ _ _ h u hu=>by obtain⟨_,_,_,_,rfl⟩:=h.form;simp at hu;rcases hu with rfl|rfl|rfl|rfl<;>rfl
theorem One.keep:One aB:=fun _ _ _ _ h u hu=>by obtain⟨_,_,_,_,rfl⟩:=h.form;simp at hu;rcases hu with rfl|rfl<;>rfl
theorem dG.one{α:Type}{R:iJ α}(o:One R){w:World}{I:Nat→Prop}:∀{xs:List α} {css:List (List Value)},dG R w I xs css→∀u∈css.flatten,u.oneCell'=true
 |[],[],_=>by simp
 |_::_,c::css,h=>by
  intro u hu;rw[List.flatten_cons,List.mem_append]at hu;rcases hu with hu|hu
  · exact o _ _ _ _ h.1 u hu
  · exact dG.one o h.2 u hu
 |[],_::_,h=>h.elim
 |_::_,[],h=>h.elim
theorem dG.len{α:Type}{R:iJ α}{w:World}{I:Nat→Prop}:∀{xs:List α} {css:List (List Value)},dG R w I xs css→css.length=xs.length
 |[],[],_=>rfl
 |_::_,_::_,h=>by rw[List.length_cons,List.length_cons,dG.len h.2]
 |[],_::_,h=>h.elim
 |_::_,[],h=>h.elim
theorem dG.app{α:Type}{R:iJ α}{w:World}{I:Nat→Prop}{ys:List α}{zT:List (List Value)}:∀{xs:List α} {css:List (List Value)},dG R w I xs css→dG R w I ys zT→dG R w I (xs++ys) (css++zT)
 |[],[],_,h=>h
 |_::_,_::_,h,hx=>⟨h.1,dG.app h.2 hx⟩
 |[],_::_,h,_=>h.elim
 |_::_,[],h,_=>h.elim
theorem SliceOf.cells{α:Type}{k:Nat}{R:iJ α}(o:One R)(hk:0<k){w:World}{I:Nat→Prop}{a:Option Addr}{n c:Nat}{xs:List α}(h:SliceOf k R w I (.slice a n c) xs):
    ∃css,(∀c∈css,c.length=k)∧dG R w I xs css∧Flat w k (.slice a n c) n css.flatten:=by
 obtain⟨css,h1,h2,h3,h4⟩:=h.css;have hh:=h;obtain⟨a',cap,e, -, -,h5⟩:=hh;cases e;refine⟨css,h2,h3,by rw[E8 h2,h1],⟨_,_,rfl,fun e=>?_,fun ad' e j u hu=>?_⟩,h3.one o⟩
 · cases xs with
   |nil=>rfl
   |cons x r=>obtain⟨_,_,_,e2,_⟩:=h5 0 x rfl;rw[e]at e2;cases e2
 · subst e;obtain⟨i,r,d,e1,e2,rfl⟩:=IA hk h2 j u hu;obtain⟨b,off,rfl, -,hc⟩:=h4 ad' _ _ rfl i d e1;have:=hc r u e2;unfold Addr.add;split
   · rename_i h0;have e3:i*k=0:=by omega
     have e4:r=0:=by omega
     rw[e3,e4]at this;exact this
   · simpa [Nat.add_assoc]using this
theorem dG.at_{α:Type}{R:iJ α}{w:World}{I:Nat→Prop}{xs:List α}{css:List (List Value)}(h:dG R w I xs css){J:Nat→Prop}{w':World}(hR:bQ R)(hs:Same I w w')(WU:∀b,I b→J b):dG R w' J xs css:=h.keep hR hs WU
theorem SliceOf.owned{α:Type}{k:Nat}{R:iJ α}{w:World}{I:Nat→Prop}{base e n:Nat}{v:Value}{css:List (List Value)}{xs:List α}(dY:w.ownsRow base e k v n css.flatten)(hk:∀c∈css,c.length=k)(zB:0<k)
    (hR:dG R w I xs css) (hI:∀b,base≤b→b<w.heap.size→I b) (hlen:xs.length≤4294967296):SliceOf k R w I v xs:=by
 have hn:n=xs.length:=by
  have:=dY.1;rw[E8 hk,hR.len]at this;exact(Nat.eq_of_mul_eq_mul_right zB this).symm
 subst hn;rcases dY.2 with⟨rfl,h0⟩|⟨g,cap,cur,rfl,hg,hb,hle,_,kv,Xh⟩
 · have:xs=[]:=List.length_eq_zero_iff.1 h0;subst this;exact SliceOf.nil _ _ _ _
 · refine SliceOf.row css (g:=g) (cells:=css.flatten) (fun j u hj=>?_) rfl hk hR (hI g hg (Array.getElem?_eq_some_iff.1 hb).1) hle hlen;rw[←Xh,List.getElem?_take]at hj;split at hj
   · simp only[World.cell?,hb];simpa [Nat.zero_add]using hj
   · cases hj
theorem Bf{t e k:Nat}(E:Elem t e k)(w:World){ops:Array Oper}{rest:List Oper}{o:Oper}{a:Act}{Q:Exit→Act→World→Prop}(IU:o.guard=none)(s x:Operand)
    (ho:o.op=.call {callee:=.builtin .append,args:=#[s,x],argTypes:=#[t,t]}) {base n c:Nat} {v:Value} {xs:List Value} (hs:a.eval s=v) (dY:w.ownsRow base e k v n xs) (hx:a.eval x=.slice none 0 c)
    (h:wpList Tryz.prog ops Q rest (a.put o.dst v) w):wpList Tryz.prog ops Q (o::rest) a w:=by
 obtain⟨i,z,bytes,ht,hi,hz,kv,Rj,Rt,hk,hb⟩:=E;refine wpList_plain IU fun K hK=>?_;have hr:(Builtin.append_ #[t,t] o.type #[v,.slice none 0 c]).run Tryz.prog w=.ok v w:=by
  rcases dY.2 with⟨rfl,rfl⟩|⟨g,cap,cur,rfl,hg,Qk,hle,_⟩
  · simp[Builtin.append_,underlying,ht,sizeOf,typeInfo,hi,Sem.run_bind,Builtin.lenOf,Builtin.firstCells]
  · simp[Builtin.append_,underlying,ht,sizeOf,typeInfo,hi,Sem.run_bind,Builtin.lenOf,Builtin.firstCells,hle,storeCells]
 unfold Oper.wp execOp;simp only[ho,resolve,invoke,builtin,Sem.run_bind,Sem.run_pure,Result.andThen_ok,List.map_toArray,List.map_cons,List.map_nil,hs,hx,hr];exact hK _ _ h
theorem aN{t e k:Nat}(E:Elem t e k)(w:World){ops:Array Oper}{rest:List Oper}{o:Oper}{a:Act}{Q:Exit→Act→World→Prop}(IU:o.guard=none)(s x:Operand)
    (ho:o.op=.call {callee:=.builtin .append,args:=#[s,x],argTypes:=#[t,t]}) (base:Nat) (v:Value) (n:Nat) (xs:List Value) (hs:a.eval s=v) (dY:w.ownsRow base e k v n xs)
    (ad:Option Addr) (m c:Nat) (news:List Value) (hx:a.eval x=.slice ad m c) (hf:Flat w k (.slice ad m c) m news)
    (hn:n+m≤8589934592) (kF:base≤w.heap.size)
    (h:∀v' w',w'.ownsRow base e k v' (n+m) (xs++news)→Kp (fun b=>v.ownBlock=some b) w w'→wpList Tryz.prog ops Q rest (a.put o.dst v') w'):
    wpList Tryz.prog ops Q (o::rest) a w:=by
 cases ad with
 |some ad=>exact jb E w IU s x ho base v n xs hs dY ad m c news hx hf hn kF h
 |none=>
  obtain⟨f1,⟨a1,c1,e1,f2, -⟩, -⟩:=hf;cases e1;have hm:=f2 rfl;subst hm;have Rn:news=[]:=List.length_eq_zero_iff.1 (by rw[f1,Nat.zero_mul]);subst Rn;refine Bf E w IU s x ho hs dY hx (h v w (by simpa using dY) Kp.rr)
inductive MT where
 |fin (q:List Nat)
 |one (q:List Nat) (i:Nat) (t:MT)
 |two (q:List Nat) (i j:Nat) (ti tj:MT)
def MT.cost:MT→Nat
 | .fin q=>q.length
 | .one q _ t=>q.length+1+t.cost
 | .two q _ _ ti _=>q.length+1+ti.cost
def MT.ok(md:Region.Mode)(ops:Array Oper)(n:Nat):MT→Array Bool→Bool
 | .fin q,listed=>match Tt md ops n q listed with
  |some L=>Region.seqB md ops (ops.size - n) n L
  |none=>false
 | .one q i t,listed=>match Tt md ops n q listed with
  |some L=>decide (Region.ready md ops L=[i])&&decide (i<n)&&t.ok md ops n (L.setIfInBounds i true)
  |none=>false
 | .two q i j ti tj,listed=>match Tt md ops n q listed with
  |some L=>decide (Region.ready md ops L=[i,j])&&decide (i<n)&&decide (j<n)&&decide (tj.cost=ti.cost)&&ti.ok md ops n (L.setIfInBounds i true)&&tj.ok md ops n (L.setIfInBounds j true)
  |none=>false
def Uu(ops:Array Oper)(n:Nat)(t:MT):Bool:=
 Region.noSelect ops&&A9 .any ops n&&decide (t.cost=n)&&decide (n≤ops.size)&&t.ok .any ops n (Array.replicate ops.size false)
def Ez(P:Program)(l:List Oper)(C:World→Prop)(Q:Exit→Act→World→Prop)(fin:Act→World→Prop):MT→Act→World→Prop
 | .fin q,a,w=>wpQuiet P l.toArray C (fun a'=>fin a' w) (q.filterMap (l[·]?)) a
 | .one q i t,a,w=>wpQuiet P l.toArray C (fun a'=>wpList P l.toArray (Exit.then (fun a'' w'=>C w'∧Ez P l C Q fin t a'' w') Q) (l[i]?).toList a' w) (q.filterMap (l[·]?)) a
 | .two q i j ti tj,a,w=>wpQuiet P l.toArray C (fun a'=>wpList P l.toArray (Exit.then (fun a'' w'=>C w'∧Ez P l C Q fin ti a'' w') Q) (l[i]?).toList a' w∧wpList P l.toArray (Exit.then (fun a'' w'=>C w'∧Ez P l C Q fin tj a'' w') Q) (l[j]?).toList a' w) (q.filterMap (l[·]?)) a
section
variable {P:Program} {ops:Array Oper} {md:Region.Mode} {Q:Exit→Act→World→Prop} {C:World→Prop} {n:Nat}
theorem Cn{l:List Oper}{L:Array Bool}{j:Nat}{a:Act}{w:World}{K K':Act→World→Prop}(hr:j∈Region.ready md l.toArray L)
    (hk:wpList P l.toArray (Exit.then K Q) (l[j]?).toList a w) (step:∀a'' w',K a'' w'→K' a'' w'):wpOp P l.toArray Q j K' a w:=by
 cases Hz:l[j]? with
 |none=>
  exfalso;obtain⟨_,o,ho,_⟩:=mem_ready.1 hr;simp[Hz]at ho
 |some o=>
  rw[Hz]at hk;simp only[Option.toList,wpList]at hk;unfold wpOp;have FD:l.toArray[j]?=some o:=by simpa using Hz
  simp only[FD];split
  · rename_i hw;rw[if_pos hw]at hk;rcases hk with hk|hk
    · left;exact Oper.wp_mono (fun a'' w' h'=>step a'' w' h') (QG hk)
    · right;exact hk
  · rename_i hw;rw[if_neg hw]at hk;exact step _ _ hk
theorem uU{l:List Oper}(hs:Region.noSelect l.toArray=true)(ht:A9 md l.toArray n=true)(hQ:∀c a d v w,Q (.panic c) (a.put d v) w→Q (.panic c) a w)(hn:n≤l.length):∀(t:MT) (listed:Array Bool) (a:Act) (w:World),C w→
    t.ok md l.toArray n listed=true→Ez P l C Q (fun a' w'=>wpList P l.toArray Q (l.drop n) a' w') t a w→rV P md l.toArray n C Q ((l.length - n)+t.cost) listed a w
 | .fin q',listed,a,w,hC,hB,h=>by
  unfold MT.ok at hB;split at hB
  · rename_i L hL;refine mM hs ht hQ hC _ L (fun a' hk=>?_) q' listed a hL h;have:=zL (md:=md) (C:=C) (l:=l) (l.drop n) n L a' w (Nat.le_refl _) (fun j=>by simp[List.getElem?_drop]) (by simpa using hB) hk;simpa using this
  · cases hB
 | .one q i t,listed,a,w,hC,hB,h=>by
  unfold MT.ok at hB;split at hB
  · rename_i L hL;simp only[Bool.and_eq_true,decide_eq_true_eq]at hB;obtain⟨⟨hr,DU⟩,hB⟩:=hB;have e:l.length - n+(MT.one q i t).cost=((l.length - n+t.cost)+1)+q.length:=by simp[MT.cost];omega
    rw[e];refine mM hs ht hQ hC _ L (fun a' hk=>?_) q listed a hL h;refine⟨fun h1=>(by rw[hr]at h1;cases h1),fun j hj=>?_⟩;have FB:j=i:=by rw[hr]at hj;simpa using hj
    subst FB;exact Cn hj hk fun a'' w' h3=>⟨fun _=>h3.1,uU hs ht hQ hn t _ a'' w' h3.1 hB h3.2⟩
  · cases hB
 | .two q i j ti tj,listed,a,w,hC,hB,h=>by
  unfold MT.ok at hB;split at hB
  · rename_i L hL;simp only[Bool.and_eq_true,decide_eq_true_eq]at hB;obtain⟨⟨⟨⟨⟨hr,DU⟩,hjn⟩,hc⟩,hB1⟩,hB2⟩:=hB;have e:l.length - n+(MT.two q i j ti tj).cost=((l.length - n+ti.cost)+1)+q.length:=by simp[MT.cost];omega
    rw[e];refine mM hs ht hQ hC _ L (fun a' hk=>?_) q listed a hL h;refine⟨fun h1=>(by rw[hr]at h1;cases h1),fun x hx=>?_⟩;have hx':x=i∨x=j:=by rw[hr]at hx;simpa using hx
    rcases hx' with rfl|rfl
    · exact Cn hx hk.1 fun a'' w' h3=>⟨fun _=>h3.1,uU hs ht hQ hn ti _ a'' w' h3.1 hB1 h3.2⟩
    · rw[←hc];exact Cn hx hk.2 fun a'' w' h3=>⟨fun _=>h3.1,uU hs ht hQ hn tj _ a'' w' h3.1 hB2 h3.2⟩
  · cases hB
end
section
variable {P:Program} {l:List Oper} {C:World→Prop} {Q:Exit→Act→World→Prop} {fin:Act→World→Prop} {q:List Nat} {i j:Nat} {t ti tj:MT} {a:Act} {w:World} {qs os oj:List Oper}
theorem Za(he:q.filterMap (l[·]?)=qs)(h:∀K:Act→Prop,(∀a',fin a' w→K a')→wpQuiet P l.toArray C K qs a):Ez P l C Q fin (.fin q) a w:=by
 subst he;exact h _ fun _ h=>h
theorem Zb(he:q.filterMap (l[·]?)=qs)(ho:(l[i]?).toList=os)
    (h:∀K:Act→Prop,(∀a',(∀K2:Act→World→Prop,(∀a'' w',C w'→Ez P l C Q fin t a'' w'→K2 a'' w')→wpList P l.toArray (Exit.then K2 Q) os a' w)→K a')→wpQuiet P l.toArray C K qs a):Ez P l C Q fin (.one q i t) a w:=by
 subst he ho;refine h _ fun a' h2=>?_;exact h2 _ fun _ _ h3 h4=>⟨h3,h4⟩
theorem Zc(he:q.filterMap (l[·]?)=qs)(ho:(l[i]?).toList=os)(hj:(l[j]?).toList=oj)
    (h:∀K:Act→Prop,(∀a',(∀K2:Act→World→Prop,(∀a'' w',C w'→Ez P l C Q fin ti a'' w'→K2 a'' w')→wpList P l.toArray (Exit.then K2 Q) os a' w)→(∀K2:Act→World→Prop,(∀a'' w',C w'→Ez P l C Q fin tj a'' w'→K2 a'' w')→wpList P l.toArray (Exit.then K2 Q) oj a' w)→K a')→wpQuiet P l.toArray C K qs a):Ez P l C Q fin (.two q i j ti tj) a w:=by
 subst he ho hj;refine h _ fun a' h2 h5=>?_;exact⟨h2 _ fun _ _ h3 h4=>⟨h3,h4⟩,h5 _ fun _ _ h3 h4=>⟨h3,h4⟩⟩
end
theorem Dq{P:Program}{id:Nat}{Q:Exit→Act→World→Prop}{a:Act}{w:World}{l:List Oper}{T:Type}(f:T→World)(n:Nat)(t:MT)(h0:∃s,w.drew=f s)(hm:P.follows .mixedOrders=true)(hB:Uu l.toArray n t=true)
    (hQ:∀c a d v w,Q (.panic c) (a.put d v) w→Q (.panic c) a w)
    (h:Ez P l (fun w'=>∃s,w'=f s) Q (fun a' w'=>wpList P l.toArray Q (l.drop n) a' w') t a w.drew):(Code.region id l.toArray true).wp P Q a w:=by
 unfold Uu at hB;simp only[Bool.and_eq_true,decide_eq_true_eq]at hB;obtain⟨⟨⟨⟨h1,h2⟩,h3⟩,h4⟩,h5⟩:=hB;refine wp_region_any hm (zO (C:=fun w'=>∃s,w'=f s) (n:=n) _ _ _ _ ?_);have:=uU (C:=fun w'=>∃s,w'=f s) (md:=.any) h1 h2 hQ (by simpa using h4) t _ a w.drew h0 h5 h;have e:l.length - n+t.cost=l.toArray.size:=by
  have:n≤l.length:=by simpa using h4
  simp;omega
 rw[e]at this;exact this
section
variable {P:Program} {l:List Oper} {C:World→Prop} {Q:Exit→Act→World→Prop} {fin:Act→World→Prop} {q:List Nat} {i j:Nat} {t ti tj:MT} {a:Act} {w:World} {o o2:Oper}
theorem M6(qs:List Oper)(he:q.filterMap (l[·]?)=qs)(ho:(l[i]?).toList=[o])(h:∀K:Act→Prop,(∀a',(∀K2:Act→World→Prop,(∀a'' w',C w'→Ez P l C Q fin t a'' w'→K2 a'' w')→wpList P l.toArray (Exit.then K2 Q) [o] a' w)→K a')→wpQuiet P l.toArray C K qs a):Ez P l C Q fin (.one q i t) a w:=Zb he ho h
theorem aX(ho:(l[i]?).toList=[o])(h:∀K2:Act→World→Prop,(∀a'' w',C w'→Ez P l C Q fin t a'' w'→K2 a'' w')→wpList P l.toArray (Exit.then K2 Q) [o] a w):Ez P l C Q fin (.one [] i t) a w:=M6 [] rfl ho fun _ hK=>qn hK h
theorem Du(qs:List Oper)(he:q.filterMap (l[·]?)=qs)(h:∀K:Act→Prop,(∀a',fin a' w→K a')→wpQuiet P l.toArray C K qs a):Ez P l C Q fin (.fin q) a w:=Za he h
theorem bU(h:fin a w):Ez P l C Q fin (.fin []) a w:=Du [] rfl fun _ hK=>qn hK h
theorem two(qs:List Oper)(he:q.filterMap (l[·]?)=qs)(ho:(l[i]?).toList=[o])(hj:(l[j]?).toList=[o2])(h:∀K:Act→Prop,(∀a',(∀K2:Act→World→Prop,(∀a'' w',C w'→Ez P l C Q fin ti a'' w'→K2 a'' w')→wpList P l.toArray (Exit.then K2 Q) [o] a' w)→(∀K2:Act→World→Prop,(∀a'' w',C w'→Ez P l C Q fin tj a'' w'→K2 a'' w')→wpList P l.toArray (Exit.then K2 Q) [o2] a' w)→K a')→wpQuiet P l.toArray C K qs a):Ez P l C Q fin (.two q i j ti tj) a w:=Zc he ho hj h
theorem vW(ho:(l[i]?).toList=[o])(hj:(l[j]?).toList=[o2])(h:(∀K2:Act→World→Prop,(∀a'' w',C w'→Ez P l C Q fin ti a'' w'→K2 a'' w')→wpList P l.toArray (Exit.then K2 Q) [o] a w))(h2:(∀K2:Act→World→Prop,(∀a'' w',C w'→Ez P l C Q fin tj a'' w'→K2 a'' w')→wpList P l.toArray (Exit.then K2 Q) [o2] a w)):Ez P l C Q fin (.two [] i j ti tj) a w:=two [] rfl ho hj fun _ hK=>Gj hK h h2
end
theorem lN{P:Program}{id:Nat}{Q:Exit→Act→World→Prop}{a:Act}{w:World}{l:List Oper}{C:World→Prop}{T:Type}{f:T→World}(H:Zs (iN C T f))(n:Nat)(t:MT)(h0:C w.drew)
    (h:Ez P l (fun w'=>∃s,w'=f s) Q (fun a' w'=>wpList P l.toArray Q (l.drop n) a' w') t a w.drew) (hm:P.follows .mixedOrders=true:=by kernel_rfl) (hB:Uu l.toArray n t=true:=by kernel_rfl)
    (hQ:∀c a d v w,Q (.panic c) (a.put d v) w→Q (.panic c) a w:=by exact fun _ _ d _ _ h=>by cases d<;>exact h):(Code.region id l.toArray true).wp P Q a w:=Dq f n t (H.o.o _ h0) hm hB hQ h
theorem Ey{P G:Prop}(hX:G)(h:Zs G→P:=by(intro HX;(first|refine M6 [_] rfl rfl fun K hK=>?_|refine M6 [_,_] rfl rfl fun K hK=>?_|refine M6 [_,_,_] rfl rfl fun K hK=>?_|refine M6 [_,_,_,_] rfl rfl fun K hK=>?_|refine M6 [_,_,_,_,_] rfl rfl fun K hK=>?_|refine M6 [_,_,_,_,_,_] rfl rfl fun K hK=>?_|refine M6 [_,_,_,_,_,_,_] rfl rfl fun K hK=>?_);(repeat (go_big_quiet_step (fail)));exact qn hK HX.o)):P:=h (Z3 hX)
end Go.Proofs.YtkmclfpjpajjeaaGreat
