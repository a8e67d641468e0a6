/- Walks. -/
import Derived.Test.YtohpiobncgafeaaGreatDoorLnkl
import Derived.Laws.CopyOwn
set_option maxRecDepth 100000
set_option maxHeartbeats 4000000
set_option linter.unusedSimpArgs false
set_option linter.unusedVariables false
namespace Go.Proofs.YtohpiobncgafeaaGreatDoor
open Go Go.RowKit
def WI(Q:Exit→Act→World→Prop):Exit→Act→World→Prop
 | .panic _,_,_=>False
 |e,a,w=>Q e a w
theorem qK{P:Program}{id:Nat}{Q:Exit→Act→World→Prop}{a:Act}{w:World}{l:List Oper}{T:Type}(f:T→World)(n:Nat)(iY:List (List Nat×Nat))(q:List Nat)(h0:∃s,w.drew=f s)(hm:P.follows .mixedOrders=true)(hB:yx l.toArray n iY q=true)
    (h:kW P l (fun w'=>∃s,w'=f s) (WI Q) (fun a' w'=>wpList P l.toArray (WI Q) (l.drop n) a' w') iY q a w.drew):(Code.region id l.toArray true).wp P Q a w:=
 Code.wp_mono (Q:=WI Q) (fun e _ _ h=>by cases e<;>first|exact h|exact h.elim) (oP f n iY q h0 hm hB (fun _ _ _ _ _ h=>h) h)
theorem Kc{n:Nat}(h:n≤6):(madeCells (Value.agg #[.int .i64 0,.string ⟨#[]⟩]).cells (n*2)).toList=(List.replicate n M.zP).flatMap gZ:=by
 have:n=0∨n=1∨n=2∨n=3∨n=4∨n=5∨n=6:=by omega
 rcases this with rfl|rfl|rfl|rfl|rfl|rfl|rfl<;>(show _=_;kernel_rfl)
theorem Fp{t e k:Nat}(E:Elem t e k){z:Value}(G5:(Tryz.prog.info? e).map (·.zero)=some (some z))(w:World){ops:Array Oper}{rest:List Oper}{o:Oper}{a:Act}{Q:Exit→Act→World→Prop}(JI:o.guard=none)(x y:Operand)(ho:o.op=Op.makeSlice t x y)
    (base n:Nat) (hx:a.eval x=.int .i64 n) (hy:a.eval y=.int .i64 n) (hn:n≤1000) (qo:base≤w.heap.size)
    (h:∀w',w'.ownsRow base e k (.slice (some ⟨w.heap.size,0,none⟩) n n) n (madeCells z.cells (n*k)).toList→Ext w w'→w.heap.size<w'.heap.size→wpList Tryz.prog ops Q rest (a.put o.dst (.slice (some ⟨w.heap.size,0,none⟩) n n)) w'):wpList Tryz.prog ops Q (o::rest) a w:=by
 obtain⟨i,z',bytes,ht,hi,hz,qx,KW,K5,hk,hb⟩:=E;rw[hi]at G5;simp only[Option.map_some,Option.some.injEq]at G5;rw[G5]at hz;cases hz;refine wpList_make_full w JI x y t ho base e i z k ht hi G5 qx .i64 .i64 n n n hx hy rfl rfl ?_ (by unfold maxLen;omega) qo ?_
 · have:i.bytes*n≤4096*1000:=Nat.mul_le_mul (by omega) hn;omega
 · intro w' h2 h3;refine h w' h2 ⟨h3.os,h3.tape,h3.output,h3.size,fun k hk hd=>h3.block k hk (by simp)⟩ (h2.lt w.heap.size rfl).2
theorem LA.low{W W':World}{S S':Nat}{v vl vs:Value}{known:List M.gB}{cs:List (Value×Value)}{D:Nat→Prop}(h:LA W S v vl vs known cs)(hk:Kp D W W')(hD:∀b,S≤b→¬D b)(hS:S'≤S):LA W' S' v vl vs known cs:=by
 obtain⟨e1,e2,e3⟩:=h;have sub:∀b,Fx W S v vl vs b→Fx W' S' v vl vs b:=fun b ⟨q1,q2,q3⟩=>⟨Nat.le_trans hS q1,Nat.lt_of_lt_of_le q2 hk.size,q3⟩;have same:Same (Fx W S v vl vs) W W':=Kp.same hk fun b hb=>hD b hb.1;refine⟨e1,dJ (aA e2 hk (fun g _ hg=>hD g hg)) hS,fun j c f hc hf=>?_⟩;obtain⟨a1,a2⟩:=e3 j c f hc hf;exact⟨a1.keep eU.stays same sub,a2.keep eU.stays same sub⟩
def jE(n:ByteArray)(m:M.Method)(q r:Nat):List M.Tag:=(M.dC n::(m.args.take q).map M.dP)++List.replicate r M.zP
theorem Gd{n:ByteArray}{m:M.Method}{q r:Nat}(h:q≤m.args.length):(jE n m q r).length=q+1+r:=by simp[jE];omega
theorem Gf{n:ByteArray}{m:M.Method}{q r:Nat}{k:M.Kind}(h:m.args[q]?=some k):(jE n m q (r+1)).set (q+1) (M.dP k)=jE n m (q+1) r:=by
 have hq:q<m.args.length:=(List.getElem?_eq_some_iff.1 h).1;have e1:(M.dC n::(m.args.take q).map M.dP).length=q+1:=by simp;omega
 have e2:m.args.take (q+1)=m.args.take q++[k]:=by rw[List.take_add_one,h];rfl
 unfold jE;rw[List.set_append_right _ _ (by omega),e1,Nat.sub_self,e2,List.replicate_succ];simp
theorem Gc{n:ByteArray}{m:M.Method}{q r:Nat}(h:q≤m.args.length):(jE n m q (r+1))[q+1]?=some M.zP:=by
 have e1:(M.dC n::(m.args.take q).map M.dP).length=q+1:=by simp;omega
 unfold jE;rw[List.getElem?_append_right (by omega),e1,Nat.sub_self];rfl
theorem yV(w:World)(l:au)(p:M.ai)(h:aj w l p)(x:M.jR)(hx:M.bM p x=true):
    Calls Tryz.prog 19 #[.pointer (some ⟨l.L,0,none⟩),.agg #[.int .i64 x.of.keeper,.string x.of.name,.int .i64 x.at_]] w fun e w'=>
     Kp (·=l.D) w w'∧aj w' l p∧∃v vl vs,e=.returned (.tuple #[v,.int .i64 (M.look p x).2])∧Kn w' w.heap.size v vl vs (M.look p x).1:=by
 obtain⟨⟨xk,xn⟩,xa⟩:=x;have uH:M.xY (M.method p ⟨⟨xk,xn⟩,xa⟩):=M.ll (M.fH h.ok hx).1;obtain⟨m,hm⟩:∃m,M.method p ⟨⟨xk,xn⟩,xa⟩=m:=⟨_,rfl⟩;have hmf:∀(fn:Fn) (first cap:Array Value) (w:World),(Instr.makeFunc fn first cap).run Tryz.prog w=.ok (.func fn first cap) w:=fun _ _ _ _=>rfl;obtain⟨w0,bN⟩:∃w0,w0=((w.alloc (.cells #[.int .i64 xk,.string xn,.int .i64 xa] 53)).alloc (.cells #[.slice none 0 0] 56)).alloc (.cells #[.int .i64 0] 3):=⟨_,rfl⟩;have aM:Ext w w0:=by rw[bN];exact kx
 have b3:az w0 w.heap.size 53 #[.int .i64 xk,.string xn,.int .i64 xa]:=by rw[bN];exact(az.new _ _ _).ext kx
 have b4:az w0 (w.heap.size+1) 56 #[.slice none 0 0]:=by rw[bN];exact(az.newAt (W:=w.alloc (.cells #[.int .i64 xk,.string xn,.int .i64 xa] 53)) (g:=w.heap.size+1) _ _ (by simp)).ext kx
 have b5:az w0 (w.heap.size+2) 3 #[.int .i64 0]:=by rw[bN];exact az.newAt _ _ (by simp)
 have dS:=Ys bN;have bW:=Ys aM;have gW:=Ys b3;have nQ:=Ys b4;have ru:=Ys b5;have H:=Ys h;have HX:=Ys hx;have HM:=Ys hm;have HMF:=Ys hmf;have vW:=h.lt;clear bN aM b3 b4 b5 h hx hm hmf;go_enter_defers Tryz.func19,Tryz.ntmps19;go_wp2_with fail;rw[←dS.o];refine(dK _ _ _ (H.o.ext bW.o) ⟨⟨xk,xn⟩,xa⟩ HX.o).mono ?_;rintro e w1 ⟨⟨cs,jk,rfl⟩,aZ⟩;rw[HM.o]at jk uH;obtain⟨t,rfl⟩:=gP jk;obtain⟨a1,c1,a2,c2,a3,c3⟩:=t;obtain⟨n,hn⟩:∃n:Nat,m.locals=n:=⟨m.locals.toNat,by have:=uH.args;omega⟩;obtain⟨w2,jS⟩:∃w2,w2=w1.alloc (.cells (eG m ⟨a1,c1,a2,c2,a3,c3⟩).toArray 34):=⟨_,rfl⟩;have bY:Ext w1 w2:=by rw[jS];exact kx
 have b6:az w2 w1.heap.size 34 (eG m ⟨a1,c1,a2,c2,a3,c3⟩).toArray:=by rw[jS];exact az.new _ _ _
 have Mi:=aZ.trans bY;obtain⟨T,f,dm,HT⟩:=gy.ex (fun W'=>Ext w2 W') _ (Kp.refl _ _);have r30:=fun z=>((gW.o.ext Mi).ext (HT.aK z)).c 0 (.int .i64 xk) rfl;have FK:=fun z=>(b6.ext (HT.aK z)).c 0 (.string m.name) rfl;have I4:=fun z=>(b6.ext (HT.aK z)).c 1 (.slice a1 m.args.length c1) rfl;have r62:=fun z=>(b6.ext (HT.aK z)).c 2 (.int .i64 m.ret.kind) rfl;have r63:=fun z=>(b6.ext (HT.aK z)).c 3 (.string m.ret.name) rfl;have r64:=fun z=>(b6.ext (HT.aK z)).c 4 (.int .i64 n) (by rw[←hn];rfl);have r65:=fun z=>(b6.ext (HT.aK z)).c 5 (.int .i64 m.stack) rfl;have r66:=fun z=>(b6.ext (HT.aK z)).c 6 (.slice a2 m.code.length c2) rfl;have r67:=fun z=>(b6.ext (HT.aK z)).c 7 (.slice a3 m.maps.length c3) rfl;have ax:=Ys HT;have xX:=Ys jS;have jC:Zs (Ext w w2):=Ys (bW.o.trans Mi);have Tt:=Ys Mi;have zU:Zs (aC w2 (· <l.O) m (eG m ⟨a1,c1,a2,c2,a3,c3⟩)):=Ys (bD.ext aC.stays bY jk);have bV:=Ys b6;have KM:=Ys uH;have HN:=Ys hn;have ZL:n≤6:=by have:=uH.locals;omega
 have ad2:w.heap.size+3≤w2.heap.size:=by have:=Mi.size;have:=ru.o.lt;omega
 clear aZ bY b6 Mi HT jk uH;simp only[eG,hn]at jS;have abT:=Ys jS;clear jS hn;simp only[eG,HN.o];go_wp2_with fail;rw[←abT.o];(refine qK f 10 [([0,1,2,3,4,5,6],7),([8],9)] [] (ax.o.o _ ?_) (by kernel_rfl) (by kernel_rfl) ?_)
 · exact(Kp.refl _ _).drew
 (refine dn [_,_,_,_,_,_,_] rfl rfl fun K hK=>?_);(repeat (go_big_quiet_step (fail)));(refine qn hK fun K2 ag=>?_);clear hK K;refine Fp ym (z:=.agg #[.int .i64 0,.string ⟨#[]⟩]) (by kernel_rfl) _ rfl (.tmp 19) (.tmp 19) rfl w.heap.size n rfl rfl (by omega) (by simp;omega) ?_;intro w3 M3 dA AO;change K2 _ _;simp only[Act.put,List.setIfInBounds_toArray,List.set_cons_succ,List.set_cons_zero];rw[Kc ZL]at M3;have Ux:Ext w2 w3:=((Kp.refl _ w2).drew:Ext w2 _).trans dA;(refine kk ax ag Ux ?_);clear ag K2;have iL:=Ys Ux;have pU:=Ys M3;clear dA Ux M3;(refine dn [_] rfl rfl fun K hK=>?_);(repeat (go_big_quiet_step (fail)));(refine qn hK fun K2 ag=>?_);clear hK K;go_wp2_with fail;obtain⟨w4,qR⟩:∃w4,w4=w3.alloc (.cells #[.pointer (some ⟨l.L,0,none⟩),.int .i64 xk,.string m.name,.slice a1 m.args.length c1,.int .i64 m.ret.kind,.string m.ret.name,.int .i64 n,.int .i64 m.stack,.slice a2 m.code.length c2,.slice a3 m.maps.length c3,.int .i64 0,.slice (some ⟨w2.heap.size,0,none⟩) n n,.slice none 0 0] 111):=⟨_,rfl⟩;have dN:Ext w3 w4:=by rw[qR];exact kx
 have JE:az w4 w3.heap.size 111 (Hb l.L xk m ⟨a1,c1,a2,c2,a3,c3⟩ 0 (.slice (some ⟨w2.heap.size,0,none⟩) n n) (.slice none 0 0)):=by
  unfold Hb;rw[qR,HN.o];exact az.new _ _ _
 (refine kk ax ag (iL.o.alloc _) ?_);clear ag K2;rw[←qR];have P8:Ext w2 w4:=iL.o.trans dN;have Yr:aD w4 l p w.heap.size w3.heap.size xk m ⟨a1,c1,a2,c2,a3,c3⟩ 0 ⟨List.replicate n M.zP,[]⟩ (.slice (some ⟨w2.heap.size,0,none⟩) n n) (.slice none 0 0):=
  ⟨H.o.ext (jC.o.trans P8),vW,(by have:=iL.o.size;omega),bD.ext aC.stays P8 zU.o,KM.o,JE,
   (by rw[List.length_replicate];exact aA pU.o dN (fun _ _ _ x=>x)),World.ownsRow_nil _ _ _ _,(fun g _ e=>by cases e),(by omega),(by have:=KM.o.Oc;simp;omega),(by rw[List.length_replicate];exact HN.o.symm)⟩
 have HA4:=Ys Yr;have Lp:=Ys P8;have BX:=Ys qR;clear qR dN JE P8 Yr ax r30 FK I4 r62 r63 r64 r65 r66 r67;(refine dD ?_);go_wp2_with fail;simp only[WI];go_wp2_with fail;obtain⟨n1,rfl⟩:∃n1,n=n1+1:=⟨n - 1,by have:=KM.o.args;have:=HN.o;omega⟩;obtain⟨T,f,dm,HT⟩:=gy.ex (fun W'=>Ext w4 W') _ (Kp.refl _ _);have r11:=fun z=>(HA4.o.ext (HT.aK z)).blk.c 11 (.slice (some ⟨w2.heap.size,0,none⟩) (n1+1) (n1+1)) rfl;have SK:=fun z=>(((gW.o.ext Tt.o).ext Lp.o).ext (HT.aK z)).c 1 (.string xn) rfl;have ax:=Ys HT;clear HT;(refine qK f 8 [([0,1,2,3,4,5,6],7)] [] (ax.o.o _ ?_) (by kernel_rfl) (by kernel_rfl) ?_)
 · exact(Kp.refl _ _).drew
 (refine dn [_,_,_,_,_,_,_] rfl rfl fun K hK=>?_);(repeat (go_big_quiet_step (fail)));(refine qn hK fun K2 ag=>?_);clear hK K;go_wp2_with fail;refine(qQ _ xn).mono ?_;rintro e w5 ⟨rfl,ed⟩;have iG:Zs (Ext w4 w5):=Ys (((Kp.refl _ w4).drew:Ext w4 _).trans ed);clear ed;go_wp2_with fail;(refine kk ax ag iG.o ?_);clear ag K2;have Fy:=HA4.o.ext iG.o;have lY:=Fy.loc;obtain⟨cur,lX⟩:=fO lY rfl;obtain⟨x0,x1⟩:=(dG (enc:=gZ) (k:=2) (fun _=>rfl) (l:=List.replicate (n1+1) M.zP) (by simpa using lY) (i:=0) (x:=M.zP) (by simp)).two;rw[Nat.zero_mul]at x0 x1;have f0:=lX.frozen 0;have f1:=lX.frozen 1;have G6:=lX.lt;have O3:=Ys Fy;clear Fy lY lX ax r11 SK;(refine dD ?_);go_wp2_with fail;simp only[WI];have Mf:aD w5 l p w.heap.size w3.heap.size xk m ⟨a1,c1,a2,c2,a3,c3⟩ 0 ⟨List.replicate (n1+1) M.zP,[]⟩ (.slice (some ⟨w2.heap.size,0,none⟩) (List.replicate (n1+1) M.zP).length (n1+1)) (.slice none 0 0):=by
  rw[List.length_replicate];exact O3.o
 obtain⟨Dy, -⟩:=Mf.qL 0 (M.dC xn);obtain⟨w6,wm⟩:∃w6,w6=(w5.setCell ⟨w2.heap.size,0,none⟩ (.int .i64 (M.dC xn).kind)).setCell ⟨w2.heap.size,1,none⟩ (.string (M.dC xn).name):=⟨_,rfl⟩;have xD:Kp (·=w2.heap.size) w4 w6:=by
  rw[wm];exact(iG.o.any).trans (((Kp.refl (·=w2.heap.size) w5).setCell (p:=⟨w2.heap.size,0,none⟩) (fun _=>rfl) _).setCell (p:=⟨w2.heap.size,1,none⟩) (fun _=>rfl) _)
 rw[←wm];replace Dy:aD w6 l p w.heap.size w3.heap.size xk m ⟨a1,c1,a2,c2,a3,c3⟩ 0 ⟨jE xn m 0 n1,[]⟩ (.slice (some ⟨w2.heap.size,0,none⟩) (n1+1) (n1+1)) (.slice none 0 0):=by
  rw[List.length_replicate]at Dy;rw[wm];exact Dy
 have o8:m.args.length≤n1:=by have:=KM.o.args;have:=HN.o;omega
 have GA:=KM.o.DW;have y1:=((bV.o.ext Lp.o).kp xD (by have:=bV.o.lt;omega)).c 1 (.slice a1 m.args.length c1) rfl;have KF:=Ys Dy;have Oz:=Ys xD;clear Mf Dy xD wm x0 x1 f0 f1 G6;go_wp2_with fail;go_loopw [35] (fun i wr=>∃q:Nat,q≤m.args.length∧i=.int .i64 q∧aD wr l p w.heap.size w3.heap.size xk m ⟨a1,c1,a2,c2,a3,c3⟩ 0 ⟨jE xn m q (n1 - q),[]⟩ (.slice (some ⟨w2.heap.size,0,none⟩) (n1+1) (n1+1)) (.slice none 0 0)∧Kp (·=w2.heap.size) w4 wr) (fun i _=>m.args.length - (intOf i).toNat)
 case atStart=>exact⟨0,Nat.zero_le _,rfl,KF.o,Oz.o⟩
 case round =>
  obtain⟨q,hq,rfl,hA,hK⟩:=hrel;by_cases cK:q<m.args.length
  · obtain⟨⟨kq,kn⟩,hy⟩:=gH m.args q cK;obtain⟨b,off,cs,rfl,Dz,rfl, -,gI⟩:=(aC.args hA.ml).get hy;obtain⟨g0,g1⟩:=gI.two;have gz:=aS g0;obtain⟨r,hr⟩:∃r,n1 - q=r+1:=⟨n1 - q - 1,by omega⟩;rw[hr]at hA;have M0:n1 - (q+1)=r:=by omega
    obtain⟨W4,Ep,dN,b9⟩:=nu wr #[.int .i64 kq,.string kn] 25;obtain⟨T,f,dm,HT⟩:=gy.ex (fun W'=>Ext W4 W') _ (Kp.refl _ _);have r11:=fun z=>((hA.ext dN).ext (HT.aK z)).blk.c 11 (.slice (some ⟨w2.heap.size,0,none⟩) (n1+1) (n1+1)) rfl;have r90:=fun z=>(b9.ext (HT.aK z)).c 0 (.int .i64 kq) rfl;have r91:=fun z=>(b9.ext (HT.aK z)).c 1 (.string kn) rfl;have ax:=Ys HT;have KG:=Ys hA;have TE:=Ys hK;have iM:=Ys dN;have HX4:=Ys Ep;have hqq:(q:Int)<m.args.length:=by omega
    have Sk:IntKind.i64.wrap ((q:Int)+1)=q+1:=IntWalk.i64_in _ (by omega);clear HT hA hK dN Ep b9 gI;go_wp2_with fail;rw[←HX4.o];(refine qK f 8 [([0,1,2,3,4,5,6],7)] [] (ax.o.o _ ?_) (by kernel_rfl) (by kernel_rfl) ?_)
    · exact(Kp.refl _ _).drew
    (refine dn [_,_,_,_,_,_,_] rfl rfl fun K hK=>?_);(repeat (go_big_quiet_step (fail)));(refine qn hK fun K2 ag=>?_);clear hK K;go_wp2_with fail;refine(vI _ ⟨kq,kn⟩).mono ?_;rintro e w5 ⟨rfl,ed⟩;have iG:Zs (Ext W4 w5):=Ys (((Kp.refl _ W4).drew:Ext W4 _).trans ed);clear ed;go_wp2_with fail;(refine kk ax ag iG.o ?_);clear ag K2;have Fy:=KG.o.ext (iM.o.trans iG.o);have lY:=Fy.loc;have hlen:=Gd (n:=xn) (r:=r+1) hq;have DD:q+1+(r+1)=n1+1:=by omega
    obtain⟨cur,lX⟩:=fO lY rfl;obtain⟨x0,x1⟩:=(dG (enc:=gZ) (k:=2) (fun _=>rfl) (l:=jE xn m q (r+1)) (by simpa [hlen,DD]using lY) (Gc hq)).two;have f0:=lX.frozen ((q+1)*2);have f1:=lX.frozen ((q+1)*2+1);have G6:=lX.lt;have hb0:(q:Int)+1<n1+1:=by omega
    have Mf:aD w5 l p w.heap.size w3.heap.size xk m ⟨some ⟨b,off,none⟩,c1,a2,c2,a3,c3⟩ 0 ⟨jE xn m q (r+1),[]⟩ (.slice (some ⟨w2.heap.size,0,none⟩) (jE xn m q (r+1)).length (n1+1)) (.slice none 0 0):=by
     rw[hlen,DD];exact Fy
    have HS5:=Ys (Mf.qL (q+1) (M.dP ⟨kq,kn⟩)).1;have HL:=Ys (hlen.trans DD);have HY:=Ys hy;clear Fy Mf lY lX ax r11 r90 r91 hlen DD hy;(refine dD ?_);go_wp2_with fail;simp only[WI];go_wp2_with fail;refine⟨⟨q+1,by omega,by simp,?_,?_⟩,by simp[intOf];omega⟩
    · rw[M0];have:=HS5.o;rw[HL.o]at this;rw[←Gf HY.o];exact this
    · refine TE.o.trans ((iM.o.trans iG.o).any.trans ?_);exact((Kp.refl (·=w2.heap.size) w5).setCell (p:=⟨w2.heap.size,(q+1)*2,none⟩) (fun _=>rfl) _).setCell (p:=⟨w2.heap.size,(q+1)*2+1,none⟩) (fun _=>rfl) _
  · have CF:q=m.args.length:=by omega
    have bU:(⟨jE xn m q (n1 - q),[]⟩:M.gB)=M.xL ⟨⟨xk,xn⟩,xa⟩ m:=by
     unfold jE M.xL;rw[CF,List.take_length,HN.o];congr 3;simp
    rw[bU]at hA;have IM:Zs (M.look p ⟨⟨xk,xn⟩,xa⟩=match M.fu p xk m m.code 0 true (M.xL ⟨⟨xk,xn⟩,xa⟩ m) []with
     | .inl n=>([],n)
     | .inr l=>(l,0)):=Ys (by unfold M.look;rw[HM.o];rfl)
    have Eo:Ext w wr:=(jC.o.trans Lp.o).own hK (fun b e=>by omega);have Yw:=((nQ.o.ext Tt.o).ext Lp.o).kp hK (by omega);have Yy:=((ru.o.ext Tt.o).ext Lp.o).kp hK (by omega);have KG:=Ys hA;have HKw:=Ys Eo;have DI:=Ys Yw;have Tg:=Ys Yy;have hkB:=gW.o.lt;have ad3:=iL.o.size;have rX:=H.o.ord;have rW:∀b,w.heap.size≤b→b<w.heap.size+3→¬fE l w3.heap.size (.slice (some ⟨w2.heap.size,0,none⟩) (n1+1) (n1+1)) (.slice none 0 0) b:=fun b h1 h2=>by
     rintro(e|e|e|e)
     · omega
     · omega
     · have:w2.heap.size=b:=by simpa [Value.ownBlock]using e
       omega
     · cases e
    have Pj:=Ys rW;have ZK:∀W,Kp (fE l w3.heap.size (.slice (some ⟨w2.heap.size,0,none⟩) (n1+1) (n1+1)) (.slice none 0 0)) wr W→Kp (·=l.D) w W:=fun W hW=>Eo.any.mix hW (fun k hk e=>by
     rcases e with e|e|e|e
     · exact e
     · omega
     · have:w2.heap.size=k:=by simpa [Value.ownBlock]using e
       omega
     · cases e)
    have XC:=Ys ZK;clear ZK;clear hA hK Eo Yw Yy CF bU rW;go_wp2_with fail;refine(EL _ _ _ _ _ _ _ _ _ _ _ _ KG.o).mono ?_;rintro e w7 ⟨yE,Qf,⟨n',ho,rfl⟩|⟨fs,v,nO,vs',ho,rfl,MM⟩⟩
    · have tF:=DI.o.kp yE (Pj.o _ (by omega) (by omega));have yC:=Tg.o.kp yE (Pj.o _ (by omega) (by omega));have Mt:=XC.o _ yE;refine leaves_cons (f:=38) (args:=#[.pointer (some ⟨w.heap.size+1,0,none⟩),.pointer (some ⟨w.heap.size+2,0,none⟩)]) (by simp) (by simp[go_sem]) ?_;refine(EK w7 _ _ _ _ tF yC n' []).mono ?_;rintro e u' w8 ⟨rfl,rfl,Gx,h4,h5⟩;have c4:=h4.c 0 (.slice none 0 0) rfl;have c5:=h5.c 0 (.int .i64 n') rfl;have hF:Kp (·=l.D) w w8∧aj w8 l p∧∃v vl vs,Ending.returned (.tuple #[.slice none 0 0,.int .i64 n'])=.returned (.tuple #[v,.int .i64 (M.look p ⟨⟨xk,xn⟩,xa⟩).2])∧Kn w8 w.heap.size v vl vs (M.look p ⟨⟨xk,xn⟩,xa⟩).1:=by
       refine⟨Mt.own Gx (fun k e=>by omega),Qf.kp Gx (fun b hb e=>by omega),.slice none 0 0,.slice none 0 0,.slice none 0 0,?_,?_⟩
       · rw[IM.o,ho]
       · rw[IM.o,ho];exact Kn.nil _ _ _ _
      have HF:=Ys hF;clear tF yC Mt Gx h4 h5 hF yE Qf;have hF:=HF.o;simpa [Leaves,settle,results,Tryz.results19,go_sem,c4,c5]using hF
    · obtain⟨ks,Ww⟩:=MM;obtain⟨va,vc,rfl⟩:=bJ Ww.2.1;have tF:=DI.o.kp yE (Pj.o _ (by omega) (by omega));have yC:=Tg.o.kp yE (Pj.o _ (by omega) (by omega));have Mt:=XC.o _ yE;have c4:=tF.c 0 (.slice none 0 0) rfl;have c5:=yC.c 0 (.int .i64 0) rfl;have f4:=tF.frozen 0;have f5:=yC.frozen 0;have hz7:=yC.lt;have wO:=Ys tF;have aaW:=Ys yC;have abx:=Ys Mt;have XA:=Ys Ww;clear tF yC Mt Ww yE;go_wp2_with fail;refine leaves_cons (f:=38) (args:=#[.pointer (some ⟨w.heap.size+1,0,none⟩),.pointer (some ⟨w.heap.size+2,0,none⟩)]) (by simp) (by simp[go_sem]) ?_;refine(J7 _ _ _).mono ?_;rintro e u' w8 ⟨rfl,rfl,rfl⟩;have k1:Kp (·=w.heap.size+1) w7 (w7.setCell ⟨w.heap.size+1,0,none⟩ (.slice va fs.length vc)):=(Kp.refl (·=w.heap.size+1) w7).setCell (p:=⟨w.heap.size+1,0,none⟩) (fun _=>rfl) _;have k2:Kp (·=w.heap.size+2) (w7.setCell ⟨w.heap.size+1,0,none⟩ (.slice va fs.length vc)) ((w7.setCell ⟨w.heap.size+1,0,none⟩ (.slice va fs.length vc)).setCell ⟨w.heap.size+2,0,none⟩ (.int .i64 0)):=(Kp.refl (·=w.heap.size+2) _).setCell (p:=⟨w.heap.size+2,0,none⟩) (fun _=>rfl) _;have k12:Kp (fun b=>b=w.heap.size+1∨b=w.heap.size+2) w7 ((w7.setCell ⟨w.heap.size+1,0,none⟩ (.slice va fs.length vc)).setCell ⟨w.heap.size+2,0,none⟩ (.int .i64 0)):=(k1.weak fun b _ e=>.inl e).trans (k2.weak fun b _ e=>.inr e);have h4:az ((w7.setCell ⟨w.heap.size+1,0,none⟩ (.slice va fs.length vc)).setCell ⟨w.heap.size+2,0,none⟩ (.int .i64 0)) (w.heap.size+1) 56 #[.slice va fs.length vc]:=az.kp (wO.o.bA 0 _) k2 (by omega);have h5:az ((w7.setCell ⟨w.heap.size+1,0,none⟩ (.slice va fs.length vc)).setCell ⟨w.heap.size+2,0,none⟩ (.int .i64 0)) (w.heap.size+2) 3 #[.int .i64 0]:=(aaW.o.kp k1 (by omega)).bA 0 _;have WH:w.heap.size+3≤wr.heap.size:=by have:=Tg.o.lt;omega
      have hF:Kp (·=l.D) w ((w7.setCell ⟨w.heap.size+1,0,none⟩ (.slice va fs.length vc)).setCell ⟨w.heap.size+2,0,none⟩ (.int .i64 0))∧aj ((w7.setCell ⟨w.heap.size+1,0,none⟩ (.slice va fs.length vc)).setCell ⟨w.heap.size+2,0,none⟩ (.int .i64 0)) l p∧
          ∃v vl vs,Ending.returned (.tuple #[.slice va fs.length vc,.int .i64 0])=.returned (.tuple #[v,.int .i64 (M.look p ⟨⟨xk,xn⟩,xa⟩).2])∧Kn ((w7.setCell ⟨w.heap.size+1,0,none⟩ (.slice va fs.length vc)).setCell ⟨w.heap.size+2,0,none⟩ (.int .i64 0)) w.heap.size v vl vs (M.look p ⟨⟨xk,xn⟩,xa⟩).1:=by
       refine⟨abx.o.own k12 (fun k e=>by omega),Qf.kp k12 (fun b hb e=>by omega),.slice va fs.length vc,nO,vs',?_,ks,?_⟩
       · rw[IM.o,ho]
       · rw[IM.o,ho];exact LA.low XA.o k12 (fun b hb e=>by omega) (by omega)
      have d4:=h4.c 0 (.slice va fs.length vc) rfl;have d5:=h5.c 0 (.int .i64 0) rfl;obtain⟨w8,wu⟩:∃w8,w8=(w7.setCell ⟨w.heap.size+1,0,none⟩ (.slice va fs.length vc)).setCell ⟨w.heap.size+2,0,none⟩ (.int .i64 0):=⟨_,rfl⟩;rw[←wu]at hF d4 d5;have HF:=Ys hF;have TL:=Ys wu;clear hF k1 k2 k12 h4 h5 c4 c5 f4 f5 wu;show Leaves _ _ _ _ _ _ _
      rw[show w.heap.size+1+1=w.heap.size+2 from rfl,←TL.o];have hF:=HF.o;simpa [Leaves,settle,results,Tryz.results19,go_sem,d4,d5]using hF
theorem Kv{P:Program}(w:World)(dT sT ty elem:TypeId)(g dLen dCap:Nat)(a:Addr)(sLen sCap k:Nat)(cur:Array Value)(t:TypeId)(cs:List Value)
    (hu:P.underlying dT=some (.slice elem)) (hs:(P.info? elem).map (·.size)=some k) (hg:w.heap[g]?=some (.cells cur t (0,0))) (hn:cs.length=Nat.min sLen dLen*k)
    (acM:∀j v,cs[j]?=some v→w.cell? (a.add j)=some v) (ack:cs.length≤cur.size) (h1:∀v∈cs,v.oneCell'=true):
    (Builtin.copy_ #[dT,sT] ty #[.slice (some ⟨g,0,none⟩) dLen dCap,.slice (some a) sLen sCap]).run P w=
     .ok (goInt (Nat.min sLen dLen)) (w.setRow g (cs++cur.toList.drop cs.length).toArray):=by
 have hl:=run_loadCells_list (P:=P) w a cs acM;have bU:=run_storeCells_at P g 0 t cs 0 cur w hg (by simpa using ack) h1;simp only[Nat.zero_add,List.take_zero,List.nil_append]at bU;cases hq:P.info? elem with
 |none=>simp[hq]at hs
 |some i=>
  have hi:i.size=k:=by simpa [hq]using hs
  simp[Builtin.copy_,run_underlying hu,Builtin.lenOf,Builtin.firstCells,sizeOf,typeInfo,hq,hi,←hn,hl,bU]
theorem Kw{D:Nat→Prop}(w:World)(g:Nat)(cs:Array Value)(hD:D g):Kp D w (w.setRow g cs):=
 ⟨rfl,rfl,rfl,by simp[World.setRow],fun k hk hd=>setRow_other w g k cs (fun e=>hd (by subst e;exact hD))⟩
theorem Dr{t e k:Nat}(E:Elem t e k)(w:World){ops:Array Oper}{rest:List Oper}{o:Oper}{a:Act}{Q:Exit→Act→World→Prop}(JI:o.guard=none)(d s:Operand)
    (ho:o.op=.call {callee:=.builtin .copy,args:=#[d,s],argTypes:=#[t,t]}) (base g n c m m':Nat) (xs news:List Value) (hd:a.eval d=.slice (some ⟨g,0,none⟩) n c) (dI:w.ownsRow base e k (.slice (some ⟨g,0,none⟩) n c) n xs)
    (ad:Addr) (hs:a.eval s=.slice (some ad) m m') (hf:Flat w k (.slice (some ad) m m') m news) (Qr:m≤n)
    (h:∀w',w'.ownsRow base e k (.slice (some ⟨g,0,none⟩) n c) n (news++xs.drop (m*k))→Kp (·=g) w w'→wpList Tryz.prog ops Q rest (a.put o.dst (goInt m)) w'):
    wpList Tryz.prog ops Q (o::rest) a w:=by
 obtain⟨i,z,bytes,ht,hi,hz,qx,KW,K5,hk,hb⟩:=E;obtain⟨f1,⟨a1,c1,e1,_,f2⟩,f3⟩:=hf;cases e1;obtain⟨hl,hx⟩:=dI;rcases hx with⟨e2,_⟩|⟨g',cap,cur,e2,hg,lX,hle,hm,oF,OW⟩
 · cases e2
 · cases e2;have ZJ:Nat.min m n=m:=Nat.min_eq_left Qr;have hmk:m*k≤n*k:=Nat.mul_le_mul_right _ Qr;have hck:n*k≤c*k:=Nat.mul_le_mul_right _ hle;have Qz:=Kv (P:=Tryz.prog) w t t o.type e g n c ad m m' k cur e news ht (by rw[hi];simp[qx]) lX (by rw[ZJ,f1]) (f2 ad rfl) (by rw[f1];omega) f3;rw[ZJ]at Qz;refine wpList_plain JI fun K hK=>?_;unfold Oper.wp;simp[execOp,ho,resolve,invoke,builtin,hd,hs,Qz,Result.andThen];refine hK _ _ (h _ ⟨?_,.inr ⟨g,c,(news++cur.toList.drop news.length).toArray,rfl,hg,setRow_heap w g cur _ e _ lX,hle,hm,?_,?_⟩⟩ (Kw w g _ rfl))
   · rw[List.length_append,List.length_drop,f1,hl];omega
   · have bE:cur.toList.length=cur.size:=Array.length_toList;simp only[List.size_toArray,List.length_append,List.length_drop,f1,bE];omega
   · have bE:cur.toList.length=cur.size:=Array.length_toList;simp only;rw[←OW,List.take_append,f1,List.take_of_length_le (by rw[f1];exact hmk),List.drop_take]
theorem EI(w:World)(l:au)(p:M.ai)(h:aj w l p)(x:M.jR)(hx:M.bM p x=true):
    Calls Tryz.prog 114 #[.pointer (some ⟨l.L,0,none⟩),.agg #[.int .i64 x.of.keeper,.string x.of.name,.int .i64 x.at_]] w fun e w'=>
     e=.returned (.bool (M.right p x))∧Kp (·=l.D) w w'∧aj w' l p:=by
 have hE:Ext w (w.alloc (.cells #[.int .i64 x.of.keeper,.string x.of.name,.int .i64 x.at_] 53)):=kx;have HL:=Ys (h.ext hE);have HE:=Ys hE;clear h hE;go_enter Tryz.func114,Tryz.ntmps114;go_wp2_with fail;refine(yV _ _ _ HL.o x hx).mono ?_;rintro e w1 ⟨hK,hL,v,vl,vs,rfl,MM⟩;obtain⟨ks,Ww⟩:=MM;obtain⟨va,vc,rfl⟩:=bJ Ww.2.1;have HF:=Ys (And.intro (HE.o.any.trans hK) hL);clear hK hL Ww;by_cases hr:(M.look p x).2=0
 · have HR:Zs (M.right p x=true):=Ys (by unfold M.right;rw[hr];rfl);rw[hr];clear hr;go_wp2_with fail;go_ret;exact⟨ae HR.o.symm,HF.o⟩
 · have HR:Zs (M.right p x=false):=Ys (by unfold M.right;exact decide_eq_false hr);have Qx:((M.look p x).2==0)=false:=beq_eq_false_iff_ne.2 hr;clear hr;go_wp2_with fail;go_ret;exact⟨ae HR.o.symm,HF.o⟩
theorem Jr:Elem 27 25 2:=iJ (z:=.agg #[.int .i64 0,.string ⟨#[]⟩]) (bytes:=24) Tryz.underlying27 (by kernel_rfl) rfl (by decide) (by decide)
theorem Ba:Elem 85 127 1:=iJ (z:=.pointer none) (bytes:=8) Tryz.underlying85 (by kernel_rfl) rfl (by decide) (by decide)
theorem Ke{n:Nat}(h:n≤6):(madeCells (Value.agg #[.int .i64 0,.int .i64 0]).cells (n*2)).toList=(List.replicate n M.dE).flatMap bq:=by
 have:n=0∨n=1∨n=2∨n=3∨n=4∨n=5∨n=6:=by omega
 rcases this with rfl|rfl|rfl|rfl|rfl|rfl|rfl<;>(show _=_;kernel_rfl)
theorem ay.Ig{w w':World}{l:au}{p:M.ai}{own:Own}{B mb:Nat}{lk:Bool}{g:Gh}(h:ay w l p own B mb lk g)(c:GC)(hc:iN w l p own B g.cs.length c)
    (g' c':Nat) (ho:w'.ownsRow B 127 1 (.slice (some ⟨g',0,none⟩) (g.cs.length+1) c') (g.cs.length+1) (g.cs.flatMap nL++nL c)) (hk:Kp (fun b=>g.vc.ownBlock=some b) w w') (hg:g.vc.ownBlock=some g'∨w.heap.size≤g')
    (hG:M.Good p ({g with cs:=g.cs++[c],vc:=.slice (some ⟨g',0,none⟩) (g.cs.length+1) c'}:Gh).st):
    Kp (MO l own) w (w'.setCell ⟨mb,3,none⟩ (.slice (some ⟨g',0,none⟩) (g.cs.length+1) c'))∧∃own',eF w.heap.size own own'∧ay (w'.setCell ⟨mb,3,none⟩ (.slice (some ⟨g',0,none⟩) (g.cs.length+1) c')) l p own' B mb lk {g with cs:=g.cs++[c],vc:=.slice (some ⟨g',0,none⟩) (g.cs.length+1) c'}:=by
 have pq:Kp (·=mb) w' (w'.setCell ⟨mb,3,none⟩ (.slice (some ⟨g',0,none⟩) (g.cs.length+1) c')):=(Kp.refl (·=mb) w').setCell (p:=⟨mb,3,none⟩) (fun _=>rfl) _;obtain⟨W,hW⟩:∃W,W=w'.setCell ⟨mb,3,none⟩ (.slice (some ⟨g',0,none⟩) (g.cs.length+1) c'):=⟨_,rfl⟩;have Aa:g.vc.ownBlock≠some mb:=fun e=>by have:=h.calls.role _ e;rw[h.role]at this;cases this
 have Za:az W mb 87 (rY l lk {g with cs:=g.cs++[c],vc:=.slice (some ⟨g',0,none⟩) (g.cs.length+1) c'}):=by rw[hW];exact(h.blk.kp hk Aa).bA 3 _
 have Zt:g'≠mb:=fun e=>by
  subst e;rcases hg with x|x
  · exact Aa x
  · have:=h.blk.lt;omega
 have R5:W.ownsRow B 127 1 (.slice (some ⟨g',0,none⟩) (g.cs.length+1) c') (g.cs.length+1) (g.cs.flatMap nL++nL c):=by
  rw[hW];exact aA ho pq (fun q hq _ e=>Zt (by cases hq;exact e))
 rw[←hW]at pq ⊢;clear hW;have gD:Kp (PO own fun q=>q=(0,0)∨q=(1,0)) w W:=(hk.weak fun b _ e=>⟨_,h.calls.role b e,.inr rfl⟩).trans (pq.weak fun b _ e=>⟨_,by rw[e];exact h.role,.inl rfl⟩);have ha:eF w.heap.size own (own.add g' (1,0)):=Own.qO (by
  rcases hg with x|x
  · exact .inl (h.calls.role _ x)
  · exact .inr (by omega))
 have hd:∀b,own.add g' (1,0) b≠none→B≤b∧b<W.heap.size:=fun b hb=>by
  by_cases e:b=g'
  · subst e;exact R5.lt b rfl
  · rw[Own.dV _ e]at hb;exact h.sV gD.size b hb
 refine⟨gD.weak fun b _ e=>e.mo,_,ha,h.Bz gD,h.hB,Za,(ha _ h.blk.lt).trans h.role,h.low,⟨?_,fun q hq=>?_⟩,?_,h.heap.p9 gD ha (by simp),fun j o ho=>(h.obj j o ho).p9 gD ha (by simp),h.outs.p9 gD ha (by simp),hd,hG⟩
 · simpa using R5
 · cases hq;exact Own.add_eq _ _ _
 · intro i c1 l8;simp only at l8;rcases Nat.lt_trichotomy i g.cs.length with hj|hj|hj
   · rw[List.getElem?_append_left hj]at l8;exact(h.call i c1 l8).p9 gD ha (by simp) h.qF
   · subst hj;simp at l8;subst l8;exact hc.p9 gD ha (by simp) h.qF
   · rw[List.getElem?_eq_none (by simp;omega)]at l8;cases l8
def qd : Prop := ∀ (w : World) (l : au) (p : M.ai), aj w l p → ∀ x : M.jR, M.bM p x = true →
    Calls Tryz.prog 114 #[.pointer (some ⟨l.L,0,none⟩),.agg #[.int .i64 x.of.keeper,.string x.of.name,.int .i64 x.at_]] w fun e w'=>
     e=.returned (.bool (M.right p x))∧Kp (·=l.D) w w'∧aj w' l p
theorem rZ (w : World) (l : au) (p : M.ai) (own : Own) (B mb : Nat) (lk : Bool) (Ic : Zs (lk = true → qd)) (g : Gh) (h : ay w l p own B mb lk g) (bU : g.status = 1) (x : M.jR) (hx : M.bM p x = true) (S : Nat) (vv : Value) (vs : List M.Val)
    (aU:w.ownsRow S 63 2 vv vs.length (vs.flatMap bq)) (nT:∀q,vv.ownBlock=some q→¬MO l own q) (M8:∀v∈vs,M.aR v g.os.length=true) (wh:vs.length=(M.method p x).args.length+1):
    Calls Tryz.prog 68 #[.pointer (some ⟨mb,0,none⟩),.agg #[.int .i64 x.of.keeper,.string x.of.name,.int .i64 x.at_],vv] w (bG w l p own B mb lk (.int .i64 (M.enter p lk x vs g.st).1) (M.enter p lk x vs g.st).2):=by
 obtain⟨⟨xk,xn⟩,xa⟩:=x;obtain⟨vb,vc,rfl, -⟩:=aX aU (by omega);have uH:M.xY (M.method p ⟨⟨xk,xn⟩,xa⟩):=M.ll (M.fH h.cu.ok hx).1;have hVL:(vs.length:Int)≤(M.method p ⟨⟨xk,xn⟩,xa⟩).locals:=by have:=uH.args;omega
 have Xt:=Ys (M.rR (lk:=lk) (vs:=vs) h.cu.ok h.good bU hx (by simpa [Gh.st]using M8) hVL);obtain⟨m,hm⟩:∃m,M.method p ⟨⟨xk,xn⟩,xa⟩=m:=⟨_,rfl⟩;obtain⟨w0,bN,aM,b4⟩:=nu w #[.int .i64 xk,.string xn,.int .i64 xa] 53;have HV:Zs (M.enter p lk ⟨⟨xk,xn⟩,xa⟩ vs g.st=if 8≤g.cs.length then(7,g.st)else if lk&& !M.right p ⟨⟨xk,xn⟩,xa⟩then(5,g.st)
  else if M.gY p xk g.st.heap vs (⟨2,xn⟩::m.args)then(1,{g.st with frames:=g.st.frames++[⟨⟨⟨xk,xn⟩,xa⟩,0,vs++List.replicate (m.locals.toNat - vs.length) M.dE,[]⟩]})else(10,g.st)):=Ys (by
  unfold M.enter;rw[hm];simp[Gh.st])
 obtain⟨ca,cc,CJ⟩:=h.calls.form;have m3:=h.blk.c 3 (.slice ca g.cs.length cc) (by rw[←CJ];rfl);have mz:=h.blk.lt;have acj:g.cs.length≤8:=by have:=h.good.nf;simpa [Gh.st]using this
 have BO:Zs (∀b,w.heap.size≤b→¬MO l own b):=Ys (fun b hb=>h.fresh hb);have HA:=Ys (h.ext aM);have H:=Ys h;have bW:=Ys aM;have nQ:=Ys b4;have dS:=Ys bN;have pU:=Ys aU;have vM:=Ys nT;have HX:=Ys hx;have HM:=Ys hm;have XK:=Ys M8;have FY:=Ys CJ;rw[hm]at uH wh;have vW:=h.cu.lt;have Fz:=h.cu.Cg;have KM:=Ys uH;have Rm:=Ys wh;have Ez:=b4.lt;clear h aM b4 bN aU nT hx hm M8 CJ uH wh hVL;by_cases h8:8≤g.cs.length
 · replace HV:Zs (M.enter p lk ⟨⟨xk,xn⟩,xa⟩ vs g.st=(7,g.st)):=Ys (HV.o.trans (if_pos h8));have h8':(8:Int)≤g.cs.length:=by omega
   go_enter Tryz.func68,Tryz.ntmps68;go_wp2_with fail;go_ret;rw[HV.o,←dS.o];exact bG.mk' bW.o.any (eF.refl _ _) HA.o rfl
 replace HV:=Ys (HV.o.trans (if_neg h8));have h8':((8:Int)≤g.cs.length)=False:=eq_false (by omega);clear h8;obtain⟨T,f,dm,HT⟩:=gy.ex (fun W'=>LC l p w0 W') w0 (LC.refl HA.o.cu);have rO:=fun z=>(HA.o.il (HT.aK z).kp (HT.aK z).at_).blk.c 0 (.pointer (some ⟨l.L,0,none⟩)) rfl;have rm1:=fun z=>(HA.o.il (HT.aK z).kp (HT.aK z).at_).blk.c 1 (.bool lk) rfl;have K9:=fun z=>(nQ.o.kp (HT.aK z).kp (by omega)).c 0 (.int .i64 xk) rfl;have N7:=fun z=>(nQ.o.kp (HT.aK z).kp (by omega)).c 1 (.string xn) rfl;have SL:=fun z=>(nQ.o.kp (HT.aK z).kp (by omega)).c 2 (.int .i64 xa) rfl;have ax:=Ys HT;clear HT;go_enter Tryz.func68,Tryz.ntmps68;go_wp2_with fail;rw[←dS.o];rename_i K hK;have SQ:∀(w1:World) (a22 a23 a24 a25 a26 a27 a28 a29:Value),LC l p w0 w1→M.enter p lk ⟨⟨xk,xn⟩,xa⟩ vs g.st=(5,g.st)→K {tmps:=#[.pointer (some ⟨mb,0,none⟩),.agg #[.int .i64 xk,.string xn,.int .i64 xa],.slice (some ⟨vb,0,none⟩) vs.length vc,undef,.pointer (some ⟨w.heap.size,0,none⟩),undef,.int .i64 0,undef,undef,undef,undef,undef,.pointer (some ⟨mb,0,none⟩),.pointer (some ⟨mb,0,none⟩),.pointer (some ⟨mb,3,none⟩),.slice ca g.cs.length cc,.int .i64 g.cs.length,.bool false,.pointer (some ⟨mb,0,none⟩),.pointer (some ⟨mb,0,none⟩),.pointer (some ⟨mb,1,none⟩),.bool lk,a22,a23,a24,a25,a26,a27,a28,a29,.bool true,undef,undef,undef,undef,undef,undef,undef,undef,undef,undef,undef,undef,undef,undef,undef,undef,undef,undef,undef,undef,undef,undef,undef,undef,undef,undef,undef,undef,undef,undef,undef,undef,undef,undef,undef,undef,undef,undef,undef,undef,undef,undef,undef,undef,undef,undef,undef,undef,undef,undef,undef,undef,undef,undef,undef,undef,undef,undef,undef,undef,undef,undef,undef],defers:=[]} w1:=by
  intro w1 a22 a23 a24 a25 a26 a27 a28 a29 Au hv;refine hK _ _ ?_;clear hK ax rO rm1 K9 N7 SL;go_wp2_with fail;go_ret;rw[hv];exact bG.mk' (bW.o.any.trans Au.mo) (eF.refl _ _) (HA.o.il Au.kp Au.at_) rfl
 have tail:∀(w1:World) (a22 a23 a24 a25 a26 a27 a28 a29:Value),LC l p w0 w1→M.enter p lk ⟨⟨xk,xn⟩,xa⟩ vs g.st=(if M.gY p xk g.st.heap vs (⟨2,xn⟩::m.args)then(1,{g.st with frames:=g.st.frames++[⟨⟨⟨xk,xn⟩,xa⟩,0,vs++List.replicate (m.locals.toNat - vs.length) M.dE,[]⟩]})else(10,g.st))→
     K {tmps:=#[.pointer (some ⟨mb,0,none⟩),.agg #[.int .i64 xk,.string xn,.int .i64 xa],.slice (some ⟨vb,0,none⟩) vs.length vc,undef,.pointer (some ⟨w.heap.size,0,none⟩),undef,.int .i64 0,undef,undef,undef,undef,undef,.pointer (some ⟨mb,0,none⟩),.pointer (some ⟨mb,0,none⟩),.pointer (some ⟨mb,3,none⟩),.slice ca g.cs.length cc,.int .i64 g.cs.length,.bool false,.pointer (some ⟨mb,0,none⟩),.pointer (some ⟨mb,0,none⟩),.pointer (some ⟨mb,1,none⟩),.bool lk,a22,a23,a24,a25,a26,a27,a28,a29,.bool false,undef,undef,undef,undef,undef,undef,undef,undef,undef,undef,undef,undef,undef,undef,undef,undef,undef,undef,undef,undef,undef,undef,undef,undef,undef,undef,undef,undef,undef,undef,undef,undef,undef,undef,undef,undef,undef,undef,undef,undef,undef,undef,undef,undef,undef,undef,undef,undef,undef,undef,undef,undef,undef,undef,undef,undef,undef,undef,undef,undef,undef,undef,undef],defers:=[]} w1:=by
  intro w1 a22 a23 a24 a25 a26 a27 a28 a29 Au hv;refine hK _ _ ?_;clear hK ax rO rm1 K9 N7 SL;replace HV:=Ys hv;have Dw:=Ys (HA.o.il Au.kp Au.at_);have O4:=Ys (nQ.o.kp Au.kp (by omega));have Ag:=Ys Au;have acQ:=Au.kp.size;clear hv Au;go_wp2_with fail;obtain⟨T,f,dm,HT⟩:=gy.ex (fun W'=>Ext w1 W') _ (Kp.refl _ _);have rO:=fun z=>(Dw.o.ext (HT.aK z)).blk.c 0 (.pointer (some ⟨l.L,0,none⟩)) rfl;have K9:=fun z=>(O4.o.ext (HT.aK z)).c 0 (.int .i64 xk) rfl;have N7:=fun z=>(O4.o.ext (HT.aK z)).c 1 (.string xn) rfl;have SL:=fun z=>(O4.o.ext (HT.aK z)).c 2 (.int .i64 xa) rfl;have ax:=Ys HT;clear HT;rename_i K hK
  have Fa : ∀ (b7 : Nat) (w8 : World) (t : lJ), Ext w1 w8 → az w8 b7 34 (eG m t).toArray → w1.heap.size ≤ b7 → aC w8 (· < l.O) m (eG m t) → K { tmps := #[.pointer (some ⟨mb, 0, none⟩), .agg #[.int .i64 xk, .string xn, .int .i64 xa], .slice (some ⟨vb, 0, none⟩) vs.length vc, undef, .pointer (some ⟨w.heap.size, 0, none⟩), undef, .int .i64 0, .pointer (some ⟨b7, 0, none⟩), undef, undef, undef, undef, .pointer (some ⟨mb, 0, none⟩), .pointer (some ⟨mb, 0, none⟩), .pointer (some ⟨mb, 3, none⟩), .slice ca g.cs.length cc, .int .i64 g.cs.length, .bool false, .pointer (some ⟨mb, 0, none⟩), .pointer (some ⟨mb, 0, none⟩), .pointer (some ⟨mb, 1, none⟩), .bool lk, a22, a23, a24, a25, a26, a27, a28, a29, .bool false, .pointer (some ⟨mb, 0, none⟩), .pointer (some ⟨mb, 0, none⟩), .pointer (some ⟨mb, 0, none⟩), .pointer (some ⟨l.L, 0, none⟩), .agg #[.int .i64 xk, .string xn, .int .i64 xa], .agg #[.string m.name, .slice t.a1 m.args.length t.c1, .int .i64 m.ret.kind, .string m.ret.name, .int .i64 m.locals, .int .i64 m.stack, .slice t.a2 m.code.length t.c2, .slice t.a3 m.maps.length t.c3], undef, undef, undef, undef, undef, undef, undef, undef, undef, undef, undef, undef, undef, undef, undef, undef, undef, undef, undef, undef, undef, undef, undef, undef, undef, undef, undef, undef, undef, undef, undef, undef, undef, undef, undef, undef, undef, undef, undef, undef, undef, undef, undef, undef, undef, undef, undef, undef, undef, undef, undef, undef, undef, undef, undef, undef, undef], defers := [] } w8 := by
   clear ax rO K9 N7 SL; intro b7 w8 t lC Ut UQ jk; refine hK _ _ ?_; clear hK; obtain ⟨a1, c1, a2, c2, a3, c3⟩ := t; have HM8 := Ys (Dw.o.ext lC); have HK8 : Zs (Kp (MO l own) w w8) := Ys ((bW.o.any.trans Ag.o.mo).trans lC.any); have Te := Ys (O4.o.ext lC); have zQ := Ys Ut; have zU := Ys jk; have oD : SliceOf 2 eZ w8 (· < l.O) (.slice a1 m.args.length c1) m.args := aC.args jk; have x1 := Te.o.c 1 (.string xn) rfl; have xz := Te.o.lt; have y1 := Ut.c 1 (.slice a1 m.args.length c1) rfl; have yz := Ut.lt; have Dx := Ys oD; have HTY : Zs (∀ (q : Nat) (k : M.Kind), (M.Kind.mk 2 xn :: m.args)[q]? = some k → True) := Ys (fun _ _ _ => trivial); have Vr := lC.size; clear lC Ut jk HTY; refine wp_seq_k fun K hK => ?_; have SS : ∀ (v8 a41 : Value) (w9 : World), Ext w8 w9 → w9.ownsRow w8.heap.size 25 2 v8 (m.args.length + 1) ((M.Kind.mk 2 xn :: m.args).flatMap fun k => [.int .i64 k.kind, .string k.name]) → K { tmps := #[.pointer (some ⟨mb, 0, none⟩), .agg #[.int .i64 xk, .string xn, .int .i64 xa], .slice (some ⟨vb, 0, none⟩) vs.length vc, undef, .pointer (some ⟨w.heap.size, 0, none⟩), undef, .int .i64 0, .pointer (some ⟨b7, 0, none⟩), v8, undef, undef, undef, .pointer (some ⟨mb, 0, none⟩), .pointer (some ⟨mb, 0, none⟩), .pointer (some ⟨mb, 3, none⟩), .slice ca g.cs.length cc, .int .i64 g.cs.length, .bool false, .pointer (some ⟨mb, 0, none⟩), .pointer (some ⟨mb, 0, none⟩), .pointer (some ⟨mb, 1, none⟩), .bool lk, a22, a23, a24, a25, a26, a27, a28, a29, .bool false, .pointer (some ⟨mb, 0, none⟩), .pointer (some ⟨mb, 0, none⟩), .pointer (some ⟨mb, 0, none⟩), .pointer (some ⟨l.L, 0, none⟩), .agg #[.int .i64 xk, .string xn, .int .i64 xa], .agg #[.string m.name, .slice a1 m.args.length c1, .int .i64 m.ret.kind, .string m.ret.name, .int .i64 m.locals, .int .i64 m.stack, .slice a2 m.code.length c2, .slice a3 m.maps.length c3], .pointer (some ⟨w.heap.size, 0, none⟩), .pointer (some ⟨w.heap.size, 1, none⟩), .string xn, .agg #[.int .i64 2, .string xn], a41, .pointer (some ⟨b7, 1, none⟩), .slice a1 m.args.length c1, v8, undef, undef, undef, undef, undef, undef, undef, undef, undef, undef, undef, undef, undef, undef, undef, undef, undef, undef, undef, undef, undef, undef, undef, undef, undef, undef, undef, undef, undef, undef, undef, undef, undef, undef, undef, undef, undef, undef, undef, undef, undef, undef, undef, undef, undef, undef, undef, undef, undef], defers := [] } w9 := by
    clear x1 xz y1 yz oD;intro v8 a41 w9 jV Ew;refine hK _ _ ?_;clear hK;have hz9:=jV.size;have BS:=Ys (HM8.o.ext jV);have xS:Zs (Kp (MO l own) w w9):=Ys (HK8.o.trans jV.any);have Xa:=Ys (Te.o.ext jV);have BN:=Ys (zQ.o.ext jV);have abF:=Ys (bD.ext aC.stays jV zU.o);have HR9:=Ys Ew;obtain⟨tb,tc,rfl, -⟩:=aX Ew (by omega);have AA:w9.ownsRow S 63 2 (.slice (some ⟨vb,0,none⟩) vs.length vc) vs.length (vs.flatMap bq):=aA pU.o xS.o (fun q hq _ e=>vM.o q hq e);have HVR:=Ys AA;obtain⟨ha,dx,mh⟩:=BS.o.heap.form;have HHR:=Ys BS.o.MK;have Lv:=Ys mh;have GA:=KM.o.DW;clear jV Ew AA mh;go_wp2_with fail;go_loopw [47] (fun i wr=>∃q:Nat,q≤vs.length∧i=.int .i64 q∧Ext w9 wr∧Zs (M.gY p xk g.st.heap vs (⟨2,xn⟩::m.args)=M.gY p xk g.st.heap (vs.drop q) ((M.Kind.mk 2 xn::m.args).drop q))) (fun i _=>vs.length - (intOf i).toNat)
    case atStart=>exact⟨0,Nat.zero_le _,rfl,Kp.refl _ _,Ys rfl⟩
    case round =>
     obtain⟨q,hq,rfl,hE,HT9⟩:=hrel;by_cases cK:q<vs.length
     · obtain⟨⟨vk,vn⟩,hv⟩:=gH vs q cK;obtain⟨⟨kq,kn⟩,hk⟩:=gH (M.Kind.mk 2 xn::m.args) q (by have:=Rm.o;simp;omega);have Fv:Zs (M.aR ⟨vk,vn⟩ g.os.length=true):=Ys (XK.o _ (List.mem_of_getElem? hv));have hcv:=(dG (enc:=bq) (k:=2) (fun _=>rfl) HVR.o hv).ext hE;have RL:=dG (enc:=fun k:M.Kind=>[.int .i64 k.kind,.string k.name]) (k:=2) (fun _=>rfl) (l:=M.Kind.mk 2 xn::m.args) HR9.o hk;have g0:=hcv.two.1;have g1:=hcv.two.2;have gz:=aS g0;have HTS:Zs (M.gY p xk g.st.heap vs (⟨2,xn⟩::m.args)=(M.hasType p xk g.st.heap ⟨vk,vn⟩ ⟨kq,kn⟩&&M.gY p xk g.st.heap (vs.drop (q+1)) ((M.Kind.mk 2 xn::m.args).drop (q+1)))):=Ys (by rw[HT9.o,gX hv,gX hk];rfl);obtain⟨W4,Ep,dN,b10⟩:=nu wr #[.int .i64 vk,.int .i64 vn] 63;have Ct:=hE.trans dN;obtain⟨T,f,dm,HT⟩:=gy.ex (fun W'=>Ext W4 W') _ (Kp.refl _ _);have rO:=fun z=>(BS.o.ext (Ct.trans (HT.aK z))).blk.c 0 (.pointer (some ⟨l.L,0,none⟩)) rfl;have QV:=fun z=>(BS.o.ext (Ct.trans (HT.aK z))).blk.c 4 (.slice ha g.os.length dx) (by rw[←Lv.o];rfl);have K9:=fun z=>(Xa.o.ext (Ct.trans (HT.aK z))).c 0 (.int .i64 xk) rfl;have aeb:=fun z=>(b10.ext (HT.aK z)).c 0 (.int .i64 vk) rfl;have aec:=fun z=>(b10.ext (HT.aK z)).c 1 (.int .i64 vn) rfl;have rt0:=fun z=>(af.ext RL (Ct.trans (HT.aK z))).two.1;have rt1:=fun z=>(af.ext RL (Ct.trans (HT.aK z))).two.2;have RS:=fun W (hW:Ext W4 W)=>mW W l p (BS.o.cu.ext (Ct.trans hW)) xk (.slice ha g.os.length dx) g.st.heap (by rw[←Lv.o];exact HHR.o.ext (Ct.trans hW)) ⟨vk,vn⟩ (fun e=>by have:=M.kF Fv.o e;simpa [Gh.st]using this) ⟨kq,kn⟩;have Xy:=Ys RS;have ax:=Ys HT;have BX:=Ys Ep;have Tv:=Ys Ct;have WE:(q:Int)<m.args.length+1:=by have:=Rm.o;omega
       have hqv:(q:Int)<vs.length:=by omega
       have Sk:IntKind.i64.wrap ((q:Int)+1)=q+1:=IntWalk.i64_in _ (by omega);clear HT RS hcv RL hv hk Ep dN b10 Ct;go_wp2_with fail;rw[←BX.o];(refine dQ ax 18 [([0,1,2,3,4,5,6,7,8,9,10,11,12,13,14,15],16)] [17] ?_ ?_)
       · exact(Kp.refl _ _).drew
       (refine dn [_,_,_,_,_,_,_,_,_,_,_,_,_,_,_,_] rfl rfl fun K hK=>?_);(repeat (go_big_quiet_step (fail)));(refine qn hK fun K2 ag=>?_);clear hK K;go_wp2_with fail;refine(Xy.o _ (Kp.refl _ _).drew).mono ?_;rintro e w5 ⟨rfl,ed⟩;have iG:Zs (Ext W4 w5):=Ys (((Kp.refl _ W4).drew:Ext W4 _).trans ed);clear ed;cases IU:M.hasType p xk g.st.heap ⟨vk,vn⟩ ⟨kq,kn⟩
       · replace HV:Zs (M.enter p lk ⟨⟨xk,xn⟩,xa⟩ vs g.st=(10,g.st)):=Ys (by rw[HV.o,HTS.o,IU];rfl);clear IU;go_wp2_with fail;(refine kk ax ag iG.o ?_);clear ag K2;(refine fq [_] rfl rfl fun K hK=>?_);(repeat (go_big_quiet_step (fail)));(refine qn hK ?_);clear hK K;go_wp2_with fail;go_ret;rw[HV.o];exact bG.mk' (xS.o.trans (Tv.o.trans iG.o).any) (eF.refl _ _) (BS.o.ext (Tv.o.trans iG.o)) rfl
       · have qc:Zs (M.gY p xk g.st.heap vs (⟨2,xn⟩::m.args)=M.gY p xk g.st.heap (vs.drop (q+1)) ((M.Kind.mk 2 xn::m.args).drop (q+1))):=Ys (by rw[HTS.o,IU];rfl);clear IU;go_wp2_with fail;(refine kk ax ag iG.o ?_);clear ag K2;(refine fq [_] rfl rfl fun K hK=>?_);(repeat (go_big_quiet_step (fail)));(refine qn hK ?_);clear hK K;go_wp2_with fail;exact⟨⟨q+1,by omega,by simp,Tv.o.trans iG.o,qc⟩,by simp[intOf];omega⟩
     · have CF:q=vs.length:=by omega
       replace HV:Zs (M.enter p lk ⟨⟨xk,xn⟩,xa⟩ vs g.st=(1,{g.st with frames:=g.st.frames++[⟨⟨⟨xk,xn⟩,xa⟩,0,vs++List.replicate (m.locals.toNat - vs.length) M.dE,[]⟩]})):=Ys (by
        rw[HV.o,HT9.o,CF,List.drop_length];rfl)
       obtain⟨n,hn⟩:∃n:Nat,m.locals=n:=⟨m.locals.toNat,by have:=KM.o.args;omega⟩;have ZL:n≤6:=by have:=KM.o.locals;omega
       have JO:vs.length≤n:=by have:=KM.o.args;have:=Rm.o;omega
       obtain⟨MC,hMC⟩:∃MC,MC=madeCells (Value.agg #[.int .i64 0,.int .i64 0]).cells (n*2):=⟨_,rfl⟩;have Qq:MC.toList=(List.replicate n M.dE).flatMap bq:=by rw[hMC];exact Ke ZL
       have hmk:∀W:World,(Instr.makeSlice 119 (.int .i64 n) (.int .i64 n)).run Tryz.prog W=.ok (.slice (some ⟨W.heap.size,0,none⟩) n n) (W.alloc (.cells MC 63)):=fun W=>by
        obtain⟨i,z,bytes,ht,hi,hz,qx,KW,K5,hk,hb⟩:=lT;have EA:z=.agg #[.int .i64 0,.int .i64 0]:=by
         have e:(Tryz.prog.info? 63).map (·.zero)=some (some (.agg #[.int .i64 0,.int .i64 0])):=by kernel_rfl
         rw[hi]at e;simp only[Option.map_some,Option.some.injEq]at e;rw[hz]at e;cases e;rfl
        have:=run_makeSlice (P:=Tryz.prog) W 119 63 i z ht hi hz .i64 .i64 n n (by omega) (Int.le_refl _) (by rw[qx];simp;omega) (by
         have:(i.bytes:Int)*n≤4096*6:=Int.mul_le_mul (by omega) (by omega) (by omega) (by omega);omega) (by omega)
        rw[qx,EA]at this;simpa [hMC]using this
       have HE:=Ys hE;have y4:=(BN.o.ext hE).c 4 (.int .i64 n) (by rw[←hn];rfl);have yz:=(BN.o.ext hE).lt;have HN:=Ys hn;have HMC:=Ys Qq;have Sa:(wr.alloc (.cells MC 63)).ownsRow wr.heap.size 63 2 (.slice (some ⟨wr.heap.size,0,none⟩) n n) n ((List.replicate n M.dE).flatMap bq):=by
        rw[←Qq];exact World.ownsRow_lit wr MC n (Nat.le_refl _) (by unfold maxLen;omega) (by
         have:=congrArg List.length Qq;rw[lU (k:=2) (fun _=>rfl),List.length_replicate]at this;simpa using this)
       have XF:=Ys Sa;have Pe:=Ys (kC (aA (D:=fun _=>False) HVR.o (hE.alloc (.cells MC 63)) fun _ _ _ x=>x) (jG oN vs));clear hE hn hMC Qq Sa;go_wp2_with (refine Dr lT _ rfl (.tmp 74) (.tmp 75) rfl wr.heap.size wr.heap.size n n vs.length vc _ _ rfl XF.o ⟨vb,0,none⟩ rfl Pe.o JO ?_);intro dR GU kM;have iy:Ext wr dR:=(kx:Ext wr (wr.alloc (.cells MC 63))).own kM (fun b e=>by omega);have lY:dR.ownsRow wr.heap.size 63 2 (.slice (some ⟨wr.heap.size,0,none⟩) n n) n ((vs++List.replicate (n - vs.length) M.dE).flatMap bq):=by
        rw[List.flatMap_append];have e1:((List.replicate n M.dE).flatMap bq).drop (vs.length*2)=(List.replicate (n - vs.length) M.dE).flatMap bq:=by
         have e2:List.replicate n M.dE=List.replicate vs.length M.dE++List.replicate (n - vs.length) M.dE:=by rw[List.replicate_append_replicate];congr 1;omega
         rw[e2,List.flatMap_append,List.drop_left' (by rw[lU (k:=2) (fun _=>rfl)];simp)]
        rw[e1]at GU;exact GU
       have kY:=Ys iy;have rV:=BS.o.ext (HE.o.trans iy);have fC:=Ys rV;have nV:Zs (Kp (MO l own) w dR):=Ys (xS.o.trans (HE.o.trans iy).any);have abE:=Ys lY;have aai:wr.heap.size<dR.heap.size:=by have:=(lY.lt wr.heap.size rfl).2;exact this
       have ad4:=HE.o.size;have xh:¬g.vc.ownBlock=some mb:=fun e=>by have:=rV.calls.role _ e;rw[rV.role]at this;cases this
       have tX:∀b,w.heap.size≤b→¬g.vc.ownBlock=some b:=fun b hb e=>by have:=(H.o.calls.blk e).2;omega
       obtain⟨T,f,dm,HT⟩:=gy.ex (fun W'=>Kp (fun b=>g.vc.ownBlock=some b) dR W') _ (Kp.refl _ _);have KR:=BN.o.ext (HE.o.trans iy);have tF:=Xa.o.ext (HE.o.trans iy);have Er:w.heap.size≤b7:=by omega
       have rm3:=fun z=>(rV.blk.kp (HT.aK z) xh).c 3 (.slice ca g.cs.length cc) (by rw[←FY.o];rfl);have K9:=fun z=>(tF.kp (HT.aK z) (tX _ (Nat.le_refl _))).c 0 (.int .i64 xk) rfl;have N7:=fun z=>(tF.kp (HT.aK z) (tX _ (Nat.le_refl _))).c 1 (.string xn) rfl;have SL:=fun z=>(tF.kp (HT.aK z) (tX _ (Nat.le_refl _))).c 2 (.int .i64 xa) rfl;have r70:=fun z=>(KR.kp (HT.aK z) (tX _ Er)).c 0 (.string m.name) rfl;have r71:=fun z=>(KR.kp (HT.aK z) (tX _ Er)).c 1 (.slice a1 m.args.length c1) rfl;have r72:=fun z=>(KR.kp (HT.aK z) (tX _ Er)).c 2 (.int .i64 m.ret.kind) rfl;have r73:=fun z=>(KR.kp (HT.aK z) (tX _ Er)).c 3 (.string m.ret.name) rfl;have r74:=fun z=>(KR.kp (HT.aK z) (tX _ Er)).c 4 (.int .i64 m.locals) rfl;have r75:=fun z=>(KR.kp (HT.aK z) (tX _ Er)).c 5 (.int .i64 m.stack) rfl;have r76:=fun z=>(KR.kp (HT.aK z) (tX _ Er)).c 6 (.slice a2 m.code.length c2) rfl;have r77:=fun z=>(KR.kp (HT.aK z) (tX _ Er)).c 7 (.slice a3 m.maps.length c3) rfl;have ax:=Ys HT;have Pv:=Ys xh;clear GU kM iy lY rV HT KR tF xh y4 yz hmk;go_wp2_with fail;(refine dQ ax 15 [([0,1,2,3,4,5,6,7,8,9,10,11],12),([],13),([],14)] [] ?_ ?_)
       · exact(Kp.refl _ _).drew
       (refine dn [_,_,_,_,_,_,_,_,_,_,_,_] rfl rfl fun K hK=>?_);(repeat (go_big_quiet_step (fail)));(refine qn hK fun K2 ag=>?_);clear hK K;go_wp2_with fail;(refine kk ax ag kx ?_);clear ag K2;(refine fG rfl fun K2 ag=>?_);go_wp2_with fail;(refine kk ax ag kx ?_);clear ag K2;(refine fG rfl fun K2 ag=>?_);obtain⟨wB,JP⟩:∃wB,wB=((dR.alloc (.cells #[.int .i64 xk,.string xn,.int .i64 xa,.string m.name,.slice a1 m.args.length c1,.int .i64 m.ret.kind,.string m.ret.name,.int .i64 m.locals,.int .i64 m.stack,.slice a2 m.code.length c2,.slice a3 m.maps.length c3,.int .i64 0,.slice (some ⟨wr.heap.size,0,none⟩) n n,.slice none 0 0,.int .i64 m.stack] 132)).alloc (.cells #[.pointer (some ⟨dR.heap.size,0,none⟩)] 127)).drew:=⟨_,rfl⟩;rw[←JP];have KT:Ext dR wB:=by rw[JP];exact kx
       have bB:az wB dR.heap.size 132 #[.int .i64 xk,.string xn,.int .i64 xa,.string m.name,.slice a1 m.args.length c1,.int .i64 m.ret.kind,.string m.ret.name,.int .i64 m.locals,.int .i64 m.stack,.slice a2 m.code.length c2,.slice a3 m.maps.length c3,.int .i64 0,.slice (some ⟨wr.heap.size,0,none⟩) n n,.slice none 0 0,.int .i64 m.stack]:=by rw[JP];exact(az.newAt (W:=dR) (g:=dR.heap.size) _ _ rfl).ext kx
       have bS:af wB (dR.heap.size+1) 0 [.pointer (some ⟨dR.heap.size,0,none⟩)]:=by rw[JP];exact af.EU _ _ (by simp)
       have hzB:wB.heap.size=dR.heap.size+2:=by
        rw[JP];show((dR.alloc _).alloc _).heap.size=_
        simp
       have Wh:=fC.o.ext KT;have hBw:B≤w.heap.size:=by have:=(H.o.dom mb (by rw[H.o.role];simp)).2;have:=H.o.low;omega
       have hon:∀b,w.heap.size≤b→own b=none:=fun b hb=>by
        cases e:own b with
        |none=>rfl
        |some q=>have:=(H.o.dom b (by rw[e];simp)).2;omega
       obtain⟨dO,gJ⟩:∃dO,dO=(own.add dR.heap.size (4,g.cs.length)).add wr.heap.size (5,g.cs.length):=⟨_,rfl⟩;have ad5:w.heap.size≤wr.heap.size:=by omega
       have o1:∀b r,own b=some r→dO b=some r:=fun b r hb=>by
        have h1:b≠dR.heap.size:=fun e=>by rw[e,hon _ (by omega)]at hb;cases hb
        have h2:b≠wr.heap.size:=fun e=>by rw[e,hon _ (by omega)]at hb;cases hb
        rw[gJ,Own.dV _ h2,Own.dV _ h1];exact hb
       have o2:dO wr.heap.size=some (5,g.cs.length):=by rw[gJ];exact Own.add_eq _ _ _
       have o3:dO dR.heap.size=some (4,g.cs.length):=by rw[gJ,Own.dV _ (by omega)];exact Own.add_eq _ _ _
       have o4:∀b,b<w.heap.size→dO b=own b:=fun b hb=>by rw[gJ,Own.dV _ (by omega),Own.dV _ (by omega)]
       have o5:∀b,dO b≠none→B≤b∧b<wB.heap.size:=fun b hb=>by
        by_cases e1:b=wr.heap.size
        · subst e1;omega
        · by_cases e2:b=dR.heap.size
          · subst e2;omega
          · rw[gJ,Own.dV _ e1,Own.dV _ e2]at hb;exact Wh.dom b hb
       have hMR:=Wh.relabel o1 o5;have YB:iN wB l p dO B g.cs.length (⟨⟨⟨⟨xk,xn⟩,xa⟩,0,vs++List.replicate (m.locals.toNat - vs.length) M.dE,[]⟩,dR.heap.size,⟨a1,c1,a2,c2,a3,c3⟩,.slice (some ⟨wr.heap.size,0,none⟩) n n,.slice none 0 0⟩:GC):=by
        refine⟨?_,o3,by show B≤dR.heap.size;omega,?_,⟨?_,fun q hq=>?_⟩,eu.nil _ _ _ _ _ _⟩
        · unfold yh;simp only[HM.o];exact bB
        · simp only[HM.o];exact bD.ext aC.stays ((HE.o.trans kY.o).trans KT) abF.o
        · have h1:=dJ (base':=B) (aA (D:=fun _=>False) abE.o KT fun _ _ _ x=>x) (by omega);have e1:(vs++List.replicate (m.locals.toNat - vs.length) M.dE).length=n:=by rw[HN.o];simp;omega
          show World.ownsRow _ B _ 2 _ (vs++List.replicate (m.locals.toNat - vs.length) M.dE).length _
          rw[e1,HN.o];simpa using h1
        · cases hq;exact o2
       have HMR:=Ys hMR;have KH:=Ys YB;have HO4:=Ys o4;have FV:Zs (Kp (MO l own) w wB):=Ys (nV.o.trans KT.any);have HBS:=Ys bS;have Ox:=Ys KT;clear JP bB Wh hMR YB o1 o2 o3 o4 o5 gJ bS;refine aV Ba rfl (.tmp 81) (.tmp 90) rfl B (.slice ca g.cs.length cc) g.cs.length (g.cs.flatMap nL) rfl (by rw[←FY.o];exact HMR.o.calls.row) (dR.heap.size+1) 1 [.pointer (some ⟨dR.heap.size,0,none⟩)] rfl rfl HBS.o (by simp[Value.oneCell']) (by omega) (by omega) ?_;intro g9 c9 pY YV Cu nS;change K2 _ _;rw[←FY.o]at Cu nS;(refine kk ax ag (Ox.o.any.trans Cu) ?_);clear ag K2;have CB:=HMR.o.blk.kp Cu Pv.o;have q3:=CB.c 3 (.slice ca g.cs.length cc) (by rw[←FY.o];rfl);have f3:=CB.frozen 3;have qz:=CB.lt;have hFI:=Xt.o.2.2.1;rw[HV.o]at hFI;have hs:({g with cs:=g.cs++[(⟨⟨⟨⟨xk,xn⟩,xa⟩,0,vs++List.replicate (m.locals.toNat - vs.length) M.dE,[]⟩,dR.heap.size,⟨a1,c1,a2,c2,a3,c3⟩,.slice (some ⟨wr.heap.size,0,none⟩) n n,.slice none 0 0⟩:GC)],vc:=.slice (some ⟨g9,0,none⟩) (g.cs.length+1) c9}:Gh).st={g.st with frames:=g.st.frames++[⟨⟨⟨xk,xn⟩,xa⟩,0,vs++List.replicate (m.locals.toNat - vs.length) M.dE,[]⟩]}:=by simp[Gh.st]
       obtain⟨Gy,own',yF,JC⟩:=HMR.o.Ig (⟨⟨⟨⟨xk,xn⟩,xa⟩,0,vs++List.replicate (m.locals.toNat - vs.length) M.dE,[]⟩,dR.heap.size,⟨a1,c1,a2,c2,a3,c3⟩,.slice (some ⟨wr.heap.size,0,none⟩) n n,.slice none 0 0⟩:GC) KH.o g9 c9 YV Cu (by
        rcases nS with e|e
        · exact .inl e
        · right;omega) (by rw[hs];exact hFI)
       have gF:Zs (bG w l p own B mb lk (.int .i64 1) {g.st with frames:=g.st.frames++[⟨⟨⟨xk,xn⟩,xa⟩,0,vs++List.replicate (m.locals.toNat - vs.length) M.dE,[]⟩]} (.returned (.int .i64 1)) (pY.setCell ⟨mb,3,none⟩ (.slice (some ⟨g9,0,none⟩) (g.cs.length+1) c9))):=
        Ys (bG.mk' (FV.o.mo Gy (fun b hb=>HO4.o b hb)) (fun b hb=>(yF b (by omega)).trans (HO4.o b hb)) JC hs)
       clear Gy yF JC hs hFI CB YV Cu nS ax rm3 K9 N7 SL r70 r71 r72 r73 r74 r75 r76 r77;(refine dD ?_);go_wp2_with fail;go_ret;rw[HV.o];exact gF.o
   have Ro:=Ys SS;clear SS hK;cases a1 with
   | none =>
    have Qt:m.args=[]:=by
     cases hma:m.args with
     |nil=>rfl
     |cons k r=>
      rw[hma]at oD;obtain⟨_,_,_,e,_⟩:=oD.get (i:=0) (x:=k) rfl;cases e
    have dI:(w8.alloc (.cells #[.int .i64 2,.string xn] 25)).ownsRow w8.heap.size 25 2 (.slice (some ⟨w8.heap.size,0,none⟩) 1 1) (m.args.length+1) ((M.Kind.mk 2 xn::m.args).flatMap fun k=>[.int .i64 k.kind,.string k.name]):=by
     rw[Qt];exact World.ownsRow_lit w8 #[.int .i64 2,.string xn] 1 (Nat.le_refl _) (by unfold maxLen;omega) rfl
    have hT:=Ro.o (.slice (some ⟨w8.heap.size,0,none⟩) 1 1) (.slice (some ⟨w8.heap.size,0,none⟩) 1 1) _ (kx:Ext w8 (w8.alloc (.cells #[.int .i64 2,.string xn] 25))) dI;simp only[Qt,List.length_nil]at hT;have TK:=Ys hT;clear hT dI;go_wp2_with fail;exact TK.o
   |some ad=>
    have RO:=SliceOf.toFlat (R:=eZ) (enc:=fun k=>[.int .i64 k.kind,.string k.name]) (fun _ _ _ _ e=>e) (fun _=>rfl) (by simp[Value.oneCell']) oD;have Pe:=Ys RO;clear oD RO;have Wz:1+m.args.length≤8589934592:=by have:=KM.o.DW;omega
    have dI:(w8.alloc (.cells #[.int .i64 2,.string xn] 25)).ownsRow w8.heap.size 25 2 (.slice (some ⟨w8.heap.size,0,none⟩) 1 1) 1 [.int .i64 2,.string xn]:=World.ownsRow_lit w8 _ 1 (Nat.le_refl _) (by unfold maxLen;omega) rfl;have Lt:=Ys dI;clear dI;go_wp2_with (at_builtin;refine dH Jr _ rfl (.tmp 41) (.tmp 43) rfl w8.heap.size _ 1 [.int .i64 2,.string xn] rfl Lt.o ad m.args.length c1 _ rfl (Pe.o.ext kx) Wz (by simp) ?_);intro v' w9 R7 kH;have HO9:=Ys R7;have o7:Zs (Ext w8 w9):=Ys ((kx:Ext w8 (w8.alloc (.cells #[.int .i64 2,.string xn] 25))).own kH (fun b e=>by simp only[Value.ownBlock,Option.some.injEq]at e;omega));clear R7 kH;go_wp2_with fail;exact Ro.o _ _ _ o7.o (by rw[Nat.add_comm];exact HO9.o)
  clear hK;have DU:=Ys Fa;clear Fa;(refine nM ax 7 (.two [0,1,2,3,4] 5 6 (.one [] 6 (.fin [])) (.one [] 5 (.fin []))) ?_ ?_)
  · exact(Kp.refl _ _).drew
  (refine two [_,_,_,_,_] rfl rfl rfl fun K hK=>?_);(repeat (go_big_quiet_step (fail)));((refine Hp hK (fun K2 ag=>?_) fun K2 ag=>?_)<;>clear hK K)
  · go_wp2_with fail;have xG:=dK w1.drew l p (Dw.o.cu.ext (Kp.refl _ _).drew) ⟨⟨xk,xn⟩,xa⟩ HX.o;rw[HM.o]at xG;refine xG.mono ?_;rintro e w8 ⟨⟨cs,jk,rfl⟩,lC⟩;obtain⟨t2,rfl⟩:=gP jk;have jQ:Zs (Ext w1 w8):=Ys (((Kp.refl _ _).drew).trans lC);have zU:=Ys jk;clear jk lC xG;simp only[eG];go_wp2_with fail;(refine kk ax ag jQ.o ?_);clear ag K2;(refine bX rfl fun K2 ag=>?_);go_wp2_with fail;(refine kk ax ag (jQ.o.alloc _) ?_);clear ag K2;clear ax rO K9 N7 SL;(refine dz ?_);go_wp2_with fail;exact DU.o _ _ t2 (jQ.o.alloc _) (az.new _ _ _) jQ.o.size (bD.ext aC.stays (kx:Ext w8 _) zU.o)
  · go_wp2_with fail;(refine kk ax ag (((Kp.refl _ _).drew).alloc _) ?_);clear ag K2;(refine bX rfl fun K2 ag=>?_);go_wp2_with fail;have b5:az (w1.alloc (.cells #[.string ⟨#[]⟩,.slice none 0 0,.int .i64 0,.string ⟨#[]⟩,.int .i64 0,.int .i64 0,.slice none 0 0,.slice none 0 0] 34)).drew w1.heap.size 34 #[.string ⟨#[]⟩,.slice none 0 0,.int .i64 0,.string ⟨#[]⟩,.int .i64 0,.int .i64 0,.slice none 0 0,.slice none 0 0]:=(az.new _ _ _).ext (Kp.refl _ _).drew;have xG:=dK ((w1.alloc (.cells #[.string ⟨#[]⟩,.slice none 0 0,.int .i64 0,.string ⟨#[]⟩,.int .i64 0,.int .i64 0,.slice none 0 0,.slice none 0 0] 34)).drew) l p (Dw.o.cu.ext ((Kp.refl _ _).alloc _).drew) ⟨⟨xk,xn⟩,xa⟩ HX.o;rw[HM.o]at xG;refine xG.mono ?_;rintro e w8 ⟨⟨cs,jk,rfl⟩,lC⟩;obtain⟨t2,rfl⟩:=gP jk;have jQ:Zs (Ext w1 w8):=Ys ((((Kp.refl _ w1).alloc _).drew).trans lC);have iQ:=b5.ext lC;have y0:=iQ.c 0 (.string ⟨#[]⟩) rfl;have y1:=iQ.c 1 (.slice none 0 0) rfl;have y2:=iQ.c 2 (.int .i64 0) rfl;have y3:=iQ.c 3 (.string ⟨#[]⟩) rfl;have y4:=iQ.c 4 (.int .i64 0) rfl;have y5:=iQ.c 5 (.int .i64 0) rfl;have y6:=iQ.c 6 (.slice none 0 0) rfl;have y7:=iQ.c 7 (.slice none 0 0) rfl;have g0:=iQ.frozen 0;have g1:=iQ.frozen 1;have g2:=iQ.frozen 2;have g3:=iQ.frozen 3;have g4:=iQ.frozen 4;have g5:=iQ.frozen 5;have g6:=iQ.frozen 6;have g7:=iQ.frozen 7;have z5:=iQ.lt;obtain⟨w9,fT⟩:∃w9,w9=((((((((w8.setCell ⟨w1.heap.size,0,none⟩ (.string m.name)).setCell ⟨w1.heap.size,1,none⟩ (.slice t2.a1 m.args.length t2.c1)).setCell ⟨w1.heap.size,2,none⟩ (.int .i64 m.ret.kind)).setCell ⟨w1.heap.size,3,none⟩ (.string m.ret.name)).setCell ⟨w1.heap.size,4,none⟩ (.int .i64 m.locals)).setCell ⟨w1.heap.size,5,none⟩ (.int .i64 m.stack)).setCell ⟨w1.heap.size,6,none⟩ (.slice t2.a2 m.code.length t2.c2)).setCell ⟨w1.heap.size,7,none⟩ (.slice t2.a3 m.maps.length t2.c3)):=⟨_,rfl⟩;have kH:Kp (·=w1.heap.size) w8 w9:=by rw[fT];exact Kp.N9 (D:=(·=w1.heap.size)) rfl _ _ _ _ _ _ _ _
    have b9:az w9 w1.heap.size 34 (eG m t2).toArray:=by rw[fT];exact iQ.N9 _ _ _ _ _ _ _ _
    have hz7:=Dw.o.cu.lt;have ZR:=Dw.o.cu.ord;have o7:Zs (Ext w1 w9):=Ys (jQ.o.own kH (fun k e=>by omega));have zU:=Ys (bD.kp aC.stays kH (fun b hb e=>by omega) jk);have DJ:=Ys b9;have F5:=Ys fT;clear b5 iQ jk lC fT kH b9 xG;simp only[eG];go_wp2_with fail;(refine kk ax ag jQ.o ?_);clear ag K2;clear ax rO K9 N7 SL;(refine dz ?_);go_wp2_with fail;rw[←F5.o];exact DU.o _ _ t2 o7.o DJ.o (Nat.le_refl _) zU.o
 clear hK;have TAIL:=Ys tail;have XP:=Ys SQ;clear tail SQ;cases lk
 · replace HV:Zs (M.enter p false ⟨⟨xk,xn⟩,xa⟩ vs g.st=if M.gY p xk g.st.heap vs (⟨2,xn⟩::m.args)then(1,{g.st with frames:=g.st.frames++[⟨⟨⟨xk,xn⟩,xa⟩,0,vs++List.replicate (m.locals.toNat - vs.length) M.dE,[]⟩]})else(10,g.st)):=Ys HV.o;(refine dQ ax 13 [([0,1,2,3,4,5,6,7,8,9],10)] [11,12] ?_ ?_)
   · exact(LC.refl HA.o.cu).drew
   (refine dn [_,_,_,_,_,_,_,_,_,_] rfl rfl fun K hK=>?_);(repeat (go_big_quiet_step (fail)));(refine qn hK fun K2 ag=>?_);clear hK K;go_wp2_with fail;(refine kk ax ag (LC.refl HA.o.cu).drew ?_);clear ag K2;(refine fq [_,_] rfl rfl fun K hK=>?_);(repeat (go_big_quiet_step (fail)));(refine qn hK ?_);clear hK K;go_wp2_with fail;exact TAIL.o _ _ _ _ _ _ _ _ _ (LC.refl HA.o.cu).drew HV.o
 · (refine dQ ax 13 [([0,1,2,3,4,5,6,7,8,9],10)] [11,12] ?_ ?_)
   · exact(LC.refl HA.o.cu).drew
   (refine dn [_,_,_,_,_,_,_,_,_,_] rfl rfl fun K hK=>?_);(repeat (go_big_quiet_step (fail)));(refine qn hK fun K2 ag=>?_);clear hK K;go_wp2_with fail;refine((Ic.o (by simp)) _ _ _ (HA.o.cu.ext (Kp.refl _ _).drew) ⟨⟨xk,xn⟩,xa⟩ HX.o).mono ?_;rintro e w1 ⟨rfl,j3,vV⟩;have Ag:Zs (LC l p w0 w1):=Ys ((LC.refl HA.o.cu).drew.step vV j3);clear j3 vV;cases hr:M.right p ⟨⟨xk,xn⟩,xa⟩
   · rw[hr]at HV;replace HV:Zs (M.enter p true ⟨⟨xk,xn⟩,xa⟩ vs g.st=(5,g.st)):=Ys HV.o;clear hr;go_wp2_with fail;(refine kk ax ag Ag.o ?_);clear ag K2;(refine fq [_,_] rfl rfl fun K hK=>?_);(repeat (go_big_quiet_step (fail)));(refine qn hK ?_);clear hK K;go_wp2_with fail;exact XP.o _ _ _ _ _ _ _ _ _ Ag.o HV.o
   · rw[hr]at HV;replace HV:Zs (M.enter p true ⟨⟨xk,xn⟩,xa⟩ vs g.st=if M.gY p xk g.st.heap vs (⟨2,xn⟩::m.args)then(1,{g.st with frames:=g.st.frames++[⟨⟨⟨xk,xn⟩,xa⟩,0,vs++List.replicate (m.locals.toNat - vs.length) M.dE,[]⟩]})else(10,g.st)):=Ys HV.o;clear hr;go_wp2_with fail;(refine kk ax ag Ag.o ?_);clear ag K2;(refine fq [_,_] rfl rfl fun K hK=>?_);(repeat (go_big_quiet_step (fail)));(refine qn hK ?_);clear hK K;go_wp2_with fail;exact TAIL.o _ _ _ _ _ _ _ _ _ Ag.o HV.o
end Go.Proofs.YtohpiobncgafeaaGreatDoor
