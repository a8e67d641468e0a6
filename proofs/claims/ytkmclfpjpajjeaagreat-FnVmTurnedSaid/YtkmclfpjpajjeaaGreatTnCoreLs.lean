/- Walks. -/
import Derived.Test.YtkmclfpjpajjeaaGreatTnCoreLr
import Derived.Laws.CopyOwn
set_option maxRecDepth 100000
set_option maxHeartbeats 4000000
set_option linter.unusedSimpArgs false
set_option linter.unusedVariables false
namespace Go.Proofs.YtkmclfpjpajjeaaGreat
open Go Go.RowKit
def noP(Q:Exit→Act→World→Prop):Exit→Act→World→Prop
 | .panic _,_,_=>False
 |e,a,w=>Q e a w
theorem xC{P:Program}{id:Nat}{Q:Exit→Act→World→Prop}{a:Act}{w:World}{l:List Oper}{T:Type}(f:T→World)(n:Nat)(lS:List (List Nat×Nat))(q:List Nat)(h0:∃s,w.drew=f s)(hm:P.follows .mixedOrders=true)(hB:Fp l.toArray n lS q=true)
    (h:oU P l (fun w'=>∃s,w'=f s) (noP Q) (fun a' w'=>wpList P l.toArray (noP Q) (l.drop n) a' w') lS q a w.drew):(Code.region id l.toArray true).wp P Q a w:=
 Code.wp_mono (Q:=noP Q) (fun e _ _ h=>by cases e<;>first|exact h|exact h.elim) (uR f n lS q h0 hm hB (fun _ _ _ _ _ h=>h) h)
theorem RS{n:Nat}(h:n≤6):(madeCells (Value.agg #[.int .i64 0,.string ⟨#[]⟩]).cells (n*2)).toList=(List.replicate n M.Cy).flatMap iD:=by
 have:n=0∨n=1∨n=2∨n=3∨n=4∨n=5∨n=6:=by omega
 rcases this with rfl|rfl|rfl|rfl|rfl|rfl|rfl<;>(show _=_;kernel_rfl)
theorem Ng{t e k:Nat}(E:Elem t e k){z:Value}(vU:(Tryz.prog.info? e).map (·.zero)=some (some z))(w:World){ops:Array Oper}{rest:List Oper}{o:Oper}{a:Act}{Q:Exit→Act→World→Prop}(IU:o.guard=none)(x y:Operand)(ho:o.op=Op.makeSlice t x y)
    (base n:Nat) (hx:a.eval x=.int .i64 n) (hy:a.eval y=.int .i64 n) (hn:n≤1000) (kF:base≤w.heap.size)
    (h:∀w',w'.ownsRow base e k (.slice (some ⟨w.heap.size,0,none⟩) n n) n (madeCells z.cells (n*k)).toList→Ext w w'→w.heap.size<w'.heap.size→wpList Tryz.prog ops Q rest (a.put o.dst (.slice (some ⟨w.heap.size,0,none⟩) n n)) w'):wpList Tryz.prog ops Q (o::rest) a w:=by
 obtain⟨i,z',bytes,ht,hi,hz,kv,Rj,Rt,hk,hb⟩:=E;rw[hi]at vU;simp only[Option.map_some,Option.some.injEq]at vU;rw[vU]at hz;cases hz;refine wpList_make_full w IU x y t ho base e i z k ht hi vU kv .i64 .i64 n n n hx hy rfl rfl ?_ (by unfold maxLen;omega) kF ?_
 · have:i.bytes*n≤4096*1000:=Nat.mul_le_mul Wg hn;omega
 · intro w' h2 h3;refine h w' h2 ⟨h3.os,h3.tape,h3.output,h3.size,fun k hk hd=>h3.block k hk Wf⟩ (h2.lt w.heap.size rfl).2
theorem TU.low{W W':World}{S S':Nat}{v vl vs:Value}{known:List M.iY}{cs:List (Value×Value)}{D:Nat→Prop}(h:TU W S v vl vs known cs)(hk:Kp D W W')(hD:∀b,S≤b→¬D b)(hS:S'≤S):TU W' S' v vl vs known cs:=by
 obtain⟨e1,e2,e3⟩:=h;have sub:∀b,Nz W S v vl vs b→Nz W' S' v vl vs b:=fun b ⟨q1,q2,q3⟩=>⟨Nat.le_trans hS q1,Nat.lt_of_lt_of_le q2 hk.size,q3⟩;have same:Same (Nz W S v vl vs) W W':=Kp.same hk fun b hb=>hD b hb.1;refine⟨e1,fI (aA e2 hk (fun g _ hg=>hD g hg)) hS,fun j c f hc hf=>?_⟩;obtain⟨a1,a2⟩:=e3 j c f hc hf;exact⟨a1.keep eB.stays same sub,a2.keep eB.stays same sub⟩
def mY(n:ByteArray)(m:M.Method)(q r:Nat):List M.Tag:=(M.eP n::(m.args.take q).map M.fJ)++List.replicate r M.Cy
theorem Oc{n:ByteArray}{m:M.Method}{q r:Nat}(h:q≤m.args.length):(mY n m q r).length=q+1+r:=by simp[mY];omega
theorem Od{n:ByteArray}{m:M.Method}{q r:Nat}{k:M.Kind}(h:m.args[q]?=some k):(mY n m q (r+1)).set (q+1) (M.fJ k)=mY n m (q+1) r:=by
 have hq:q<m.args.length:=(List.getElem?_eq_some_iff.1 h).1;have e1:(M.eP n::(m.args.take q).map M.fJ).length=q+1:=by simp;omega
 have e2:m.args.take (q+1)=m.args.take q++[k]:=by rw[List.take_add_one,h];rfl
 unfold mY;rw[List.set_append_right _ _ Wg,e1,Nat.sub_self,e2,List.replicate_succ];simp
theorem Ob{n:ByteArray}{m:M.Method}{q r:Nat}(h:q≤m.args.length):(mY n m q (r+1))[q+1]?=some M.Cy:=by
 have e1:(M.eP n::(m.args.take q).map M.fJ).length=q+1:=by simp;omega
 unfold mY;rw[List.getElem?_append_right Wg,e1,Nat.sub_self];rfl
theorem OY(w:World)(l:aH)(p:M.ax)(h:aC w l p)(x:M.kI)(hx:M.bP p x=true):
    Calls Tryz.prog 105 #[.pointer (some ⟨l.L,0,none⟩),.agg #[.int .i64 x.of.keeper,.string x.of.name,.int .i64 x.at_]] w fun e w'=>
     Kp (·=l.D) w w'∧aC w' l p∧∃v vl vs,e=.returned (.tuple #[v,.int .i64 (M.look p x).2])∧Kn w' w.heap.size v vl vs (M.look p x).1:=by
 obtain⟨⟨xk,xn⟩,xa⟩:=x;have Bp:M.EO (M.method p ⟨⟨xk,xn⟩,xa⟩):=M.pG (M.ji h.ok hx).1;obtain⟨m,hm⟩:∃m,M.method p ⟨⟨xk,xn⟩,xa⟩=m:=⟨_,rfl⟩;have hmf:∀(fn:Fn) (first cap:Array Value) (w:World),(Instr.makeFunc fn first cap).run Tryz.prog w=.ok (.func fn first cap) w:=fun _ _ _ _=>rfl;obtain⟨w0,bI⟩:∃w0,w0=((w.alloc (.cells #[.int .i64 xk,.string xn,.int .i64 xa] 94)).alloc (.cells #[.slice none 0 0] 180)).alloc (.cells #[.int .i64 0] 3):=⟨_,rfl⟩;have aU:Ext w w0:=by rw[bI];exact kx
 have b3:ay w0 w.heap.size 94 #[.int .i64 xk,.string xn,.int .i64 xa]:=by rw[bI];exact(ay.new _ _ _).ext kx
 have b4:ay w0 (w.heap.size+1) 180 #[.slice none 0 0]:=by rw[bI];exact(ay.newAt (W:=w.alloc (.cells #[.int .i64 xk,.string xn,.int .i64 xa] 94)) (g:=w.heap.size+1) _ _ Wf).ext kx
 have b5:ay w0 (w.heap.size+2) 3 #[.int .i64 0]:=by rw[bI];exact ay.newAt _ _ Wf
 have⟨dO,bM,gN,kP,lC,H,HX,HM,HMF⟩:=LX bI aU b3 b4 b5 h hx hm hmf;have CV:=h.lt;clear bI aU b3 b4 b5 h hx hm hmf;go_enter_defers Tryz.func105,Tryz.ntmps105;go_wp2_with fail;rw[←dO.o];refine(fQ _ _ _ (H.o.ext bM.o) ⟨⟨xk,xn⟩,xa⟩ HX.o).mono ?_;rintro e w1 ⟨⟨cs,mF,rfl⟩,bH⟩;rw[HM.o]at mF Bp;obtain⟨t,rfl⟩:=jS mF;obtain⟨a1,c1,a2,c2,a3,c3⟩:=t;obtain⟨n,hn⟩:∃n:Nat,m.locals=n:=⟨m.locals.toNat,by have:=Bp.args;omega⟩;obtain⟨w2,ny⟩:∃w2,w2=w1.alloc (.cells (iC m ⟨a1,c1,a2,c2,a3,c3⟩).toArray 106):=⟨_,rfl⟩;have bZ:Ext w1 w2:=by rw[ny];exact kx
 have b6:ay w2 w1.heap.size 106 (iC m ⟨a1,c1,a2,c2,a3,c3⟩).toArray:=by rw[ny];exact ay.new _ _ _
 have UB:=bH.trans bZ;obtain⟨T,f,dA,HT⟩:=iN.ex (fun W'=>Ext w2 W') _ Kp.rr;have r30:=fun z=>((gN.o.ext UB).ext (HT.aW z)).c 0 (.int .i64 xk) rfl;obtain⟨-,NJ,QB,r62,r63, -⟩:=ay.kY fun z=>(b6.ext (HT.aW z));have r64:=fun z=>(b6.ext (HT.aW z)).c 4 (.int .i64 n) (by rw[←hn];rfl);obtain⟨-, -, -, -, -, -,r65,r66,r67, -⟩:=ay.kY fun z=>(b6.ext (HT.aW z));have⟨aj,Bi⟩:=aJ HT ny;have gL:Zs (Ext w w2):=Z3 (bM.o.trans UB);have aaU:=Z3 UB;have GQ:Zs (aG w2 (· <l.O) m (iC m ⟨a1,c1,a2,c2,a3,c3⟩)):=Z3 (bQ.ext aG.stays bZ mF);have⟨dL,SS,HN⟩:=bg b6 Bp hn;have hn6:n≤6:=by have:=Bp.locals;omega
 have aiB:w.heap.size+3≤w2.heap.size:=by have:=UB.size;have:=lC.o.lt;omega
 clear bH bZ b6 UB HT mF Bp;simp only[iC,hn]at ny;have agm:=Z3 ny;clear ny hn;simp only[iC,HN.o];go_wp2_with fail;rw[←agm.o];(refine xC f 10 [([0,1,2,3,4,5,6],7),([8],9)] [] (aj.o.o _ ?_) Wr Wr ?_)
 · exact Kp.rr.drew
 refine iX ?_;intro K2 ag;refine Ng sJ (z:=.agg #[.int .i64 0,.string ⟨#[]⟩]) Wr _ rfl (.tmp 19) (.tmp 19) rfl w.heap.size n rfl rfl Wg X2 ?_;intro w3 FE dK KQ;change K2 _ _;simp only[Act.put,List.setIfInBounds_toArray,List.set_cons_succ,List.set_cons_zero];rw[RS hn6]at FE;have Ov:Ext w2 w3:=((Kp.refl _ w2).drew:Ext w2 _).trans dK;(refine kk aj ag Ov ?_);clear ag K2;have⟨jc,zk⟩:=aJ Ov FE;clear dK Ov FE;refine iX ?_;intro K2 ag;go_wp2_with fail;obtain⟨w4,vT⟩:∃w4,w4=w3.alloc (.cells #[.pointer (some ⟨l.L,0,none⟩),.int .i64 xk,.string m.name,.slice a1 m.args.length c1,.int .i64 m.ret.kind,.string m.ret.name,.int .i64 n,.int .i64 m.stack,.slice a2 m.code.length c2,.slice a3 m.maps.length c3,.int .i64 0,.slice (some ⟨w2.heap.size,0,none⟩) n n,.slice none 0 0] 214):=⟨_,rfl⟩;have dI:Ext w3 w4:=by rw[vT];exact kx
 have hbk:ay w4 w3.heap.size 214 (OX l.L xk m ⟨a1,c1,a2,c2,a3,c3⟩ 0 (.slice (some ⟨w2.heap.size,0,none⟩) n n) (.slice none 0 0)):=by
  unfold OX;rw[vT,HN.o];exact ay.new _ _ _
 (refine kk aj ag (jc.o.alloc _) ?_);clear ag K2;rw[←vT];have Ow:Ext w2 w4:=jc.o.trans dI;have hA4:aQ w4 l p w.heap.size w3.heap.size xk m ⟨a1,c1,a2,c2,a3,c3⟩ 0 ⟨List.replicate n M.Cy,[]⟩ (.slice (some ⟨w2.heap.size,0,none⟩) n n) (.slice none 0 0):=
  ⟨H.o.ext (gL.o.trans Ow),CV,(by have:=jc.o.size;omega),bQ.ext aG.stays Ow GQ.o,SS.o,hbk,
   (by rw[List.length_replicate];exact aA zk.o dI (fun _ _ _ x=>x)),World.ownsRow_nil _ _ _ _,(fun g _ e=>by cases e),Wg,(by have:=SS.o.Wo;simp;omega),(by rw[List.length_replicate];exact HN.o.symm)⟩
 have⟨HA4,TK,EN⟩:=bg hA4 Ow vT;clear vT dI hbk Ow hA4 aj r30 NJ QB r62 r63 r64 r65 r66 r67;(refine dW ?_);go_wp2_with fail;simp only[noP];go_wp2_with fail;obtain⟨n1,rfl⟩:∃n1,n=n1+1:=⟨n - 1,by have:=SS.o.args;have:=HN.o;omega⟩;obtain⟨T,f,dA,HT⟩:=iN.ex (fun W'=>Ext w4 W') _ Kp.rr;have r11:=fun z=>(HA4.o.ext (HT.aW z)).blk.c 11 (.slice (some ⟨w2.heap.size,0,none⟩) (n1+1) (n1+1)) rfl;have r31:=fun z=>(((gN.o.ext aaU.o).ext TK.o).ext (HT.aW z)).c 1 (.string xn) rfl;have aj:=Z3 HT;clear HT;(refine xC f 8 [([0,1,2,3,4,5,6],7)] [] (aj.o.o _ ?_) Wr Wr ?_)
 · exact Kp.rr.drew
 refine iX ?_;intro K2 ag;go_wp2_with fail;refine(xP _ xn).mono ?_;rintro e w5 ⟨rfl,cZ⟩;have gy:Zs (Ext w4 w5):=Z3 (((Kp.refl _ w4).drew:Ext w4 _).trans cZ);clear cZ;go_wp2_with fail;(refine kk aj ag gy.o ?_);clear ag K2;have NA:=HA4.o.ext gy.o;have qN:=NA.loc;obtain⟨cur,qM⟩:=jm qN rfl;obtain⟨x0,x1⟩:=(fC (enc:=iD) (k:=2) (fun _=>rfl) (l:=List.replicate (n1+1) M.Cy) (by simpa using qN) (i:=0) (x:=M.Cy) Wf).two;rw[Nat.zero_mul]at x0 x1;have f0:=qM.frozen 0;have f1:=qM.frozen 1;have Vt:=qM.lt;have Hd:=Z3 NA;clear NA qN qM aj r11 r31;(refine dW ?_);go_wp2_with fail;simp only[noP];have Uv:aQ w5 l p w.heap.size w3.heap.size xk m ⟨a1,c1,a2,c2,a3,c3⟩ 0 ⟨List.replicate (n1+1) M.Cy,[]⟩ (.slice (some ⟨w2.heap.size,0,none⟩) (List.replicate (n1+1) M.Cy).length (n1+1)) (.slice none 0 0):=by
  rw[List.length_replicate];exact Hd.o
 obtain⟨Ho, -⟩:=Uv.xD 0 (M.eP xn);obtain⟨w6,nS⟩:∃w6,w6=(w5.setCell ⟨w2.heap.size,0,none⟩ (.int .i64 (M.eP xn).kind)).setCell ⟨w2.heap.size,1,none⟩ (.string (M.eP xn).name):=⟨_,rfl⟩;have zV:Kp (·=w2.heap.size) w4 w6:=by
  rw[nS];exact(gy.o.any).trans (((Kp.refl (·=w2.heap.size) w5).setCell (p:=⟨w2.heap.size,0,none⟩) (fun _=>rfl) _).setCell (p:=⟨w2.heap.size,1,none⟩) (fun _=>rfl) _)
 rw[←nS];replace Ho:aQ w6 l p w.heap.size w3.heap.size xk m ⟨a1,c1,a2,c2,a3,c3⟩ 0 ⟨mY xn m 0 n1,[]⟩ (.slice (some ⟨w2.heap.size,0,none⟩) (n1+1) (n1+1)) (.slice none 0 0):=by
  rw[List.length_replicate]at Ho;rw[nS];exact Ho
 have vB:m.args.length≤n1:=by have:=SS.o.args;have:=HN.o;omega
 have Oz:=SS.o.Lj;have y1:=((dL.o.ext TK.o).kp zV (by have:=dL.o.lt;omega)).c 1 (.slice a1 m.args.length c1) rfl;have⟨PQ,Bg⟩:=aJ Ho zV;clear Uv Ho zV nS x0 x1 f0 f1 Vt;go_wp2_with fail;go_loopw [35] (fun i wr=>∃q:Nat,q≤m.args.length∧i=.int .i64 q∧aQ wr l p w.heap.size w3.heap.size xk m ⟨a1,c1,a2,c2,a3,c3⟩ 0 ⟨mY xn m q (n1 - q),[]⟩ (.slice (some ⟨w2.heap.size,0,none⟩) (n1+1) (n1+1)) (.slice none 0 0)∧Kp (·=w2.heap.size) w4 wr) (fun i _=>m.args.length - (intOf i).toNat)
 case atStart=>exact⟨0,Nat.zero_le _,rfl,PQ.o,Bg.o⟩
 case round =>
  obtain⟨q,hq,rfl,hA,hK⟩:=hrel;by_cases bY:q<m.args.length
  · obtain⟨⟨kq,kn⟩,hy⟩:=iT m.args q bY;obtain⟨b,off,cs,rfl,KN,rfl, -,jy⟩:=(aG.args hA.ml).get hy;obtain⟨g0,g1⟩:=jy.two;have gz:=aF g0;obtain⟨r,hr⟩:∃r,n1 - q=r+1:=⟨n1 - q - 1,by omega⟩;rw[hr]at hA;have Vi:n1 - (q+1)=r:=by omega
    obtain⟨W4,LM,dI,b9⟩:=nu wr #[.int .i64 kq,.string kn] 102;obtain⟨T,f,dA,HT⟩:=iN.ex (fun W'=>Ext W4 W') _ Kp.rr;have r11:=fun z=>((hA.ext dI).ext (HT.aW z)).blk.c 11 (.slice (some ⟨w2.heap.size,0,none⟩) (n1+1) (n1+1)) rfl;obtain⟨-,r90,r91, -⟩:=ay.kY fun z=>(b9.ext (HT.aW z));have⟨aj,SI,Ec,iG,HX4⟩:=kL HT hA hK dI LM;have hqq:(q:Int)<m.args.length:=by omega
    have YH:IntKind.i64.wrap ((q:Int)+1)=q+1:=IntWalk.i64_in _ Wg;clear HT hA hK dI LM b9 jy;go_wp2_with fail;rw[←HX4.o];(refine xC f 8 [([0,1,2,3,4,5,6],7)] [] (aj.o.o _ ?_) Wr Wr ?_)
    · exact Kp.rr.drew
    refine iX ?_;intro K2 ag;go_wp2_with fail;refine(Cu _ ⟨kq,kn⟩).mono ?_;rintro e w5 ⟨rfl,cZ⟩;have gy:Zs (Ext W4 w5):=Z3 (((Kp.refl _ W4).drew:Ext W4 _).trans cZ);clear cZ;go_wp2_with fail;(refine kk aj ag gy.o ?_);clear ag K2;have NA:=SI.o.ext (iG.o.trans gy.o);have qN:=NA.loc;have hlen:=Oc (n:=xn) (r:=r+1) hq;have Hw:q+1+(r+1)=n1+1:=by omega
    obtain⟨cur,qM⟩:=jm qN rfl;obtain⟨x0,x1⟩:=(fC (enc:=iD) (k:=2) (fun _=>rfl) (l:=mY xn m q (r+1)) (by simpa [hlen,Hw]using qN) (Ob hq)).two;have f0:=qM.frozen ((q+1)*2);have f1:=qM.frozen ((q+1)*2+1);have Vt:=qM.lt;have hb0:(q:Int)+1<n1+1:=by omega
    have Uv:aQ w5 l p w.heap.size w3.heap.size xk m ⟨some ⟨b,off,none⟩,c1,a2,c2,a3,c3⟩ 0 ⟨mY xn m q (r+1),[]⟩ (.slice (some ⟨w2.heap.size,0,none⟩) (mY xn m q (r+1)).length (n1+1)) (.slice none 0 0):=by
     rw[hlen,Hw];exact NA
    have ZB:=Z3 (Uv.xD (q+1) (M.fJ ⟨kq,kn⟩)).1;have⟨HL,HY⟩:=aJ (hlen.trans Hw) hy;clear NA Uv qN qM aj r11 r90 r91 hlen Hw hy;(refine dW ?_);go_wp2_with fail;simp only[noP];go_wp2_with fail;refine⟨⟨q+1,by omega,by simp,?_,?_⟩,by simp[intOf];omega⟩
    · rw[Vi];have:=ZB.o;rw[HL.o]at this;rw[←Od HY.o];exact this
    · refine Ec.o.trans ((iG.o.trans gy.o).any.trans ?_);exact((Kp.refl (·=w2.heap.size) w5).setCell (p:=⟨w2.heap.size,(q+1)*2,none⟩) (fun _=>rfl) _).setCell (p:=⟨w2.heap.size,(q+1)*2+1,none⟩) (fun _=>rfl) _
  · have G7:q=m.args.length:=by omega
    have dw:(⟨mY xn m q (n1 - q),[]⟩:M.iY)=M.ry ⟨⟨xk,xn⟩,xa⟩ m:=by
     unfold mY M.ry;rw[G7,List.take_length,HN.o];congr 3;simp
    rw[dw]at hA;have Qo:Zs (M.look p ⟨⟨xk,xn⟩,xa⟩=match M.eZ p xk m m.code 0 true (M.ry ⟨⟨xk,xn⟩,xa⟩ m) []with
     | .inl n=>([],n)
     | .inr l=>(l,0)):=Z3 (by unfold M.look;rw[HM.o];rfl)
    have Ap:Ext w wr:=(gL.o.trans TK.o).own hK (fun b e=>by omega);have adE:=((kP.o.ext aaU.o).ext TK.o).kp hK Wg;have adG:=((lC.o.ext aaU.o).ext TK.o).kp hK Wg;have⟨SI,HKw,KU,aaO⟩:=gD hA Ap adE adG;have hkB:=gN.o.lt;have aiC:=jc.o.size;have Aw:=H.o.ord;have vR:∀b,w.heap.size≤b→b<w.heap.size+3→¬jf l w3.heap.size (.slice (some ⟨w2.heap.size,0,none⟩) (n1+1) (n1+1)) (.slice none 0 0) b:=fun b h1 h2=>by
     rintro(e|e|e|e)
     · omega
     · omega
     · have:w2.heap.size=b:=by simpa [Value.ownBlock]using e
       omega
     · cases e
    have dZ:=Z3 vR;have aen:∀W,Kp (jf l w3.heap.size (.slice (some ⟨w2.heap.size,0,none⟩) (n1+1) (n1+1)) (.slice none 0 0)) wr W→Kp (·=l.D) w W:=fun W hW=>Ap.any.mix hW (fun k hk e=>by
     rcases e with e|e|e|e
     · exact e
     · omega
     · have:w2.heap.size=k:=by simpa [Value.ownBlock]using e
       omega
     · cases e)
    have acS:=Z3 aen;clear aen;clear hA hK Ap adE adG G7 dw vR;go_wp2_with fail;refine(Mr _ _ _ _ _ _ _ _ _ _ _ _ SI.o).mono ?_;rintro e w7 ⟨sK,Yo,⟨n',ho,rfl⟩|⟨fs,v,tJ,vs',ho,rfl,Tj⟩⟩
    · have Bj:=KU.o.kp sK (dZ.o _ Wg Wg);have Hq:=aaO.o.kp sK (dZ.o _ Wg Wg);have UO:=acS.o _ sK;refine leaves_cons (f:=131) (args:=#[.pointer (some ⟨w.heap.size+1,0,none⟩),.pointer (some ⟨w.heap.size+2,0,none⟩)]) Wf (by simp[go_sem]) ?_;refine(Mq w7 _ _ _ _ Bj Hq n' []).mono ?_;rintro e u' w8 ⟨rfl,rfl,BP,h4,h5⟩;have c4:=h4.c 0 (.slice none 0 0) rfl;have c5:=h5.c 0 (.int .i64 n') rfl;have hF:Kp (·=l.D) w w8∧aC w8 l p∧∃v vl vs,Ending.returned (.tuple #[.slice none 0 0,.int .i64 n'])=.returned (.tuple #[v,.int .i64 (M.look p ⟨⟨xk,xn⟩,xa⟩).2])∧Kn w8 w.heap.size v vl vs (M.look p ⟨⟨xk,xn⟩,xa⟩).1:=by
       refine⟨UO.own BP (fun k e=>by omega),Yo.kp BP (fun b hb e=>by omega),.slice none 0 0,.slice none 0 0,.slice none 0 0,?_,?_⟩
       · rw[Qo.o,ho]
       · rw[Qo.o,ho];exact Kn.nil _ _ _ _
      have HF:=Z3 hF;clear Bj Hq UO BP h4 h5 hF sK Yo;have hF:=HF.o;simpa [Leaves,settle,results,Tryz.results105,go_sem,c4,c5]using hF
    · obtain⟨ks,hkc⟩:=Tj;obtain⟨va,vc,rfl⟩:=bO hkc.2.1;have Bj:=KU.o.kp sK (dZ.o _ Wg Wg);have Hq:=aaO.o.kp sK (dZ.o _ Wg Wg);have UO:=acS.o _ sK;have c4:=Bj.c 0 (.slice none 0 0) rfl;have c5:=Hq.c 0 (.int .i64 0) rfl;have f4:=Bj.frozen 0;have f5:=Hq.frozen 0;have hz7:=Hq.lt;have⟨za,afs,afT,WK⟩:=gD Bj Hq UO hkc;clear Bj Hq UO hkc sK;go_wp2_with fail;refine leaves_cons (f:=131) (args:=#[.pointer (some ⟨w.heap.size+1,0,none⟩),.pointer (some ⟨w.heap.size+2,0,none⟩)]) Wf (by simp[go_sem]) ?_;refine(RL _ _ _).mono ?_;rintro e u' w8 ⟨rfl,rfl,rfl⟩;have k1:Kp (·=w.heap.size+1) w7 (w7.setCell ⟨w.heap.size+1,0,none⟩ (.slice va fs.length vc)):=(Kp.refl (·=w.heap.size+1) w7).setCell (p:=⟨w.heap.size+1,0,none⟩) (fun _=>rfl) _;have k2:Kp (·=w.heap.size+2) (w7.setCell ⟨w.heap.size+1,0,none⟩ (.slice va fs.length vc)) ((w7.setCell ⟨w.heap.size+1,0,none⟩ (.slice va fs.length vc)).setCell ⟨w.heap.size+2,0,none⟩ (.int .i64 0)):=(Kp.refl (·=w.heap.size+2) _).setCell (p:=⟨w.heap.size+2,0,none⟩) (fun _=>rfl) _;have k12:Kp (fun b=>b=w.heap.size+1∨b=w.heap.size+2) w7 ((w7.setCell ⟨w.heap.size+1,0,none⟩ (.slice va fs.length vc)).setCell ⟨w.heap.size+2,0,none⟩ (.int .i64 0)):=(k1.weak fun b _ e=>.inl e).trans (k2.weak fun b _ e=>.inr e);have h4:ay ((w7.setCell ⟨w.heap.size+1,0,none⟩ (.slice va fs.length vc)).setCell ⟨w.heap.size+2,0,none⟩ (.int .i64 0)) (w.heap.size+1) 180 #[.slice va fs.length vc]:=ay.kp (za.o.bE 0 _) k2 Wg;have h5:ay ((w7.setCell ⟨w.heap.size+1,0,none⟩ (.slice va fs.length vc)).setCell ⟨w.heap.size+2,0,none⟩ (.int .i64 0)) (w.heap.size+2) 3 #[.int .i64 0]:=(afs.o.kp k1 Wg).bE 0 _;have hwr:w.heap.size+3≤wr.heap.size:=by have:=aaO.o.lt;omega
      have hF:Kp (·=l.D) w ((w7.setCell ⟨w.heap.size+1,0,none⟩ (.slice va fs.length vc)).setCell ⟨w.heap.size+2,0,none⟩ (.int .i64 0))∧aC ((w7.setCell ⟨w.heap.size+1,0,none⟩ (.slice va fs.length vc)).setCell ⟨w.heap.size+2,0,none⟩ (.int .i64 0)) l p∧
          ∃v vl vs,Ending.returned (.tuple #[.slice va fs.length vc,.int .i64 0])=.returned (.tuple #[v,.int .i64 (M.look p ⟨⟨xk,xn⟩,xa⟩).2])∧Kn ((w7.setCell ⟨w.heap.size+1,0,none⟩ (.slice va fs.length vc)).setCell ⟨w.heap.size+2,0,none⟩ (.int .i64 0)) w.heap.size v vl vs (M.look p ⟨⟨xk,xn⟩,xa⟩).1:=by
       refine⟨afT.o.own k12 (fun k e=>by omega),Yo.kp k12 (fun b hb e=>by omega),.slice va fs.length vc,tJ,vs',?_,ks,?_⟩
       · rw[Qo.o,ho]
       · rw[Qo.o,ho];exact TU.low WK.o k12 (fun b hb e=>by omega) Wg
      have d4:=h4.c 0 (.slice va fs.length vc) rfl;have d5:=h5.c 0 (.int .i64 0) rfl;obtain⟨w8,JS⟩:∃w8,w8=(w7.setCell ⟨w.heap.size+1,0,none⟩ (.slice va fs.length vc)).setCell ⟨w.heap.size+2,0,none⟩ (.int .i64 0):=⟨_,rfl⟩;rw[←JS]at hF d4 d5;have⟨HF,WQ⟩:=aJ hF JS;clear hF k1 k2 k12 h4 h5 c4 c5 f4 f5 JS;show Leaves _ _ _ _ _ _ _
      rw[show w.heap.size+1+1=w.heap.size+2 from rfl,←WQ.o];have hF:=HF.o;simpa [Leaves,settle,results,Tryz.results105,go_sem,d4,d5]using hF
theorem Sg{P:Program}(w:World)(dT sT ty elem:TypeId)(g dLen dCap:Nat)(a:Addr)(sLen sCap k:Nat)(cur:Array Value)(t:TypeId)(cs:List Value)
    (hu:P.underlying dT=some (.slice elem)) (hs:(P.info? elem).map (·.size)=some k) (hg:w.heap[g]?=some (.cells cur t (0,0))) (hn:cs.length=Nat.min sLen dLen*k)
    (ahj:∀j v,cs[j]?=some v→w.cell? (a.add j)=some v) (agJ:cs.length≤cur.size) (h1:∀v∈cs,v.oneCell'=true):
    (Builtin.copy_ #[dT,sT] ty #[.slice (some ⟨g,0,none⟩) dLen dCap,.slice (some a) sLen sCap]).run P w=
     .ok (goInt (Nat.min sLen dLen)) (w.setRow g (cs++cur.toList.drop cs.length).toArray):=by
 have hl:=run_loadCells_list (P:=P) w a cs ahj;have dw:=run_storeCells_at P g 0 t cs 0 cur w hg (by simpa using agJ) h1;simp only[Nat.zero_add,List.take_zero,List.nil_append]at dw;cases hq:P.info? elem with
 |none=>simp[hq]at hs
 |some i=>
  have hi:i.size=k:=by simpa [hq]using hs
  simp[Builtin.copy_,run_underlying hu,Builtin.lenOf,Builtin.firstCells,sizeOf,typeInfo,hq,hi,←hn,hl,dw]
theorem Si{D:Nat→Prop}(w:World)(g:Nat)(cs:Array Value)(hD:D g):Kp D w (w.setRow g cs):=
 ⟨rfl,rfl,rfl,by simp[World.setRow],fun k hk hd=>setRow_other w g k cs (fun e=>hd (by subst e;exact hD))⟩
theorem KG{t e k:Nat}(E:Elem t e k)(w:World){ops:Array Oper}{rest:List Oper}{o:Oper}{a:Act}{Q:Exit→Act→World→Prop}(IU:o.guard=none)(d s:Operand)
    (ho:o.op=.call {callee:=.builtin .copy,args:=#[d,s],argTypes:=#[t,t]}) (base g n c m m':Nat) (xs news:List Value) (hd:a.eval d=.slice (some ⟨g,0,none⟩) n c) (dY:w.ownsRow base e k (.slice (some ⟨g,0,none⟩) n c) n xs)
    (ad:Addr) (hs:a.eval s=.slice (some ad) m m') (hf:Flat w k (.slice (some ad) m m') m news) (hmn:m≤n)
    (h:∀w',w'.ownsRow base e k (.slice (some ⟨g,0,none⟩) n c) n (news++xs.drop (m*k))→Kp (·=g) w w'→wpList Tryz.prog ops Q rest (a.put o.dst (goInt m)) w'):
    wpList Tryz.prog ops Q (o::rest) a w:=by
 obtain⟨i,z,bytes,ht,hi,hz,kv,Rj,Rt,hk,hb⟩:=E;obtain⟨f1,⟨a1,c1,e1,_,f2⟩,f3⟩:=hf;cases e1;obtain⟨hl,hx⟩:=dY;rcases hx with⟨e2,_⟩|⟨g',cap,cur,e2,hg,qM,hle,hm,uE,Xh⟩
 · cases e2
 · cases e2;have aem:Nat.min m n=m:=Nat.min_eq_left hmn;have hmk:m*k≤n*k:=Nat.mul_le_mul_right _ hmn;have CW:n*k≤c*k:=Nat.mul_le_mul_right _ hle;have OP:=Sg (P:=Tryz.prog) w t t o.type e g n c ad m m' k cur e news ht (by rw[hi];simp[kv]) qM (by rw[aem,f1]) (f2 ad rfl) (by rw[f1];omega) f3;rw[aem]at OP;refine wpList_plain IU fun K hK=>?_;unfold Oper.wp;simp[execOp,ho,resolve,invoke,builtin,hd,hs,OP,Result.andThen];refine hK _ _ (h _ ⟨?_,.inr ⟨g,c,(news++cur.toList.drop news.length).toArray,rfl,hg,setRow_heap w g cur _ e _ qM,hle,hm,?_,?_⟩⟩ (Si w g _ rfl))
   · rw[List.length_append,List.length_drop,f1,hl];omega
   · have cK:cur.toList.length=cur.size:=Array.length_toList;simp only[List.size_toArray,List.length_append,List.length_drop,f1,cK];omega
   · have cK:cur.toList.length=cur.size:=Array.length_toList;simp only;rw[←Xh,List.take_append,f1,List.take_of_length_le (by rw[f1];exact hmk),List.drop_take]
theorem Df(w:World)(l:aH)(p:M.ax)(h:aC w l p)(x:M.kI)(hx:M.bP p x=true):
    Calls Tryz.prog 71 #[.pointer (some ⟨l.L,0,none⟩),.agg #[.int .i64 x.of.keeper,.string x.of.name,.int .i64 x.at_]] w fun e w'=>
     e=.returned (.bool (M.right p x))∧Kp (·=l.D) w w'∧aC w' l p:=by
 have hE:Ext w (w.alloc (.cells #[.int .i64 x.of.keeper,.string x.of.name,.int .i64 x.at_] 94)):=kx;have⟨HL,HE⟩:=aJ (h.ext hE) hE;clear h hE;go_enter Tryz.func71,Tryz.ntmps71;go_wp2_with fail;refine(OY _ _ _ HL.o x hx).mono ?_;rintro e w1 ⟨hK,hL,v,vl,vs,rfl,Tj⟩;obtain⟨ks,hkc⟩:=Tj;obtain⟨va,vc,rfl⟩:=bO hkc.2.1;have HF:=Z3 (And.intro (HE.o.any.trans hK) hL);clear hK hL hkc;by_cases hr:(M.look p x).2=0
 · have HR:Zs (M.right p x=true):=Z3 (by unfold M.right;rw[hr];rfl);rw[hr];clear hr;go_wp2_with fail;go_ret;exact⟨af HR.o.symm,HF.o⟩
 · have HR:Zs (M.right p x=false):=Z3 (by unfold M.right;exact decide_eq_false hr);have Eo:((M.look p x).2==0)=false:=beq_eq_false_iff_ne.2 hr;clear hr;go_wp2_with fail;go_ret;exact⟨af HR.o.symm,HF.o⟩
theorem EW{f:Nat→Bool}{n:Nat}:(List.range (n+1)).all f=((List.range n).all f&&f n):=by
 rw[List.range_succ,List.all_append];simp
theorem DX(w:World)(l:aH)(p:M.ax)(h:aC w l p)(r:M.Ref):
    Calls Tryz.prog 27 #[.pointer (some ⟨l.L,0,none⟩),.agg #[.int .i64 r.keeper,.string r.name]] w fun e w'=>
     e=.returned (.bool (M.eG p r))∧Kp (·=l.D) w w'∧aC w' l p:=by
 obtain⟨rk,rn⟩:=r;obtain⟨w0,bI,aU,b3⟩:=nu w #[.int .i64 rk,.string rn] 70;have KM:=h.Hl;have⟨HL,bM,gN,dO⟩:=gD (h.ext aU) aU b3 bI;clear h aU b3 bI;go_enter Tryz.func27,Tryz.ntmps27;go_wp2_with fail;rw[←dO.o];refine(ik _ _ _ HL.o ⟨rk,rn⟩).mono ?_;rintro e w1 ⟨rfl,Aq,lI⟩;have hB1:=gN.o.kp lI Wg;have⟨tL,Bw⟩:=aJ hB1 Aq;have Ab:Zs (Kp (·=l.D) w w1):=Z3 (bM.o.any.trans lI);obtain⟨yz,y0,y1, -⟩:=hB1.ca;clear hB1 Aq lI;cases hc:M.bu p ⟨rk,rn⟩
 · have HR:Zs (M.eG p ⟨rk,rn⟩=false):=Z3 (by unfold M.eG;rw[hc];rfl);clear hc;go_wp2_with fail;go_ret;exact⟨af HR.o.symm,Ab.o,Bw.o⟩
 obtain⟨c,Fy⟩:=M.dM (M.pU hc).2;have jy:M.cls p ⟨rk,rn⟩=c:=by unfold M.cls;rw[Fy];rfl
 have HR:Zs (M.eG p ⟨rk,rn⟩=(List.range c.methods.length).all fun i=>M.right p ⟨⟨rk,rn⟩,i⟩):=Z3 (by unfold M.eG;rw[hc,jy];rfl);have HHM:Zs (∀q:Nat,q<c.methods.length→M.bP p ⟨⟨rk,rn⟩,q⟩=true):=Z3 (fun q hq=>by unfold M.bP;rw[hc,jy];simp;omega);have afD:=Z3 Fy;clear hc jy Fy;go_wp2_with fail;refine(mI _ _ _ Bw.o rk rn c afD.o).mono ?_;rintro e w2 ⟨⟨cs,fU,rfl⟩,bZ⟩;obtain⟨fa,fc,ma,mc,rfl⟩:=fU.form;have hm4:c.methods.length≤4294967296:=by
  obtain⟨_,_,he,_,hs⟩:=fU;obtain⟨_,_,_,_,h4⟩:=hs.form;exact h4
 have zA:∀W,(Instr.field 75 (.agg #[.string c.name,.string c.aL,.slice fa c.fields.length fc,.slice ma c.methods.length mc]) 3).run Tryz.prog W=.ok (.slice ma c.methods.length mc) W:=(fun W=>by kernel_rfl);have⟨mQ,wE⟩:=aJ (tL.o.ext bZ) (Bw.o.ext bZ);have yu:Zs (Kp (·=l.D) w w2):=Z3 (Ab.o.trans bZ.any);clear bZ fU y0 y1 yz;go_wp2_with fail;go_loopw [15] (fun i wr=>∃q:Nat,q≤c.methods.length∧i=.int .i64 q∧ay wr w.heap.size 70 #[.int .i64 rk,.string rn]∧aC wr l p∧Kp (·=l.D) w wr∧Zs (((List.range q).all fun i=>M.right p ⟨⟨rk,rn⟩,i⟩)=true)) (fun i _=>c.methods.length - (intOf i).toNat)
 case atStart=>exact⟨0,Nat.zero_le _,rfl,mQ.o,wE.o,yu.o,Z3 rfl⟩
 case round =>
  obtain⟨q,hq,rfl,hB,hL,hK,HQ⟩:=hrel;by_cases bY:q<c.methods.length
  · have y0:=hB.c 0 (.int .i64 rk) rfl;obtain⟨yz, -,y1, -⟩:=hB.ca;have⟨HB,Zu,Ec⟩:=bg hB hL hK;have pY:(q:Int)<c.methods.length:=by omega
    have YH:IntKind.i64.wrap ((q:Int)+1)=q+1:=IntWalk.i64_in _ Wg;clear hB hL hK;go_wp2_with fail;refine(Df _ _ _ Zu.o ⟨⟨rk,rn⟩,q⟩ (HHM.o q bY)).mono ?_;rintro e w3 ⟨rfl,nL,Fu⟩;have HF:=Z3 (And.intro (HB.o.kp nL Wg) (And.intro Fu (Ec.o.trans nL)));clear nL Fu;cases hr:M.right p ⟨⟨rk,rn⟩,q⟩
    · have DF:Zs (M.eG p ⟨rk,rn⟩=false):=Z3 (by
       rw[HR.o,List.all_eq_false];exact⟨q,List.mem_range.2 bY,by rw[hr];simp⟩)
      clear hr;go_wp2_with fail;go_ret;exact⟨af DF.o.symm,HF.o.2.2,HF.o.2.1⟩
    · have Ed:Zs (((List.range (q+1)).all fun i=>M.right p ⟨⟨rk,rn⟩,i⟩)=true):=Z3 (by rw[EW,HQ.o,hr];rfl);clear hr;go_wp2_with fail;exact⟨⟨q+1,by omega,by simp,HF.o.1,HF.o.2.1,HF.o.2.2,Ed⟩,by simp[intOf];omega⟩
  · have DF:Zs (M.eG p ⟨rk,rn⟩=true):=Z3 (by
     have e:q=c.methods.length:=by omega
     rw[HR.o,←e];exact HQ.o)
    have HF:=Z3 (And.intro hK hL);clear hB hL hK;go_wp2_with fail;go_ret;exact⟨af DF.o.symm,HF.o⟩
theorem Q5:Elem 100 102 2:=iP (z:=.agg #[.int .i64 0,.string ⟨#[]⟩]) (bytes:=24) Tryz.underlying100 Wr rfl Wk Wk
theorem IB:Elem 63 120 1:=iP (z:=.pointer none) (bytes:=8) Tryz.underlying63 Wr rfl Wk Wk
theorem RU{n:Nat}(h:n≤6):(madeCells (Value.agg #[.int .i64 0,.int .i64 0]).cells (n*2)).toList=(List.replicate n M.eU).flatMap bV:=by
 have:n=0∨n=1∨n=2∨n=3∨n=4∨n=5∨n=6:=by omega
 rcases this with rfl|rfl|rfl|rfl|rfl|rfl|rfl<;>(show _=_;kernel_rfl)
theorem aI.PX{w w':World}{l:aH}{p:M.ax}{own:Own}{B mb:Nat}{lk:Bool}{g:Gh}(h:aI w l p own B mb lk g)(c:GC)(hc:lF w l p own B g.cs.length c)
    (g' c':Nat) (ho:w'.ownsRow B 120 1 (.slice (some ⟨g',0,none⟩) (g.cs.length+1) c') (g.cs.length+1) (g.cs.flatMap tC++tC c)) (hk:Kp (fun b=>g.vc.ownBlock=some b) w w') (hg:g.vc.ownBlock=some g'∨w.heap.size≤g')
    (hG:M.Good p ({g with cs:=g.cs++[c],vc:=.slice (some ⟨g',0,none⟩) (g.cs.length+1) c'}:Gh).st):
    Kp (MO l own) w (w'.setCell ⟨mb,3,none⟩ (.slice (some ⟨g',0,none⟩) (g.cs.length+1) c'))∧∃own',iw w.heap.size own own'∧aI (w'.setCell ⟨mb,3,none⟩ (.slice (some ⟨g',0,none⟩) (g.cs.length+1) c')) l p own' B mb lk {g with cs:=g.cs++[c],vc:=.slice (some ⟨g',0,none⟩) (g.cs.length+1) c'}:=by
 have qy:Kp (·=mb) w' (w'.setCell ⟨mb,3,none⟩ (.slice (some ⟨g',0,none⟩) (g.cs.length+1) c')):=(Kp.refl (·=mb) w').setCell (p:=⟨mb,3,none⟩) (fun _=>rfl) _;obtain⟨W,hW⟩:∃W,W=w'.setCell ⟨mb,3,none⟩ (.slice (some ⟨g',0,none⟩) (g.cs.length+1) c'):=⟨_,rfl⟩;have Hx:g.vc.ownBlock≠some mb:=fun e=>by have:=h.calls.role _ e;rw[h.role]at this;cases this
 have hbW:ay W mb 65 (zF l lk {g with cs:=g.cs++[c],vc:=.slice (some ⟨g',0,none⟩) (g.cs.length+1) c'}):=by rw[hW];exact(h.blk.kp hk Hx).bE 3 _
 have hgm:g'≠mb:=fun e=>by
  subst e;rcases hg with x|x
  · exact Hx x
  · have:=h.blk.lt;omega
 have hoW:W.ownsRow B 120 1 (.slice (some ⟨g',0,none⟩) (g.cs.length+1) c') (g.cs.length+1) (g.cs.flatMap tC++tC c):=by
  rw[hW];exact aA ho qy (fun q hq _ e=>hgm (by cases hq;exact e))
 rw[←hW]at qy ⊢;clear hW;have jr:Kp (PO own fun q=>q=(0,0)∨q=(1,0)) w W:=(hk.weak fun b _ e=>⟨_,h.calls.role b e,.inr rfl⟩).trans (qy.weak fun b _ e=>⟨_,by rw[e];exact h.role,.inl rfl⟩);have ha:iw w.heap.size own (own.add g' (1,0)):=Own.xL (by
  rcases hg with x|x
  · exact .inl (h.calls.role _ x)
  · exact .inr Wg)
 have hd:∀b,own.add g' (1,0) b≠none→B≤b∧b<W.heap.size:=fun b hb=>by
  by_cases e:b=g'
  · subst e;exact hoW.lt b rfl
  · rw[Own.gQ _ e]at hb;exact h.Ah jr.size b hb
 refine⟨jr.weak fun b _ e=>e.mo,_,ha,h.IZ jr,h.hB,hbW,(ha _ h.blk.lt).trans h.role,h.low,⟨?_,fun q hq=>?_⟩,?_,h.heap.wm jr ha Wf,fun j o ho=>(h.obj j o ho).wm jr ha Wf,h.outs.wm jr ha Wf,hd,hG⟩
 · simpa using hoW
 · cases hq;exact Own.add_eq _ _ _
 · intro i c1 mE;simp only at mE;rcases Nat.lt_trichotomy i g.cs.length with hj|hj|hj
   · rw[List.getElem?_append_left hj]at mE;exact(h.call i c1 mE).wm jr ha Wf h.xw
   · subst hj;simp at mE;subst mE;exact hc.wm jr ha Wf h.xw
   · rw[List.getElem?_eq_none X2]at mE;cases mE
def wJ : Prop := ∀ (w : World) (l : aH) (p : M.ax), aC w l p → ∀ x : M.kI, M.bP p x = true →
    Calls Tryz.prog 71 #[.pointer (some ⟨l.L,0,none⟩),.agg #[.int .i64 x.of.keeper,.string x.of.name,.int .i64 x.at_]] w fun e w'=>
     e=.returned (.bool (M.right p x))∧Kp (·=l.D) w w'∧aC w' l p
theorem zG (w : World) (l : aH) (p : M.ax) (own : Own) (B mb : Nat) (lk : Bool) (KL : Zs (lk = true → wJ)) (g : Gh) (h : aI w l p own B mb lk g) (dw : g.status = 1) (x : M.kI) (hx : M.bP p x = true) (S : Nat) (vv : Value) (vs : List M.Val)
    (bN:w.ownsRow S 38 2 vv vs.length (vs.flatMap bV)) (tO:∀q,vv.ownBlock=some q→¬MO l own q) (Vr:∀v∈vs,M.bD v g.os.length=true) (C9:vs.length=(M.method p x).args.length+1):
    Calls Tryz.prog 46 #[.pointer (some ⟨mb,0,none⟩),.agg #[.int .i64 x.of.keeper,.string x.of.name,.int .i64 x.at_],vv] w (cu w l p own B mb lk (.int .i64 (M.enter p lk x vs g.st).1) (M.enter p lk x vs g.st).2):=by
 obtain⟨⟨xk,xn⟩,xa⟩:=x;obtain⟨vb,vc,rfl, -⟩:=cB bN Wg;have Bp:M.EO (M.method p ⟨⟨xk,xn⟩,xa⟩):=M.pG (M.ji h.dN.ok hx).1;have hVL:(vs.length:Int)≤(M.method p ⟨⟨xk,xn⟩,xa⟩).locals:=by have:=Bp.args;omega
 have acQ:=Z3 (M.zo (lk:=lk) (vs:=vs) h.dN.ok h.good dw hx (by simpa [Gh.st]using Vr) hVL);obtain⟨m,hm⟩:∃m,M.method p ⟨⟨xk,xn⟩,xa⟩=m:=⟨_,rfl⟩;obtain⟨w0,bI,aU,b4⟩:=nu w #[.int .i64 xk,.string xn,.int .i64 xa] 94;have HV:Zs (M.enter p lk ⟨⟨xk,xn⟩,xa⟩ vs g.st=if 8≤g.cs.length then(7,g.st)else if lk&& !M.right p ⟨⟨xk,xn⟩,xa⟩then(5,g.st)
  else if M.fH p xk g.st.heap vs (⟨2,xn⟩::m.args)then(1,{g.st with frames:=g.st.frames++[⟨⟨⟨xk,xn⟩,xa⟩,0,vs++List.replicate (m.locals.toNat - vs.length) M.eU,[]⟩]})else(10,g.st)):=Z3 (by
  unfold M.enter;rw[hm];simp[Gh.st])
 obtain⟨ca,cc,JQ⟩:=h.calls.form;have m3:=h.blk.c 3 (.slice ca g.cs.length cc) (by rw[←JQ];rfl);have mz:=h.blk.lt;have agI:g.cs.length≤8:=by have:=h.good.nf;simpa [Gh.st]using this
 have Jj:Zs (∀b,w.heap.size≤b→¬MO l own b):=Z3 (fun b hb=>h.fresh hb);have⟨HA,H,bM,kP,dO,zk,vN,HX,HM⟩:=LX (h.ext aU) h aU b4 bI bN tO hx hm;have⟨HVS,NW⟩:=aJ Vr JQ;rw[hm]at Bp C9;have CV:=h.dN.lt;have KM:=h.dN.Hl;have⟨SS,ZC⟩:=aJ Bp C9;have Md:=b4.lt;clear h aU b4 bI bN tO hx hm Vr JQ Bp C9 hVL;by_cases h8:8≤g.cs.length
 · replace HV:Zs (M.enter p lk ⟨⟨xk,xn⟩,xa⟩ vs g.st=(7,g.st)):=Z3 (HV.o.trans (if_pos h8));have h8':(8:Int)≤g.cs.length:=by omega
   go_enter Tryz.func46,Tryz.ntmps46;go_wp2_with fail;go_ret;rw[HV.o,←dO.o];exact cu.mk' bM.o.any (iw.refl _ _) HA.o rfl
 replace HV:=Z3 (HV.o.trans (if_neg h8));have h8':((8:Int)≤g.cs.length)=False:=eq_false Wg;clear h8;obtain⟨T,f,dA,HT⟩:=iN.ex (fun W'=>LC l p w0 W') w0 (LC.refl HA.o.dN);obtain⟨-,yX,rm1, -⟩:=ay.kY fun z=>(HA.o.kM (HT.aW z).kp (HT.aW z).at_).blk;obtain⟨-,Tv,V9,r42, -⟩:=ay.kY fun z=>(kP.o.kp (HT.aW z).kp Wg);have aj:=Z3 HT;clear HT;go_enter Tryz.func46,Tryz.ntmps46;go_wp2_with fail;rw[←dO.o];rename_i K hK;have aax:∀(w1:World) (a22 a23 a24 a25 a26 a27 a28 a29:Value),LC l p w0 w1→M.enter p lk ⟨⟨xk,xn⟩,xa⟩ vs g.st=(5,g.st)→K {tmps:=#[.pointer (some ⟨mb,0,none⟩),.agg #[.int .i64 xk,.string xn,.int .i64 xa],.slice (some ⟨vb,0,none⟩) vs.length vc,undef,.pointer (some ⟨w.heap.size,0,none⟩),undef,.int .i64 0,undef,undef,undef,undef,undef,.pointer (some ⟨mb,0,none⟩),.pointer (some ⟨mb,0,none⟩),.pointer (some ⟨mb,3,none⟩),.slice ca g.cs.length cc,.int .i64 g.cs.length,.bool false,.pointer (some ⟨mb,0,none⟩),.pointer (some ⟨mb,0,none⟩),.pointer (some ⟨mb,1,none⟩),.bool lk,a22,a23,a24,a25,a26,a27,a28,a29,.bool true,undef,undef,undef,undef,undef,undef,undef,undef,undef,undef,undef,undef,undef,undef,undef,undef,undef,undef,undef,undef,undef,undef,undef,undef,undef,undef,undef,undef,undef,undef,undef,undef,undef,undef,undef,undef,undef,undef,undef,undef,undef,undef,undef,undef,undef,undef,undef,undef,undef,undef,undef,undef,undef,undef,undef,undef,undef,undef,undef,undef,undef,undef,undef],defers:=[]} w1:=by
  intro w1 a22 a23 a24 a25 a26 a27 a28 a29 Hr hv;refine hK _ _ ?_;clear hK aj yX rm1 Tv V9 r42;go_wp2_with fail;go_ret;rw[hv];exact cu.mk' (bM.o.any.trans Hr.mo) (iw.refl _ _) (HA.o.kM Hr.kp Hr.at_) rfl
 have tail:∀(w1:World) (a22 a23 a24 a25 a26 a27 a28 a29:Value),LC l p w0 w1→M.enter p lk ⟨⟨xk,xn⟩,xa⟩ vs g.st=(if M.fH p xk g.st.heap vs (⟨2,xn⟩::m.args)then(1,{g.st with frames:=g.st.frames++[⟨⟨⟨xk,xn⟩,xa⟩,0,vs++List.replicate (m.locals.toNat - vs.length) M.eU,[]⟩]})else(10,g.st))→
     K {tmps:=#[.pointer (some ⟨mb,0,none⟩),.agg #[.int .i64 xk,.string xn,.int .i64 xa],.slice (some ⟨vb,0,none⟩) vs.length vc,undef,.pointer (some ⟨w.heap.size,0,none⟩),undef,.int .i64 0,undef,undef,undef,undef,undef,.pointer (some ⟨mb,0,none⟩),.pointer (some ⟨mb,0,none⟩),.pointer (some ⟨mb,3,none⟩),.slice ca g.cs.length cc,.int .i64 g.cs.length,.bool false,.pointer (some ⟨mb,0,none⟩),.pointer (some ⟨mb,0,none⟩),.pointer (some ⟨mb,1,none⟩),.bool lk,a22,a23,a24,a25,a26,a27,a28,a29,.bool false,undef,undef,undef,undef,undef,undef,undef,undef,undef,undef,undef,undef,undef,undef,undef,undef,undef,undef,undef,undef,undef,undef,undef,undef,undef,undef,undef,undef,undef,undef,undef,undef,undef,undef,undef,undef,undef,undef,undef,undef,undef,undef,undef,undef,undef,undef,undef,undef,undef,undef,undef,undef,undef,undef,undef,undef,undef,undef,undef,undef,undef,undef,undef],defers:=[]} w1:=by
  intro w1 a22 a23 a24 a25 a26 a27 a28 a29 Hr hv;refine hK _ _ ?_;clear hK aj yX rm1 Tv V9 r42;replace HV:=Z3 hv;have⟨KH,KS,He⟩:=bg (HA.o.kM Hr.kp Hr.at_) (kP.o.kp Hr.kp Wg) Hr;have ahq:=Hr.kp.size;clear hv Hr;go_wp2_with fail;obtain⟨T,f,dA,HT⟩:=iN.ex (fun W'=>Ext w1 W') _ Kp.rr;have yX:=fun z=>(KH.o.ext (HT.aW z)).blk.c 0 (.pointer (some ⟨l.L,0,none⟩)) rfl;obtain⟨-,Tv,V9,r42, -⟩:=ay.kY fun z=>(KS.o.ext (HT.aW z));have aj:=Z3 HT;clear HT;rename_i K hK
  have M5 : ∀ (b7 : Nat) (w8 : World) (t : qj), Ext w1 w8 → ay w8 b7 106 (iC m t).toArray → w1.heap.size ≤ b7 → aG w8 (· < l.O) m (iC m t) → K { tmps := #[.pointer (some ⟨mb, 0, none⟩), .agg #[.int .i64 xk, .string xn, .int .i64 xa], .slice (some ⟨vb, 0, none⟩) vs.length vc, undef, .pointer (some ⟨w.heap.size, 0, none⟩), undef, .int .i64 0, .pointer (some ⟨b7, 0, none⟩), undef, undef, undef, undef, .pointer (some ⟨mb, 0, none⟩), .pointer (some ⟨mb, 0, none⟩), .pointer (some ⟨mb, 3, none⟩), .slice ca g.cs.length cc, .int .i64 g.cs.length, .bool false, .pointer (some ⟨mb, 0, none⟩), .pointer (some ⟨mb, 0, none⟩), .pointer (some ⟨mb, 1, none⟩), .bool lk, a22, a23, a24, a25, a26, a27, a28, a29, .bool false, .pointer (some ⟨mb, 0, none⟩), .pointer (some ⟨mb, 0, none⟩), .pointer (some ⟨mb, 0, none⟩), .pointer (some ⟨l.L, 0, none⟩), .agg #[.int .i64 xk, .string xn, .int .i64 xa], .agg #[.string m.name, .slice t.a1 m.args.length t.c1, .int .i64 m.ret.kind, .string m.ret.name, .int .i64 m.locals, .int .i64 m.stack, .slice t.a2 m.code.length t.c2, .slice t.a3 m.maps.length t.c3], undef, undef, undef, undef, undef, undef, undef, undef, undef, undef, undef, undef, undef, undef, undef, undef, undef, undef, undef, undef, undef, undef, undef, undef, undef, undef, undef, undef, undef, undef, undef, undef, undef, undef, undef, undef, undef, undef, undef, undef, undef, undef, undef, undef, undef, undef, undef, undef, undef, undef, undef, undef, undef, undef, undef, undef, undef], defers := [] } w8 := by
   clear aj yX Tv V9 r42; intro b7 w8 t lK hB8 Ht mF; refine hK _ _ ?_; clear hK; obtain ⟨a1, c1, a2, c2, a3, c3⟩ := t; have HM8 := Z3 (KH.o.ext lK); have XA : Zs (Kp (MO l own) w w8) := Z3 ((bM.o.any.trans He.o.mo).trans lK.any); have ⟨NQ, yt, GQ⟩ := bg (KS.o.ext lK) hB8 mF; have vC : SliceOf 2 jv w8 (· < l.O) (.slice a1 m.args.length c1) m.args := aG.args mF; obtain ⟨xz, -, x1, -⟩ := NQ.o.ca; obtain ⟨yz, -, y1, -⟩ := hB8.ca; have Ad := Z3 vC; have HTY : Zs (∀ (q : Nat) (k : M.Kind), (M.Kind.mk 2 xn :: m.args)[q]? = some k → True) := Z3 (fun _ _ _ => trivial); have hz8 := lK.size; clear lK hB8 mF HTY; refine wp_seq_k fun K hK => ?_; have aay : ∀ (v8 a41 : Value) (w9 : World), Ext w8 w9 → w9.ownsRow w8.heap.size 102 2 v8 (m.args.length + 1) ((M.Kind.mk 2 xn :: m.args).flatMap fun k => [.int .i64 k.kind, .string k.name]) → K { tmps := #[.pointer (some ⟨mb, 0, none⟩), .agg #[.int .i64 xk, .string xn, .int .i64 xa], .slice (some ⟨vb, 0, none⟩) vs.length vc, undef, .pointer (some ⟨w.heap.size, 0, none⟩), undef, .int .i64 0, .pointer (some ⟨b7, 0, none⟩), v8, undef, undef, undef, .pointer (some ⟨mb, 0, none⟩), .pointer (some ⟨mb, 0, none⟩), .pointer (some ⟨mb, 3, none⟩), .slice ca g.cs.length cc, .int .i64 g.cs.length, .bool false, .pointer (some ⟨mb, 0, none⟩), .pointer (some ⟨mb, 0, none⟩), .pointer (some ⟨mb, 1, none⟩), .bool lk, a22, a23, a24, a25, a26, a27, a28, a29, .bool false, .pointer (some ⟨mb, 0, none⟩), .pointer (some ⟨mb, 0, none⟩), .pointer (some ⟨mb, 0, none⟩), .pointer (some ⟨l.L, 0, none⟩), .agg #[.int .i64 xk, .string xn, .int .i64 xa], .agg #[.string m.name, .slice a1 m.args.length c1, .int .i64 m.ret.kind, .string m.ret.name, .int .i64 m.locals, .int .i64 m.stack, .slice a2 m.code.length c2, .slice a3 m.maps.length c3], .pointer (some ⟨w.heap.size, 0, none⟩), .pointer (some ⟨w.heap.size, 1, none⟩), .string xn, .agg #[.int .i64 2, .string xn], a41, .pointer (some ⟨b7, 1, none⟩), .slice a1 m.args.length c1, v8, undef, undef, undef, undef, undef, undef, undef, undef, undef, undef, undef, undef, undef, undef, undef, undef, undef, undef, undef, undef, undef, undef, undef, undef, undef, undef, undef, undef, undef, undef, undef, undef, undef, undef, undef, undef, undef, undef, undef, undef, undef, undef, undef, undef, undef, undef, undef, undef, undef], defers := [] } w9 := by
    clear x1 xz y1 yz vC;intro v8 a41 w9 nk Vk;refine hK _ _ ?_;clear hK;have hz9:=nk.size;have Jl:=Z3 (HM8.o.ext nk);have vM:Zs (Kp (MO l own) w w9):=Z3 (XA.o.trans nk.any);have⟨vL,QL,af2,Iw⟩:=gD (NQ.o.ext nk) (yt.o.ext nk) (bQ.ext aG.stays nk GQ.o) Vk;obtain⟨tb,tc,rfl, -⟩:=cB Vk Wg;have hvr:w9.ownsRow S 38 2 (.slice (some ⟨vb,0,none⟩) vs.length vc) vs.length (vs.flatMap bV):=aA zk.o vM.o (fun q hq _ e=>vN.o q hq e);have HVR:=Z3 hvr;obtain⟨ha,dm,qV⟩:=Jl.o.heap.form;have HHR:=Z3 Jl.o.U4;have TP:=Z3 qV;have Oz:=SS.o.Lj;clear nk Vk hvr qV;go_wp2_with fail;go_loopw [47] (fun i wr=>∃q:Nat,q≤vs.length∧i=.int .i64 q∧Ext w9 wr∧Zs (M.fH p xk g.st.heap vs (⟨2,xn⟩::m.args)=M.fH p xk g.st.heap (vs.drop q) ((M.Kind.mk 2 xn::m.args).drop q))) (fun i _=>vs.length - (intOf i).toNat)
    case atStart=>exact⟨0,Nat.zero_le _,rfl,Kp.rr,Z3 rfl⟩
    case round =>
     obtain⟨q,hq,rfl,hE,HT9⟩:=hrel;by_cases bY:q<vs.length
     · obtain⟨⟨vk,vn⟩,hv⟩:=iT vs q bY;obtain⟨⟨kq,kn⟩,hk⟩:=iT (M.Kind.mk 2 xn::m.args) q (by have:=ZC.o;simp;omega);have Ny:Zs (M.bD ⟨vk,vn⟩ g.os.length=true):=Z3 (HVS.o _ (List.mem_of_getElem? hv));have hcv:=(fC (enc:=bV) (k:=2) (fun _=>rfl) HVR.o hv).ext hE;have Z6:=fC (enc:=fun k:M.Kind=>[.int .i64 k.kind,.string k.name]) (k:=2) (fun _=>rfl) (l:=M.Kind.mk 2 xn::m.args) Iw.o hk;have g0:=hcv.two.1;have g1:=hcv.two.2;have gz:=aF g0;have HTS:Zs (M.fH p xk g.st.heap vs (⟨2,xn⟩::m.args)=(M.hasType p xk g.st.heap ⟨vk,vn⟩ ⟨kq,kn⟩&&M.fH p xk g.st.heap (vs.drop (q+1)) ((M.Kind.mk 2 xn::m.args).drop (q+1)))):=Z3 (by rw[HT9.o,jY hv,jY hk];rfl);obtain⟨W4,LM,dI,b10⟩:=nu wr #[.int .i64 vk,.int .i64 vn] 38;have JD:=hE.trans dI;obtain⟨T,f,dA,HT⟩:=iN.ex (fun W'=>Ext W4 W') _ Kp.rr;have yX:=fun z=>(Jl.o.ext (JD.trans (HT.aW z))).blk.c 0 (.pointer (some ⟨l.L,0,none⟩)) rfl;have Y3:=fun z=>(Jl.o.ext (JD.trans (HT.aW z))).blk.c 4 (.slice ha g.os.length dm) (by rw[←TP.o];rfl);have Tv:=fun z=>(vL.o.ext (JD.trans (HT.aW z))).c 0 (.int .i64 xk) rfl;obtain⟨-,aiK,aiL, -⟩:=ay.kY fun z=>(b10.ext (HT.aW z));have rt0:=fun z=>(ae.ext Z6 (JD.trans (HT.aW z))).two.1;have rt1:=fun z=>(ae.ext Z6 (JD.trans (HT.aW z))).two.2;have hht:=fun W (hW:Ext W4 W)=>rP W l p (Jl.o.dN.ext (JD.trans hW)) xk (.slice ha g.os.length dm) g.st.heap (by rw[←TP.o];exact HHR.o.ext (JD.trans hW)) ⟨vk,vn⟩ (fun e=>by have:=M.lv Ny.o e;simpa [Gh.st]using this) ⟨kq,kn⟩;have⟨HHT,aj,EN,aaV⟩:=gD hht HT LM JD;have hqt:(q:Int)<m.args.length+1:=by have:=ZC.o;omega
       have hqv:(q:Int)<vs.length:=by omega
       have YH:IntKind.i64.wrap ((q:Int)+1)=q+1:=IntWalk.i64_in _ Wg;clear HT hht hcv Z6 hv hk LM dI b10 JD;go_wp2_with fail;rw[←EN.o];(refine eO aj 18 [([0,1,2,3,4,5,6,7,8,9,10,11,12,13,14,15],16)] [17] ?_ ?_)
       · exact Kp.rr.drew
       refine iX ?_;intro K2 ag;go_wp2_with fail;refine(HHT.o _ Kp.rr.drew).mono ?_;rintro e w5 ⟨rfl,cZ⟩;have gy:Zs (Ext W4 w5):=Z3 (((Kp.refl _ W4).drew:Ext W4 _).trans cZ);clear cZ;cases Qu:M.hasType p xk g.st.heap ⟨vk,vn⟩ ⟨kq,kn⟩
       · replace HV:Zs (M.enter p lk ⟨⟨xk,xn⟩,xa⟩ vs g.st=(10,g.st)):=Z3 (by rw[HV.o,HTS.o,Qu];rfl);clear Qu;go_wp2_with fail;(refine kk aj ag gy.o ?_);clear ag K2;refine qa ?_;go_wp2_with fail;go_ret;rw[HV.o];exact cu.mk' (vM.o.trans (aaV.o.trans gy.o).any) (iw.refl _ _) (Jl.o.ext (aaV.o.trans gy.o)) rfl
       · have wI:Zs (M.fH p xk g.st.heap vs (⟨2,xn⟩::m.args)=M.fH p xk g.st.heap (vs.drop (q+1)) ((M.Kind.mk 2 xn::m.args).drop (q+1))):=Z3 (by rw[HTS.o,Qu];rfl);clear Qu;go_wp2_with fail;(refine kk aj ag gy.o ?_);clear ag K2;refine qa ?_;go_wp2_with fail;exact⟨⟨q+1,by omega,by simp,aaV.o.trans gy.o,wI⟩,by simp[intOf];omega⟩
     · have G7:q=vs.length:=by omega
       replace HV:Zs (M.enter p lk ⟨⟨xk,xn⟩,xa⟩ vs g.st=(1,{g.st with frames:=g.st.frames++[⟨⟨⟨xk,xn⟩,xa⟩,0,vs++List.replicate (m.locals.toNat - vs.length) M.eU,[]⟩]})):=Z3 (by
        rw[HV.o,HT9.o,G7,List.drop_length];rfl)
       obtain⟨n,hn⟩:∃n:Nat,m.locals=n:=⟨m.locals.toNat,by have:=SS.o.args;omega⟩;have hn6:n≤6:=by have:=SS.o.locals;omega
       have hvn:vs.length≤n:=by have:=SS.o.args;have:=ZC.o;omega
       obtain⟨MC,hMC⟩:∃MC,MC=madeCells (Value.agg #[.int .i64 0,.int .i64 0]).cells (n*2):=⟨_,rfl⟩;have YA:MC.toList=(List.replicate n M.eU).flatMap bV:=by rw[hMC];exact RU hn6
       have hmk:∀W:World,(Instr.makeSlice 109 (.int .i64 n) (.int .i64 n)).run Tryz.prog W=.ok (.slice (some ⟨W.heap.size,0,none⟩) n n) (W.alloc (.cells MC 38)):=fun W=>by
        obtain⟨i,z,bytes,ht,hi,hz,kv,Rj,Rt,hk,hb⟩:=qG;have NI:z=.agg #[.int .i64 0,.int .i64 0]:=by
         have e:(Tryz.prog.info? 38).map (·.zero)=some (some (.agg #[.int .i64 0,.int .i64 0])):=by kernel_rfl
         rw[hi]at e;simp only[Option.map_some,Option.some.injEq]at e;rw[hz]at e;cases e;rfl
        have:=run_makeSlice (P:=Tryz.prog) W 109 38 i z ht hi hz .i64 .i64 n n Wg (Int.le_refl _) (by rw[kv];simp;omega) (by
         have:(i.bytes:Int)*n≤4096*6:=Int.mul_le_mul Wg Wg Wg Wg;omega) Wg
        rw[kv,NI]at this;simpa [hMC]using this
       have HE:=Z3 hE;have y4:=(QL.o.ext hE).c 4 (.int .i64 n) (by rw[←hn];rfl);have yz:=(QL.o.ext hE).lt;have⟨HN,HMC⟩:=aJ hn YA;have aag:(wr.alloc (.cells MC 38)).ownsRow wr.heap.size 38 2 (.slice (some ⟨wr.heap.size,0,none⟩) n n) n ((List.replicate n M.eU).flatMap bV):=by
        rw[←YA];exact World.ownsRow_lit wr MC n (Nat.le_refl _) (by unfold maxLen;omega) (by
         have:=congrArg List.length YA;rw[jl (k:=2) (fun _=>rfl),List.length_replicate]at this;simpa using this)
       have⟨acX,rY⟩:=aJ aag (oF (aA (D:=fun _=>False) HVR.o (hE.alloc (.cells MC 38)) fun _ _ _ x=>x) (kR uN vs));clear hE hn hMC YA aag;go_wp2_with (refine KG qG _ rfl (.tmp 74) (.tmp 75) rfl wr.heap.size wr.heap.size n n vs.length vc _ _ rfl acX.o ⟨vb,0,none⟩ rfl rY.o hvn ?_);intro gu OL lh;have kK:Ext wr gu:=(kx:Ext wr (wr.alloc (.cells MC 38))).own lh (fun b e=>by omega);have qN:gu.ownsRow wr.heap.size 38 2 (.slice (some ⟨wr.heap.size,0,none⟩) n n) n ((vs++List.replicate (n - vs.length) M.eU).flatMap bV):=by
        rw[List.flatMap_append];have e1:((List.replicate n M.eU).flatMap bV).drop (vs.length*2)=(List.replicate (n - vs.length) M.eU).flatMap bV:=by
         have e2:List.replicate n M.eU=List.replicate vs.length M.eU++List.replicate (n - vs.length) M.eU:=by rw[List.replicate_append_replicate];congr 1;omega
         rw[e2,List.flatMap_append,List.drop_left' (by rw[jl (k:=2) (fun _=>rfl)];simp)]
        rw[e1]at OL;exact OL
       have nO:=Z3 kK;have zw:=Jl.o.ext (HE.o.trans kK);have jd:=Z3 zw;have nU:Zs (Kp (MO l own) w gu):=Z3 (vM.o.trans (HE.o.trans kK).any);have af1:=Z3 qN;have aeO:wr.heap.size<gu.heap.size:=by have:=(qN.lt wr.heap.size rfl).2;exact this
       have aiD:=HE.o.size;have G9:¬g.vc.ownBlock=some mb:=fun e=>by have:=zw.calls.role _ e;rw[zw.role]at this;cases this
       have hvw:∀b,w.heap.size≤b→¬g.vc.ownBlock=some b:=fun b hb e=>by have:=(H.o.calls.blk e).2;omega
       obtain⟨T,f,dA,HT⟩:=iN.ex (fun W'=>Kp (fun b=>g.vc.ownBlock=some b) gu W') _ Kp.rr;have hB7:=QL.o.ext (HE.o.trans kK);have Bj:=vL.o.ext (HE.o.trans kK);have agB:w.heap.size≤b7:=by omega
       have rm3:=fun z=>(zw.blk.kp (HT.aW z) G9).c 3 (.slice ca g.cs.length cc) (by rw[←NW.o];rfl);obtain⟨-,Tv,V9,r42, -⟩:=ay.kY fun z=>(Bj.kp (HT.aW z) (hvw _ (Nat.le_refl _)));obtain⟨-,r70,r71,r72,r73,r74,r75,r76,r77, -⟩:=ay.kY fun z=>(hB7.kp (HT.aW z) (hvw _ agB));have⟨aj,XJ⟩:=aJ HT G9;clear OL lh kK qN zw HT hB7 Bj G9 y4 yz hmk;go_wp2_with fail;(refine eO aj 15 [([0,1,2,3,4,5,6,7,8,9,10,11],12),([],13),([],14)] [] ?_ ?_)
       · exact Kp.rr.drew
       refine iX ?_;intro K2 ag;go_wp2_with fail;(refine kk aj ag kx ?_);clear ag K2;(refine gZ rfl fun K2 ag=>?_);go_wp2_with fail;(refine kk aj ag kx ?_);clear ag K2;(refine gZ rfl fun K2 ag=>?_);obtain⟨wB,Rs⟩:∃wB,wB=((gu.alloc (.cells #[.int .i64 xk,.string xn,.int .i64 xa,.string m.name,.slice a1 m.args.length c1,.int .i64 m.ret.kind,.string m.ret.name,.int .i64 m.locals,.int .i64 m.stack,.slice a2 m.code.length c2,.slice a3 m.maps.length c3,.int .i64 0,.slice (some ⟨wr.heap.size,0,none⟩) n n,.slice none 0 0,.int .i64 m.stack] 125)).alloc (.cells #[.pointer (some ⟨gu.heap.size,0,none⟩)] 120)).drew:=⟨_,rfl⟩;rw[←Rs];have Te:Ext gu wB:=by rw[Rs];exact kx
       have bB:ay wB gu.heap.size 125 #[.int .i64 xk,.string xn,.int .i64 xa,.string m.name,.slice a1 m.args.length c1,.int .i64 m.ret.kind,.string m.ret.name,.int .i64 m.locals,.int .i64 m.stack,.slice a2 m.code.length c2,.slice a3 m.maps.length c3,.int .i64 0,.slice (some ⟨wr.heap.size,0,none⟩) n n,.slice none 0 0,.int .i64 m.stack]:=by rw[Rs];exact(ay.newAt (W:=gu) (g:=gu.heap.size) _ _ rfl).ext kx
       have bS:ae wB (gu.heap.size+1) 0 [.pointer (some ⟨gu.heap.size,0,none⟩)]:=by rw[Rs];exact ae.RZ _ _ Wf
       have hzB:wB.heap.size=gu.heap.size+2:=by
        rw[Rs];show((gu.alloc _).alloc _).heap.size=_
        simp
       have hMB:=jd.o.ext Te;have hBw:B≤w.heap.size:=by have:=(H.o.dom mb (by rw[H.o.role];simp)).2;have:=H.o.low;omega
       have hon:∀b,w.heap.size≤b→own b=none:=fun b hb=>by
        cases e:own b with
        |none=>rfl
        |some q=>have:=(H.o.dom b (by rw[e];simp)).2;omega
       obtain⟨gq,jN⟩:∃gq,gq=(own.add gu.heap.size (4,g.cs.length)).add wr.heap.size (5,g.cs.length):=⟨_,rfl⟩;have aiE:w.heap.size≤wr.heap.size:=by omega
       have o1:∀b r,own b=some r→gq b=some r:=fun b r hb=>by
        have h1:b≠gu.heap.size:=fun e=>by rw[e,hon _ Wg]at hb;cases hb
        have h2:b≠wr.heap.size:=fun e=>by rw[e,hon _ Wg]at hb;cases hb
        rw[jN,Own.gQ _ h2,Own.gQ _ h1];exact hb
       have o2:gq wr.heap.size=some (5,g.cs.length):=by rw[jN];exact Own.add_eq _ _ _
       have o3:gq gu.heap.size=some (4,g.cs.length):=by rw[jN,Own.gQ _ Wg];exact Own.add_eq _ _ _
       have o4:∀b,b<w.heap.size→gq b=own b:=fun b hb=>by rw[jN,Own.gQ _ Wg,Own.gQ _ Wg]
       have o5:∀b,gq b≠none→B≤b∧b<wB.heap.size:=fun b hb=>by
        by_cases e1:b=wr.heap.size
        · subst e1;omega
        · by_cases e2:b=gu.heap.size
          · subst e2;omega
          · rw[jN,Own.gQ _ e1,Own.gQ _ e2]at hb;exact hMB.dom b hb
       have hMR:=hMB.relabel o1 o5;have hCA:lF wB l p gq B g.cs.length (⟨⟨⟨⟨xk,xn⟩,xa⟩,0,vs++List.replicate (m.locals.toNat - vs.length) M.eU,[]⟩,gu.heap.size,⟨a1,c1,a2,c2,a3,c3⟩,.slice (some ⟨wr.heap.size,0,none⟩) n n,.slice none 0 0⟩:GC):=by
        refine⟨?_,o3,by show B≤gu.heap.size;omega,?_,⟨?_,fun q hq=>?_⟩,hZ.nil _ _ _ _ _ _⟩
        · unfold E5;simp only[HM.o];exact bB
        · simp only[HM.o];exact bQ.ext aG.stays ((HE.o.trans nO.o).trans Te) af2.o
        · have h1:=fI (base':=B) (aA (D:=fun _=>False) af1.o Te fun _ _ _ x=>x) Wg;have e1:(vs++List.replicate (m.locals.toNat - vs.length) M.eU).length=n:=by rw[HN.o];simp;omega
          show World.ownsRow _ B _ 2 _ (vs++List.replicate (m.locals.toNat - vs.length) M.eU).length _
          rw[e1,HN.o];simpa using h1
        · cases hq;exact o2
       have⟨HMR,SK,HO4⟩:=bg hMR hCA o4;have XB:Zs (Kp (MO l own) w wB):=Z3 (nU.o.trans Te.any);have⟨HBS,WH⟩:=aJ bS Te;clear Rs bB hMB hMR hCA o1 o2 o3 o4 o5 jN bS;refine az IB rfl (.tmp 81) (.tmp 90) rfl B (.slice ca g.cs.length cc) g.cs.length (g.cs.flatMap tC) rfl (by rw[←NW.o];exact HMR.o.calls.row) (gu.heap.size+1) 1 [.pointer (some ⟨gu.heap.size,0,none⟩)] rfl rfl HBS.o Ys Wg Wg ?_;intro g9 c9 Br adR JE wW;change K2 _ _;rw[←NW.o]at JE wW;(refine kk aj ag (WH.o.any.trans JE) ?_);clear ag K2;have JL:=HMR.o.blk.kp JE XJ.o;have q3:=JL.c 3 (.slice ca g.cs.length cc) (by rw[←NW.o];rfl);have f3:=JL.frozen 3;have qz:=JL.lt;have hFI:=acQ.o.2.2.1;rw[HV.o]at hFI;have hs:({g with cs:=g.cs++[(⟨⟨⟨⟨xk,xn⟩,xa⟩,0,vs++List.replicate (m.locals.toNat - vs.length) M.eU,[]⟩,gu.heap.size,⟨a1,c1,a2,c2,a3,c3⟩,.slice (some ⟨wr.heap.size,0,none⟩) n n,.slice none 0 0⟩:GC)],vc:=.slice (some ⟨g9,0,none⟩) (g.cs.length+1) c9}:Gh).st={g.st with frames:=g.st.frames++[⟨⟨⟨xk,xn⟩,xa⟩,0,vs++List.replicate (m.locals.toNat - vs.length) M.eU,[]⟩]}:=by simp[Gh.st]
       obtain⟨Ox,own',Fw,Ri⟩:=HMR.o.PX (⟨⟨⟨⟨xk,xn⟩,xa⟩,0,vs++List.replicate (m.locals.toNat - vs.length) M.eU,[]⟩,gu.heap.size,⟨a1,c1,a2,c2,a3,c3⟩,.slice (some ⟨wr.heap.size,0,none⟩) n n,.slice none 0 0⟩:GC) SK.o g9 c9 adR JE (by
        rcases wW with e|e
        · exact .inl e
        · right;omega) (by rw[hs];exact hFI)
       have jL:Zs (cu w l p own B mb lk (.int .i64 1) {g.st with frames:=g.st.frames++[⟨⟨⟨xk,xn⟩,xa⟩,0,vs++List.replicate (m.locals.toNat - vs.length) M.eU,[]⟩]} (.returned (.int .i64 1)) (Br.setCell ⟨mb,3,none⟩ (.slice (some ⟨g9,0,none⟩) (g.cs.length+1) c9))):=
        Z3 (cu.mk' (XB.o.mo Ox (fun b hb=>HO4.o b hb)) (fun b hb=>(Fw b Wg).trans (HO4.o b hb)) Ri hs)
       clear Ox Fw Ri hs hFI JL adR JE wW aj rm3 Tv V9 r42 r70 r71 r72 r73 r74 r75 r76 r77;(refine dW ?_);go_wp2_with fail;go_ret;rw[HV.o];exact jL.o
   have ZH:=Z3 aay;clear aay hK;cases a1 with
   | none =>
    have Rn:m.args=[]:=by
     cases hma:m.args with
     |nil=>rfl
     |cons k r=>
      rw[hma]at vC;obtain⟨_,_,_,e,_⟩:=vC.get (i:=0) (x:=k) rfl;cases e
    have dY:(w8.alloc (.cells #[.int .i64 2,.string xn] 102)).ownsRow w8.heap.size 102 2 (.slice (some ⟨w8.heap.size,0,none⟩) 1 1) (m.args.length+1) ((M.Kind.mk 2 xn::m.args).flatMap fun k=>[.int .i64 k.kind,.string k.name]):=by
     rw[Rn];exact World.ownsRow_lit w8 #[.int .i64 2,.string xn] 1 (Nat.le_refl _) (by unfold maxLen;omega) rfl
    have hT:=ZH.o (.slice (some ⟨w8.heap.size,0,none⟩) 1 1) (.slice (some ⟨w8.heap.size,0,none⟩) 1 1) _ (kx:Ext w8 (w8.alloc (.cells #[.int .i64 2,.string xn] 102))) dY;simp only[Rn,List.length_nil]at hT;have HT':=Z3 hT;clear hT dY;go_wp2_with fail;exact HT'.o
   |some ad=>
    have Z8:=SliceOf.toFlat (R:=jv) (enc:=fun k=>[.int .i64 k.kind,.string k.name]) (fun _ _ _ _ e=>e) (fun _=>rfl) Ys vC;have rY:=Z3 Z8;clear vC Z8;have U8:1+m.args.length≤8589934592:=by have:=SS.o.Lj;omega
    have dY:(w8.alloc (.cells #[.int .i64 2,.string xn] 102)).ownsRow w8.heap.size 102 2 (.slice (some ⟨w8.heap.size,0,none⟩) 1 1) 1 [.int .i64 2,.string xn]:=World.ownsRow_lit w8 _ 1 (Nat.le_refl _) (by unfold maxLen;omega) rfl;have TM:=Z3 dY;clear dY;go_wp2_with (at_builtin;refine jb Q5 _ rfl (.tmp 41) (.tmp 43) rfl w8.heap.size _ 1 [.int .i64 2,.string xn] rfl TM.o ad m.args.length c1 _ rfl (rY.o.ext kx) U8 Wf ?_);intro v' w9 aae fM;have HO9:=Z3 aae;have su:Zs (Ext w8 w9):=Z3 ((kx:Ext w8 (w8.alloc (.cells #[.int .i64 2,.string xn] 102))).own fM (fun b e=>by simp only[Value.ownBlock,Option.some.injEq]at e;omega));clear aae fM;go_wp2_with fail;exact ZH.o _ _ _ su.o (by rw[Nat.add_comm];exact HO9.o)
  clear hK;have Lh:=Z3 M5;clear M5;(refine lN aj 7 (.two [0,1,2,3,4] 5 6 (.one [] 6 (.fin [])) (.one [] 5 (.fin []))) ?_ ?_)
  · exact Kp.rr.drew
  (refine two [_,_,_,_,_] rfl rfl rfl fun K hK=>?_);(repeat (go_big_quiet_step (fail)));((refine Gj hK (fun K2 ag=>?_) fun K2 ag=>?_)<;>clear hK K)
  · go_wp2_with fail;have zC:=fQ w1.drew l p (KH.o.dN.ext Kp.rr.drew) ⟨⟨xk,xn⟩,xa⟩ HX.o;rw[HM.o]at zC;refine zC.mono ?_;rintro e w8 ⟨⟨cs,mF,rfl⟩,lK⟩;obtain⟨t2,rfl⟩:=jS mF;have lJ:Zs (Ext w1 w8):=Z3 ((Kp.rr.drew).trans lK);have GQ:=Z3 mF;clear mF lK zC;simp only[iC];go_wp2_with fail;(refine kk aj ag lJ.o ?_);clear ag K2;(refine aX rfl fun K2 ag=>?_);go_wp2_with fail;(refine kk aj ag (lJ.o.alloc _) ?_);clear ag K2;clear aj yX Tv V9 r42;(refine bU ?_);go_wp2_with fail;exact Lh.o _ _ t2 (lJ.o.alloc _) (ay.new _ _ _) lJ.o.size (bQ.ext aG.stays (kx:Ext w8 _) GQ.o)
  · go_wp2_with fail;(refine kk aj ag ((Kp.rr.drew).alloc _) ?_);clear ag K2;(refine aX rfl fun K2 ag=>?_);go_wp2_with fail;have b5:ay (w1.alloc (.cells #[.string ⟨#[]⟩,.slice none 0 0,.int .i64 0,.string ⟨#[]⟩,.int .i64 0,.int .i64 0,.slice none 0 0,.slice none 0 0] 106)).drew w1.heap.size 106 #[.string ⟨#[]⟩,.slice none 0 0,.int .i64 0,.string ⟨#[]⟩,.int .i64 0,.int .i64 0,.slice none 0 0,.slice none 0 0]:=(ay.new _ _ _).ext Kp.rr.drew;have zC:=fQ ((w1.alloc (.cells #[.string ⟨#[]⟩,.slice none 0 0,.int .i64 0,.string ⟨#[]⟩,.int .i64 0,.int .i64 0,.slice none 0 0,.slice none 0 0] 106)).drew) l p (KH.o.dN.ext (Kp.rr.alloc _).drew) ⟨⟨xk,xn⟩,xa⟩ HX.o;rw[HM.o]at zC;refine zC.mono ?_;rintro e w8 ⟨⟨cs,mF,rfl⟩,lK⟩;obtain⟨t2,rfl⟩:=jS mF;have lJ:Zs (Ext w1 w8):=Z3 ((((Kp.refl _ w1).alloc _).drew).trans lK);have GV:=b5.ext lK;obtain⟨z5,y0,y1,y2,y3,y4,y5,y6,y7, -⟩:=GV.ca;obtain⟨g0,g1,g2,g3,g4,g5,g6,g7, -⟩:=GV.fz;obtain⟨w9,jK⟩:∃w9,w9=((((((((w8.setCell ⟨w1.heap.size,0,none⟩ (.string m.name)).setCell ⟨w1.heap.size,1,none⟩ (.slice t2.a1 m.args.length t2.c1)).setCell ⟨w1.heap.size,2,none⟩ (.int .i64 m.ret.kind)).setCell ⟨w1.heap.size,3,none⟩ (.string m.ret.name)).setCell ⟨w1.heap.size,4,none⟩ (.int .i64 m.locals)).setCell ⟨w1.heap.size,5,none⟩ (.int .i64 m.stack)).setCell ⟨w1.heap.size,6,none⟩ (.slice t2.a2 m.code.length t2.c2)).setCell ⟨w1.heap.size,7,none⟩ (.slice t2.a3 m.maps.length t2.c3)):=⟨_,rfl⟩;have fM:Kp (·=w1.heap.size) w8 w9:=by rw[jK];exact Kp.Ko (D:=(·=w1.heap.size)) rfl _ _ _ _ _ _ _ _
    have b9:ay w9 w1.heap.size 106 (iC m t2).toArray:=by rw[jK];exact GV.Ko _ _ _ _ _ _ _ _
    have hz7:=KH.o.dN.lt;have aew:=KH.o.dN.ord;have su:Zs (Ext w1 w9):=Z3 (lJ.o.own fM (fun k e=>by omega));have⟨GQ,zR,QV⟩:=bg (bQ.kp aG.stays fM (fun b hb e=>by omega) mF) b9 jK;clear b5 GV mF lK jK fM b9 zC;simp only[iC];go_wp2_with fail;(refine kk aj ag lJ.o ?_);clear ag K2;clear aj yX Tv V9 r42;(refine bU ?_);go_wp2_with fail;rw[←QV.o];exact Lh.o _ _ t2 su.o zR.o (Nat.le_refl _) GQ.o
 clear hK;have⟨TAIL,adb⟩:=aJ tail aax;clear tail aax;cases lk
 · replace HV:Zs (M.enter p false ⟨⟨xk,xn⟩,xa⟩ vs g.st=if M.fH p xk g.st.heap vs (⟨2,xn⟩::m.args)then(1,{g.st with frames:=g.st.frames++[⟨⟨⟨xk,xn⟩,xa⟩,0,vs++List.replicate (m.locals.toNat - vs.length) M.eU,[]⟩]})else(10,g.st)):=Z3 HV.o;(refine eO aj 13 [([0,1,2,3,4,5,6,7,8,9],10)] [11,12] ?_ ?_)
   · exact(LC.refl HA.o.dN).drew
   refine iX ?_;intro K2 ag;go_wp2_with fail;(refine kk aj ag (LC.refl HA.o.dN).drew ?_);clear ag K2;refine qa ?_;go_wp2_with fail;exact TAIL.o _ _ _ _ _ _ _ _ _ (LC.refl HA.o.dN).drew HV.o
 · (refine eO aj 13 [([0,1,2,3,4,5,6,7,8,9],10)] [11,12] ?_ ?_)
   · exact(LC.refl HA.o.dN).drew
   refine iX ?_;intro K2 ag;go_wp2_with fail;refine((KL.o Wf) _ _ _ (HA.o.dN.ext Kp.rr.drew) ⟨⟨xk,xn⟩,xa⟩ HX.o).mono ?_;rintro e w1 ⟨rfl,lI,Aq⟩;have He:Zs (LC l p w0 w1):=Z3 ((LC.refl HA.o.dN).drew.step Aq lI);clear lI Aq;cases hr:M.right p ⟨⟨xk,xn⟩,xa⟩
   · rw[hr]at HV;replace HV:Zs (M.enter p true ⟨⟨xk,xn⟩,xa⟩ vs g.st=(5,g.st)):=Z3 HV.o;clear hr;go_wp2_with fail;(refine kk aj ag He.o ?_);clear ag K2;refine qa ?_;go_wp2_with fail;exact adb.o _ _ _ _ _ _ _ _ _ He.o HV.o
   · rw[hr]at HV;replace HV:Zs (M.enter p true ⟨⟨xk,xn⟩,xa⟩ vs g.st=if M.fH p xk g.st.heap vs (⟨2,xn⟩::m.args)then(1,{g.st with frames:=g.st.frames++[⟨⟨⟨xk,xn⟩,xa⟩,0,vs++List.replicate (m.locals.toNat - vs.length) M.eU,[]⟩]})else(10,g.st)):=Z3 HV.o;clear hr;go_wp2_with fail;(refine kk aj ag He.o ?_);clear ag K2;refine qa ?_;go_wp2_with fail;exact TAIL.o _ _ _ _ _ _ _ _ _ He.o HV.o
end Go.Proofs.YtkmclfpjpajjeaaGreat
