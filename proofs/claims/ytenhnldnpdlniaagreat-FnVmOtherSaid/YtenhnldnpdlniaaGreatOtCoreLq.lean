/- Walks. -/
import Derived.Test.YtenhnldnpdlniaaGreatOtCoreLo
import Derived.Tactics2
import Derived.Defers
import Derived.Recover
import Derived.Laws.CopyOwn
set_option maxRecDepth 100000
set_option maxHeartbeats 4000000
set_option linter.all false
namespace Go.Proofs.YtenhnldnpdlniaaGreat
open Go Go.RowKit Tryz M
variable {at_ k: Int}{m: M.Method}{b c d g n q r: Nat}{D I: Nat->Prop}{P: Program}{vs: Value}{w: World}{p: hZ}{l: iZ}{s: nV}{t: uN}
@[go_sem] theorem run_store_func {P:Program} {w:World} {a:Addr} {m:Mode} (f:Fn) (x y:Array Value):(store a (.func f x y) m).run P w=stored P w a (.func f x y) m:=run_store P w a _ m rfl
@[go_sem] theorem run_store_nilFunc {P:Program} {w:World} {a:Addr} {m:Mode}:(store a .nilFunc m).run P w=stored P w a .nilFunc m:=run_store P w a _ m rfl
def Qk(n:Nat):Nat:=
 if n=1 then 179 else if n=2 then 180 else if n=3 then 181 else if n=4 then 182 else if n=5 then 183 else if n=6 then 184 else
 if n=7 then 185 else if n=8 then 186 else if n=9 then 187 else if n=10 then 188 else if n=11 then 189 else if n=12 then 190 else
 if n=13 then 191 else if n=14 then 192 else 193
def DY:Array Value:=#[.nilFunc,.func (.func 179) #[] #[],.func (.func 180) #[] #[],.func (.func 181) #[] #[],.func (.func 182) #[] #[],.func (.func 183) #[] #[],.func (.func 184) #[] #[],
 .func (.func 185) #[] #[],.func (.func 186) #[] #[],.func (.func 187) #[] #[],.func (.func 188) #[] #[],.func (.func 189) #[] #[],.func (.func 190) #[] #[],.func (.func 191) #[] #[],
 .func (.func 192) #[] #[],.func (.func 193) #[] #[]]
theorem MN(a:1<=n)(b:n<=15):DY[n]?=some (.func (.func (Qk n)) #[] #[]):=by
 have:n=1\/n=2\/n=3\/n=4\/n=5\/n=6\/n=7\/n=8\/n=9\/n=10\/n=11\/n=12\/n=13\/n=14\/n=15:=Zm
 rcases this with rfl|rfl|rfl|rfl|rfl|rfl|rfl|rfl|rfl|rfl|rfl|rfl|rfl|rfl|rfl<;>rfl
theorem jq{f:Nat}{fn:Func}{c:Code}(b:prog.funcs[f]?=some fn)(a:fn.body=some c)(d:(fn.name== "runtime.NumGoroutine")=false)(args:Array Value)(w:World):(callFunc f args).run prog w=.ok (.enter f args) w:=by
 have e:¬fn.name= "runtime.NumGoroutine" :=by simpa using d
 simp[callFunc,go_sem,b,a,e]
theorem OW(a:1<=n)(b:n<=15)(args:Array Value)(w:World):(callFunc (Qk n) args).run prog w=.ok (.enter (Qk n) args) w:=by
 have:n=1\/n=2\/n=3\/n=4\/n=5\/n=6\/n=7\/n=8\/n=9\/n=10\/n=11\/n=12\/n=13\/n=14\/n=15:=Zm
 rcases this with rfl|rfl|rfl|rfl|rfl|rfl|rfl|rfl|rfl|rfl|rfl|rfl|rfl|rfl|rfl
 . exact jq func179 rfl Zo args w
 . exact jq func180 rfl Zo args w
 . exact jq func181 rfl Zo args w
 . exact jq func182 rfl Zo args w
 . exact jq func183 rfl Zo args w
 . exact jq func184 rfl Zo args w
 . exact jq func185 rfl Zo args w
 . exact jq func186 rfl Zo args w
 . exact jq func187 rfl Zo args w
 . exact jq func188 rfl Zo args w
 . exact jq func189 rfl Zo args w
 . exact jq func190 rfl Zo args w
 . exact jq func191 rfl Zo args w
 . exact jq func192 rfl Zo args w
 . exact jq func193 rfl Zo args w
theorem O1{f: Value}(b:jo w l p d c k m t at_ s f vs)(i:Ins)(n:Nat)(a:i.op=n)(g:nJ m i=true):Calls prog (Qk n) #[some c,.agg #[i.op,i.a,i.name,i.member]] w (jF w l p d c k m t at_ f vs (jG p k m i s)):=by
 obtain⟨_,e,_,_,h,_⟩:=qX g;have:n=1\/n=2\/n=3\/n=4\/n=5\/n=6\/n=7\/n=8\/n=9\/n=10\/n=11\/n=12\/n=13\/n=14\/n=15:=Zm
 rcases this with rfl|rfl|rfl|rfl|rfl|rfl|rfl|rfl|rfl|rfl|rfl|rfl|rfl|rfl|rfl
 . exact O4 b i a
 . exact O9 b i a (e (.inl a))
 . exact Qo b i a (e (.inr a))
 . exact OZ b i a
 . exact MU b i a
 . exact O3 b i a
 . exact O0 b i a
 . exact O8 b i a
 . exact MP b i a
 . exact O7 b i a
 . exact MV b i a
 . exact KL b i a
 . exact Qn b i a
 . exact O5 b i a
 . exact MQ b i a
theorem jo.setAt{f: Value}(a:jo w l p g c k m t at_ s f vs)(n:Int)(o:0<=n/\n<=100):jo (w.setCell (c,10) n) l p g c k m t n s f vs/\Kp (qN l c f vs) w (w.setCell (c,10) n):=by
 have d:Kp (·=c) w (w.setCell (c,10) n):=qA;have q:=a.hB;have r:=a.hk;have u:=a.kK.ord;exact⟨⟨a.kK.kp d (fun h j b=>Zm),a.hB,a.hk,jK.kp jb.stays d (fun h j b=>Zm) a.ml,a.mi,a.blk.jE 10 _,
  iY a.loc d (fun i e _ b=>by subst b;exact a.QV.1 e),iY a.ky d (fun i e _ b=>by subst b;exact a.QV.2 e),a.ne,o,a.QW,a.Pb⟩,d.weak fun h _ b=>.inr (.inl b)⟩
theorem qN.sub{f: Nat}{g h vs': Value}(d:¬qN l f g vs b)(e:jU n g vs h vs')(i:b<n):¬qN l f h vs' b:=by
 rintro(c|c|c|c)
 . exact d (.inl c)
 . exact d (.inr (.inl c))
 . rcases e b (.inl c)with a|a|a
   . exact d (.inr (.inr (.inl a)))
   . exact d (.inr (.inr (.inr a)))
   . omega
 . rcases e b (.inr c)with a|a|a
   . exact d (.inr (.inr (.inl a)))
   . exact d (.inr (.inr (.inr a)))
   . omega
theorem jb.code(b:jb w I m (nK m t)):SliceOf 4 yw w I (.slice t.a2 m.code.length t.c2) m.code:=by
 obtain⟨d,e,f,a,-,c,-⟩:=b;simp only[nK,TG,Vw,Ve]at a;obtain⟨-,rfl,-⟩:=a;exact c
def RU(w:World)(l:iZ)(p:hZ)(kb:Nat)(vl vs:Value)(o:Sum Int (List nV))(e:Ending)(w':World):Prop:=
 Kp (qN l kb vl vs) w w'/\ja w' l p/\((∃n,o=.inl n/\e=.panicked (Aj n))\/∃fs v vl' vs',o=.inr fs/\e=.returned v/\Kn w' w.heap.size v vl' vs' fs)
theorem Jb {U: Nat} {y: Value} (j : jo w l p U g k m t at_ s y vs) :Calls prog 152 #[some g] w (RU w l p g y vs (lu p k m m.code 0 true s [])):=by
 obtain⟨a1,c1,a2,c2,a3,c3⟩:=t;have aO:=j.blk.lt;have aV:=Zy j;obtain⟨w0,R⟩:=SH (w.alloc (.cells DY 267));have b3:h9 w0 w 267 DY:=by rw[R];exact h9.new _ _ _
 have aH:Ext w w0:=by rw[R];exact kx
 have h:=j.ext aH;have c8:=j.blk.c 8 (.slice a2 m.code.length c2) rfl;have ek:=j.mi.code;have⟨HA,bZ,bY,dQ⟩:=kQ h aH b3 R;unfold DY at R;have HX:=Zy R;clear j h aH b3 R;go_enter func152,ntmps152;go_wp2_with fail;rw[<-HX.o];clear c8;go_loopw [4,5,15] (fun v dF aS wr=>∃(b:Nat) (I:Bool) (L:nV) (Y:Int) (D E:Value) (f:List nV),b<=m.code.length/\dF=.bool I/\aS=.int .i64 b/\jo wr l p U g k m ⟨a1,c1,a2,c2,a3,c3⟩ Y L D E/\jU (w+1) y vs D E/\
     Kp (qN l g y vs) w wr/\Kn wr w v D E f/\f.length=b/\h9 wr w 267 DY/\Zz (lu p k m m.code 0 true s []=lu p k m (m.code.drop b) b I L f)) (fun _ _ aS _=>m.code.length - (intOf aS).toNat)
 case atStart=>exact⟨0,true,s,at_,y,vs,[],T9 _,rfl,rfl,HA,jU.refl _ _ _,bZ.any,Kn.nil _ _ _ _,rfl,bY,Zy rfl⟩
 case round =>
  obtain⟨b,I,L,Y,D,E,f,hq,rfl,rfl,h,hO,hK,aj,bQ,hB,af⟩:=hrel;have⟨bE,bg⟩:=jc h bQ;clear bQ;have eU:(w:Nat)<wr:=hB.lt;have dY:=h.blk.lt;have aa:(w:Nat)<w+1:=Vj _;by_cases dJ:b<m.code.length
  . obtain⟨⟨op,ia,nm,ae⟩,hi⟩:=nR m.code b dJ;have ak:=h.mi.ins _ (Sy hi);obtain⟨c,rfl⟩:∃c:Nat,op=c:=⟨op.toNat,by have:=(qX ak).2.2.2.2.1;simp only at this;omega⟩;have au:1<=c/\c<=15:=by have:=(qX ak).2.2.2.2.1;simp only at this;omega
    obtain⟨Z,aU,cs,ea,dV,rfl,-,bO⟩:=(jb.code h.ml).get hi;cases ea;obtain⟨g0,g1,g2,g3⟩:=bO.four;have gz:=iV g0;have X:Zz (lu p k m m.code 0 true s []=match qa p k m I b L with
     |none=>.inl ((b:Int)+1)
     |some e=>match jG p k m ⟨c,ia,nm,ae⟩ e with
      |none=>.inl ((b:Int)+1)
      |some N=>lu p k m (m.code.drop (b+1)) (b+1) (decide ((c:Int)≠10)&&decide ((c:Int)≠13)) N (f++[e])):=Zy (by rw[af.o,pV hi];rfl)
    have eH:(b:Int)<m.code.length:=Zm
    obtain⟨bB,bJ⟩:=h.setAt b Zm;have dC:=h.blk.c 10 Y rfl;have dE:=h.blk.frozen 10;have eD:¬wr=g:=Zm
    have eF:¬g=wr:=Zm
    obtain⟨w5,av⟩:=SH ((wr.setCell (g,10) b).alloc (.cells #[c,ia,nm,ae] 134));have aI:Ext (wr.setCell (g,10) b) w5:=by rw[av];exact kx
    have b7:h9 w5 wr 134 #[c,ia,nm,ae]:=by rw[av];exact h9.newAt _ _ Zl
    have bT:¬qN l g D E wr.heap.size:=h.pM;have bV:¬qN l g y vs w.heap.size:=aV.pM;have⟨dw,B7,z,V,cO,cB,HB,HK,A⟩:=Bz av b7 (bJ.trans aI.any) (bB.ext aI) aj ak hB hK hO;have⟨aA,W⟩:=jc bT bV;clear h hi ak bO av aI b7 bB bJ aj hB hK hO af bT bV;go_wp2_with fail;rw[<-dw.o];refine(MS V I).mono ?_;rintro a w6 ⟨K,dH,⟨C,rfl⟩|⟨e,C,rfl,eX,eY,n,aN⟩⟩
    . refine⟨rfl,(HK.look z (A.le (Vo _))).look K (A.le (Vo _)),dH,.inl ⟨_,?_,rfl⟩⟩;rw[X.o,C]
    have cZ:=(Kn.kp (Kn.kp cO bE z (jU.refl _ _ _) aO) V K aN aO);obtain⟨cs,Q⟩:=cZ;obtain⟨la,lc,rfl⟩:=jL n.loc;obtain⟨sa,sc,rfl⟩:=jL n.ky;obtain⟨S,T,rfl⟩:=jL Q.2.1;replace X:Zz (lu p k m m.code 0 true s []=match jG p k m ⟨c,ia,nm,ae⟩ e with
        |none=>.inl ((b:Int)+1)
        |some N=>lu p k m (m.code.drop (b+1)) (b+1) (decide ((c:Int)≠10)&&decide ((c:Int)≠13)) N (f++[e])):=Zy (by rw[X.o,C])
    have aR:¬(Value.slice S f.length T).ownBlock=some g:=fun a=>by
     obtain⟨ai,hb⟩:=oJ Q.2.1 a;exact absurd (h9.inj hb n.blk) Zn
    have dM:¬(Value.slice S f.length T).ownBlock=some wr.heap.size:=fun a=>by
     obtain⟨ai,hb⟩:=oJ Q.2.1 a;exact absurd (h9.inj hb (B7.o.kp K aA.o)) Zn
    have dN:¬(Value.slice S f.length T).ownBlock=some w.heap.size:=fun a=>by
     obtain⟨ai,hb⟩:=oJ Q.2.1 a;exact absurd (h9.inj hb ((HB.o.kp z.o (qN.sub W.o A.o aa)).kp K (qN.sub W.o A.o aa))) Zn
    obtain⟨dx,dD,dK,B⟩:=uD.ex (fun W'=>Kp (fun Z=>(Value.slice S f.length T).ownBlock=some Z) w6 W') _ Kp.rr;have dO:=fun O=>(n.blk.kp (B.jv O) aR).c 11 (.slice la e.locals.length lc) rfl;have dP:=fun O=>(n.blk.kp (B.jv O) aR).c 12 (.slice sa e.stack.length sc) rfl;have dZ:=n.blk.lt;have⟨u,r,H,az,bq⟩:=qR B n Q K aN;have ed:e.locals.length<=6:=SL n.Pb n.mi.locals
    have eO:e.stack.length<=5:=SL n.QW n.mi.stack
    have dX:(w:Nat)+1<=(w6:Nat):=SL K.size z.size
    clear n Q K aN B C;go_wp2_with fail;refine kT u 14 [([0,1,2,3,4,6,7,8,9],5),([],10),([11],12),([],13)] [] ?_ ?_
    . exact jg
    refine mP ?_;intro x i;go_wp2_with fail;refine(uP (tJ (r.ext jg).loc (pW xE _)) Zm).mono ?_;rintro a w7 ⟨⟨c1,rfl,aP⟩,bI⟩;obtain⟨aB,aC,rfl⟩:=jL aP;have bH:=((Kp.refl _ w6).drew:Ext w6 _).trans bI;have⟨ag,di⟩:=jc bH aP;clear aP bI bH;go_wp2_with fail;refine kk u i ag.any ?_;clear i x;refine lK rfl fun x i=>?_;go_wp2_with fail;refine(uP (tJ (r.ext ag).ky (pW xE _)) Zm).mono ?_;rintro a w8 ⟨⟨dR,rfl,aQ⟩,aJ⟩;obtain⟨aD,aF,rfl⟩:=jL aQ;have⟨P,cu,dm⟩:=jr (ag.trans aJ) aJ aQ;clear aQ aJ;go_wp2_with fail;refine kk u i P.any ?_;clear i x;refine mP ?_;intro x i;go_wp2_with fail;refine kk u i (P.alloc _).any ?_;clear i x;refine lK rfl fun x i=>?_;refine ji Og rfl (.tmp 27) (.tmp 39) rfl w (.slice S f.length T) f.length _ rfl (iY (D:=fun _=>False) H.2.1 (P.alloc _) fun _ _ _ d=>d) w8 1 [.slice aB e.locals.length aC,.slice aD e.stack.length aF] rfl rfl (hH.M8 _ _ rfl) Zt (SK bg.o) (by simp;have:=P.size;omega) ?_;intro g9 c9 w9 bM aL bP;change x _ _;have F:=(P.alloc _).any.trans aL;refine kk u i F ?_;clear i x;have bD:jo w9 l p U g k m ⟨a1,c1,some ⟨Z,aU,none⟩,c2,a3,c3⟩ b e (.slice la e.locals.length lc) (.slice sa e.stack.length sc):=by
     have eG:=r.kK.ord;have dU:=r.hB;have bS:=fun d a=>(H.2.1.lt d a).1;have dW:=aV.kK.lt;refine r.kp' F (r.kK.kp F (fun d hx a=>SK (bS d a))) aR (fun d hx a=>?_) (fun d hx a=>?_) (fun d hx a=>SK (bS d a))
     . obtain⟨ai,o⟩:=oJ H.2.1 a;obtain⟨dz,q⟩:=oJ r.loc hx;exact absurd (h9.inj o q) Zn
     . obtain⟨ai,o⟩:=oJ H.2.1 a;obtain⟨dz,q⟩:=oJ r.ky hx;exact absurd (h9.inj o q) Zn
    have bF:=(B7.kp az aA).kp F dM;have bG:=((HB.kp z (qN.sub W A aa)).kp az (qN.sub W A aa)).kp F dN
    have bR : Kn w9 w (g9, f.length + 1, c9) (.slice la e.locals.length lc) (.slice sa e.stack.length sc) (f ++ [e]) := by
     have hI:∀d,w6.heap.size<=d->d<(w8.alloc (.cells #[.slice aB e.locals.length aC,.slice aD e.stack.length aF] 195)).heap.size→
         J5 (w8.alloc (.cells #[.slice aB e.locals.length aC,.slice aD e.stack.length aF] 195)) w (.slice S f.length T) (.slice la e.locals.length lc) (.slice sa e.stack.length sc) d:=fun d o q=>
      ⟨Zm,q,fun a=>SK ((H.o.2.1.lt d a).2),fun a=>SK ((r.o.loc.lt d a).2),fun a=>SK ((r.o.ky.lt d a).2)⟩
     have eQ:=ag.size;refine(NT.ext H (P.alloc _)).snoc ?_ ?_ bM aL (fun d a=>?_)
     . exact SliceOf.l5 (R:=kU) ni (iY (D:=fun _=>False) di (cu.alloc _) fun _ _ _ d=>d) rfl rfl (fun _ _=>rfl) (fun _ _=>rfl) (fun d o q=>hI d (by simpa using o) q) Zm
     . exact SliceOf.l5 (R:=kU) ni (iY (D:=fun _=>False) dm (kx:Ext w8 _) fun _ _ _ d=>d) rfl rfl (fun _ _=>rfl) (fun _ _=>rfl) (fun d o q=>hI d Zm q) Zm
     . have e':g9=d:=by simpa [Value.ownBlock]using a
       subst e';rcases bP with j|j
       . exact .inl j
       . right;omega
    have⟨aW,aX,aY,df⟩:=kQ bD bF bG bR;have bf:=Zy (by
     have o:=(HK.look z (A.le (Vo _))).look az (A.le (Vo _));exact o.own F (fun d a=>(H.2.1.lt d a).1))
    have ah:=Zy (A.trans bq (SK z.size));have eT:=F.size;have bU:=qN.sub aA bq (by have:=B7.lt;exact this);have bW:=qN.sub W ah aa;clear bD bF bG bR bM aL bP F u dO dP;refine kG ?_;go_wp2_with fail;obtain⟨dx,dD,dK,B⟩:=uD.ex (fun W'=>Kp (qN l g (.slice la e.locals.length lc) (.slice sa e.stack.length sc)) w9 W') _ Kp.rr;obtain⟨-,r0,r1,r2,r3,-⟩:=h9.qW fun O=>(aX.kp (B.jv O) bU);have rf:=fun O=>(aY.kp (B.jv O) bW).c c _ (MN au.1 au.2);have eB:(c:Int)<16:=Zm
    have eu:(0:Int)<=c:=Zm
    have u:=Zy B;have dI:=OW au.1 au.2;clear B;refine kT u 7 [([0,1,2,3,4,5],6)] [] ?_ ?_
    . exact jg
    refine mP ?_;intro x i;go_wp2_with fail;refine(O1 (aW.ext jg) ⟨c,ia,nm,ae⟩ c rfl cB).mono ?_;rintro a G aK;replace aK:=jF.behind ((Kp.refl _ w9).drew) aK;rcases aK with⟨J,bL,⟨C,rfl⟩|⟨N,C,rfl,ax,ay,bA,aM⟩⟩
    . refine⟨rfl,bf.look J (ah.le (Vo _)),bL,.inl ⟨_,?_,rfl⟩⟩;rw[X.o,C]
    have bN:=aX.kp J bU;have y0:=bN.c 0 c rfl;have cz:Zz (jo G l p U g k m ⟨a1,c1,some ⟨Z,aU,none⟩,c2,a3,c3⟩ b N ax ay/\jU (w+1) y vs ax ay/\Kp (qN l g y vs) w G/\
        Kn G w (g9,f.length+1,c9) ax ay (f++[e])/\h9 G w 267 DY/\
        lu p k m m.code 0 true s []=lu p k m (m.code.drop (b+1)) (b+1) (decide ((c:Int)≠10)&&decide ((c:Int)≠13)) N (f++[e])):=
     Zy ⟨bA,ah.trans aM Zm,bf.look J (ah.le (Vo _)),Kn.kp df aW J aM aO,aY.kp J bW,by rw[X.o,C]⟩
    have cK:=Zy J;clear bN J bL bA aM C r0 r1 r2 r3 rf dI;go_wp2_with fail;refine kk u i cK ?_;clear i x;clear u;refine Hk rfl ?_;have bu:∀aG:Bool,aG=(decide ((c:Int)≠10)&&decide ((c:Int)≠13))->∃(q':Nat) (bz:Bool) (L:nV) (Y:Int) (D E:Value) (aT:List nV),q'<=m.code.length/\Value.bool aG=.bool bz/\Value.int .i64 ((b:Int)+1)=.int .i64 q'/\
        jo G l p U g k m ⟨a1,c1,some ⟨Z,aU,none⟩,c2,a3,c3⟩ Y L D E/\jU (w+1) y vs D E/\
        Kp (qN l g y vs) w G/\Kn G w (g9,f.length+1,c9) D E aT/\aT.length=q'/\h9 G w 267 DY/\Zz (lu p k m m.code 0 true s []=lu p k m (m.code.drop q') q' bz L aT):=by
     rintro aG rfl;obtain⟨o,q,h3,h4,h5,h6⟩:=cz.o;exact⟨b+1,_,N,b,ax,ay,f++[e],Zm,rfl,by simp,o,q,h3,h4,by have:=bg.o;simp[this],h5,Zy h6⟩
    have aZ:=Zy bu;have eP:IntKind.i64.wrap ((b:Int)+1)=b+1:=Tg _ Zm;clear bu;by_cases bX:c=10
    . subst bX;go_wp2_with fail;exact⟨aZ _ rfl,by simp[intOf];omega⟩
    . have dS:((c:Int) !=10)=true:=TP.2 Zm;obtain⟨dB,dG⟩:∃dA,((c:Int) !=13)=dA:=⟨_,rfl⟩;have hd:Zz (dB=(decide ((c:Int)≠10)&&decide ((c:Int)≠13))):=Zy (by
       rw[<-dG,SY (by omega:(c:Int)≠10),TB];by_cases j:(c:Int)=13
       . rw[j];rfl
       . rw[TP.2 j,SY j])
      clear bX;go_wp2_with fail;exact⟨aZ _ hd,by simp[intOf];omega⟩
  . have dL:b=m.code.length:=Zm
    have HQ:Zz (lu p k m m.code 0 true s []=if I then .inl ((m.code.length:Int)+1)else .inr f):=Zy (by rw[af.o,TW Zm,dL];rfl);have⟨dh,bn⟩:=jc aj hK;obtain⟨-,-,-,-,-,-,-,-,-,e8,-,dC,-⟩:=h.blk.ca;have dE:=h.blk.frozen 10;obtain⟨bC,bK⟩:=h.setAt m.code.length Zm;have⟨V,z,dn⟩:=jr bC bK hO;clear h hB hK aj hO bC bK af;cases I
    . go_wp2_with fail;refine Px (v:=u4) (by simp[results,results152,go_sem]) rfl ?_;exact⟨bn,bE.kK,.inr ⟨_,_,_,_,HQ,rfl,dh⟩⟩
    . go_wp2_with fail;refine(mG g m.code.length (V.blk.c 10 _ rfl) Zm Zm).mono ?_;rintro a w3 ⟨rfl,rfl⟩;exact⟨rfl,bn.look z (dn.le (Vo _)),V.kK,.inl ⟨_,HQ,rfl⟩⟩
theorem PL(x:Value)(w:World):(Instr.typeAssert (.iface 240 x) 20 240 true).run prog w=.ok (.tuple #[x,.bool true]) w:=by kernel_rfl
theorem Ja(w:World){a b:Nat}{l m:Value}(d:h9 w a 142 #[l])(e:h9 w b 3 #[m])(n:Int)(k:List PanicEntry):
    CallsD prog 151 #[some a,some b] (.panicking ({v:=.iface 240 (.agg #[n]),recovered:=false}::k)) w fun f u h=>
     f=.returned (.tuple #[])/\u=.panicking ({v:=.iface 240 (.agg #[n]),recovered:=true}::k)/\Kp (fun c=>c=a\/c=b) w h/\h9 h a 142 #[()]/\h9 h b 3 #[n]:=by
 have i:a≠b:=fun f=>by subst f;exact absurd (h9.inj d e) Zn
 have⟨o,p⟩:=jc d e;refine callsD_of_wpS func151 rfl fun y x s=>?_;apply wpS_seq;apply wpS_region;simp[wpOpsS,go_sem,recoverD,s,ntmps151,Exit.thenS];refine wpS_of_wp ?_;simp only[U9,Uz,Uf,Uq,Ti,Td,TY,TQ,TK];have B:=d.c 0 l rfl;have C:=e.c 0 m rfl;have E:=d.lt;have F:=e.lt;have z:=d.frozen 0;have A:=e.frozen 0;have D:=PL;clear d e;go_wp2_with fail;go_region_with (fail)
 all_goals
  have t:Kp (fun c=>c=a\/c=b) w (w.setCell a ()):=(Kp.refl _ w).setCell (p:=⟨a,0,none⟩) (fun _=>.inl rfl) _;have j:Kp (·=b) (w.setCell a ()) ((w.setCell a ()).setCell b n):=qA;have g:Ext ((w.setCell a ()).setCell b n) ((((w.setCell a ()).setCell b n).alloc (.cells #[n] 240)).drew):=(jh _).drew;have q:h9 (w.setCell a ()) a 142 #[()]:=o.jE 0 _;have r:h9 ((w.setCell a ()).setCell b n) b 3 #[n]:=
   (p.kp ((Kp.refl (·=a) w).setCell (p:=⟨a,0,none⟩) (fun _=>rfl) ()) (Ne.symm i)).jE 0 _
  exact⟨rfl,_,rfl,.tuple #[],by simp[results,results151,go_sem],rfl,rfl,(t.trans (j.weak fun c _ f=>.inr f)).trans g.any,(q.kp j i).ext g,r.ext g⟩
theorem MR{a: Nat}:CallsD prog 151 #[some a,some b] .returning w fun d f g=>d=.returned (.tuple #[])/\f=.returning/\g=w:=by
 refine callsD_of_wpS func151 rfl fun c h e=>?_;apply wpS_seq;apply wpS_region;simp[wpOpsS,go_sem,recoverD,e,ntmps151,Exit.thenS];refine wpS_of_wp ?_;simp only[U9,Uz,Uf,Uq,Ti,Td,TY,TQ,TK];go_wp2_with fail;exact⟨rfl,_,by cases c;simp_all,.tuple #[],by simp[results,results151,go_sem],rfl,rfl,rfl⟩
def RL(Q:Exit->Act->World->Prop):Exit->Act->World->Prop
 | .panic _,_,_=>False
 |e,a,w=>Q e a w
theorem yU{id:Nat}{Q:Exit->Act->World->Prop}{a:Act}{l:List Oper}{g:Type}(f:g->World)(n:Nat)(d:List (List Nat×Nat))(q:List Nat)(h0:∃c,w.drew=f c)(k:P.follows .mixedOrders=true)(j:DJ l.toArray n d q=true)(b:uq P l (fun e=>∃c,e=f c) (RL Q) (fun h e=>wpList P l.toArray (RL Q) (l.drop n) h e) d q a w.drew):(Code.region id l.toArray true).wp P Q a w:=
 Code.wp_mono (Q:=RL Q) (fun i _ _ b=>by cases i<;>first|exact b|exact b.elim) (xJ f n d q h0 k j (fun _ _ _ _ _ b=>b) b)
theorem MX(a:n<=6):(madeCells (Value.agg #[SS, ""]).cells (n*2)).toList=(List.replicate n Cg).flatMap ni:=by
 have:n=0\/n=1\/n=2\/n=3\/n=4\/n=5\/n=6:=Zm
 rcases this with rfl|rfl|rfl|rfl|rfl|rfl|rfl<;>(show _=_;kernel_rfl)
theorem JZ{t k: Nat}(o:Elem t d k){z:Value}(e:(prog.info? d).map (·.zero)=some (some z))(w:World){m:Array Oper}{rest:List Oper}{f:Oper}{a:Act}{Q:Exit->Act->World->Prop}(r:f.guard=none)(x y:Operand)(u:f.op=Op.makeSlice t x y)(base n:Nat) (B:a.eval x=.int .i64 n) (C:a.eval y=.int .i64 n) (s:n<=1000) (q:base<=w)(p:∀b,b.ownsRow base d k (w,n,n) n (madeCells z.cells (n*k)).toList->Ext w b->w.heap.size<b->wpList prog m Q rest (a.put f.dst (w,n,n)) b):wpList prog m Q (f::rest) a w:=by
 obtain⟨l,H,bytes,A,h,j,v,E,G,i,D⟩:=o;rw[h]at e;simp only[TN,TF]at e;rw[e]at j;cases j;refine wpList_make_full w r x y t u base d l z k A h e v .i64 .i64 n n n B C rfl rfl ?_ (by unfold maxLen;omega) q ?_
 . have:l.bytes*n<=4096*1000:=Vt Zm s;omega
 . intro b g c;refine p b g ⟨c.os,c.tape,c.output,c.size,fun k i F=>c.block k i Zl⟩ (g.lt w rfl).2
theorem NT.low{W d:World}{e: Nat}{v c: Value}{i:List nV}{cs:List (Value×Value)}(t:NT W b v c vs i cs)(f:Kp D W d)(g:∀a,b<=a->¬D a)(h:e<=b):NT d e v c vs i cs:=by
 obtain⟨o,p,q⟩:=t;have k:∀a,J5 W b v c vs a->J5 d e v c vs a:=fun a ⟨q1,q2,q3⟩=>⟨TD h q1,Tp q2 f.size,q3⟩;have j:Same (J5 W b v c vs) W d:=Kp.same f fun a u=>g a u.1;refine⟨o,lL (iY p f (fun s _ y=>g s y)) h,fun z n r w x=>?_⟩;obtain⟨l,m⟩:=q z n r w x;exact⟨l.keep kU.stays j k,m.keep kU.stays j k⟩
def r9(n:ByteArray)(m:M.Method)(q r:Nat):List Tag:=(kZ n::(m.args.take q).map lN)++List.replicate r Cg
theorem Kj{n:ByteArray}(a:q<=m.args.length):(r9 n m q r).length=q+1+r:=by simp[r9];omega
theorem Kk{n:ByteArray}{k:Kind}(a:m.args[q]?=some k):(r9 n m q (r+1)).set (q+1) (lN k)=r9 n m (q+1) r:=by
 have d:=(Tv.1 a).1;have b:(kZ n::(m.args.take q).map lN).length=q+1:=by simp;omega
 have c:m.args.take (q+1)=m.args.take q++[k]:=by rw[Tm,a];rfl
 unfold r9;rw[List.set_append_right _ _ Zm,b,Nat.sub_self,c,List.replicate_succ];simp
theorem Ki{n:ByteArray}(b:q<=m.args.length):(r9 n m q (r+1))[q+1]?=some Cg:=by
 have a:(kZ n::(m.args.take q).map lN).length=q+1:=by simp;omega
 unfold r9;rw[TR Zm,a,Nat.sub_self];rfl
theorem KH(az:ja w l p)(x:p8)(hx:jM p x=true):Calls prog 114 #[.pointer (some ⟨l.L,0,none⟩),.agg #[.int .i64 x.of.keeper,.string x.of.name,.int .i64 x.at_]] w fun b w'=>Kp (·=l.D) w w'/\ja w' l p/\∃K vl vs,b=.returned (.tuple #[K,.int .i64 (M.look p x).2])/\Kn w' w.heap.size K vl vs (M.look p x).1:=by
 obtain⟨⟨j,h⟩,y⟩:=x;have au:=uC (oC az.ok hx).1;obtain⟨a,hm⟩:∃a,M.method p ⟨⟨j,h⟩,y⟩=a:=⟨_,rfl⟩;have bL:∀(fn:Fn) (first bA:Array Value) (w:World),(Instr.makeFunc fn first bA).run prog w=.ok (.func fn first bA) w:=fun _ _ _ _=>rfl;obtain⟨w0,Z⟩:∃w0,w0=((w.alloc (.cells #[.int .i64 j,.string h,.int .i64 y] 66)).alloc (.cells #[.slice none 0 0] 142)).alloc (.cells #[.int .i64 0] 3):=⟨_,rfl⟩;have bE:Ext w w0:=by rw[Z];exact kx
 have b3:h9 w0 w.heap.size 66 #[.int .i64 j,.string h,.int .i64 y]:=by rw[Z];exact(h9.new _ _ _).ext kx
 have b4:h9 w0 (w.heap.size+1) 142 #[.slice none 0 0]:=by rw[Z];exact(h9.newAt (W:=w.alloc (.cells #[.int .i64 j,.string h,.int .i64 y] 66)) (g:=w.heap.size+1) _ _ Zl).ext kx
 have b5:h9 w0 (w.heap.size+2) 3 #[.int .i64 0]:=by rw[Z];exact h9.newAt _ _ Zl
 have⟨cK,bg,aK,bT,aZ,aI,HX,HM,dQ⟩:=Bz Z bE b3 b4 b5 az hx hm bL;have di:=az.lt;clear Z bE b3 b4 b5 az hx hm bL;go_enter_defers func114,ntmps114;go_wp2_with fail;rw[<-cK.o];refine(lV _ _ _ (aI.o.ext bg.o) ⟨⟨j,h⟩,y⟩ HX.o).mono ?_;rintro b w1 ⟨⟨cs,aF,rfl⟩,bF⟩;rw[HM.o]at aF au;obtain⟨dM,rfl⟩:=pK aF;obtain⟨E,B,F,H,G,I⟩:=dM;obtain⟨n,hn⟩:∃n:Nat,a.locals=n:=⟨a.locals.toNat,by have:=au.args;omega⟩;obtain⟨d,aa⟩:∃d,d=w1.alloc (.cells (nK a ⟨E,B,F,H,G,I⟩).toArray 113):=⟨_,rfl⟩;have aN:Ext w1 d:=by rw[aa];exact kx
 have b6:h9 d w1.heap.size 113 (nK a ⟨E,B,F,H,G,I⟩).toArray:=by rw[aa];exact h9.new _ _ _
 have ai:=bF.trans aN;obtain⟨bz,f,bN,m⟩:=mJ d;have dA:=fun z=>((aK.o.ext ai).ext (m.jv z)).c 0 (.int .i64 j) rfl;obtain⟨-,dC,dD,dE,dF,-⟩:=h9.qW fun z=>(b6.ext (m.jv z));have dG:=fun z=>(b6.ext (m.jv z)).c 4 (.int .i64 n) (by rw[<-hn];rfl);obtain⟨-,-,-,-,-,-,dH,dI,dJ,-⟩:=h9.qW fun z=>(b6.ext (m.jv z));have⟨v,dR,bn,aM,cu,bf,af,X⟩:=IQ m aa (bg.o.trans ai) ai (jK.ext jb.stays aN aF) b6 au hn;have dw:n<=6:=by have:=au.locals;omega
 have ek:w.heap.size+3<=d.heap.size:=by have:=ai.size;have:=aZ.o.lt;omega
 clear bF aN b6 ai m aF au;simp only[nK,hn]at aa;have cO:=Zy aa;clear aa hn;simp only[nK,X.o];go_wp2_with fail;rw[<-cO.o];refine yU f 10 [([0,1,2,3,4,5,6],7),([8],9)] [] (v.o.o _ ?_) Zo Zo ?_
 . exact jg
 refine mP ?_;intro L A;refine JZ wC (z:=.agg #[.int .i64 0,.string ⟨#[]⟩]) Zo _ rfl (.tmp 19) (.tmp 19) rfl w.heap.size n rfl rfl Zm Zr ?_;intro C aU bG eF;change L _ _;simp only[Act.put,TY,TQ,TK];rw[MX dw]at aU;have aO:=((Kp.refl _ d).drew:Ext d _).trans bG;refine kk v A aO ?_;clear A L;have⟨ax,cz⟩:=jc aO aU;clear bG aO aU;refine mP ?_;intro L A;go_wp2_with fail;obtain⟨D,av⟩:∃D,D=C.alloc (.cells #[.pointer (some ⟨l.L,0,none⟩),.int .i64 j,.string a.name,.slice E a.args.length B,.int .i64 a.ret.kind,.string a.ret.name,.int .i64 n,.int .i64 a.stack,.slice F a.code.length H,.slice G a.maps.length I,.int .i64 0,.slice (some ⟨d.heap.size,0,none⟩) n n,.slice none 0 0] 235):=⟨_,rfl⟩;have T:Ext C D:=by rw[av];exact kx
 have bI:h9 D C.heap.size 235 (KG l.L j a ⟨E,B,F,H,G,I⟩ 0 (.slice (some ⟨d.heap.size,0,none⟩) n n) (.slice none 0 0)):=by
  unfold KG;rw[av,X.o];exact h9.new _ _ _
 refine kk v A (ax.o.alloc _) ?_;clear A L;rw[<-av];have aA:=ax.o.trans T;have bB:jo D l p w.heap.size C.heap.size j a ⟨E,B,F,H,G,I⟩ 0 ⟨List.replicate n Cg,[]⟩ (.slice (some ⟨d.heap.size,0,none⟩) n n) (.slice none 0 0):=
  ⟨aI.o.ext (bn.o.trans aA),di,(by have:=ax.o.size;omega),jK.ext jb.stays aA cu.o,af.o,bI,
   (by rw[V3];exact iY cz.o T (fun _ _ _ x=>x)),U8 _ _ _ _,(fun g _ b=>by cases b),Zm,(by have:=af.o.PK;simp;omega),(by rw[V3];exact X.o.symm)⟩
 have⟨aX,ae,dS⟩:=jr bB aA av;clear av T bI aA bB v dA dC dD dE dF dG dH dI dJ;refine kG ?_;go_wp2_with fail;simp only[RL];go_wp2_with fail;obtain⟨c,rfl⟩:∃c,n=c+1:=⟨n - 1,by have:=af.o.args;have:=X.o;omega⟩;obtain⟨bz,f,bN,m⟩:=mJ D;have aW:=fun z=>(aX.o.ext (m.jv z)).blk.c 11 (.slice (some ⟨d.heap.size,0,none⟩) (c+1) (c+1)) rfl;have dB:=fun z=>(((aK.o.ext aM.o).ext ae.o).ext (m.jv z)).c 1 (.string h) rfl;have v:=Zy m;clear m;refine yU f 8 [([0,1,2,3,4,5,6],7)] [] (v.o.o _ ?_) Zo Zo ?_
 . exact jg
 refine mP ?_;intro L A;go_wp2_with fail;refine(zk _ h).mono ?_;rintro b w5 ⟨rfl,aj⟩;have Q:=Zy (((Kp.refl _ D).drew:Ext D _).trans aj);clear aj;go_wp2_with fail;refine kk v A Q.o ?_;clear A L;have R:=aX.o.ext Q.o;have U:=R.loc;obtain⟨dh,J⟩:=oJ U rfl;obtain⟨x0,x1⟩:=(lG (enc:=ni) (k:=2) (fun _=>rfl) (l:=List.replicate (c+1) Cg) (by simpa using U) (i:=0) (x:=Cg) Zl).two;rw[UX]at x0 x1;have f0:=J.frozen 0;have f1:=J.frozen 1;have bQ:=J.lt;have bR:=Zy R;clear R U J v aW dB;refine kG ?_;go_wp2_with fail;simp only[RL];have ag:jo w5 l p w.heap.size C.heap.size j a ⟨E,B,F,H,G,I⟩ 0 ⟨List.replicate (c+1) Cg,[]⟩ (.slice (some ⟨d.heap.size,0,none⟩) (List.replicate (c+1) Cg).length (c+1)) (.slice none 0 0):=by
  rw[V3];exact bR.o
 obtain⟨ah,-⟩:=ag.yV 0 (kZ h);obtain⟨w6,aG⟩:∃w6,w6=(w5.setCell ⟨d.heap.size,0,none⟩ (.int .i64 (kZ h).kind)).setCell ⟨d.heap.size,1,none⟩ (.string (kZ h).name):=⟨_,rfl⟩;have aP:Kp (·=d.heap.size) D w6:=by
  rw[aG];exact(Q.o.any).trans (((Kp.refl (·=d.heap.size) w5).setCell (p:=⟨d.heap.size,0,none⟩) (fun _=>rfl) _).setCell (p:=⟨d.heap.size,1,none⟩) (fun _=>rfl) _)
 rw[<-aG];replace ah:jo w6 l p w.heap.size C.heap.size j a ⟨E,B,F,H,G,I⟩ 0 ⟨r9 h a 0 c,[]⟩ (.slice (some ⟨d.heap.size,0,none⟩) (c+1) (c+1)) (.slice none 0 0):=by
  rw[V3]at ah;rw[aG];exact ah
 have dV:a.args.length<=c:=by have:=af.o.args;have:=X.o;omega
 have dW:=af.o.Il;have y1:=((bf.o.ext ae.o).kp aP (by have:=bf.o.lt;omega)).c 1 (.slice E a.args.length B) rfl;have⟨bS,bX⟩:=jc ah aP;clear ag ah aP aG x0 x1 f0 f1 bQ;go_wp2;go_loopw [35] (fun i wr=>∃e:Nat,e<=a.args.length/\i=.int .i64 e/\jo wr l p w.heap.size C.heap.size j a ⟨E,B,F,H,G,I⟩ 0 ⟨r9 h a e (c - e),[]⟩ (.slice (some ⟨d.heap.size,0,none⟩) (c+1) (c+1)) (.slice none 0 0)/\Kp (·=d.heap.size) D wr) (fun i _=>a.args.length - (intOf i).toNat)
 case atStart=>exact⟨0,T9 _,rfl,bS.o,bX.o⟩
 case round =>
  obtain⟨e,hq,rfl,N,Y⟩:=hrel;by_cases dn:e<a.args.length
  . obtain⟨⟨kq,kn⟩,hy⟩:=nR a.args e dn;obtain⟨o,dz,cs,rfl,dU,rfl,-,bJ⟩:=(jb.args N.ml).get hy;obtain⟨g0,g1⟩:=bJ.two;have gz:=iV g0;obtain⟨r,hr⟩:∃r,c - e=r+1:=⟨c - e - 1,by omega⟩;rw[hr]at N;have dx:c - (e+1)=r:=by omega
    obtain⟨W4,bH,T,b9⟩:=nu wr #[.int .i64 kq,.string kn] 109;obtain⟨bz,f,bN,m⟩:=mJ W4;have aW:=fun z=>((N.ext T).ext (m.jv z)).blk.c 11 (.slice (some ⟨d.heap.size,0,none⟩) (c+1) (c+1)) rfl;obtain⟨-,dK,dL,-⟩:=h9.qW fun z=>(b9.ext (m.jv z));have⟨v,aJ,bZ,bq,df⟩:=qR m N Y T bH;have ed:(e:Int)<a.args.length:=by omega
    have eB:IntKind.i64.wrap ((e:Int)+1)=e+1:=Tg _ Zm;clear m N Y T bH b9 bJ;go_wp2_with fail;rw[<-df.o];refine yU f 8 [([0,1,2,3,4,5,6],7)] [] (v.o.o _ ?_) Zo Zo ?_
    . exact jg
    refine mP ?_;intro L A;go_wp2_with fail;refine(BV _ ⟨kq,kn⟩).mono ?_;rintro b w5 ⟨rfl,aj⟩;have Q:=Zy (((Kp.refl _ W4).drew:Ext W4 _).trans aj);clear aj;go_wp2_with fail;refine kk v A Q.o ?_;clear A L;have R:=aJ.o.ext (bq.o.trans Q.o);have U:=R.loc;have aC:=Kj (n:=h) (r:=r+1) hq;have aB:e+1+(r+1)=c+1:=by omega
    obtain⟨dh,J⟩:=oJ U rfl;obtain⟨x0,x1⟩:=(lG (enc:=ni) (k:=2) (fun _=>rfl) (l:=r9 h a e (r+1)) (by simpa [aC,aB]using U) (Ki hq)).two;have f0:=J.frozen ((e+1)*2);have f1:=J.frozen ((e+1)*2+1);have bQ:=J.lt;have dX:(e:Int)+1<c+1:=by omega
    have ag:jo w5 l p w.heap.size C.heap.size j a ⟨some ⟨o,dz,none⟩,B,F,H,G,I⟩ 0 ⟨r9 h a e (r+1),[]⟩ (.slice (some ⟨d.heap.size,0,none⟩) (r9 h a e (r+1)).length (c+1)) (.slice none 0 0):=by
     rw[aC,aB];exact R
    have cB:=Zy (ag.yV (e+1) (lN ⟨kq,kn⟩)).1;have⟨HL,HY⟩:=jc (aC.trans aB) hy;clear R ag U J v aW dK dL aC aB hy;refine kG ?_;go_wp2_with fail;simp only[RL];go_wp2_with fail;refine⟨⟨e+1,by omega,by simp,?_,?_⟩,by simp[intOf];omega⟩
    . rw[dx];have:=cB.o;rw[HL.o]at this;rw[<-Kk HY.o];exact this
    . refine bZ.o.trans ((bq.o.trans Q.o).any.trans ?_);exact qA
  . have bO:e=a.args.length:=by omega
    have bP:(⟨r9 h a e (c - e),[]⟩:nV)=vG ⟨⟨j,h⟩,y⟩ a:=by
     unfold r9 vG;rw[bO,TV,X.o];congr 3;simp
    rw[bP]at N;have aD:Zz (M.look p ⟨⟨j,h⟩,y⟩=match lu p j a a.code 0 true (vG ⟨⟨j,h⟩,y⟩ a) []with
     | .inl n=>([],n)
     | .inr l=>(l,0)):=Zy (by unfold M.look;rw[HM.o];rfl)
    have aR:=(bn.o.trans ae.o).own Y (fun o b=>by omega);have bC:=((bT.o.ext aM.o).ext ae.o).kp Y Zm;have bD:=((aZ.o.ext aM.o).ext ae.o).kp Y Zm;have⟨aJ,dP,aY,aL⟩:=kQ N aR bC bD;have dY:=aK.o.lt;have eu:=ax.o.size;have dZ:=aI.o.ord;have bK:∀o,w.heap.size<=o->o<w.heap.size+3->¬qN l C.heap.size (.slice (some ⟨d.heap.size,0,none⟩) (c+1) (c+1)) (.slice none 0 0) o:=fun o h1 h2=>by
     rintro(b|b|b|b)
     . omega
     . omega
     . have:d.heap.size=o:=by simpa [Value.ownBlock]using b
       omega
     . cases b
    have ay:=Zy bK;have bM:∀W,Kp (qN l C.heap.size (.slice (some ⟨d.heap.size,0,none⟩) (c+1) (c+1)) (.slice none 0 0)) wr W->Kp (·=l.D) w W:=fun W hW=>aR.any.mix hW (fun k hk b=>by
     rcases b with b|b|b|b
     . exact b
     . omega
     . have:d.heap.size=k:=by simpa [Value.ownBlock]using b
       omega
     . cases b)
    have bu:=Zy bM;clear bM;clear N Y aR bC bD bO bP bK;go_wp2_with fail;refine(Jb aJ.o).mono ?_;rintro b u ⟨P,aS,⟨n',ho,rfl⟩|⟨q,K,dN,dO,ho,rfl,dm⟩⟩
    . have S:=aY.o.kp P (ay.o _ Zm Zm);have O:=aL.o.kp P (ay.o _ Zm Zm);have ak:=bu.o _ P;refine leaves_cons (f:=151) (args:=#[.pointer (some ⟨w.heap.size+1,0,none⟩),.pointer (some ⟨w.heap.size+2,0,none⟩)]) Zl (by simp[go_sem]) ?_;refine(Ja u S O n' []).mono ?_;rintro b u' V ⟨rfl,rfl,aQ,h4,h5⟩;have c4:=h4.c 0 (.slice none 0 0) rfl;have c5:=h5.c 0 (.int .i64 n') rfl;have hF:Kp (·=l.D) w V/\ja V l p/\∃K vl vs,Ending.returned (.tuple #[.slice none 0 0,.int .i64 n'])=.returned (.tuple #[K,.int .i64 (M.look p ⟨⟨j,h⟩,y⟩).2])/\Kn V w.heap.size K vl vs (M.look p ⟨⟨j,h⟩,y⟩).1:=by
       refine⟨ak.own aQ (fun k b=>by omega),aS.kp aQ (fun o hb b=>by omega),.slice none 0 0,.slice none 0 0,.slice none 0 0,?_,?_⟩
       . rw[aD.o,ho]
       . rw[aD.o,ho];exact Kn.nil _ _ _ _
      have HF:=Zy hF;clear S O ak aQ h4 h5 hF P aS;have hF:=HF.o;simpa [Leaves,settle,results,results114,go_sem,c4,c5]using hF
    . obtain⟨ks,aT⟩:=dm;obtain⟨s,t,rfl⟩:=jL aT.2.1;have S:=aY.o.kp P (ay.o _ Zm Zm);have O:=aL.o.kp P (ay.o _ Zm Zm);have ak:=bu.o _ P;have c4:=S.c 0 (.slice none 0 0) rfl;have c5:=O.c 0 (.int .i64 0) rfl;have f4:=S.frozen 0;have f5:=O.frozen 0;have eG:=O.lt;have⟨bU,bV,bW,bY⟩:=kQ S O ak aT;clear S O ak aT P;go_wp2_with fail;refine leaves_cons (f:=151) (args:=#[.pointer (some ⟨w.heap.size+1,0,none⟩),.pointer (some ⟨w.heap.size+2,0,none⟩)]) Zl (by simp[go_sem]) ?_;refine(MR).mono ?_;rintro b u' V ⟨rfl,rfl,rfl⟩;have k1:Kp (·=w.heap.size+1) u (u.setCell ⟨w.heap.size+1,0,none⟩ (.slice s q.length t)):=qA;have k2:Kp (·=w.heap.size+2) (u.setCell ⟨w.heap.size+1,0,none⟩ (.slice s q.length t)) ((u.setCell ⟨w.heap.size+1,0,none⟩ (.slice s q.length t)).setCell ⟨w.heap.size+2,0,none⟩ (.int .i64 0)):=qA;have aH:Kp (fun o=>o=w.heap.size+1\/o=w.heap.size+2) u ((u.setCell ⟨w.heap.size+1,0,none⟩ (.slice s q.length t)).setCell ⟨w.heap.size+2,0,none⟩ (.int .i64 0)):=(k1.weak fun o _ b=>.inl b).trans (k2.weak fun o _ b=>.inr b);have h4:h9 ((u.setCell ⟨w.heap.size+1,0,none⟩ (.slice s q.length t)).setCell ⟨w.heap.size+2,0,none⟩ (.int .i64 0)) (w.heap.size+1) 142 #[.slice s q.length t]:=h9.kp (bU.o.jE 0 _) k2 Zm;have h5:h9 ((u.setCell ⟨w.heap.size+1,0,none⟩ (.slice s q.length t)).setCell ⟨w.heap.size+2,0,none⟩ (.int .i64 0)) (w.heap.size+2) 3 #[.int .i64 0]:=(bV.o.kp k1 Zm).jE 0 _;have eD:w.heap.size+3<=wr.heap.size:=by have:=aL.o.lt;omega
      have hF:Kp (·=l.D) w ((u.setCell ⟨w.heap.size+1,0,none⟩ (.slice s q.length t)).setCell ⟨w.heap.size+2,0,none⟩ (.int .i64 0))/\ja ((u.setCell ⟨w.heap.size+1,0,none⟩ (.slice s q.length t)).setCell ⟨w.heap.size+2,0,none⟩ (.int .i64 0)) l p/\
          ∃K vl vs,Ending.returned (.tuple #[.slice s q.length t,.int .i64 0])=.returned (.tuple #[K,.int .i64 (M.look p ⟨⟨j,h⟩,y⟩).2])/\Kn ((u.setCell ⟨w.heap.size+1,0,none⟩ (.slice s q.length t)).setCell ⟨w.heap.size+2,0,none⟩ (.int .i64 0)) w.heap.size K vl vs (M.look p ⟨⟨j,h⟩,y⟩).1:=by
       refine⟨bW.o.own aH (fun k b=>by omega),aS.kp aH (fun o hb b=>by omega),.slice s q.length t,dN,dO,?_,ks,?_⟩
       . rw[aD.o,ho]
       . rw[aD.o,ho];exact NT.low bY.o aH (fun o hb b=>by omega) Zm
      have d4:=h4.c 0 (.slice s q.length t) rfl;have d5:=h5.c 0 (.int .i64 0) rfl;obtain⟨V,aV⟩:∃V,V=(u.setCell ⟨w.heap.size+1,0,none⟩ (.slice s q.length t)).setCell ⟨w.heap.size+2,0,none⟩ (.int .i64 0):=⟨_,rfl⟩;rw[<-aV]at hF d4 d5;have⟨HF,cZ⟩:=jc hF aV;clear hF k1 k2 aH h4 h5 c4 c5 f4 f5 aV;show Leaves _ _ _ _ _ _ _
      rw[show w.heap.size+1+1=w.heap.size+2 from rfl,<-cZ.o];have hF:=HF.o;simpa [Leaves,settle,results,results114,go_sem,d4,d5]using hF
theorem Nq(w:World)(i A B e:TypeId)(g d n:Nat)(a:Addr)(h z k:Nat)(b:Array Value)(t:TypeId)(cs:List Value)(x:P.underlying i=some (.slice e)) (j:(P.info? e).map (·.size)=some k) (q:w.heap[g]?=some (.cells b t (0,0))) (u:cs.length=Nat.min h d*k)(v:∀m c,cs[m]?=some c->w.cell? (a.add m)=some c) (p:cs.length<=b.size) (o:∀c∈cs,c.oneCell'=true):(Builtin.copy_ #[i,A] B #[(g,d,n),.slice (some a) h z]).run P w=.ok (goInt (Nat.min h d)) (w.setRow g (cs++b.toList.drop cs.length).toArray):=by
 have s:=run_loadCells_list (P:=P) w a cs v;have l:=run_storeCells_at P g 0 t cs 0 b w q (by simpa using p) o;simp only[Tq,UT,Ti]at l;cases f:P.info? e with
 |none=>simp[f]at j
 |some y=>
  have r:y.size=k:=by simpa [f]using j
  simp[Builtin.copy_,Vr x,Builtin.lenOf,Builtin.firstCells,sizeOf,typeInfo,f,r,<-u,s,l]
theorem Nr(w:World)(g:Nat){cs:Array Value}(b:D g):Kp D w (w.setRow g cs):=
 ⟨rfl,rfl,rfl,by simp[World.setRow],fun d e c=>setRow_other w g d cs (fun a=>c (by subst a;exact b))⟩
theorem Ie{t k: Nat}(A:Elem t d k)(w:World){z:Array Oper}{rest:List Oper}{h:Oper}{a:Act}{Q:Exit->Act->World->Prop}(J:h.guard=none)(p s:Operand)
    (O:h.op=.call {callee:=.builtin .copy,args:=#[p,s],argTypes:=#[t,t]}) (base g n c m l:Nat) (xs f:List Value) (G:a.eval p=.slice (some ⟨g,0,none⟩) n c) (P:w.ownsRow base d k (.slice (some ⟨g,0,none⟩) n c) n xs)
    (i:Addr) (R:a.eval s=.slice (some i) m l) (H:Flat w k (.slice (some i) m l) m f) (x:m<=n)
    (E:∀o,o.ownsRow base d k (.slice (some ⟨g,0,none⟩) n c) n (f++xs.drop (m*k))->Kp (·=g) w o->wpList prog z Q rest (a.put h.dst (goInt m)) o):
    wpList prog z Q (h::rest) a w:=by
 obtain⟨ah,ai,bytes,T,K,hz,S,aa,ag,hk,hb⟩:=A;obtain⟨e,⟨X,Y,B,_,C⟩,D⟩:=H;cases B;obtain⟨L,V⟩:=P;rcases V with⟨j,_⟩|⟨g',Z,b,j,I,r,u,M,af,U⟩
 . cases j
 . cases j;have v:Nat.min m n=m:=Ue x;have N:m*k<=n*k:=VK _ x;have ae:n*k<=c*k:=VK _ u;have y:=Nq (P:=prog) w t t h.type d g n c i m l k b d f T (by rw[K];simp[S]) r (by rw[v,e]) (C i rfl) (by rw[e];omega) D;rw[v]at y;refine Wz J fun W F=>?_;unfold Oper.wp;simp[execOp,O,resolve,invoke,builtin,G,R,y,Result.andThen];refine F _ _ (E _ ⟨?_,.inr ⟨g,c,(f++b.toList.drop f.length).toArray,rfl,I,setRow_heap w g b _ d _ r,u,M,?_,?_⟩⟩ (Nr w g rfl))
   . rw[TL,Uj,e,L];omega
   . have q:b.toList.length=b.size:=Array.length_toList;simp only[UQ,TL,Uj,e,q];omega
   . have q:b.toList.length=b.size:=Array.length_toList;simp only;rw[<-U,List.take_append,e,Tu (by rw[e];exact N),List.drop_take]
theorem Cw(w:World)(l:iZ)(p:hZ)(f:ja w l p)(x:p8)(o:jM p x=true):Calls prog 75 #[some l.L,.agg #[x.of.keeper,x.of.name,x.at_]] w fun e j=>e=.returned (.bool (right p x))/\Kp (·=l.D) w j/\ja j l p:=by
 have c:Ext w (w.alloc (.cells #[x.of.keeper,x.of.name,x.at_] 66)):=kx;have⟨m,k⟩:=jc (f.ext c) c;clear f c;go_enter func75,ntmps75;go_wp2_with fail;refine(KH m x o).mono ?_;rintro e z ⟨g,h,s,v,y,rfl,n⟩;obtain⟨r,i⟩:=n;obtain⟨t,u,rfl⟩:=jL i.2.1;have d:=Zy (Tt (k.any.trans g) h);clear g h i;by_cases a:(M.look p x).2=0
 . have b:Zz (right p x=true):=Zy (by unfold right;rw[a];rfl);rw[a];clear a;go_wp2;go_ret;exact⟨hQ b.symm,d⟩
 . have b:Zz (right p x=false):=Zy (by unfold right;exact RN a);have q:=SI.2 a;clear a;go_wp2;go_ret;exact⟨hQ b.symm,d⟩
theorem Du{f:Nat->Bool}:(List.range (n+1)).all f=((List.range n).all f&&f n):=by
 rw[List.range_succ,V5];simp
theorem CW(u:ja w l p)(r:Ref):Calls prog 29 #[some l.L,.agg #[r.keeper,r.name]] w fun g N=>g=.returned (.bool (kV p r))/\Kp (·=l.D) w N/\ja N l p:=by
 obtain⟨b,c⟩:=r;obtain⟨w0,J,x,F⟩:=nu w #[b,c] 64;have ah:=u.Fj;have⟨HL,W,U,ag⟩:=kQ (u.ext x) x F J;clear u x F J;go_enter func29,ntmps29;go_wp2_with fail;rw[<-ag.o];refine(mM HL ⟨b,c⟩).mono ?_;rintro g w1 ⟨rfl,G,y⟩;have v:=U.kp y Zm;have⟨S,q⟩:=jc v G;have D:Zz (Kp (·=l.D) w w1):=Zy (W.any.trans y);obtain⟨Q,O,P,-⟩:=v.ca;clear v G y;cases h:jD p ⟨b,c⟩
 . have j:Zz (kV p ⟨b,c⟩=false):=Zy (by unfold kV;rw[h];rfl);clear h;go_wp2;go_ret;exact⟨hQ j.symm,D,q⟩
 obtain⟨d,C⟩:=M.kI (uJ h).2;have A:cls p ⟨b,c⟩=d:=by unfold cls;rw[C];rfl
 have j:Zz (kV p ⟨b,c⟩=(List.range d.methods.length).all fun e=>right p ⟨⟨b,c⟩,e⟩):=Zy (by unfold kV;rw[h,A];rfl);have X:Zz (∀a:Nat,a<d.methods.length->jM p ⟨⟨b,c⟩,a⟩=true):=Zy (fun a hq=>by unfold jM;rw[h,A];simp;omega);have V:=Zy C;clear h A C;go_wp2_with fail;refine(rQ _ _ q b c d V).mono ?_;rintro g w2 ⟨⟨cs,B,rfl⟩,k⟩;obtain⟨fa,fc,K,L,rfl⟩:=B.form;have aj:d.methods.length<=4294967296:=by
  obtain⟨_,_,he,_,hs⟩:=B;obtain⟨_,_,_,_,h4⟩:=hs.form;exact h4
 have ai:∀t,(Instr.field 38 (.agg #[d.name,d.je,.slice fa d.fields.length fc,.slice K d.methods.length L]) 3).run prog t=.ok (.slice K d.methods.length L) t:=(fun t=>by kernel_rfl);have⟨T,aa⟩:=jc (S.ext k) (q.ext k);have Y:Zz (Kp (·=l.D) w w2):=Zy (D.trans k.any);clear k B O P Q;go_wp2;go_loopw [15] (fun e wr=>∃a:Nat,a<=d.methods.length/\e=.int .i64 a/\h9 wr w 64 #[b,c]/\ja wr l p/\Kp (·=l.D) w wr/\Zz (((List.range a).all fun e=>right p ⟨⟨b,c⟩,e⟩)=true)) (fun e _=>d.methods.length - (intOf e).toNat)
 case atStart=>exact⟨0,T9 _,rfl,T,aa,Y,Zy rfl⟩
 case round =>
  obtain⟨a,hq,rfl,i,n,m,E⟩:=hrel;by_cases I:a<d.methods.length
  . have O:=i.c 0 b rfl;obtain⟨Q,-,P,-⟩:=i.ca;have⟨R,ae,Z⟩:=jr i n m;have ak:(a:Int)<d.methods.length:=Zm
    have au:IntKind.i64.wrap ((a:Int)+1)=a+1:=Tg _ Zm;clear i n m;go_wp2_with fail;refine(Cw _ _ _ ae ⟨⟨b,c⟩,a⟩ (X a I)).mono ?_;rintro g w3 ⟨rfl,z,H⟩;have f:=Zy (Tt (R.kp z Zm) (Tt H (Z.trans z)));clear z H;cases o:right p ⟨⟨b,c⟩,a⟩
    . have s:Zz (kV p ⟨b,c⟩=false):=Zy (by
       rw[j.o,VT];exact⟨a,UY.2 I,by rw[o];simp⟩)
      clear o;go_wp2;go_ret;exact⟨hQ s.symm,f.2.2,f.2.1⟩
    . have af:Zz (((List.range (a+1)).all fun e=>right p ⟨⟨b,c⟩,e⟩)=true):=Zy (by rw[Du,E.o,o];rfl);clear o;go_wp2_with fail;exact⟨⟨a+1,Zm,by simp,f.o.1,f.o.2.1,f.o.2.2,af⟩,by simp[intOf];omega⟩
  . have s:Zz (kV p ⟨b,c⟩=true):=Zy (by
     have g:a=d.methods.length:=Zm
     rw[j.o,<-g];exact E)
    have f:=Zy (Tt m n);clear i n m;go_wp2;go_ret;exact⟨hQ s.symm,f⟩
def qI(p:hZ)(k:Nat)(cs:List Class):List Ref:=(cs.map fun c=>(⟨k,c.name⟩:Ref)).filter fun r=>decide (0<(chain p r).length)
def l8(p:hZ)(n:Nat):List Ref:=(List.range n).flatMap fun k=>(((p[k]?).map fun q=>q.owns.map fun c=>(⟨k,c.name⟩:Ref)).getD []).filter fun r=>decide (0<(chain p r).length)
theorem Fp(p:hZ):l8 p p.length=classes p:=rfl
theorem yF{q:kC}(a:p[n]?=some q):l8 p (n+1)=l8 p n++qI p n q.owns:=by
 unfold l8 qI;rw[List.range_succ,TJ];simp[a]
theorem Ht{k: Nat}{cs:List Class}{c:Class}(a:cs[n]?=some c):qI p k (cs.take (n+1))=qI p k (cs.take n)++if 0<(chain p ⟨k,c.name⟩).length then [⟨k,c.name⟩]else []:=by
 unfold qI;rw[Tm,a];simp only[Option.toList,U0,List.filter_append,TH,Vm];split
 . rename_i a;simp[a]
 . rename_i a;simp[a]
theorem CG(p:hZ)(k:Nat)(cs:List Class):(qI p k cs).length<=cs.length:=by
 unfold qI;exact TD (List.length_filter_le _ _) Zl
theorem zR(a:jY p=true):∀n,n<=p.length->(l8 p n).length<=n*5
 |0,_=>by simp[l8]
 | n + 1, h => by
  obtain⟨b,c⟩:=nR p n Zm;rw[yF c,TL];have d:=zR a n Zm;have e:=CG p n b.owns;have f:b.owns.length<=5:=by
   unfold jY at a;simp only[S9,Tx]at a;have:=a.2 b (Sy c);unfold jC at this;simp only[S9,SF]at this;exact this.1.1.1
  omega
theorem Fs (m : ja w l p) :Calls prog 28 #[some l.L] w fun o L=>(∃j,o=.returned j/\SliceOf 2 z8 L (fun g=>w<=g) j (classes p))/\Ext w L:=by
 have aU:p.length<=3:=(zy m.ok).2;obtain⟨aP,aQ,hs,V,-⟩:=m.cells;have W:=V w Kp.rr;have dz:=iV W;have Q:Zz (∀K,K<=p.length->(l8 p K).length<=K*5):=Zy (zR m.ok);have⟨O,HS⟩:=jc m hs;clear m hs V;go_enter func28,ntmps28;go_wp2_with fail;clear W dz;go_loopw [14,3] (fun I j wr=>∃a:Nat,a<=p.length/\I=.int .i64 a/\Ext w wr/\wr.ownsRow w 64 2 j (l8 p a).length ((l8 p a).flatMap wW)) (fun I _ _=>p.length - (intOf I).toNat)
 case atStart=>exact⟨0,T9 _,rfl,Kp.rr,U8 _ _ _ _⟩
 case round=>
  obtain⟨a,hq,rfl,e,c⟩:=hrel;obtain⟨va,vc,rfl⟩:=jL c;by_cases aJ:a<p.length
  . obtain⟨⟨d,aG⟩,t⟩:=nR p a aJ;obtain⟨g,aO,cs,rfl,hI,⟨vo,vk,rfl,v,sk⟩,-,i⟩:=HS.get t;obtain⟨oa,oc,rfl,aM,aL⟩:=v.form;obtain⟨ka,kc,rfl,-,-⟩:=sk.form;simp only at v aM aL i;obtain⟨k,q⟩:=(i.ext e).two;have gz:=iV k;obtain⟨N,H⟩:=SH (wr.alloc (.cells #[.slice oa d.length oc,.slice ka aG.length kc] 32));have D:Ext wr N:=by rw[H];exact kx
    have⟨ah,ay,aC,ak,aD⟩:=qR (e.trans D) (iY (D:=fun _=>False) c D fun _ _ _ h=>h) v t H;have h5:=Q.o a hq;have ax:Zz (d.length<=5):=Zy (by
     have G:=O.ok;unfold jY at G;simp only[S9,Tx]at G;have:=G.2 _ (Sy t);unfold jC at this;simp only[S9,SF]at this;exact this.1.1.1)
    clear e c D H v sk i t;go_wp2_with fail;rw[<-aD.o];clear k q;obtain⟨wo,rfl⟩:∃wo:World,wo=wr:=⟨_,rfl⟩;go_loopw [22,3] (fun J j wr=>∃b:Nat,b<=d.length/\J=.int .i64 b/\Ext w wr/\wr.ownsRow w 64 2 j (l8 p a++qI p a (d.take b)).length ((l8 p a++qI p a (d.take b)).flatMap wW)) (fun J _ _=>d.length - (intOf J).toNat)
    case atStart=>exact⟨0,T9 _,rfl,ah,by simpa [qI]using ay.o⟩
    case round =>
     obtain⟨b,ht,rfl,e,c⟩:=hrel;obtain⟨va,vc,rfl⟩:=jL c;by_cases aK:b<d.length
     . obtain⟨f,F⟩:=nR d b aK;obtain⟨g,aO,cs,rfl,hI,Y,-,i⟩:=(aC.ext jB.stays e).get F;obtain⟨fa,fc,ma,mc,rfl⟩:=Y.form;obtain⟨k,q,g2,g3⟩:=i.four;have gz:=iV k;have aI:(l8 p a++qI p a (d.take b)).length<=1000:=by
        have C:=CG p a (d.take b);have h2:=ax.o;rw[TL];rw[Tf]at C;omega
       have S:=Zy (Ht (p:=p) (k:=a) F);obtain⟨B,r⟩:∃B,l8 p a++qI p a (d.take b)=B:=⟨_,rfl⟩;obtain⟨x,u⟩:=SH ((wr.alloc (.cells #[f.name,f.je,.slice fa f.fields.length fc,.slice ma f.methods.length mc] 38)).alloc (.cells #[a,f.name] 64));have E:Ext wr x:=by rw[u];exact kx
       have T:h9 x (wr+1) 64 #[a,f.name]:=by rw[u];exact h9.newAt _ _ Zl
       have R:=Zy r;rw[r]at c aI;simp only[r];have⟨P,az,ag,aF⟩:=kQ (e.trans E) (iY (D:=fun _=>False) c E fun _ _ _ h=>h) T u;have aW:=e.size;clear r e c E T u Y i F;go_wp2_with fail;rw[<-aF.o];clear k q g2 g3;refine(rP (O.ext P) ⟨a,f.name⟩).mono ?_;rintro o w9 ⟨⟨v9,rfl,ae⟩,n⟩;obtain⟨a9,c9,rfl,-,-⟩:=ae.form;have U:=ag.ext n;obtain⟨yz,y0,y1,-⟩:=U.ca;have⟨z,A⟩:=jc (P.trans n) (iY (D:=fun _=>False) az n fun _ _ _ h=>h);have aV:=n.size;clear ae n U;by_cases s:0<(chain p ⟨a,f.name⟩).length
       . have aH:(0:Int)<(chain p ⟨a,f.name⟩).length:=Zm
         have y:=Zy s;clear s;go_wp2_with (at_builtin;refine sO II _ rfl _ _ rfl w _ B.length _ rfl (iY (D:=fun _=>False) A (jh _) fun _ _ _ h=>h) w9 1 (wW ⟨a,f.name⟩) rfl rfl ?c1 ?c2 ?c3 ?c4 ?_)
         case c1=>exact hH.nC _ _ rfl
         case c2=>simp[wW,Value.oneCell']
         case c3=>omega
         case c4=>have:=z.size;simp;omega
         intro v' L Z X q aR aN aS aT;subst aN;have av:=Zy Z;have aj:=Zy X;clear Z X;go_wp2_with fail;refine⟨⟨b+1,Zm,by go_num,(z.o.alloc _).own aj.o (fun g o=>(A.o.lt g o).1),?_⟩,by simp[intOf];omega⟩;have:=av.o;rw[S.o,SV y.o,<-Te,R.o];simpa using this
       . have aH:((0:Int)<(chain p ⟨a,f.name⟩).length)=False:=Wv Zm;have y:=Zy s;clear s;go_wp2_with fail;refine⟨⟨b+1,Zm,by go_num,z.o,?_⟩,by simp[intOf];omega⟩;rw[S.o,SX y.o,List.append_nil,R.o];exact A
     . have af:b=d.length:=Zm
       have au:Zz (l8 p a++qI p a (d.take b)=l8 p (a+1)):=Zy (by rw[af,TV,yF ak.o]);rw[au.o]at c |-;have⟨aB,ai⟩:=jc c e;clear c e af;go_wp2_with fail;exact⟨⟨a+1,Zm,by go_num,ai.o,aB.o⟩,by simp[intOf];omega⟩
  . have aa:a=p.length:=Zm
    have HE:=Zy e;have aA:Zz (SliceOf 2 z8 wr (fun g=>w<=g) (.slice va (l8 p a).length vc) (classes p)):=Zy (by
     rw[<-Fp,<-aa];exact SliceOf.l5 wW c rfl rfl (fun _ _=>rfl) (fun _ _=>rfl) (fun g C h2=>C) (SK (Q.o a hq)))
    clear e c aa;go_wp2;go_ret;exact⟨⟨_,rfl,aA⟩,HE⟩
theorem Ew(w:World){I:Nat->Prop}{v:Value}(p:hZ)(q:SliceOf 2 iX w I v p)(hI:∀b,I b->b<w.heap.size):Calls prog 11 #[.agg #[v]] w fun f w'=>f=.returned (.bool (l9 p))/\Ext w w':=by
 obtain⟨K,L,rfl,hn,aj⟩:=q.form;obtain⟨m,t⟩:=SH (w.alloc (.cells #[.slice K p.length L] 25));have i:Ext w m:=by rw[t];exact kx
 have ax:=i.size;have Q:=BL m I (.slice K p.length L) p (q.ext iX.stays i) (fun b hb=>SK (hI b hb));have e:Zz (l9 p=(jY p&&(classes p).all (kV p))):=Zy rfl;have⟨F,V,Z⟩:=jr Q i t;clear i t Q q hI;go_enter func11,ntmps11;go_wp2_with fail;rw[<-Z.o];refine F.mono ?_;rintro f w2 ⟨n,af⟩;have C:=Zy (V.trans n);have ay:=n.size;clear n F;rcases af with⟨h,rfl⟩|⟨h,R,rfl,k,ak⟩
 . have g:Zz (l9 p=false):=Zy (by rw[e.o,h];rfl);clear h;go_wp2;go_ret;exact⟨hQ g.symm,C⟩
 replace e:Zz (l9 p=(classes p).all (kV p)):=Zy (by rw[e.o,h];rfl);have av:=k.ord;have ai:=k.Fj;have E:=Zy k;clear k h;go_wp2_with fail;refine(Fs E).mono ?_;rintro f S ⟨⟨v3,rfl,s⟩,j⟩;obtain⟨a3,c3,rfl,ah,ae⟩:=s.form;have⟨H,W,D⟩:=jr s (E.ext j) (C.trans j);have az:=j.size;obtain⟨c,a⟩:∃c,classes p=c:=⟨_,rfl⟩;rw[a]at H e ah ae;simp only[a];clear j s a;go_wp2;go_loopw [13] (fun x wr=>∃d:Nat,d<=c.length/\x=.int .i64 d/\LC R p S wr/\Zz ((c.take d).all (kV p)=true)) (fun x _=>c.length - (intOf x).toNat)
 case atStart=>exact⟨0,T9 _,rfl,LC.refl W,Zy Zl⟩
 case round=>
  obtain⟨d,hq,rfl,a,G⟩:=hrel;have T:=Zy a;have aA:=a.kp.size;by_cases ag:d<c.length
  . obtain⟨⟨y,z⟩,r⟩:=nR c d ag;obtain⟨b,aB,cs,rfl,hI,rfl,-,P⟩:=H.get r;have au:w2.heap.size<=b:=hI;obtain⟨g0,g1⟩:=(P.kp a.kp Zm).two;have gz:=iV g0;obtain⟨A,u⟩:=SH (wr.alloc (.cells #[y,z] 64));have o:Ext wr A:=by rw[u];exact kx
    have⟨X,U,J,aa⟩:=kQ (a.at_.ext o) (a.ext o) r u;clear o u r P a hI;go_wp2_with fail;rw[<-aa.o];refine(CW X ⟨y,z⟩).mono ?_;rintro f w6 ⟨rfl,N,O⟩;have B:Zz (LC R p S w6):=Zy (U.step O N);clear N O;cases l:kV p ⟨y,z⟩
    . have g:Zz (l9 p=false):=Zy (by rw[e.o];exact rJ J l);clear l;go_wp2;go_ret;exact⟨hQ g.symm,D.own B.kp (fun b f=>Zm)⟩
    . have Y:=Zy l;clear l;go_wp2_with fail;exact⟨⟨d+1,Zm,by go_num,B.o,Zy (all_succ G.o J.o Y.o)⟩,by simp[intOf];omega⟩
  . have g:Zz (l9 p=true):=Zy (by rw[e.o];exact qc G Zm);clear a;go_wp2;go_ret;exact⟨hQ g.symm,D.own T.kp (fun b f=>Zm)⟩
end Go.Proofs.YtenhnldnpdlniaaGreat
