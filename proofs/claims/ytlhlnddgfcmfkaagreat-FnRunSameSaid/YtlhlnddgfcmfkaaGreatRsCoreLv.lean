/- Walks. -/
import Derived.Test.YtlhlnddgfcmfkaaGreatRsCoreH
import Derived.Test.YtlhlnddgfcmfkaaGreatRsCoreLr
import Derived.Tactics2
import Derived.Defers
import Derived.Recover
import Derived.Laws.CopyOwn
set_option maxRecDepth 100000
set_option maxHeartbeats 4000000
set_option linter.all false
namespace Go.Proofs.YtlhlnddgfcmfkaaGreat
open Go Go.RowKit Tryz M
@[go_sem] theorem run_store_func {P:Program} {w:World} {a:Addr} {m:Mode} (f:Fn) (x y:Array Value):(store a (.func f x y) m).run P w=stored P w a (.func f x y) m:=run_store P w a _ m rfl
@[go_sem] theorem run_store_nilFunc {P:Program} {w:World} {a:Addr} {m:Mode}:(store a .nilFunc m).run P w=stored P w a .nilFunc m:=run_store P w a _ m rfl
def Ox(n:Nat):Nat:=
 if n=1 then 198 else if n=2 then 199 else if n=3 then 200 else if n=4 then 201 else if n=5 then 202 else if n=6 then 203 else
 if n=7 then 204 else if n=8 then 205 else if n=9 then 206 else if n=10 then 207 else if n=11 then 208 else if n=12 then 209 else
 if n=13 then 210 else if n=14 then 211 else 212
def Dk:Array Value:=#[.nilFunc,.func (.func 198) #[] #[],.func (.func 199) #[] #[],.func (.func 200) #[] #[],.func (.func 201) #[] #[],.func (.func 202) #[] #[],.func (.func 203) #[] #[],
 .func (.func 204) #[] #[],.func (.func 205) #[] #[],.func (.func 206) #[] #[],.func (.func 207) #[] #[],.func (.func 208) #[] #[],.func (.func 209) #[] #[],.func (.func 210) #[] #[],
 .func (.func 211) #[] #[],.func (.func 212) #[] #[]]
theorem KA{n:Nat}(a:1<=n)(b:n<=15):Dk[n]?=some (.func (.func (Ox n)) #[] #[]):=by
 have:n=1\/n=2\/n=3\/n=4\/n=5\/n=6\/n=7\/n=8\/n=9\/n=10\/n=11\/n=12\/n=13\/n=14\/n=15:=Zm
 rcases this with rfl|rfl|rfl|rfl|rfl|rfl|rfl|rfl|rfl|rfl|rfl|rfl|rfl|rfl|rfl<;>rfl
theorem jE{f:Nat}{fn:Func}{c:Code}(b:prog.funcs[f]?=some fn)(a:fn.body=some c)(d:(fn.name== "runtime.NumGoroutine")=false)(args:Array Value)(w:World):(callFunc f args).run prog w=.ok (.enter f args) w:=by
 have e:¬fn.name= "runtime.NumGoroutine" :=by simpa using d
 simp[callFunc,go_sem,b,a,e]
theorem ML{n:Nat}(a:1<=n)(b:n<=15)(args:Array Value)(w:World):(callFunc (Ox n) args).run prog w=.ok (.enter (Ox n) args) w:=by
 have:n=1\/n=2\/n=3\/n=4\/n=5\/n=6\/n=7\/n=8\/n=9\/n=10\/n=11\/n=12\/n=13\/n=14\/n=15:=Zm
 rcases this with rfl|rfl|rfl|rfl|rfl|rfl|rfl|rfl|rfl|rfl|rfl|rfl|rfl|rfl|rfl
 . exact jE func198 rfl Zo args w
 . exact jE func199 rfl Zo args w
 . exact jE func200 rfl Zo args w
 . exact jE func201 rfl Zo args w
 . exact jE func202 rfl Zo args w
 . exact jE func203 rfl Zo args w
 . exact jE func204 rfl Zo args w
 . exact jE func205 rfl Zo args w
 . exact jE func206 rfl Zo args w
 . exact jE func207 rfl Zo args w
 . exact jE func208 rfl Zo args w
 . exact jE func209 rfl Zo args w
 . exact jE func210 rfl Zo args w
 . exact jE func211 rfl Zo args w
 . exact jE func212 rfl Zo args w
theorem MR{w:World}{l:jh}{p:hZ}{d c:Nat}{k:Int}{m:M.Method}{t:tX}{e:Int}{s:oM}{g vs:Value}(b:jD w l p d c k m t e s g vs)(i:Ins)(n:Nat)(a:i.op=n)(h:nO m i=true):Calls prog (Ox n) #[some c,.agg #[i.op,i.a,i.name,i.member]] w (jK w l p d c k m t e g vs (jM p k m i s)):=by
 obtain⟨_,f,_,_,j,_⟩:=qR h;have:n=1\/n=2\/n=3\/n=4\/n=5\/n=6\/n=7\/n=8\/n=9\/n=10\/n=11\/n=12\/n=13\/n=14\/n=15:=Zm
 rcases this with rfl|rfl|rfl|rfl|rfl|rfl|rfl|rfl|rfl|rfl|rfl|rfl|rfl|rfl|rfl
 . exact MU b i a
 . exact M0 b i a (f (.inl a))
 . exact OA b i a (f (.inr a))
 . exact MN b i a
 . exact KG b i a
 . exact MS b i a
 . exact MQ b i a
 . exact MZ b i a
 . exact KC b i a
 . exact MX b i a
 . exact KH b i a
 . exact Jb b i a
 . exact Oz b i a
 . exact MV b i a
 . exact KD b i a
theorem jD.setAt{w:World}{l:jh}{p:hZ}{g b:Nat}{k:Int}{m:M.Method}{t:tX}{i:Int}{s:oM}{f vs:Value}(a:jD w l p g b k m t i s f vs)(n:Int)(q:0<=n/\n<=100):jD (w.setCell (b,10) n) l p g b k m t n s f vs/\Kp (qj l b f vs) w (w.setCell (b,10) n):=by
 have d:Kp (·=b) w (w.setCell (b,10) n):=(Kp.refl (·=b) w).setCell (p:=⟨b,10,none⟩) (fun _=>rfl) _;have r:=a.hB;have u:=a.hk;have v:=a.ku.ord;exact⟨⟨a.ku.kp d (fun h o c=>Zm),a.hB,a.hk,jL.kp jd.stays d (fun h o c=>Zm) a.ml,a.mi,a.blk.jk 10 _,
  iZ a.loc d (fun j e _ c=>by subst c;exact a.Pg.1 e),iZ a.kI d (fun j e _ c=>by subst c;exact a.Pg.2 e),a.ne,q,a.Pk,a.M5⟩,d.weak fun h _ c=>.inr (.inl c)⟩
theorem qj.sub{l:jh}{f n b:Nat}{g vs h vs':Value}(d:¬qj l f g vs b)(e:jU n g vs h vs')(i:b<n):¬qj l f h vs' b:=by
 rintro(c|c|c|c)
 . exact d (.inl c)
 . exact d (.inr (.inl c))
 . rcases e b (.inl c)with a|a|a
   . exact d (.inr (.inr (.inl a)))
   . exact d (.inr (.inr (.inr a)))
   . omega
 . rcases e b (.inr c)with a|a|a
   . exact d (.inr (.inr (.inl a)))
   . exact d (.inr (.inr (.inr a)))
   . omega
theorem jd.code{w:World}{I:Nat->Prop}{m:M.Method}{t:tX}(b:jd w I m (mg m t)):SliceOf 4 uE w I (.slice t.a2 m.code.length t.c2) m.code:=by
 obtain⟨d,e,f,a,-,c,-⟩:=b;simp only[mg,RG,SQ,SG]at a;obtain⟨-,rfl,-⟩:=a;exact c
def QH(w:World)(l:jh)(p:hZ)(kb:Nat)(vl vs:Value)(o:Sum Int (List oM))(e:Ending)(w':World):Prop:=
 Kp (qj l kb vl vs) w w'/\jg w' l p/\((∃n,o=.inl n/\e=.panicked (zH n))\/∃fs v vl' vs',o=.inr fs/\e=.returned v/\Kn w' w.heap.size v vl' vs' fs)
theorem Hf {w: World} {l: jh} {p: hZ} {U g: Nat} {k: Int} {m: M.Method} {t: tX} {bu: Int} {s: oM} {y vs: Value} (j : jD w l p U g k m t bu s y vs) :Calls prog 191 #[some g] w (QH w l p g y vs (nE p k m m.code 0 true s [])):=by
 obtain⟨a1,c1,a2,c2,a3,c3⟩:=t;have aO:=j.blk.lt;have aV:=Zy j;obtain⟨w0,R⟩:=Ry (w.alloc (.cells Dk 321));have b3:hV w0 w 321 Dk:=by rw[R];exact hV.new _ _ _
 have aH:Ext w w0:=by rw[R];exact kx
 have h:=j.ext aH;have c8:=j.blk.c 8 (.slice a2 m.code.length c2) rfl;have eu:=j.mi.code;have⟨HA,cu,bZ,dR⟩:=jV h aH b3 R;unfold Dk at R;have HX:=Zy R;clear j h aH b3 R;go_enter func191,ntmps191;go_wp2_with fail;rw[<-HX.o];clear c8;go_loopw [4,5,15] (fun v dG aS wr=>∃(b:Nat) (I:Bool) (L:oM) (Y:Int) (D E:Value) (f:List oM),b<=m.code.length/\dG=.bool I/\aS=.int .i64 b/\jD wr l p U g k m ⟨a1,c1,a2,c2,a3,c3⟩ Y L D E/\jU (w+1) y vs D E/\
     Kp (qj l g y vs) w wr/\Kn wr w v D E f/\f.length=b/\hV wr w 321 Dk/\Zz (nE p k m m.code 0 true s []=nE p k m (m.code.drop b) b I L f)) (fun _ _ aS _=>m.code.length - (intOf aS).toNat)
 case atStart=>exact⟨0,true,s,bu,y,vs,[],R4 _,rfl,rfl,HA,jU.refl _ _ _,cu.any,Kn.nil _ _ _ _,rfl,bZ,Zy rfl⟩
 case round =>
  obtain⟨b,I,L,Y,D,E,f,hq,rfl,rfl,h,hO,hK,aj,bR,hB,af⟩:=hrel;have⟨bF,bg⟩:=je h bR;clear bR;have eX:(w:Nat)<wr:=hB.lt;have dZ:=h.blk.lt;have aa:(w:Nat)<w+1:=Nat.lt_succ_self _;by_cases dK:b<m.code.length
  . obtain⟨⟨op,ia,nm,ae⟩,hi⟩:=nW m.code b dK;have ak:=h.mi.ins _ (R3 hi);obtain⟨c,rfl⟩:∃c:Nat,op=c:=⟨op.toNat,by have:=(qR ak).2.2.2.2.1;simp only at this;omega⟩;have au:1<=c/\c<=15:=by have:=(qR ak).2.2.2.2.1;simp only at this;omega
    obtain⟨Z,aU,cs,ea,dW,rfl,-,bP⟩:=(jd.code h.ml).get hi;cases ea;obtain⟨g0,g1,g2,g3⟩:=bP.four;have gz:=iY g0;have X:Zz (nE p k m m.code 0 true s []=match si p k m I b L with
     |none=>.inl ((b:Int)+1)
     |some e=>match jM p k m ⟨c,ia,nm,ae⟩ e with
      |none=>.inl ((b:Int)+1)
      |some N=>nE p k m (m.code.drop (b+1)) (b+1) (decide ((c:Int)≠10)&&decide ((c:Int)≠13)) N (f++[e])):=Zy (by rw[af.o,oG hi];rfl)
    have eO:(b:Int)<m.code.length:=Zm
    obtain⟨bC,bK⟩:=h.setAt b Zm;have dD:=h.blk.c 10 Y rfl;have dF:=h.blk.frozen 10;have eF:¬wr=g:=Zm
    have eG:¬g=wr:=Zm
    obtain⟨w5,av⟩:=Ry ((wr.setCell (g,10) b).alloc (.cells #[c,ia,nm,ae] 149));have aI:Ext (wr.setCell (g,10) b) w5:=by rw[av];exact kx
    have b7:hV w5 wr 149 #[c,ia,nm,ae]:=by rw[av];exact hV.newAt _ _ Zl
    have bU:¬qj l g D E wr.heap.size:=h.oZ;have bW:¬qj l g y vs w.heap.size:=aV.oZ;have⟨dx,B7,z,V,cZ,cK,HB,HK,A⟩:=vL av b7 (bK.trans aI.any) (bC.ext aI) aj ak hB hK hO;have⟨aA,W⟩:=je bU bW;clear h hi ak bP av aI b7 bC bK aj hB hK hO af bU bW;go_wp2_with fail;rw[<-dx.o];refine(KF V I).mono ?_;rintro a w6 ⟨K,dI,⟨C,rfl⟩|⟨e,C,rfl,eY,eZ,n,aN⟩⟩
    . refine⟨rfl,(HK.look z (A.le (SB _))).look K (A.le (SB _)),dI,.inl ⟨_,?_,rfl⟩⟩;rw[X.o,C]
    have df:=(Kn.kp (Kn.kp cZ bF z (jU.refl _ _ _) aO) V K aN aO);obtain⟨cs,Q⟩:=df;obtain⟨la,lc,rfl⟩:=jB n.loc;obtain⟨sa,sc,rfl⟩:=jB n.kI;obtain⟨S,T,rfl⟩:=jB Q.2.1;replace X:Zz (nE p k m m.code 0 true s []=match jM p k m ⟨c,ia,nm,ae⟩ e with
        |none=>.inl ((b:Int)+1)
        |some N=>nE p k m (m.code.drop (b+1)) (b+1) (decide ((c:Int)≠10)&&decide ((c:Int)≠13)) N (f++[e])):=Zy (by rw[X.o,C])
    have aR:¬(Value.slice S f.length T).ownBlock=some g:=fun a=>by
     obtain⟨ai,hb⟩:=oh Q.2.1 a;exact absurd (hV.inj hb n.blk) Zn
    have dN:¬(Value.slice S f.length T).ownBlock=some wr.heap.size:=fun a=>by
     obtain⟨ai,hb⟩:=oh Q.2.1 a;exact absurd (hV.inj hb (B7.o.kp K aA.o)) Zn
    have dO:¬(Value.slice S f.length T).ownBlock=some w.heap.size:=fun a=>by
     obtain⟨ai,hb⟩:=oh Q.2.1 a;exact absurd (hV.inj hb ((HB.o.kp z.o (qj.sub W.o A.o aa)).kp K (qj.sub W.o A.o aa))) Zn
    obtain⟨dz,dE,dL,B⟩:=rA.ex (fun W'=>Kp (fun Z=>(Value.slice S f.length T).ownBlock=some Z) w6 W') _ Kp.rr;have dP:=fun O=>(n.blk.kp (B.jm O) aR).c 11 (.slice la e.locals.length lc) rfl;have dQ:=fun O=>(n.blk.kp (B.jm O) aR).c 12 (.slice sa e.stack.length sc) rfl;have ed:=n.blk.lt;have⟨u,r,H,az,bq⟩:=mr B n Q K aN;have ek:e.locals.length<=6:=Z4 n.M5 n.mi.locals
    have eP:e.stack.length<=5:=Z4 n.Pk n.mi.stack
    have dY:(w:Nat)+1<=(w6:Nat):=Z4 K.size z.size
    clear n Q K aN B C;go_wp2_with fail;refine kD u 14 [([0,1,2,3,4,6,7,8,9],5),([],10),([11],12),([],13)] [] ?_ ?_
    . exact jf
    refine lS ?_;intro x i;go_wp2_with fail;refine(qO (pX (r.ext jf).loc (oH tO _)) Zm).mono ?_;rintro a w7 ⟨⟨c1,rfl,aP⟩,bJ⟩;obtain⟨aB,aC,rfl⟩:=jB aP;have bI:=((Kp.refl _ w6).drew:Ext w6 _).trans bJ;have⟨ag,dm⟩:=je bI aP;clear aP bJ bI;go_wp2_with fail;refine kk u i ag.any ?_;clear i x;refine lF rfl fun x i=>?_;go_wp2_with fail;refine(qO (pX (r.ext ag).kI (oH tO _)) Zm).mono ?_;rintro a w8 ⟨⟨dS,rfl,aQ⟩,aJ⟩;obtain⟨aD,aF,rfl⟩:=jB aQ;have⟨P,cz,dn⟩:=jy (ag.trans aJ) aJ aQ;clear aQ aJ;go_wp2_with fail;refine kk u i P.any ?_;clear i x;refine lS ?_;intro x i;go_wp2_with fail;refine kk u i (P.alloc _).any ?_;clear i x;refine lF rfl fun x i=>?_;refine jo Md rfl (.tmp 27) (.tmp 39) rfl w (.slice S f.length T) f.length _ rfl (iZ (D:=fun _=>False) H.2.1 (P.alloc _) fun _ _ _ d=>d) w8 1 [.slice aB e.locals.length aC,.slice aD e.stack.length aF] rfl rfl (hH.Hn _ _ rfl) Zt (Z0 bg.o) (by simp;have:=P.size;omega) ?_;intro g9 c9 w9 bN aL bQ;change x _ _;have F:=(P.alloc _).any.trans aL;refine kk u i F ?_;clear i x;have bE:jD w9 l p U g k m ⟨a1,c1,some ⟨Z,aU,none⟩,c2,a3,c3⟩ b e (.slice la e.locals.length lc) (.slice sa e.stack.length sc):=by
     have eH:=r.ku.ord;have dV:=r.hB;have bT:=fun d a=>(H.2.1.lt d a).1;have dX:=aV.ku.lt;refine r.kp' F (r.ku.kp F (fun d hx a=>Z0 (bT d a))) aR (fun d hx a=>?_) (fun d hx a=>?_) (fun d hx a=>Z0 (bT d a))
     . obtain⟨ai,o⟩:=oh H.2.1 a;obtain⟨dA,q⟩:=oh r.loc hx;exact absurd (hV.inj o q) Zn
     . obtain⟨ai,o⟩:=oh H.2.1 a;obtain⟨dA,q⟩:=oh r.kI hx;exact absurd (hV.inj o q) Zn
    have bG:=(B7.kp az aA).kp F dN;have bH:=((HB.kp z (qj.sub W A aa)).kp az (qj.sub W A aa)).kp F dO
    have bS : Kn w9 w (g9, f.length + 1, c9) (.slice la e.locals.length lc) (.slice sa e.stack.length sc) (f ++ [e]) := by
     have hI:∀d,w6.heap.size<=d->d<(w8.alloc (.cells #[.slice aB e.locals.length aC,.slice aD e.stack.length aF] 324)).heap.size→
         Iz (w8.alloc (.cells #[.slice aB e.locals.length aC,.slice aD e.stack.length aF] 324)) w (.slice S f.length T) (.slice la e.locals.length lc) (.slice sa e.stack.length sc) d:=fun d o q=>
      ⟨Zm,q,fun a=>Z0 ((H.o.2.1.lt d a).2),fun a=>Z0 ((r.o.loc.lt d a).2),fun a=>Z0 ((r.o.kI.lt d a).2)⟩
     have eT:=ag.size;refine(LK.ext H (P.alloc _)).snoc ?_ ?_ bN aL (fun d a=>?_)
     . exact SliceOf.lJ (R:=kE) lY (iZ (D:=fun _=>False) dm (cz.alloc _) fun _ _ _ d=>d) rfl rfl (fun _ _=>rfl) (fun _ _=>rfl) (fun d o q=>hI d (by simpa using o) q) Zm
     . exact SliceOf.lJ (R:=kE) lY (iZ (D:=fun _=>False) dn (kx:Ext w8 _) fun _ _ _ d=>d) rfl rfl (fun _ _=>rfl) (fun _ _=>rfl) (fun d o q=>hI d Zm q) Zm
     . have e':g9=d:=by simpa [Value.ownBlock]using a
       subst e';rcases bQ with j|j
       . exact .inl j
       . right;omega
    have⟨aW,aX,aY,dh⟩:=jV bE bG bH bS;have bf:=Zy (by
     have o:=(HK.look z (A.le (SB _))).look az (A.le (SB _));exact o.own F (fun d a=>(H.2.1.lt d a).1))
    have ah:=Zy (A.trans bq (Z0 z.size));have eU:=F.size;have bV:=qj.sub aA bq (by have:=B7.lt;exact this);have bX:=qj.sub W ah aa;clear bE bG bH bS bN aL bQ F u dP dQ;refine kC ?_;go_wp2_with fail;obtain⟨dz,dE,dL,B⟩:=rA.ex (fun W'=>Kp (qj l g (.slice la e.locals.length lc) (.slice sa e.stack.length sc)) w9 W') _ Kp.rr;obtain⟨-,r0,r1,r2,r3,-⟩:=hV.lL fun O=>(aX.kp (B.jm O) bV);have rf:=fun O=>(aY.kp (B.jm O) bX).c c _ (KA au.1 au.2);have eD:(c:Int)<16:=Zm
    have eB:(0:Int)<=c:=Zm
    have u:=Zy B;have dJ:=ML au.1 au.2;clear B;refine kD u 7 [([0,1,2,3,4,5],6)] [] ?_ ?_
    . exact jf
    refine lS ?_;intro x i;go_wp2_with fail;refine(MR (aW.ext jf) ⟨c,ia,nm,ae⟩ c rfl cK).mono ?_;rintro a G aK;replace aK:=jK.behind ((Kp.refl _ w9).drew) aK;rcases aK with⟨J,bM,⟨C,rfl⟩|⟨N,C,rfl,ax,ay,bB,aM⟩⟩
    . refine⟨rfl,bf.look J (ah.le (SB _)),bM,.inl ⟨_,?_,rfl⟩⟩;rw[X.o,C]
    have bO:=aX.kp J bV;have y0:=bO.c 0 c rfl;have cB:Zz (jD G l p U g k m ⟨a1,c1,some ⟨Z,aU,none⟩,c2,a3,c3⟩ b N ax ay/\jU (w+1) y vs ax ay/\Kp (qj l g y vs) w G/\
        Kn G w (g9,f.length+1,c9) ax ay (f++[e])/\hV G w 321 Dk/\
        nE p k m m.code 0 true s []=nE p k m (m.code.drop (b+1)) (b+1) (decide ((c:Int)≠10)&&decide ((c:Int)≠13)) N (f++[e])):=
     Zy ⟨bB,ah.trans aM Zm,bf.look J (ah.le (SB _)),Kn.kp dh aW J aM aO,aY.kp J bX,by rw[X.o,C]⟩
    have cO:=Zy J;clear bO J bM bB aM C r0 r1 r2 r3 rf dJ;go_wp2_with fail;refine kk u i cO ?_;clear i x;clear u;refine wG rfl ?_;have bz:∀aG:Bool,aG=(decide ((c:Int)≠10)&&decide ((c:Int)≠13))->∃(q':Nat) (bA:Bool) (L:oM) (Y:Int) (D E:Value) (aT:List oM),q'<=m.code.length/\Value.bool aG=.bool bA/\Value.int .i64 ((b:Int)+1)=.int .i64 q'/\
        jD G l p U g k m ⟨a1,c1,some ⟨Z,aU,none⟩,c2,a3,c3⟩ Y L D E/\jU (w+1) y vs D E/\
        Kp (qj l g y vs) w G/\Kn G w (g9,f.length+1,c9) D E aT/\aT.length=q'/\hV G w 321 Dk/\Zz (nE p k m m.code 0 true s []=nE p k m (m.code.drop q') q' bA L aT):=by
     rintro aG rfl;obtain⟨o,q,h3,h4,h5,h6⟩:=cB.o;exact⟨b+1,_,N,b,ax,ay,f++[e],Zm,rfl,by simp,o,q,h3,h4,by have:=bg.o;simp[this],h5,Zy h6⟩
    have aZ:=Zy bz;have eQ:IntKind.i64.wrap ((b:Int)+1)=b+1:=RQ _ Zm;clear bz;by_cases bY:c=10
    . subst bY;go_wp2_with fail;exact⟨aZ _ rfl,by simp[intOf];omega⟩
    . have dU:((c:Int) !=10)=true:=RS.2 Zm;obtain⟨dC,dH⟩:∃dB,((c:Int) !=13)=dB:=⟨_,rfl⟩;have hd:Zz (dC=(decide ((c:Int)≠10)&&decide ((c:Int)≠13))):=Zy (by
       rw[<-dH,R6 (by omega:(c:Int)≠10),Tf];by_cases j:(c:Int)=13
       . rw[j];rfl
       . rw[RS.2 j,R6 j])
      clear bY;go_wp2_with fail;exact⟨aZ _ hd,by simp[intOf];omega⟩
  . have dM:b=m.code.length:=Zm
    have HQ:Zz (nE p k m m.code 0 true s []=if I then .inl ((m.code.length:Int)+1)else .inr f):=Zy (by rw[af.o,Sa Zm,dM];rfl);have⟨di,bn⟩:=je aj hK;obtain⟨-,-,-,-,-,-,-,-,-,e8,-,dD,-⟩:=h.blk.ca;have dF:=h.blk.frozen 10;obtain⟨bD,bL⟩:=h.setAt m.code.length Zm;have⟨V,z,dw⟩:=jy bD bL hO;clear h hB hK aj hO bD bL af;cases I
    . go_wp2_with fail;refine DV (v:=u4) (by simp[results,results191,go_sem]) rfl ?_;exact⟨bn,bF.ku,.inr ⟨_,_,_,_,HQ,rfl,di⟩⟩
    . go_wp2_with fail;refine(mD g m.code.length (V.blk.c 10 _ rfl) Zm Zm).mono ?_;rintro a w3 ⟨rfl,rfl⟩;exact⟨rfl,bn.look z (dw.le (SB _)),V.ku,.inl ⟨_,HQ,rfl⟩⟩
theorem NK(x:Value)(w:World):(Instr.typeAssert (.iface 309 x) 20 309 true).run prog w=.ok (.tuple #[x,.bool true]) w:=by kernel_rfl
theorem He(w:World){a b:Nat}{l m:Value}(d:hV w a 288 #[l])(e:hV w b 3 #[m])(n:Int)(k:List PanicEntry):
    CallsD prog 190 #[some a,some b] (.panicking ({v:=.iface 309 (.agg #[n]),recovered:=false}::k)) w fun f u h=>
     f=.returned (.tuple #[])/\u=.panicking ({v:=.iface 309 (.agg #[n]),recovered:=true}::k)/\Kp (fun c=>c=a\/c=b) w h/\hV h a 288 #[()]/\hV h b 3 #[n]:=by
 have i:a≠b:=fun f=>by subst f;exact absurd (hV.inj d e) Zn
 have⟨o,p⟩:=je d e;refine callsD_of_wpS func190 rfl fun y x s=>?_;apply wpS_seq;apply wpS_region;simp[wpOpsS,go_sem,recoverD,s,ntmps190,Exit.thenS];refine wpS_of_wp ?_;simp only[SN,SL,SA,SH,RF,Sm,Rx,RU,RN];have B:=d.c 0 l rfl;have C:=e.c 0 m rfl;have E:=d.lt;have F:=e.lt;have z:=d.frozen 0;have A:=e.frozen 0;have D:=NK;clear d e;go_wp2_with fail;go_region_with (fail)
 all_goals
  have t:Kp (fun c=>c=a\/c=b) w (w.setCell a ()):=(Kp.refl _ w).setCell (p:=⟨a,0,none⟩) (fun _=>.inl rfl) _;have j:Kp (·=b) (w.setCell a ()) ((w.setCell a ()).setCell b n):=(Kp.refl (·=b) _).setCell (p:=⟨b,0,none⟩) (fun _=>rfl) _;have g:Ext ((w.setCell a ()).setCell b n) ((((w.setCell a ()).setCell b n).alloc (.cells #[n] 309)).drew):=(jr _).drew;have q:hV (w.setCell a ()) a 288 #[()]:=o.jk 0 _;have r:hV ((w.setCell a ()).setCell b n) b 3 #[n]:=
   (p.kp ((Kp.refl (·=a) w).setCell (p:=⟨a,0,none⟩) (fun _=>rfl) ()) (Ne.symm i)).jk 0 _
  exact⟨rfl,_,rfl,.tuple #[],by simp[results,results190,go_sem],rfl,rfl,(t.trans (j.weak fun c _ f=>.inr f)).trans g.any,(q.kp j i).ext g,r.ext g⟩
theorem KE{w:World}{a b:Nat}:CallsD prog 190 #[some a,some b] .returning w fun d f g=>d=.returned (.tuple #[])/\f=.returning/\g=w:=by
 refine callsD_of_wpS func190 rfl fun c h e=>?_;apply wpS_seq;apply wpS_region;simp[wpOpsS,go_sem,recoverD,e,ntmps190,Exit.thenS];refine wpS_of_wp ?_;simp only[SN,SL,SA,SH,RF,Sm,Rx,RU,RN];go_wp2_with fail;exact⟨rfl,_,by cases c;simp_all,.tuple #[],by simp[results,results190,go_sem],rfl,rfl,rfl⟩
def QB(Q:Exit->Act->World->Prop):Exit->Act->World->Prop
 | .panic _,_,_=>False
 |e,a,w=>Q e a w
theorem xW{P:Program}{id:Nat}{Q:Exit->Act->World->Prop}{a:Act}{w:World}{l:List Oper}{g:Type}(f:g->World)(n:Nat)(d:List (List Nat×Nat))(q:List Nat)(h0:∃c,w.drew=f c)(k:P.follows .mixedOrders=true)(j:Da l.toArray n d q=true)(b:sQ P l (fun e=>∃c,e=f c) (QB Q) (fun h e=>wpList P l.toArray (QB Q) (l.drop n) h e) d q a w.drew):(Code.region id l.toArray true).wp P Q a w:=
 Code.wp_mono (Q:=QB Q) (fun i _ _ b=>by cases i<;>first|exact b|exact b.elim) (wK f n d q h0 k j (fun _ _ _ _ _ b=>b) b)
theorem KJ{n:Nat}(a:n<=6):(madeCells (Value.agg #[.int .i64 0, ""]).cells (n*2)).toList=(List.replicate n Er).flatMap lY:=by
 have:n=0\/n=1\/n=2\/n=3\/n=4\/n=5\/n=6:=Zm
 rcases this with rfl|rfl|rfl|rfl|rfl|rfl|rfl<;>(show _=_;kernel_rfl)
theorem Ir{t e k:Nat}(o:Elem t e k){z:Value}(d:(prog.info? e).map (·.zero)=some (some z))(w:World){m:Array Oper}{rest:List Oper}{f:Oper}{a:Act}{Q:Exit->Act->World->Prop}(r:f.guard=none)(x y:Operand)(u:f.op=Op.makeSlice t x y)(base n:Nat) (B:a.eval x=.int .i64 n) (C:a.eval y=.int .i64 n) (s:n<=1000) (q:base<=w)(p:∀b,b.ownsRow base e k (w,n,n) n (madeCells z.cells (n*k)).toList->Ext w b->w.heap.size<b->wpList prog m Q rest (a.put f.dst (w,n,n)) b):wpList prog m Q (f::rest) a w:=by
 obtain⟨l,H,bytes,A,h,j,v,E,G,i,D⟩:=o;rw[h]at d;simp only[Option.map_some,Tz]at d;rw[d]at j;cases j;refine wpList_make_full w r x y t u base e l z k A h d v .i64 .i64 n n n B C rfl rfl ?_ (by unfold maxLen;omega) q ?_
 . have:l.bytes*n<=4096*1000:=Nat.mul_le_mul Zm s;omega
 . intro b g c;refine p b g ⟨c.os,c.tape,c.output,c.size,fun k i F=>c.block k i Zl⟩ (g.lt w rfl).2
theorem LK.low{W d:World}{b e:Nat}{v c vs:Value}{i:List oM}{cs:List (Value×Value)}{D:Nat->Prop}(t:LK W b v c vs i cs)(f:Kp D W d)(g:∀a,b<=a->¬D a)(h:e<=b):LK d e v c vs i cs:=by
 obtain⟨o,p,q⟩:=t;have k:∀a,Iz W b v c vs a->Iz d e v c vs a:=fun a ⟨q1,q2,q3⟩=>⟨RP h q1,Nv q2 f.size,q3⟩;have j:Same (Iz W b v c vs) W d:=Kp.same f fun a u=>g a u.1;refine⟨o,lM (iZ p f (fun s _ y=>g s y)) h,fun z n r w x=>?_⟩;obtain⟨l,m⟩:=q z n r w x;exact⟨l.keep kE.stays j k,m.keep kE.stays j k⟩
def rH(n:ByteArray)(m:M.Method)(q r:Nat):List Tag:=(lH n::(m.args.take q).map l8)++List.replicate r Er
theorem IP{n:ByteArray}{m:M.Method}{q r:Nat}(a:q<=m.args.length):(rH n m q r).length=q+1+r:=by simp[rH];omega
theorem IQ{n:ByteArray}{m:M.Method}{q r:Nat}{k:Kind}(a:m.args[q]?=some k):(rH n m q (r+1)).set (q+1) (l8 k)=rH n m (q+1) r:=by
 have d:=(RZ.1 a).1;have b:(lH n::(m.args.take q).map l8).length=q+1:=by simp;omega
 have c:m.args.take (q+1)=m.args.take q++[k]:=by rw[RL,a];rfl
 unfold rH;rw[List.set_append_right _ _ Zm,b,Nat.sub_self,c,List.replicate_succ];simp
theorem IM{n:ByteArray}{m:M.Method}{q r:Nat}(b:q<=m.args.length):(rH n m q (r+1))[q+1]?=some Er:=by
 have a:(lH n::(m.args.take q).map l8).length=q+1:=by simp;omega
 unfold rH;rw[Sv Zm,a,Nat.sub_self];rfl
theorem Ja{w:World}{l:jh}{p:hZ}(az:jg w l p)(x:rE)(hx:ky p x=true):Calls prog 174 #[.pointer (some ⟨l.L,0,none⟩),.agg #[.int .i64 x.of.keeper,.string x.of.name,.int .i64 x.at_]] w fun b w'=>Kp (·=l.D) w w'/\jg w' l p/\∃K vl vs,b=.returned (.tuple #[K,.int .i64 (M.look p x).2])/\Kn w' w.heap.size K vl vs (M.look p x).1:=by
 obtain⟨⟨j,h⟩,y⟩:=x;have au:=tu (nD az.ok hx).1;obtain⟨a,hm⟩:∃a,M.method p ⟨⟨j,h⟩,y⟩=a:=⟨_,rfl⟩;have bL:∀(fn:Fn) (first bA:Array Value) (w:World),(Instr.makeFunc fn first bA).run prog w=.ok (.func fn first bA) w:=fun _ _ _ _=>rfl;obtain⟨w0,Z⟩:∃w0,w0=((w.alloc (.cells #[.int .i64 j,.string h,.int .i64 y] 65)).alloc (.cells #[.slice none 0 0] 288)).alloc (.cells #[.int .i64 0] 3):=⟨_,rfl⟩;have bE:Ext w w0:=by rw[Z];exact kx
 have b3:hV w0 w.heap.size 65 #[.int .i64 j,.string h,.int .i64 y]:=by rw[Z];exact(hV.new _ _ _).ext kx
 have b4:hV w0 (w.heap.size+1) 288 #[.slice none 0 0]:=by rw[Z];exact(hV.newAt (W:=w.alloc (.cells #[.int .i64 j,.string h,.int .i64 y] 65)) (g:=w.heap.size+1) _ _ Zl).ext kx
 have b5:hV w0 (w.heap.size+2) 3 #[.int .i64 0]:=by rw[Z];exact hV.newAt _ _ Zl
 have⟨cK,bg,aK,bT,aZ,aI,HX,HM,dQ⟩:=vL Z bE b3 b4 b5 az hx hm bL;have di:=az.lt;clear Z bE b3 b4 b5 az hx hm bL;go_enter_defers func174,ntmps174;go_wp2_with fail;rw[<-cK.o];refine(lq _ _ _ (aI.o.ext bg.o) ⟨⟨j,h⟩,y⟩ HX.o).mono ?_;rintro b w1 ⟨⟨cs,aF,rfl⟩,bF⟩;rw[HM.o]at aF au;obtain⟨dM,rfl⟩:=nI aF;obtain⟨E,B,F,H,G,I⟩:=dM;obtain⟨n,hn⟩:∃n:Nat,a.locals=n:=⟨a.locals.toNat,by have:=au.args;omega⟩;obtain⟨c,aa⟩:∃c,c=w1.alloc (.cells (mg a ⟨E,B,F,H,G,I⟩).toArray 141):=⟨_,rfl⟩;have aN:Ext w1 c:=by rw[aa];exact kx
 have b6:hV c w1.heap.size 141 (mg a ⟨E,B,F,H,G,I⟩).toArray:=by rw[aa];exact hV.new _ _ _
 have ai:=bF.trans aN;obtain⟨bz,f,bN,m⟩:=kY c;have dA:=fun z=>((aK.o.ext ai).ext (m.jm z)).c 0 (.int .i64 j) rfl;obtain⟨-,dC,dD,dE,dF,-⟩:=hV.lL fun z=>(b6.ext (m.jm z));have dG:=fun z=>(b6.ext (m.jm z)).c 4 (.int .i64 n) (by rw[<-hn];rfl);obtain⟨-,-,-,-,-,-,dH,dI,dJ,-⟩:=hV.lL fun z=>(b6.ext (m.jm z));have⟨v,dR,bn,aM,cu,bf,af,X⟩:=xJ m aa (bg.o.trans ai) ai (jL.ext jd.stays aN aF) b6 au hn;have dw:n<=6:=by have:=au.locals;omega
 have ek:w.heap.size+3<=c.heap.size:=by have:=ai.size;have:=aZ.o.lt;omega
 clear bF aN b6 ai m aF au;simp only[mg,hn]at aa;have cO:=Zy aa;clear aa hn;simp only[mg,X.o];go_wp2_with fail;rw[<-cO.o];refine xW f 10 [([0,1,2,3,4,5,6],7),([8],9)] [] (v.o.o _ ?_) Zo Zo ?_
 . exact jf
 refine lS ?_;intro L A;refine Ir vK (z:=.agg #[.int .i64 0,.string ⟨#[]⟩]) Zo _ rfl (.tmp 19) (.tmp 19) rfl w.heap.size n rfl rfl Zm Zr ?_;intro C aU bG eF;change L _ _;simp only[Act.put,Rx,RU,RN];rw[KJ dw]at aU;have aO:=((Kp.refl _ c).drew:Ext c _).trans bG;refine kk v A aO ?_;clear A L;have⟨ax,cz⟩:=je aO aU;clear bG aO aU;refine lS ?_;intro L A;go_wp2_with fail;obtain⟨D,av⟩:∃D,D=C.alloc (.cells #[.pointer (some ⟨l.L,0,none⟩),.int .i64 j,.string a.name,.slice E a.args.length B,.int .i64 a.ret.kind,.string a.ret.name,.int .i64 n,.int .i64 a.stack,.slice F a.code.length H,.slice G a.maps.length I,.int .i64 0,.slice (some ⟨c.heap.size,0,none⟩) n n,.slice none 0 0] 305):=⟨_,rfl⟩;have T:Ext C D:=by rw[av];exact kx
 have bI:hV D C.heap.size 305 (I9 l.L j a ⟨E,B,F,H,G,I⟩ 0 (.slice (some ⟨c.heap.size,0,none⟩) n n) (.slice none 0 0)):=by
  unfold I9;rw[av,X.o];exact hV.new _ _ _
 refine kk v A (ax.o.alloc _) ?_;clear A L;rw[<-av];have aA:=ax.o.trans T;have bB:jD D l p w.heap.size C.heap.size j a ⟨E,B,F,H,G,I⟩ 0 ⟨List.replicate n Er,[]⟩ (.slice (some ⟨c.heap.size,0,none⟩) n n) (.slice none 0 0):=
  ⟨aI.o.ext (bn.o.trans aA),di,(by have:=ax.o.size;omega),jL.ext jd.stays aA cu.o,af.o,bI,
   (by rw[Sk];exact iZ cz.o T (fun _ _ _ x=>x)),Rt _ _ _ _,(fun g _ b=>by cases b),Zm,(by have:=af.o.NI;simp;omega),(by rw[Sk];exact X.o.symm)⟩
 have⟨aX,ae,dS⟩:=jy bB aA av;clear av T bI aA bB v dA dC dD dE dF dG dH dI dJ;refine kC ?_;go_wp2_with fail;simp only[QB];go_wp2_with fail;obtain⟨d,rfl⟩:∃d,n=d+1:=⟨n - 1,by have:=af.o.args;have:=X.o;omega⟩;obtain⟨bz,f,bN,m⟩:=kY D;have aW:=fun z=>(aX.o.ext (m.jm z)).blk.c 11 (.slice (some ⟨c.heap.size,0,none⟩) (d+1) (d+1)) rfl;have dB:=fun z=>(((aK.o.ext aM.o).ext ae.o).ext (m.jm z)).c 1 (.string h) rfl;have v:=Zy m;clear m;refine xW f 8 [([0,1,2,3,4,5,6],7)] [] (v.o.o _ ?_) Zo Zo ?_
 . exact jf
 refine lS ?_;intro L A;go_wp2_with fail;refine(yx _ h).mono ?_;rintro b w5 ⟨rfl,aj⟩;have Q:=Zy (((Kp.refl _ D).drew:Ext D _).trans aj);clear aj;go_wp2_with fail;refine kk v A Q.o ?_;clear A L;have R:=aX.o.ext Q.o;have U:=R.loc;obtain⟨dh,J⟩:=oh U rfl;obtain⟨x0,x1⟩:=(lK (enc:=lY) (k:=2) (fun _=>rfl) (l:=List.replicate (d+1) Er) (by simpa using U) (i:=0) (x:=Er) Zl).two;rw[Sj]at x0 x1;have f0:=J.frozen 0;have f1:=J.frozen 1;have bQ:=J.lt;have bR:=Zy R;clear R U J v aW dB;refine kC ?_;go_wp2_with fail;simp only[QB];have ag:jD w5 l p w.heap.size C.heap.size j a ⟨E,B,F,H,G,I⟩ 0 ⟨List.replicate (d+1) Er,[]⟩ (.slice (some ⟨c.heap.size,0,none⟩) (List.replicate (d+1) Er).length (d+1)) (.slice none 0 0):=by
  rw[Sk];exact bR.o
 obtain⟨ah,-⟩:=ag.xX 0 (lH h);obtain⟨w6,aG⟩:∃w6,w6=(w5.setCell ⟨c.heap.size,0,none⟩ (.int .i64 (lH h).kind)).setCell ⟨c.heap.size,1,none⟩ (.string (lH h).name):=⟨_,rfl⟩;have aP:Kp (·=c.heap.size) D w6:=by
  rw[aG];exact(Q.o.any).trans (((Kp.refl (·=c.heap.size) w5).setCell (p:=⟨c.heap.size,0,none⟩) (fun _=>rfl) _).setCell (p:=⟨c.heap.size,1,none⟩) (fun _=>rfl) _)
 rw[<-aG];replace ah:jD w6 l p w.heap.size C.heap.size j a ⟨E,B,F,H,G,I⟩ 0 ⟨rH h a 0 d,[]⟩ (.slice (some ⟨c.heap.size,0,none⟩) (d+1) (d+1)) (.slice none 0 0):=by
  rw[Sk]at ah;rw[aG];exact ah
 have dV:a.args.length<=d:=by have:=af.o.args;have:=X.o;omega
 have dW:=af.o.GJ;have y1:=((bf.o.ext ae.o).kp aP (by have:=bf.o.lt;omega)).c 1 (.slice E a.args.length B) rfl;have⟨bS,bX⟩:=je ah aP;clear ag ah aP aG x0 x1 f0 f1 bQ;go_wp2_with fail;go_loopw [35] (fun i wr=>∃e:Nat,e<=a.args.length/\i=.int .i64 e/\jD wr l p w.heap.size C.heap.size j a ⟨E,B,F,H,G,I⟩ 0 ⟨rH h a e (d - e),[]⟩ (.slice (some ⟨c.heap.size,0,none⟩) (d+1) (d+1)) (.slice none 0 0)/\Kp (·=c.heap.size) D wr) (fun i _=>a.args.length - (intOf i).toNat)
 case atStart=>exact⟨0,R4 _,rfl,bS.o,bX.o⟩
 case round =>
  obtain⟨e,hq,rfl,N,Y⟩:=hrel;by_cases dn:e<a.args.length
  . obtain⟨⟨kq,kn⟩,hy⟩:=nW a.args e dn;obtain⟨o,dz,cs,rfl,dU,rfl,-,bJ⟩:=(jd.args N.ml).get hy;obtain⟨g0,g1⟩:=bJ.two;have gz:=iY g0;obtain⟨r,hr⟩:∃r,d - e=r+1:=⟨d - e - 1,by omega⟩;rw[hr]at N;have dx:d - (e+1)=r:=by omega
    obtain⟨W4,bH,T,b9⟩:=nu wr #[.int .i64 kq,.string kn] 137;obtain⟨bz,f,bN,m⟩:=kY W4;have aW:=fun z=>((N.ext T).ext (m.jm z)).blk.c 11 (.slice (some ⟨c.heap.size,0,none⟩) (d+1) (d+1)) rfl;obtain⟨-,dK,dL,-⟩:=hV.lL fun z=>(b9.ext (m.jm z));have⟨v,aJ,bZ,bq,df⟩:=mr m N Y T bH;have ed:(e:Int)<a.args.length:=by omega
    have eB:IntKind.i64.wrap ((e:Int)+1)=e+1:=RQ _ Zm;clear m N Y T bH b9 bJ;go_wp2_with fail;rw[<-df.o];refine xW f 8 [([0,1,2,3,4,5,6],7)] [] (v.o.o _ ?_) Zo Zo ?_
    . exact jf
    refine lS ?_;intro L A;go_wp2_with fail;refine(Bq _ ⟨kq,kn⟩).mono ?_;rintro b w5 ⟨rfl,aj⟩;have Q:=Zy (((Kp.refl _ W4).drew:Ext W4 _).trans aj);clear aj;go_wp2_with fail;refine kk v A Q.o ?_;clear A L;have R:=aJ.o.ext (bq.o.trans Q.o);have U:=R.loc;have aC:=IP (n:=h) (r:=r+1) hq;have aB:e+1+(r+1)=d+1:=by omega
    obtain⟨dh,J⟩:=oh U rfl;obtain⟨x0,x1⟩:=(lK (enc:=lY) (k:=2) (fun _=>rfl) (l:=rH h a e (r+1)) (by simpa [aC,aB]using U) (IM hq)).two;have f0:=J.frozen ((e+1)*2);have f1:=J.frozen ((e+1)*2+1);have bQ:=J.lt;have dX:(e:Int)+1<d+1:=by omega
    have ag:jD w5 l p w.heap.size C.heap.size j a ⟨some ⟨o,dz,none⟩,B,F,H,G,I⟩ 0 ⟨rH h a e (r+1),[]⟩ (.slice (some ⟨c.heap.size,0,none⟩) (rH h a e (r+1)).length (d+1)) (.slice none 0 0):=by
     rw[aC,aB];exact R
    have cB:=Zy (ag.xX (e+1) (l8 ⟨kq,kn⟩)).1;have⟨HL,HY⟩:=je (aC.trans aB) hy;clear R ag U J v aW dK dL aC aB hy;refine kC ?_;go_wp2_with fail;simp only[QB];go_wp2_with fail;refine⟨⟨e+1,by omega,by simp,?_,?_⟩,by simp[intOf];omega⟩
    . rw[dx];have:=cB.o;rw[HL.o]at this;rw[<-IQ HY.o];exact this
    . refine bZ.o.trans ((bq.o.trans Q.o).any.trans ?_);exact((Kp.refl (·=c.heap.size) w5).setCell (p:=⟨c.heap.size,(e+1)*2,none⟩) (fun _=>rfl) _).setCell (p:=⟨c.heap.size,(e+1)*2+1,none⟩) (fun _=>rfl) _
  . have bO:e=a.args.length:=by omega
    have bP:(⟨rH h a e (d - e),[]⟩:oM)=CB ⟨⟨j,h⟩,y⟩ a:=by
     unfold rH CB;rw[bO,RH,X.o];congr 3;simp
    rw[bP]at N;have aD:Zz (M.look p ⟨⟨j,h⟩,y⟩=match nE p j a a.code 0 true (CB ⟨⟨j,h⟩,y⟩ a) []with
     | .inl n=>([],n)
     | .inr l=>(l,0)):=Zy (by unfold M.look;rw[HM.o];rfl)
    have aR:=(bn.o.trans ae.o).own Y (fun o b=>by omega);have bC:=((bT.o.ext aM.o).ext ae.o).kp Y Zm;have bD:=((aZ.o.ext aM.o).ext ae.o).kp Y Zm;have⟨aJ,dP,aY,aL⟩:=jV N aR bC bD;have dY:=aK.o.lt;have eu:=ax.o.size;have dZ:=aI.o.ord;have bK:∀o,w.heap.size<=o->o<w.heap.size+3->¬qj l C.heap.size (.slice (some ⟨c.heap.size,0,none⟩) (d+1) (d+1)) (.slice none 0 0) o:=fun o h1 h2=>by
     rintro(b|b|b|b)
     . omega
     . omega
     . have:c.heap.size=o:=by simpa [Value.ownBlock]using b
       omega
     . cases b
    have ay:=Zy bK;have bM:∀W,Kp (qj l C.heap.size (.slice (some ⟨c.heap.size,0,none⟩) (d+1) (d+1)) (.slice none 0 0)) wr W->Kp (·=l.D) w W:=fun W hW=>aR.any.mix hW (fun k hk b=>by
     rcases b with b|b|b|b
     . exact b
     . omega
     . have:c.heap.size=k:=by simpa [Value.ownBlock]using b
       omega
     . cases b)
    have bu:=Zy bM;clear bM;clear N Y aR bC bD bO bP bK;go_wp2_with fail;refine(Hf aJ.o).mono ?_;rintro b u ⟨P,aS,⟨n',ho,rfl⟩|⟨q,K,dN,dO,ho,rfl,dm⟩⟩
    . have S:=aY.o.kp P (ay.o _ Zm Zm);have O:=aL.o.kp P (ay.o _ Zm Zm);have ak:=bu.o _ P;refine leaves_cons (f:=190) (args:=#[.pointer (some ⟨w.heap.size+1,0,none⟩),.pointer (some ⟨w.heap.size+2,0,none⟩)]) Zl (by simp[go_sem]) ?_;refine(He u S O n' []).mono ?_;rintro b u' V ⟨rfl,rfl,aQ,h4,h5⟩;have c4:=h4.c 0 (.slice none 0 0) rfl;have c5:=h5.c 0 (.int .i64 n') rfl;have hF:Kp (·=l.D) w V/\jg V l p/\∃K vl vs,Ending.returned (.tuple #[.slice none 0 0,.int .i64 n'])=.returned (.tuple #[K,.int .i64 (M.look p ⟨⟨j,h⟩,y⟩).2])/\Kn V w.heap.size K vl vs (M.look p ⟨⟨j,h⟩,y⟩).1:=by
       refine⟨ak.own aQ (fun k b=>by omega),aS.kp aQ (fun o hb b=>by omega),.slice none 0 0,.slice none 0 0,.slice none 0 0,?_,?_⟩
       . rw[aD.o,ho]
       . rw[aD.o,ho];exact Kn.nil _ _ _ _
      have HF:=Zy hF;clear S O ak aQ h4 h5 hF P aS;have hF:=HF.o;simpa [Leaves,settle,results,results174,go_sem,c4,c5]using hF
    . obtain⟨ks,aT⟩:=dm;obtain⟨s,t,rfl⟩:=jB aT.2.1;have S:=aY.o.kp P (ay.o _ Zm Zm);have O:=aL.o.kp P (ay.o _ Zm Zm);have ak:=bu.o _ P;have c4:=S.c 0 (.slice none 0 0) rfl;have c5:=O.c 0 (.int .i64 0) rfl;have f4:=S.frozen 0;have f5:=O.frozen 0;have eG:=O.lt;have⟨bU,bV,bW,bY⟩:=jV S O ak aT;clear S O ak aT P;go_wp2_with fail;refine leaves_cons (f:=190) (args:=#[.pointer (some ⟨w.heap.size+1,0,none⟩),.pointer (some ⟨w.heap.size+2,0,none⟩)]) Zl (by simp[go_sem]) ?_;refine(KE).mono ?_;rintro b u' V ⟨rfl,rfl,rfl⟩;have k1:Kp (·=w.heap.size+1) u (u.setCell ⟨w.heap.size+1,0,none⟩ (.slice s q.length t)):=(Kp.refl (·=w.heap.size+1) u).setCell (p:=⟨w.heap.size+1,0,none⟩) (fun _=>rfl) _;have k2:Kp (·=w.heap.size+2) (u.setCell ⟨w.heap.size+1,0,none⟩ (.slice s q.length t)) ((u.setCell ⟨w.heap.size+1,0,none⟩ (.slice s q.length t)).setCell ⟨w.heap.size+2,0,none⟩ (.int .i64 0)):=(Kp.refl (·=w.heap.size+2) _).setCell (p:=⟨w.heap.size+2,0,none⟩) (fun _=>rfl) _;have aH:Kp (fun o=>o=w.heap.size+1\/o=w.heap.size+2) u ((u.setCell ⟨w.heap.size+1,0,none⟩ (.slice s q.length t)).setCell ⟨w.heap.size+2,0,none⟩ (.int .i64 0)):=(k1.weak fun o _ b=>.inl b).trans (k2.weak fun o _ b=>.inr b);have h4:hV ((u.setCell ⟨w.heap.size+1,0,none⟩ (.slice s q.length t)).setCell ⟨w.heap.size+2,0,none⟩ (.int .i64 0)) (w.heap.size+1) 288 #[.slice s q.length t]:=hV.kp (bU.o.jk 0 _) k2 Zm;have h5:hV ((u.setCell ⟨w.heap.size+1,0,none⟩ (.slice s q.length t)).setCell ⟨w.heap.size+2,0,none⟩ (.int .i64 0)) (w.heap.size+2) 3 #[.int .i64 0]:=(bV.o.kp k1 Zm).jk 0 _;have eD:w.heap.size+3<=wr.heap.size:=by have:=aL.o.lt;omega
      have hF:Kp (·=l.D) w ((u.setCell ⟨w.heap.size+1,0,none⟩ (.slice s q.length t)).setCell ⟨w.heap.size+2,0,none⟩ (.int .i64 0))/\jg ((u.setCell ⟨w.heap.size+1,0,none⟩ (.slice s q.length t)).setCell ⟨w.heap.size+2,0,none⟩ (.int .i64 0)) l p/\
          ∃K vl vs,Ending.returned (.tuple #[.slice s q.length t,.int .i64 0])=.returned (.tuple #[K,.int .i64 (M.look p ⟨⟨j,h⟩,y⟩).2])/\Kn ((u.setCell ⟨w.heap.size+1,0,none⟩ (.slice s q.length t)).setCell ⟨w.heap.size+2,0,none⟩ (.int .i64 0)) w.heap.size K vl vs (M.look p ⟨⟨j,h⟩,y⟩).1:=by
       refine⟨bW.o.own aH (fun k b=>by omega),aS.kp aH (fun o hb b=>by omega),.slice s q.length t,dN,dO,?_,ks,?_⟩
       . rw[aD.o,ho]
       . rw[aD.o,ho];exact LK.low bY.o aH (fun o hb b=>by omega) Zm
      have d4:=h4.c 0 (.slice s q.length t) rfl;have d5:=h5.c 0 (.int .i64 0) rfl;obtain⟨V,aV⟩:∃V,V=(u.setCell ⟨w.heap.size+1,0,none⟩ (.slice s q.length t)).setCell ⟨w.heap.size+2,0,none⟩ (.int .i64 0):=⟨_,rfl⟩;rw[<-aV]at hF d4 d5;have⟨HF,cZ⟩:=je hF aV;clear hF k1 k2 aH h4 h5 c4 c5 f4 f5 aV;show Leaves _ _ _ _ _ _ _
      rw[show w.heap.size+1+1=w.heap.size+2 from rfl,<-cZ.o];have hF:=HF.o;simpa [Leaves,settle,results,results174,go_sem,d4,d5]using hF
theorem Lc{P:Program}(w:World)(i A B e:TypeId)(g d n:Nat)(a:Addr)(h z k:Nat)(b:Array Value)(t:TypeId)(cs:List Value)(x:P.underlying i=some (.slice e)) (j:(P.info? e).map (·.size)=some k) (q:w.heap[g]?=some (.cells b t (0,0))) (u:cs.length=Nat.min h d*k)(v:∀m c,cs[m]?=some c->w.cell? (a.add m)=some c) (p:cs.length<=b.size) (o:∀c∈cs,c.oneCell'=true):(Builtin.copy_ #[i,A] B #[(g,d,n),.slice (some a) h z]).run P w=.ok (goInt (Nat.min h d)) (w.setRow g (cs++b.toList.drop cs.length).toArray):=by
 have s:=run_loadCells_list (P:=P) w a cs v;have l:=run_storeCells_at P g 0 t cs 0 b w q (by simpa using p) o;simp only[RO,List.take_zero,RF]at l;cases f:P.info? e with
 |none=>simp[f]at j
 |some y=>
  have r:y.size=k:=by simpa [f]using j
  simp[Builtin.copy_,run_underlying x,Builtin.lenOf,Builtin.firstCells,sizeOf,typeInfo,f,r,<-u,s,l]
theorem Ld{D:Nat->Prop}(w:World)(g:Nat){cs:Array Value}(b:D g):Kp D w (w.setRow g cs):=
 ⟨rfl,rfl,rfl,by simp[World.setRow],fun d e c=>setRow_other w g d cs (fun a=>c (by subst a;exact b))⟩
theorem Gx{t e k:Nat}(A:Elem t e k)(w:World){z:Array Oper}{rest:List Oper}{i:Oper}{a:Act}{Q:Exit->Act->World->Prop}(J:i.guard=none)(d s:Operand)
    (O:i.op=.call {callee:=.builtin .copy,args:=#[d,s],argTypes:=#[t,t]}) (base g n c m o:Nat) (xs h:List Value) (G:a.eval d=.slice (some ⟨g,0,none⟩) n c) (P:w.ownsRow base e k (.slice (some ⟨g,0,none⟩) n c) n xs)
    (j:Addr) (R:a.eval s=.slice (some j) m o) (H:Flat w k (.slice (some j) m o) m h) (x:m<=n)
    (E:∀p,p.ownsRow base e k (.slice (some ⟨g,0,none⟩) n c) n (h++xs.drop (m*k))->Kp (·=g) w p->wpList prog z Q rest (a.put i.dst (goInt m)) p):
    wpList prog z Q (i::rest) a w:=by
 obtain⟨ah,ai,bytes,T,K,hz,S,aa,ag,hk,hb⟩:=A;obtain⟨f,⟨X,Y,B,_,C⟩,D⟩:=H;cases B;obtain⟨L,V⟩:=P;rcases V with⟨l,_⟩|⟨g',Z,b,l,I,r,u,M,af,U⟩
 . cases l
 . cases l;have v:Nat.min m n=m:=SX x;have N:m*k<=n*k:=Tv _ x;have ae:n*k<=c*k:=Tv _ u;have y:=Lc (P:=prog) w t t i.type e g n c j m o k b e h T (by rw[K];simp[S]) r (by rw[v,f]) (C j rfl) (by rw[f];omega) D;rw[v]at y;refine wpList_plain J fun W F=>?_;unfold Oper.wp;simp[execOp,O,resolve,invoke,builtin,G,R,y,Result.andThen];refine F _ _ (E _ ⟨?_,.inr ⟨g,c,(h++b.toList.drop h.length).toArray,rfl,I,setRow_heap w g b _ e _ r,u,M,?_,?_⟩⟩ (Ld w g rfl))
   . rw[Sl,Tw,f,L];omega
   . have q:b.toList.length=b.size:=Array.length_toList;simp only[Tk,Sl,Tw,f,q];omega
   . have q:b.toList.length=b.size:=Array.length_toList;simp only;rw[<-U,List.take_append,f,SY (by rw[f];exact N),List.drop_take]
theorem Hc(w:World)(l:jh)(p:hZ)(f:jg w l p)(x:rE)(o:ky p x=true):Calls prog 148 #[some l.L,.agg #[x.of.keeper,x.of.name,x.at_]] w fun e j=>e=.returned (.bool (right p x))/\Kp (·=l.D) w j/\jg j l p:=by
 have c:Ext w (w.alloc (.cells #[x.of.keeper,x.of.name,x.at_] 65)):=kx;have⟨m,k⟩:=je (f.ext c) c;clear f c;go_enter func148,ntmps148;go_wp2_with fail;refine(Ja m x o).mono ?_;rintro e z ⟨g,h,s,v,y,rfl,n⟩;obtain⟨r,i⟩:=n;obtain⟨t,u,rfl⟩:=jB i.2.1;have d:=Zy (RJ (k.any.trans g) h);clear g h i;by_cases a:(M.look p x).2=0
 . have b:Zz (right p x=true):=Zy (by unfold right;rw[a];rfl);rw[a];clear a;go_wp2_with fail;go_ret;exact⟨hQ b.symm,d⟩
 . have b:Zz (right p x=false):=Zy (by unfold right;exact R7 a);have q:=QC.2 a;clear a;go_wp2_with fail;go_ret;exact⟨hQ b.symm,d⟩
end Go.Proofs.YtlhlnddgfcmfkaaGreat
