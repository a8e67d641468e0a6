/- Walks. -/
import Derived.Test.YtlhlnddgfcmfkaaGreatRsCoreH
import Derived.Test.YtlhlnddgfcmfkaaGreatRsCoreLn
set_option maxRecDepth 100000
set_option maxHeartbeats 4000000
set_option linter.all false
namespace Go.Proofs.YtlhlnddgfcmfkaaGreat
open Go Go.RowKit Tryz M
theorem nW{α:Type}(l:List α)(k:Nat)(a:k<l.length):∃b,l[k]?=some b:=⟨l[k],Rz a⟩
def JF:Array Value:=#[.int .i64 0,.string ⟨#[]⟩,.int .i64 0,.int .i64 0,.string ⟨#[]⟩]
theorem CK.kp{D:Nat->Prop}{w f:World}{b:Value}{c:Int}(d:CK w b c)(j:Kp D w f)(i:∀a,b=.iface 254 (.pointer (some ⟨a,0,none⟩))->¬D a):CK f b c:=by
 rcases d with d|⟨g,a,e,h⟩
 . exact .inl d
 . exact .inr ⟨g,a,e,h.kp j (i a e)⟩
theorem hV.inj{w:World}{g:Nat}{t c:TypeId}{cs d:Array Value}(b:hV w g t cs)(a:hV w g c d):t=c:=by
 unfold hV at b a;rw[b]at a;cases a;rfl
theorem Kp.uH{D:Nat->Prop}{w:World}{b:Nat}(a:D b)(c d e f g:Value):Kp D w (((((w.setCell b c).setCell (b,1) d).setCell (b,2) e).setCell (b,3) f).setCell (b,4) g):=
 (((((Kp.refl D w).setCell (p:=⟨b,0,none⟩) (fun _=>a) c).setCell (p:=⟨b,1,none⟩) (fun _=>a) d).setCell (p:=⟨b,2,none⟩) (fun _=>a) e).setCell (p:=⟨b,3,none⟩) (fun _=>a) f).setCell (p:=⟨b,4,none⟩) (fun _=>a) g
theorem hV.uH{w:World}{b:Nat}{t:TypeId}{u0 u1 u2 u3 u4:Value}(g:hV w b t #[u0,u1,u2,u3,u4])(a c d e f:Value):hV (((((w.setCell b a).setCell (b,1) c).setCell (b,2) d).setCell (b,3) e).setCell (b,4) f) b t #[a,c,d,e,f]:=
 ((((g.jk 0 a).jk 1 c).jk 2 d).jk 3 e).jk 4 f
theorem vO (w : World) (l : jh) (p : hZ) (y : jg w l p) (k : Int) (n m : ByteArray) :Calls prog 111 #[some l.L,k,n,m] w fun g w'=>(∃ev,g=.returned (.tuple #[.agg (oI (M.get p k n m).1).toArray,ev])/\CK w' ev (M.get p k n m).2)/\jg w' l p/\Kp (·=l.D) w w':=by
 have bX:=y.Ev;have cu:=y.lt;have hO:=y.ord;obtain⟨I,D⟩:=Ry (w.alloc (.cells JF 213));have av:Ext w I:=by rw[D];exact kx
 have bn:=Zy (y.ext av);have b8:hV I w 213 JF:=by rw[D];exact hV.new w _ _
 have dm:I.heap.size=w+1:=by rw[D];simp
 have⟨bB,bH⟩:=je av D;have HK:Zz (M.get p k n m=if(jN p k n m).2=1 then rO p k m (jN p k n m).1 (layout p (jN p k n m).1)else(wZ,(jN p k n m).2)):=Zy rfl;clear y av D;go_enter func111,ntmps111;go_wp2_with fail;have aB:=bH.o;unfold JF at aB;rw[<-aB];clear aB;refine(wX bn).mono ?_;rintro g w2 ⟨⟨ev,rfl,bL⟩,aQ,Z⟩;generalize jN p k n m=F at*;obtain⟨⟨c,d⟩,bJ⟩:=F;simp only at*;have O:=b8.kp Z Zm;have dn:=Z.size;obtain⟨yz,y0,y1,y2,y3,y4,-⟩:=O.ca;obtain⟨P,Q,R,S,T,-⟩:=O.fz;have⟨aN,aK,ah⟩:=jy aQ (bB.any.trans Z) O;clear aQ Z b8 O;rcases bL with⟨rfl,rfl⟩|⟨hc,eb,rfl,aY⟩
 . have L : Zz (M.get p k n m = rO p k m ⟨c, d⟩ (layout p ⟨c, d⟩)) := Zy (by rw [HK.o, RV rfl]); have W : Ext w2 (w2.alloc (.cells #[c, d] 63)) := kx; have aP := hV.new w2 63 #[c, d]; go_wp2_with fail; refine (wE (aN.ext W) ⟨c, d⟩).mono ?_; rintro g w3 ⟨⟨dx, rfl, e⟩, aR, B⟩; obtain ⟨bT, bV, rfl, hn, cB⟩ := e.form; have bQ := B.size; simp only [Sy] at bQ; have ⟨bz, bq, bE, bD, HS, bF⟩ := nZ ((ah.ext W).kp B Zm) (aP.kp B Zm) aR ((aK.trans W.any).trans B) e (fun i a => yF (p := p) (r := ⟨c, d⟩) (i := i) (f := a)); clear e aR B W aP y0 y1 y2 y3 y4 P Q R S T yz; generalize layout p ⟨c, d⟩ = fs at *; go_wp2_with fail; go_loopw [31] (fun i wr => ∃ b : Nat, b <= fs.length /\ i = .int .i64 b /\ Ext w3 wr /\ Zz (rO p k m ⟨c, d⟩ fs = rO p k m ⟨c, d⟩ (fs.drop b))) (fun i _ => fs.length - (intOf i).toNat)
   case atStart=>exact⟨0,R4 _,rfl,Kp.rr,Zy rfl⟩
   case round =>
    obtain⟨b,hq,rfl,s,HA⟩:=hrel;have A:=bz.ext s;obtain⟨yz,y0,y1,y2,y3,y4,-⟩:=A.ca;obtain⟨P,Q,R,S,T,-⟩:=A.fz;have aF:=Zy A;have V:=bq.ext s;have⟨bR,r,aM,bC⟩:=jV V (bE.ext s) (bD.trans s.any) s;by_cases bM:b<fs.length
    . obtain⟨a,hx⟩:=nW fs b bM;obtain⟨_,aZ,ag,G,U,C,v,bg⟩:=bF.o b a hx;obtain⟨j,ae⟩:=M.mR aZ;have aA:cls p a.of=j:=by unfold cls;rw[ae];rfl
      rw[aA]at C;have df:=(RZ.1 C).1;have cz:=vZ r.ok ae;have aI:=Zy (FH (by rw[aA];exact C) (by rw[ag,v]));have aJ:Zz (rO p k m ⟨c,d⟩ fs=if fieldName p ⟨c,d⟩ a=m then(if agree p k a.of.keeper a.kind then(a,1)else(wZ,4))else rO p k m ⟨c,d⟩ (fs.drop (b+1))):=Zy (by rw[HA.o,oG hx];rfl);obtain⟨bU,dw,cs,rfl,bY,rfl,-,aU⟩:=HS.get hx;have t:=aU.ext s;have g0:=t 0 a.of.keeper rfl;have g1:=t 1 a.of.name rfl;have g2:=t 2 b (by simp[oI,ag]);have g3:=t 3 a.kind.kind rfl;have g4:=t 4 a.kind.name rfl;rw[Sb]at g0;have gz:=iY g0;obtain⟨ez,e0,e1,-⟩:=V.ca;obtain⟨W4,aS,ax,aj⟩:=nu wr #[a.of.keeper,a.of.name,b,a.kind.kind,a.kind.name] 213;have⟨bI,HX,bA,HJ,bG⟩:=mr aS (RJ ag bg) ae C v;clear ag bg ae C aU t hx aZ aA v y0 y1 y2 y3 y4 P Q R S T aS A V;go_wp2_with fail;rw[<-bI.o];refine(AY (r.ext ax) ⟨a.of.keeper,a.of.name⟩ ⟨c,d⟩).mono ?_;rintro g w5 ⟨rfl,X⟩;have v:b=ou p ⟨a.of.keeper,a.of.name⟩ ⟨c,d⟩+G:=bG.o;generalize ou p ⟨a.of.keeper,a.of.name⟩ ⟨c,d⟩=ff at*;obtain⟨cs,aW,aT⟩:=pK _ l p r a.of.keeper a.of.name j bA;obtain⟨a1,c1,a2,c2,rfl⟩:=aW.form;obtain⟨dz,dA,aX,sf,-⟩:=aW;simp only[RG,SQ,SG]at aX;obtain⟨rfl,rfl⟩:=aX;have cK:∀ai,(Instr.field 95 (.agg #[j.name,j.jl,.slice a1 j.fields.length c1,.slice a2 j.methods.length c2]) 2).run prog ai=.ok (.slice a1 j.fields.length c1) ai:=(fun ai=>by kernel_rfl);obtain⟨bf,of,bW,rfl,bZ,rfl,-,aV⟩:=sf.get HJ;have az:=ax.trans X;obtain⟨bS,f,dh,N⟩:=kY w5;obtain⟨-,r0,r1,r2,r3,r4,-⟩:=hV.lL fun aC=>(aj.ext (X.trans (N.jm aC)));have rf:=fun aC=>(aV.ext (az.trans (N.jm aC))) 0 U.name rfl;simp only[Sb]at rf;have hw:IntKind.i64.wrap ((b:Int) - (ff:Int))=(G:Int):=by rw[RQ _ Zm];omega
      have di:(b:Int) - (ff:Int)=(G:Int):=Zm
      have cO:(0:Int)<=(G:Int):=Zm
      have cZ:(G:Int)<j.fields.length:=Zm
      have⟨h,aG,J,bu,HQ⟩:=mr N aT az (aj.ext X) v;clear N aT az aj X ax aV sf g0 g1 g2 g3 g4 e0 e1 v;by_cases u:U.name=m
      . have bN:(U.name.toList==m.toList)=true:=by rw[u];simp
        have K:Zz (M.get p k n m=if agree p k a.of.keeper a.kind then(a,1)else(wZ,4)):=Zy (by rw[L.o,aJ.o,RV (by rw[aI.o];exact u)]);clear u;go_wp2_with fail;refine Bl h ?_ ?_;rotate_left;(repeat (go_big_quiet_step ((go_at_call 51;refine(aG _ (J.trans (h.jm _)).any).mono ?_;rintro g w6 ⟨rfl,ay⟩;exact⟨rfl,h.o.o w6 ((h.jm _).trans ay)⟩))));refine Sw ?_;(rintro _ ⟨H,rfl⟩);rotate_left
        . exact jf
        go_wp2_with fail;have af:=J.trans (h.jm H);have ak:=bu.ext (h.jm H);generalize f H=w6 at*;clear h r0 r1 r2 r3 r4 rf;refine(uL (r.ext af) k a.of.keeper a.kind).mono ?_;rintro g w7 ⟨rfl,Y⟩;have E:=af.trans Y;have au:=ak.ext Y;have z:=aF.ext E;obtain⟨yz,y0,y1,y2,y3,y4,-⟩:=z.ca;obtain⟨P,Q,R,S,T,-⟩:=z.fz;have⟨aD,aO,aL⟩:=jy z (r.ext E) (aM.trans E.any);cases aa:agree p k a.of.keeper a.kind
        . have x:Zz (M.get p k n m=(wZ,4)):=Zy (by rw[K.o,aa];rfl);clear au ak z E af Y aa;go_wp2_with fail;have e:=Kp.uH (D:=(·=w)) (w:=w7) rfl (.int .i64 0) "" (.int .i64 0) (.int .i64 0) "";have o:=aD.uH (.int .i64 0) "" (.int .i64 0) (.int .i64 0) "";refine DV (ja vG rfl w rfl (oI wZ) ((hH.lV o).ext (jr _)) rfl) rfl ?_;rw[x.o];refine⟨⟨_,rfl,.inr ⟨by simp,w7.heap.size,rfl,?_⟩⟩,(aO.kp e (fun k q g=>Zm)).ext (jr _),(aL.o.own e (fun k q=>Zm)).alloc _⟩;have:=hV.new (((((w7.setCell w (.int .i64 0)).setCell (w,1) "").setCell (w,2) (.int .i64 0)).setCell (w,3) (.int .i64 0)).setCell (w,4) "") 256 #[.int .i64 4];simpa using this
        . have x:Zz (M.get p k n m=(a,1)):=Zy (by rw[K.o,aa];rfl);obtain⟨-,e0,e1,e2,e3,e4,-⟩:=au.ca;clear au ak z E af Y aa;go_wp2_with fail;have e:=Kp.uH (D:=(·=w)) (w:=w7) rfl a.of.keeper a.of.name b a.kind.kind a.kind.name;have o:=aD.uH a.of.keeper a.of.name b a.kind.kind a.kind.name;have bP:oI a=[.int .i64 a.of.keeper,.string a.of.name,.int .i64 b,.int .i64 a.kind.kind,.string a.kind.name]:=by unfold oI;rw[HX.o.1]
          rw[x.o];refine DV (ja vG rfl w rfl (oI a) (by rw[bP];exact hH.lV o) rfl) rfl ?_;exact⟨⟨_,rfl,.inl ⟨rfl,rfl⟩⟩,aO.kp e (fun k q g=>Zm),aL.o.own e (fun k q=>Zm)⟩
      . have bN:(U.name.toList==m.toList)=false:=by rw[nC];exact R7 u
        have K:Zz (rO p k m ⟨c,d⟩ fs=rO p k m ⟨c,d⟩ (fs.drop (b+1))):=Zy (by rw[aJ.o,RX (by rw[aI.o];exact u)]);clear u;go_wp2_with fail;refine Bl h ?_ ?_;rotate_left;(repeat (go_big_quiet_step ((go_at_call 51;refine(aG _ (J.trans (h.jm _)).any).mono ?_;rintro g w6 ⟨rfl,ay⟩;exact⟨rfl,h.o.o w6 ((h.jm _).trans ay)⟩))));refine Sw ?_;(rintro _ ⟨H,rfl⟩);rotate_left
        . exact jf
        go_wp2_with fail;have bO:=bC.trans (J.trans (h.jm H));refine⟨⟨b+1,Zm,by go_num,bO,K⟩,by simp[intOf];omega⟩
    . have x:Zz (M.get p k n m=(wZ,3)):=Zy (by rw[L.o,HA.o,Sa Zm];rfl);clear A V;go_wp2_with fail;have e:=Kp.uH (D:=(·=w)) (w:=wr) rfl (.int .i64 0) "" (.int .i64 0) (.int .i64 0) "";have o:=aF.uH (.int .i64 0) "" (.int .i64 0) (.int .i64 0) "";refine DV (ja vG rfl w rfl (oI wZ) ((hH.lV o).ext (jr _)) rfl) rfl ?_;rw[x.o];refine⟨⟨_,rfl,.inr ⟨by simp,wr.heap.size,rfl,?_⟩⟩,(r.kp e (fun k q g=>Zm)).ext (jr _),(aM.o.own e (fun k q=>Zm)).alloc _⟩;have:=hV.new (((((wr.setCell w (.int .i64 0)).setCell (w,1) "").setCell (w,2) (.int .i64 0)).setCell (w,3) (.int .i64 0)).setCell (w,4) "") 256 #[.int .i64 3];simpa using this
 . have aH:=Zy aY;have HC:=Zy hc;clear aY hc;have L:Zz (M.get p k n m=(wZ,bJ)):=Zy (by rw[HK.o,RX HC.o]);have bK:¬eb=w:=fun g=>by subst g;exact absurd (hV.inj aH.o ah.o) Zn
   go_wp2_with fail;have e:=Kp.uH (D:=(·=w)) (w:=w2) rfl (.int .i64 0) "" (.int .i64 0) (.int .i64 0) "";have o:=ah.uH (.int .i64 0) "" (.int .i64 0) (.int .i64 0) "";refine DV (ja vG rfl w rfl (oI wZ) ((hH.lV o).ext (jr _)) rfl) rfl ?_;rw[L.o];exact⟨⟨_,rfl,.inr ⟨HC,eb,rfl,(aH.kp e bK).ext (jr _)⟩⟩,(aN.kp e (fun k q g=>Zm)).ext (jr _),(aK.o.own e (fun k q=>Zm)).alloc _⟩
theorem lq(w:World)(l:jh)(p:hZ)(f:jg w l p)(x:rE)(k:ky p x=true):Calls prog 54 #[some l.L,.agg #[x.of.keeper,x.of.name,x.at_]] w fun a d=>(∃b,jd d (· <l.O) (M.method p x) b/\a=.returned (.agg b.toArray))/\Ext w d:=by
 obtain⟨_,m,e,c,g,h,i,j⟩:=sV k;have a:M.method p x=c:=by unfold M.method;rw[j];rfl
 rw[a,g];exact FZ w l p f x.of.keeper x.of.name m e c h i
theorem hV.newAt{W:World}{g:Nat}(t:TypeId)(cs:Array Value)(a:W=g):hV (W.alloc (.cells cs t)) g t cs:=by
 subst a;exact hV.new W t cs
def zt(x:rE):List Value:=[.int .i64 x.of.keeper,.string x.of.name,.int .i64 x.at_]
theorem Kp.uG{D:Nat->Prop}{w:World}{b:Nat}(a:D b)(c d e:Value):Kp D w (((w.setCell b c).setCell (b,1) d).setCell (b,2) e):=
 (((Kp.refl D w).setCell (p:=⟨b,0,none⟩) (fun _=>a) c).setCell (p:=⟨b,1,none⟩) (fun _=>a) d).setCell (p:=⟨b,2,none⟩) (fun _=>a) e
theorem hV.uG{w:World}{b:Nat}{t:TypeId}{u0 u1 u2:Value}(e:hV w b t #[u0,u1,u2])(a c d:Value):hV (((w.setCell b a).setCell (b,1) c).setCell (b,2) d) b t #[a,c,d]:=
 ((e.jk 0 a).jk 1 c).jk 2 d
theorem uw(w:World)(l:jh)(p:hZ)(h:jg w l p)(k:Int)(n m:ByteArray):Calls prog 97 #[some l.L,k,n,m] w fun c W=>(∃T,c=.returned (.tuple #[.agg (zt (call p k n m).1).toArray,T])/\CK W T (call p k n m).2)/\jg W l p/\Kp (·=l.D) w W:=by
 have aV:=h.Ev;have aW:=h.lt;have hO:=h.ord;obtain⟨q,o⟩:=Ry (w.alloc (.cells #[.int .i64 0, "",.int .i64 0] 65));have U:Ext w q:=by rw[o];exact kx
 have aD:=Zy (h.ext U);have b8:hV q w 65 #[.int .i64 0, "",.int .i64 0]:=by rw[o];exact hV.new w _ _
 have aY:q.heap.size=w+1:=by rw[o];simp
 have⟨aH,aL⟩:=je U o;have HK:Zz (call p k n m=if(jN p k n m).2=1 then
  (match pick p (jN p k n m).1 m with
  |none=>(M.p9,3)
  |some a=>if kP p k a.of.keeper (M.method p a)then(a,1)else(M.p9,4))
 else(M.p9,(jN p k n m).2)):=Zy rfl
 clear h U o;go_enter func97,ntmps97;go_wp2_with fail;rw[<-aL.o];refine(wX aD).mono ?_;rintro c X ⟨⟨T,rfl,aP⟩,az,d⟩;generalize jN p k n m=F at*;obtain⟨⟨E,G⟩,aN⟩:=F;simp only at*;have t:=b8.kp d Zm;have aZ:=d.size;obtain⟨K,H,I,J,-⟩:=t.ca;obtain⟨u,v,x,-⟩:=t.fz;have⟨aj,ag,L⟩:=jy az (aH.any.trans d) t;clear az d b8 t;rcases aP with⟨rfl,rfl⟩|⟨hc,eb,rfl,aC⟩
 . have r:Zz (call p k n m=match pick p ⟨E,G⟩ m with
    |none=>(M.p9,3)
    |some a=>if kP p k a.of.keeper (M.method p a)then(a,1)else(M.p9,4)):=Zy (by rw[HK.o,RV rfl])
   have A:Ext X (X.alloc (.cells #[E,G] 63)):=kx;clear H I J u v x K;go_wp2_with fail;refine(Dq _ _ _ (aj.ext A) ⟨E,G⟩ m).mono ?_;rintro c Y ⟨rfl,aA,C⟩;have aQ:=C.size;simp only[Sy]at aQ;have y:=(L.ext A).kp C Zm;obtain⟨K,H,I,J,-⟩:=y.ca;obtain⟨u,v,x,-⟩:=y.fz;have⟨aa,ak,ah⟩:=jy y aA ((ag.trans A.any).trans C);clear aA C A y;cases j:pick p ⟨E,G⟩ m with
   |none=>
    have s:Zz (call p k n m=(M.p9,3)):=Zy (by rw[r.o,j]);clear j;simp only[Option.getD_none,Option.isSome_none,p9];go_wp2_with fail;have b:=Kp.uG (D:=(·=w)) (w:=Y) rfl (.int .i64 0) "" (.int .i64 0);have e:=aa.uG (.int .i64 0) "" (.int .i64 0);refine DV (ja zK rfl w rfl (zt M.p9) (((hH.lV e).ext (jr _)).ext (jr _)) rfl) rfl ?_;rw[s.o];exact⟨⟨_,rfl,.inr ⟨by simp,Y.heap.size+1,rfl,hV.newAt _ _ Zl⟩⟩,((ak.kp b (fun k f c=>Zm)).ext (jr _)).ext (jr _),((ah.o.own b (fun k f=>Zm)).alloc _).alloc _⟩
   |some a=>
    have HX:=Zy (qy j);have s:Zz (call p k n m=if kP p k a.of.keeper (M.method p a)then(a,1)else(M.p9,4)):=Zy (by rw[r.o,j]);clear j;simp only[Option.getD_some,Option.isSome_some];obtain⟨W4,aB,i,S⟩:=nu Y #[a.of.keeper,a.of.name,a.at_] 65;obtain⟨aT,aU,aX,P⟩:=kY W4;obtain⟨-,r0,r1,r2,-⟩:=hV.lL fun aR=>(S.ext (P.jm aR));have⟨Q,aM,aS,aF,N,aG,aJ⟩:=qh P aB i S (ak.ext i) (aa.ext i) (ah.trans i.any);clear H I J u v x K P aB i S;go_wp2_with fail;rw[<-aM.o];refine kD Q 10 [([0,1,2,3,4,5,6],7),([],8)] [9] ?_ ?_
    . exact jf
    refine lS ?_;intro R d;go_wp2_with fail;refine(lq _ _ _ (N.ext jf) a HX).mono ?_;rintro c w5 ⟨⟨cs,V,rfl⟩,ax⟩;have B:=(jf:Ext W4 _).trans ax;have aK:=Zy V;obtain⟨a1,c1,a2,c2,a3,c3,rfl⟩:=V.form;clear V ax;go_wp2_with fail;refine kk Q d B ?_;clear d R;refine lF rfl fun R d=>?_;go_wp2_with fail;refine(uM (N.ext B) k a.of.keeper aK).mono ?_;rintro c Z ⟨rfl,ay⟩;have g:=B.trans ay;have z:=aG.ext g;obtain⟨K,H,I,J,-⟩:=z.ca;obtain⟨u,v,x,-⟩:=z.fz;have av:=aF.ext g;obtain⟨-,z0,z1,z2,-⟩:=av.ca;have⟨ae,au,ai,aI⟩:=jV z (N.ext g) (aJ.trans g.any) g;clear ay B z av r0 r1 r2 g;go_wp2_with fail;refine kk Q d aI ?_;clear d R;cases D:kP p k a.of.keeper (M.method p a)
    . have O:Zz (call p k n m=(M.p9,4)):=Zy (by rw[s.o,D];rfl);clear D;refine sK ?_;go_wp2_with fail;have b:=Kp.uG (D:=(·=w)) (w:=Z) rfl (.int .i64 0) "" (.int .i64 0);have e:=ae.uG (.int .i64 0) "" (.int .i64 0);refine DV (ja zK rfl w rfl (zt M.p9) ((hH.lV e).ext (jr _)) rfl) rfl ?_;rw[O.o];exact⟨⟨_,rfl,.inr ⟨by simp,Z.heap.size,rfl,hV.newAt _ _ Zl⟩⟩,(au.kp b (fun k f c=>Zm)).ext (jr _),(ai.o.own b (fun k f=>Zm)).alloc _⟩
    . have O:Zz (call p k n m=(a,1)):=Zy (by rw[s.o,D];rfl);clear D;refine sK ?_;go_wp2_with fail;have b:=Kp.uG (D:=(·=w)) (w:=Z) rfl a.of.keeper a.of.name a.at_;have e:=ae.uG a.of.keeper a.of.name a.at_;refine DV (ja zK rfl w rfl (zt a) (hH.lV e) rfl) rfl ?_;rw[O.o];exact⟨⟨_,rfl,.inl ⟨rfl,rfl⟩⟩,au.kp b (fun k f c=>Zm),ai.o.own b (fun k f=>Zm)⟩
 . have af:=Zy aC;have HC:=Zy hc;clear aC hc;have r:Zz (call p k n m=(M.p9,aN)):=Zy (by rw[HK.o,RX HC.o]);have aO:¬eb=w:=fun c=>by subst c;exact absurd (hV.inj af.o L.o) Zn
   go_wp2_with fail;have b:=Kp.uG (D:=(·=w)) (w:=X) rfl (.int .i64 0) "" (.int .i64 0);have e:=L.uG (.int .i64 0) "" (.int .i64 0);refine DV (ja zK rfl w rfl (zt M.p9) ((hH.lV e).ext (jr _)) rfl) rfl ?_;rw[r.o];exact⟨⟨_,rfl,.inr ⟨HC,eb,rfl,(af.kp b aO).ext (jr _)⟩⟩,(aj.kp b (fun k f c=>Zm)).ext (jr _),(ag.o.own b (fun k f=>Zm)).alloc _⟩
theorem GR{w:World}{I:Nat->Prop}{cs:List Value}{m:M.Method}(fG:jd w I m cs)(hI:∀a,I a->a<w.heap.size):Calls prog 114 #[.agg cs.toArray] w fun e w'=>(∃bB,e=.returned (.agg bB.toArray)/\jd w' (fun a=>I a\/w.heap.size<=a) m bB)/\Ext w w':=by
 obtain⟨va,vc,vm,rfl,ha,hc,hm⟩:=fG;obtain⟨a1,c1,rfl,-,fw⟩:=ha.form;obtain⟨a2,c2,rfl,-,fB⟩:=hc.form;obtain⟨a3,c3,rfl,-,bR⟩:=hm.form;obtain⟨fP,fC,bU,bN⟩:=ha.cells One.Rw Zn;obtain⟨fQ,fD,bV,bO⟩:=hc.cells One.ins Zn;obtain⟨fo,fE,bW,bP⟩:=hm.cells One.smap Zn;obtain⟨D,Z⟩:=Ry ((w.alloc (.cells #[m.name,.slice a1 m.args.length c1,m.ret.kind,m.ret.name,m.locals,m.stack,.slice a2 m.code.length c2,.slice a3 m.maps.length c3] 141)).alloc (.cells #["",(),.int .i64 0, "",.int .i64 0,.int .i64 0,(),()] 141));have bE:Ext w D:=by rw[Z];exact kx
 have b1:hV D w 141 #[m.name,.slice a1 m.args.length c1,m.ret.kind,m.ret.name,m.locals,m.stack,.slice a2 m.code.length c2,.slice a3 m.maps.length c3]:=by rw[Z];exact(hV.new _ _ _).ext kx
 have b2:hV D (w+1) 141 #["",(),.int .i64 0, "",.int .i64 0,.int .i64 0,(),()]:=by rw[Z];exact hV.newAt _ _ Zl
 obtain⟨-,-,x,-⟩:=b1.ca;have⟨bq,aV,cK,cO,dG,dH,dI,dW,dX⟩:=vL Z bE b1 b2 bN bO bP bU bV;have⟨dY,F⟩:=je bW hI;clear Z bE b1 b2 bN bO bP bU bV bW ha hc hm hI;go_enter func114,ntmps114;go_upto_region 1 with(fail);rw[<-bq.o];go_wp2_with fail;refine(PN (dG.ext aV) Zm).mono ?_;rintro e w1 ⟨⟨v1,rfl,aJ⟩,U⟩;obtain⟨Q,R,rfl⟩:=jB aJ;have⟨dC,dZ,au,cZ⟩:=jV (aV.trans U) aJ (cK.ext U) (cO.ext U);have fu:=U.size;have cu:D.heap.size=w+2:=by rw[bq.o];simp
 have G:=Zy cu;obtain⟨j,-,q1,-,-,-,-,q6,-⟩:=au.ca;have f1:=au.frozen 1;clear U aJ x cu;go_upto_region 2 with(fail);obtain⟨w2,ai⟩:=Ry (w1.setCell (w,1) (.slice Q m.args.length R));have Y:Kp (·=w) w1 w2:=by rw[ai];exact(Kp.refl (·=w) w1).setCell (p:=⟨w,1,none⟩) (fun _=>rfl) _
 have A:hV w2 w 141 #[m.name,.slice Q m.args.length R,m.ret.kind,m.ret.name,m.locals,m.stack,.slice a2 m.code.length c2,.slice a3 m.maps.length c3]:=by rw[ai];exact au.jk 1 _
 have fV:D.heap.size<=w1:=fu;have⟨dK,aR,df,aW,ed⟩:=mr Y A (cZ.kp Y Zm) (dC.own Y fun cz e=>Zm) (iZ dZ.o Y fun d h b=>Z0 G.o);rw[<-ai];clear ai Y A j q1 q6 f1;obtain⟨j,-,-,-,-,-,-,q6,-⟩:=aR.ca;go_wp2_with fail;refine(PL (dH.ext aW) Zm).mono ?_;rintro e w3 ⟨⟨v2,rfl,aK⟩,H⟩;obtain⟨x2,y2,rfl⟩:=jB aK;have⟨eF,av,dh,ek,dD⟩:=mr aK (aR.ext H) (df.ext H) (iZ ed H fun _ _ _ c=>c) (aW.trans H);have gm:=H.size;clear H aK j q6;obtain⟨j,-,-,-,-,-,-,q6,q7,-⟩:=av.ca;have f6:=av.frozen 6;go_upto_region 3 with(fail);obtain⟨u,aj⟩:=Ry (w3.setCell (w,6) (.slice x2 m.code.length y2));have J:Kp (·=w) w3 u:=by rw[aj];exact(Kp.refl (·=w) w3).setCell (p:=⟨w,6,none⟩) (fun _=>rfl) _
 have bI:hV u w 141 #[m.name,.slice Q m.args.length R,m.ret.kind,m.ret.name,m.locals,m.stack,.slice x2 m.code.length y2,.slice a3 m.maps.length c3]:=by rw[aj];exact av.jk 6 _
 have fZ:=dK.size;have⟨dL,aS,di,aX,aZ,bf⟩:=nZ J bI (dh.kp J Zm) (dD.own J fun cz e=>Zm) (iZ ek.o J fun d h b=>Z0 G.o) (iZ eF.o J fun d h b=>Z0 G.o);rw[<-aj];clear aj J bI j q6 q7 f6;obtain⟨j,-,-,-,-,-,-,-,q7,-⟩:=aS.ca;go_wp2_with fail;refine(PQ (dI.ext aX) Zm).mono ?_;rintro e w5 ⟨⟨v3,rfl,aL⟩,y⟩;obtain⟨n,s,rfl⟩:=jB aL;have⟨eP,ax,dm,eu,eG,dE⟩:=nZ aL (aS.ext y) (di.ext y) (iZ aZ y fun _ _ _ c=>c) (iZ bf y fun _ _ _ c=>c) (aX.trans y);have gp:=y.size;have fK:=dL.size;clear y aL j q7;obtain⟨j,-,-,-,-,-,-,-,q7,-⟩:=ax.ca;have f7:=ax.frozen 7;go_upto_region 4 with(fail);obtain⟨O,ak⟩:=Ry (w5.setCell (w,7) (.slice n m.maps.length s));have K:Kp (·=w) w5 O:=by rw[ak];exact(Kp.refl (·=w) w5).setCell (p:=⟨w,7,none⟩) (fun _=>rfl) _
 have bJ:hV O w 141 #[m.name,.slice Q m.args.length R,m.ret.kind,m.ret.name,m.locals,m.stack,.slice x2 m.code.length y2,.slice n m.maps.length s]:=by rw[ak];exact ax.jk 7 _
 have⟨ay,dn,aY⟩:=jy bJ (dm.kp K Zm) (dE.own K fun cz e=>Zm);have z0:=G.o;have⟨eB,eH⟩:=je (iZ eu K fun d h b=>Zm) (iZ eG.o K fun d h b=>Zm);have dN:=Zy fun d h=>(aZ.lt d h).2;have dO:=Zy fun d h=>(bf.lt d h).2;have dR:Zz (nU 146 3 kX O (fun a=>I a\/(w.heap.size+2<=a/\n.map Addr.block≠some a)) u (.slice n m.maps.length s) fo m.maps):=Zy ⟨iZ eP K fun d h b=>Zm,fE,dY.o.keep kX.stays (Ext.same aY.o) fun a b=>.inl b⟩;have i:Zz (w.heap.size+2<=(u:Nat)):=Zy Zm;rw[<-ak];clear ak K bJ j q7 f7 z0;obtain⟨j,-,-,-,-,-,-,-,q7,-⟩:=ay.ca;go_wp2_with fail;clear q7 j;go_loopw [20] (fun aQ wr=>∃(g:Nat) (az:List (List Value)),g<=m.maps.length/\aQ=.int .i64 g/\nU 146 3 kX wr (fun a=>I a\/(w.heap.size+2<=a/\n.map Addr.block≠some a)) u (.slice n m.maps.length s) az m.maps/\Kp (fun a=>(Value.slice n m.maps.length s).ownBlock=some a) O wr) (fun aQ _=>m.maps.length - (intOf aQ).toNat)
 case atStart=>exact⟨0,_,R4 _,rfl,dR,Kp.rr⟩
 case round =>
  obtain⟨g,az,hq,rfl,k,q⟩:=hrel;have⟨HM,HK⟩:=je k q;by_cases fF:g<m.maps.length
  . obtain⟨d,cg,e,h,bQ,fT⟩:=jS k.own Zm;cases e;obtain⟨c,hx⟩:=get_some fF;obtain⟨bA,bM,-,⟨vl,vs,rfl,aM,aN⟩,aH⟩:=k.get hx;obtain⟨p1,p2,rfl,-,fI⟩:=aM.form;obtain⟨L,N,rfl,-,fJ⟩:=aN.form;obtain⟨j0,j1,j2⟩:=aH.three;have bD:w≠d:=Z0 i.o
    have nB:¬(Value.slice (some ⟨d,0,none⟩) m.maps.length s).ownBlock=some w.heap.size:=fun e=>by cases e;exact bD rfl
    obtain⟨P,bZ,z,b4⟩:=nu wr #[c.at_,.slice p1 c.locals.length p2,.slice L c.stack.length N] 146;have⟨aT,dS,eU,bn,eZ,dx,dA,T,HX⟩:=vL ((ay.kp q nB).ext z) (k.ext kX.stays z) (aM.ext kE.stays z) (aN.ext kE.stays z) bZ b4 (aH.ext z) z hx;have aU:=Zy bM;have fU:d<wr:=bQ;obtain⟨fe,fq,fH,p⟩:=kY P;obtain⟨-,-,-,-,-,-,-,-,r7,-⟩:=hV.lL fun E=>aT.ext (p.jm E);obtain⟨-,-,k1,-⟩:=hV.lL fun E=>b4.ext (p.jm E);have v:=Zy p;clear k q aM aN aH bZ b4 z hx bM p bQ;go_upto_region 7 with(fail);rw[<-eZ.o];clear j0 j1 j2;refine kD v 6 [([0,1,2,3,4],5)] [] ?_ ?_
    . exact jf
    refine lS ?_;intro K2 V;go_wp2_with fail;refine(qO ((eU.toFlat (enc:=lY) (fun _ _ _ _ f=>f) (fun _=>rfl) tO).ext jf) Zm).mono ?_;rintro e w8 ⟨⟨v',rfl,C⟩,bG⟩;obtain⟨r,t,rfl⟩:=jB C;have o:=Zy (((Kp.refl _ P).drew:Ext P _).trans bG);have eQ:=Zy C;have aG:=dS.ext kX.stays o;obtain⟨-,k8,k9⟩:=(dA.ext o).three;have aA:=aG.own.frozenAt (g*3+1);have aB:=iY k8;have dU:=Zy aG;clear bG C aG;go_wp2_with fail;refine kk v V o ?_;clear V K2;clear v r7 k1;refine kC ?_;go_upto_region 8 with(fail);obtain⟨l,aP⟩:=Ry (w8.setCell (d,g*3+1) (.slice r c.locals.length t));have bT:kX (w8.setCell (d,g*3+1) (.slice r c.locals.length t)) (fun a=>I a\/(w.heap.size+2<=a/\Option.map Addr.block (some d:Option Addr)≠some a)) c ([.int .i64 c.at_,.slice p1 c.locals.length p2,.slice L c.stack.length N].set 1 (.slice r c.locals.length t)):=by
     have X:Kp (·=d) w8 (w8.setCell (d,g*3+1) (.slice r c.locals.length t)):=(Kp.refl (·=d) w8).setCell (p:=⟨d,g*3+1,none⟩) (fun _=>rfl) _;refine⟨_,_,rfl,((SliceOf.lJ (I:=fun a=>P.heap.size<=a) lY eQ rfl rfl (fun _ _=>rfl) (fun _ _=>rfl) (fun _ b _=>b) fI).keep kE.stays (X.same fun a b e=>?_) fun a b=>.inr ?_),(bn.ext kE.stays o).keep kE.stays (X.same fun a b e=>?_) fun _ f=>f⟩
     . have:P.heap.size<=a:=b;have:=T.size;omega
     . have:P.heap.size<=a:=b;have:=T.size;have:=i.o;simp;omega
     . subst e;rcases b with b|b
       . have:=F.o _ b;have:=i.o;omega
       . simp at b
    obtain⟨W,B⟩:=dU.set1 rfl kX.stays (fun a b e=>by
     subst e;rcases b with b|b
     . have:=F.o _ b;have:=i.o;omega
     . simp at b) HX.o aU.o Zn bT fun _ f=>f
    rw[<-aP]at W B;have ag:(az.set g ([.int .i64 c.at_,.slice p1 c.locals.length p2,.slice L c.stack.length N].set 1 (.slice r c.locals.length t)))[g]?=some [.int .i64 c.at_,.slice r c.locals.length t,.slice L c.stack.length N]:=by
     rw[List.getElem?_set_self (RZ.1 aU.o).1];rfl
    have bC:=(aT.ext o).kp B bD;have bK:=(dx.ext o).kp B Zm;have⟨dV,dz,dM,bu⟩:=jV W ag ((HK.trans ((T.trans o).any)).trans (B.weak fun a _ e=>by rw[e];rfl)) (RP o.size B.size);have bL:hH l d (g*3) [c.at_,.slice r c.locals.length t,.slice L c.stack.length N]:=by
     obtain⟨bA,x,-,-,f⟩:=W.get HX;rw[ag]at x;cases x;exact f
    have bY:=(bn.ext kE.stays o).keep kE.stays (B.same fun a b e=>by
     subst e;rcases b with b|b
     . have:=F.o _ b;have:=i.o;omega
     . simp at b) fun _ f=>f
    have bX:SliceOf 2 kE l (fun a=>I a\/(w.heap.size+2<=a/\Option.map Addr.block (some d:Option Addr)≠some a)) (.slice r c.locals.length t) c.locals:=by
     obtain⟨bA,x,-,⟨vl,vs,e2,h1,-⟩,-⟩:=W.get HX;rw[ag]at x;cases x;simp only[RG,SQ,SG]at e2;rw[e2.1];exact h1
    have⟨eY,eX,dB⟩:=jy bY bX bL;obtain⟨fe,fq,fH,p⟩:=kY l;obtain⟨-,-,-,-,-,-,-,-,r7,-⟩:=hV.lL fun E=>bC.ext (p.jm E);obtain⟨-,-,-,k2,-⟩:=hV.lL fun E=>bK.ext (p.jm E);have v:=Zy p;rw[<-aP];clear W B ag bT bC bK aP bL bY bX p k8 k9 aA aB;refine kD v 6 [([0,1,2,3,4],5)] [] ?_ ?_
    . exact jf
    refine lS ?_;intro K2 V;go_wp2_with fail;refine(qO ((eY.toFlat (enc:=lY) (fun _ _ _ _ f=>f) (fun _=>rfl) tO).ext jf) Zm).mono ?_;rintro e ae ⟨⟨v',rfl,C⟩,bF⟩;obtain⟨x6,y6,rfl⟩:=jB C;have S:=Zy (((Kp.refl _ l).drew:Ext l _).trans bF);have eT:=Zy C;have aD:=dV.ext kX.stays S;obtain⟨-,k8,k9⟩:=(dB.ext S).three;have aA:=aD.own.frozenAt (g*3+2);have aB:=iY k9;have dP:=Zy aD;clear bF C aD;go_wp2_with fail;refine kk v V S ?_;clear V K2;clear v r7 k2;refine kC ?_;go_upto_region 9 with(fail);obtain⟨cB,aO⟩:=Ry (ae.setCell (d,g*3+2) (.slice x6 c.stack.length y6));have bS:kX (ae.setCell (d,g*3+2) (.slice x6 c.stack.length y6)) (fun a=>I a\/(w.heap.size+2<=a/\Option.map Addr.block (some d:Option Addr)≠some a)) c ([.int .i64 c.at_,.slice r c.locals.length t,.slice L c.stack.length N].set 2 (.slice x6 c.stack.length y6)):=by
     have X:Kp (·=d) ae (ae.setCell (d,g*3+2) (.slice x6 c.stack.length y6)):=(Kp.refl (·=d) ae).setCell (p:=⟨d,g*3+2,none⟩) (fun _=>rfl) _;refine⟨_,_,rfl,(eX.ext kE.stays S).keep kE.stays (X.same fun a b e=>?_) fun _ f=>f,((SliceOf.lJ (I:=fun a=>l.heap.size<=a) lY eT rfl rfl (fun _ _=>rfl) (fun _ _=>rfl) (fun _ b _=>b) fJ).keep kE.stays (X.same fun a b e=>?_) fun a b=>.inr ?_)⟩
     . subst e;rcases b with b|b
       . have:=F.o _ b;have:=i.o;omega
       . simp at b
     . have:l.heap.size<=a:=b;have:=bu.o;have:=T.size;omega
     . have:l.heap.size<=a:=b;have:=bu.o;have:=T.size;have:=i.o;simp;omega
    obtain⟨aF,aI⟩:=dP.set1 rfl kX.stays (fun a b e=>by
     subst e;rcases b with b|b
     . have:=F.o _ b;have:=i.o;omega
     . simp at b) HX.o dz.o Zn bS fun _ f=>f
    rw[<-aO]at aF aI;have⟨dQ,dJ⟩:=je aF ((dM.trans S.any).trans (aI.weak fun a _ e=>by rw[e];rfl));rw[<-aO];clear aF aI bS aO k8 k9 aA aB;go_wp2_with fail;exact⟨⟨g+1,_,Zm,by go_num,dQ.o,dJ.o⟩,by simp[intOf];omega⟩
  . obtain rfl:g=m.maps.length:=Zm
    have fM:=Zy ((k.keep (J:=fun a=>I a\/w.heap.size<=a) kX.stays (Kp.refl (fun _=>False) _) (fun _ _ c=>c) (fun _ _ c=>c) fun a b=>b.imp id fun f=>Z0 f.1).slice Zn (fun a b _=>.inr (Z0 i.o)) bR);have aa:∀a,a<u.heap.size->¬(Value.slice n m.maps.length s).ownBlock=some a:=fun a b e=>Z0 ((k.own.lt a e).1)
    have bH:=ay.kp q (aa _ (Z0 i.o));have A:=dn.kp q (aa _ (Z0 G.o));have⟨dF,eD,eO,bg⟩:=jV (aY.own q fun a e=>Z4 ((k.own.lt a e).1) i.o) (iZ eB.o q fun d h _=>aa d (dN.o d h)) (iZ eH.o q fun d h _=>aa d (dO.o d h)) k;obtain⟨-,q0,q1,q2,q3,q4,q5,q6,q7,-⟩:=bH.ca;obtain⟨fO,o0,o1,o2,o3,o4,o5,o6,o7,-⟩:=A.ca;obtain⟨f0,f1,f2,f3,f4,f5,f6,f7,-⟩:=A.fz;have dw:=Zy A;clear k q bH A aa;go_wp2_with fail;obtain⟨af,hW⟩:=Ry (((((((((wr.setCell ⟨w+1,0,none⟩ m.name).setCell ⟨w+1,1,none⟩ (.slice Q m.args.length R)).setCell ⟨w+1,2,none⟩ m.ret.kind).setCell ⟨w+1,3,none⟩ m.ret.name).setCell ⟨w+1,4,none⟩ m.locals).setCell ⟨w+1,5,none⟩ m.stack).setCell ⟨w+1,6,none⟩ (.slice x2 m.code.length y2)).setCell ⟨w+1,7,none⟩ (.slice n m.maps.length s)));have ah:Kp (·=w+1) wr af:=by rw[hW];exact Kp.yQ (D:=(·=w+1)) rfl _ _ _ _ _ _ _ _
    have fA:hV af (w+1) 141 #[m.name,.slice Q m.args.length R,m.ret.kind,m.ret.name,m.locals,m.stack,.slice x2 m.code.length y2,.slice n m.maps.length s]:=by rw[hW];exact dw.yQ _ _ _ _ _ _ _ _
    rw[<-hW];have aC:=dF.own ah fun a e=>Zm
    have z0:=G.o;refine DV (jw CR rfl (w+1) rfl _ (hH.lV fA) rfl) rfl ?_;have fK:=i.o;exact⟨⟨_,rfl,_,_,_,rfl,
     SliceOf.owned (iZ eD ah fun d h b=>Zm) fC Zn (dW.o.keep l7.stays (Ext.same aC) fun a b=>.inl b) (fun a b _=>.inr Zm) fw,
     SliceOf.owned (iZ eO ah fun d h b=>Zm) fD Zn (dX.o.keep uE.stays (Ext.same aC) fun a b=>.inl b) (fun a b _=>.inr Zm) fB,
     (bg.keep (J:=fun a=>I a\/w.heap.size<=a) kX.stays ah (fun d h e=>Z0 ((bg.own.lt d h).1)) (fun a b e=>by
      rcases b with b|b
      . have:=F.o _ b;omega
      . have:=b.1;omega) fun a b=>b.imp id fun f=>Z0 f.1).slice Zn (fun a b _=>.inr Zm) bR⟩,aC⟩
theorem LV:ym 95 4:=⟨_,underlying95,by kernel_rfl⟩
theorem Q3{D:Nat->Prop}{w:World}{b:Nat}(a:D b)(c d e f:Value):Kp D w ((((w.setCell b c).setCell (b,1) d).setCell (b,2) e).setCell (b,3) f):=
 (((((Kp.refl D w).setCell (p:=⟨b,0,none⟩) (fun _=>a) c).setCell (p:=⟨b,1,none⟩) (fun _=>a) d).setCell (p:=⟨b,2,none⟩) (fun _=>a) e).setCell (p:=⟨b,3,none⟩) (fun _=>a) f)
theorem Q4{w:World}{b:Nat}{t:TypeId}{u0 u1 u2 u3:Value}(f:hV w b t #[u0,u1,u2,u3]){a c d e:Value}:hV ((((w.setCell b a).setCell (b,1) c).setCell (b,2) d).setCell (b,3) e) b t #[a,c,d,e]:=by
 have g:hV (w.setCell b a) b t #[a,u1,u2,u3]:=f.jk 0 a;have h:hV ((w.setCell b a).setCell (b,1) c) b t #[a,c,u2,u3]:=g.jk 1 c;have i:hV (((w.setCell b a).setCell (b,1) c).setCell (b,2) d) b t #[a,c,d,u3]:=h.jk 2 d;exact i.jk 3 e
theorem IV{w:World}{I:Nat->Prop}{cs:List Value}{m:Class}(A:jv w I m cs)(hI:∀a,I a->a<w.heap.size):Calls prog 59 #[.agg cs.toArray] w fun c w'=>(∃W,c=.returned (.agg W.toArray)/\jv w' (fun a=>I a\/w.heap.size<=a) m W)/\Ext w w':=by
 obtain⟨va,vm,rfl,Z,hm⟩:=A;obtain⟨a1,c1,rfl,-,di⟩:=Z.form;obtain⟨T,V,rfl,-,dz⟩:=hm.form;obtain⟨dF,dn,aR,aN⟩:=Z.cells One.field Zn;obtain⟨bW,dw,aS,aO⟩:=hm.cells One.Qj Zn;obtain⟨p,B⟩:=Ry ((w.alloc (.cells #[m.name,m.jl,.slice a1 m.fields.length c1,.slice T m.methods.length V] 95)).alloc (.cells #["", "",(),()] 95));have aD:Ext w p:=by rw[B];exact kx
 have U:hV p w 95 #[m.name,m.jl,.slice a1 m.fields.length c1,.slice T m.methods.length V]:=by rw[B];exact(hV.new _ _ _).ext kx
 have b2:hV p (w+1) 95 #["", "",(),()]:=by rw[B];exact hV.newAt _ _ Zl
 obtain⟨-,-,-,e1,-⟩:=U.ca;have⟨aB,au,aV,aX,bD,bE,bN,bO,HI⟩:=vL B aD U b2 aN aO aR aS hI;clear B aD U b2 aN aO aR aS Z hm hI;go_enter func59,ntmps59;go_upto_region 1 with(fail);rw[<-aB.o];go_wp2_with fail;refine(PK (bD.ext au) Zm).mono ?_;rintro c N ⟨⟨v1,rfl,ag⟩,x⟩;obtain⟨C,D,rfl⟩:=jB ag;have⟨bA,bP,O,aY⟩:=jV (au.trans x) ag (aV.ext x) (aX.ext x);have dh:=x.size;have aU:p.heap.size=w+2:=by rw[aB.o];simp
 have S:=Zy aU;obtain⟨o,-,-,q2,q3,-⟩:=O.ca;have f2:=O.frozen 2;clear x ag e1 aU;go_upto_region 2 with(fail);obtain⟨l,J⟩:=Ry (N.setCell (w,2) (.slice C m.fields.length D));have y:Kp (·=w) N l:=by rw[J];exact(Kp.refl (·=w) N).setCell (p:=⟨w,2,none⟩) (fun _=>rfl) _
 have aK:hV l w 95 #[m.name,m.jl,.slice C m.fields.length D,.slice T m.methods.length V]:=by rw[J];exact O.jk 2 _
 have dK:p.heap.size<=N:=dh;have⟨bG,ak,aZ,av,az⟩:=mr y aK (aY.kp y Zm) (bA.own y fun dB c=>Zm) (iZ bP.o y fun d f b=>Z0 S.o);rw[<-J];clear J y aK o q2 q3 f2;obtain⟨o,-,-,-,q3,-⟩:=ak.ca;go_wp2_with fail;refine(PR (bE.ext av) Zm).mono ?_;rintro c w5 ⟨⟨v3,rfl,ah⟩,r⟩;obtain⟨h,i,rfl⟩:=jB ah;have⟨bT,P,bf,bQ,bB⟩:=mr ah (ak.ext r) (aZ.ext r) (iZ az r fun _ _ _ g=>g) (av.trans r);have dL:=r.size;have dA:=bG.size;clear r ah o q3;obtain⟨o,-,-,-,q3,-⟩:=P.ca;have f3:=P.frozen 3;go_upto_region 3 with(fail);obtain⟨t,K⟩:=Ry (w5.setCell (w,3) (.slice h m.methods.length i));have z:Kp (·=w) w5 t:=by rw[K];exact(Kp.refl (·=w) w5).setCell (p:=⟨w,3,none⟩) (fun _=>rfl) _
 have aL:hV t w 95 #[m.name,m.jl,.slice C m.fields.length D,.slice h m.methods.length i]:=by rw[K];exact P.jk 3 _
 have⟨Q,bg,ax⟩:=jy aL (bf.kp z Zm) (bB.own z fun dB c=>Zm);have z0:=S.o;have bR:=Zy (iZ bQ z fun d f b=>Zm);have bH:=Zy fun d f=>(az.lt d f).2;have bJ:Zz (nU 141 8 jd t (fun a=>I a\/(w.heap.size+2<=a/\h.map Addr.block≠some a)) l (.slice h m.methods.length i) bW m.methods):=Zy ⟨iZ bT z fun d f b=>Zm,dw,bO.o.keep jd.stays (Ext.same ax.o) fun a b=>.inl b⟩;have n:Zz (w.heap.size+2<=(l:Nat)):=Zy Zm;rw[<-K];clear K z aL o q3 f3 z0;obtain⟨o,-,-,-,q3,-⟩:=Q.ca;go_wp2_with fail;clear q3 o;go_loopw [16] (fun ai wr=>∃(q:Nat) (aC:List (List Value)),q<=m.methods.length/\ai=.int .i64 q/\nU 141 8 jd wr (fun a=>I a\/(w.heap.size+2<=a/\h.map Addr.block≠some a)) l (.slice h m.methods.length i) aC m.methods/\Kp (fun a=>(Value.slice h m.methods.length i).ownBlock=some a) t wr) (fun ai _=>m.methods.length - (intOf ai).toNat)
 case atStart=>exact⟨0,_,R4 _,rfl,bJ,Kp.rr⟩
 case round =>
  obtain⟨q,aC,hq,rfl,j,k⟩:=hrel;have⟨HM,HK⟩:=je j k;by_cases dx:q<m.methods.length
  . obtain⟨d,cg,c,f,aP,dH⟩:=jS j.own Zm;cases c;obtain⟨g,hx⟩:=get_some dx;obtain⟨dE,aM,-,A,aa⟩:=j.get hx;obtain⟨p1,p2,p3,p4,p5,p6,rfl⟩:=A.form;obtain⟨j0,j1,j2,j3,j4,j5,j6,j7⟩:=aa.eight;have df:w≠d:=Z0 n.o
    have nB:¬(Value.slice (some ⟨d,0,none⟩) m.methods.length i).ownBlock=some w.heap.size:=fun c=>by cases c;exact df rfl
    obtain⟨u,aT,s,b4⟩:=nu wr #[g.name,.slice p1 g.args.length p2,g.ret.kind,g.ret.name,g.locals,g.stack,.slice p3 g.code.length p4,.slice p5 g.maps.length p6] 141;have⟨aW,bK,bM,bV,bq,ay,HX,bu⟩:=xJ ((Q.kp k nB).ext s) (j.ext jd.stays s) (jL.ext jd.stays s A) aT (aa.ext s) s hx aM;have dI:d<wr:=aP;obtain⟨dC,dG,dJ,F⟩:=kY u;obtain⟨-,-,-,-,r3,-⟩:=hV.lL fun aj=>aW.ext (F.jm aj);obtain⟨-,k0,k1,k2,k3,k4,k5,k6,k7,-⟩:=hV.lL fun aj=>b4.ext (F.jm aj);have R:=Zy F;clear j k A aa aT b4 s hx aM F aP;go_upto_region 6 with(fail);rw[<-bV.o];clear j0 j1 j2 j3 j4 j5 j6 j7;refine kD R 5 [([0,1,2,3],4)] [] ?_ ?_
    . exact jf
    refine lS ?_;intro K2 aH;go_wp2_with fail;refine(GR (jd.inside (jL.ext jd.stays jf bM)) (fun a v=>v.2)).mono ?_;rintro c w8 ⟨⟨W,rfl,af⟩,aF⟩;obtain⟨o1,o2,o3,o4,o5,o6,rfl⟩:=af.form;have E:=Zy (((Kp.refl _ u).drew:Ext u _).trans aF);have bU:=Zy af;have e:=bK.ext jd.stays E;obtain⟨h0,h1,h2,h3,h4,h5,h6,h7⟩:=(bq.ext E).eight;have bX:=e.own.frozenAt (q*8);have bY:=e.own.frozenAt (q*8+1);have bZ:=e.own.frozenAt (q*8+2);have cu:=e.own.frozenAt (q*8+3);have cz:=e.own.frozenAt (q*8+4);have cB:=e.own.frozenAt (q*8+5);have cK:=e.own.frozenAt (q*8+6);have cO:=e.own.frozenAt (q*8+7);have cZ:=iY h1;have bL:=Zy e;clear aF af e;go_wp2_with fail;refine kk R aH E ?_;clear aH K2;clear R r3 k0 k1 k2 k3 k4 k5 k6 k7;refine kC ?_;go_upto_region 7 with(fail);have X:∀a,(I a\/(w.heap.size+2<=a/\Option.map Addr.block (some d:Option Addr)≠some a))->a≠d:=fun a b c=>by
     subst c;rcases b with b|b
     . have:=HI.o _ b;have:=n.o;omega
     . simp at b
    have dM:(wr:Nat)<=u:=ay.size;have hp:=bL.Rq (J:=fun a=>I a\/(w.heap.size+2<=a/\Option.map Addr.block (some d:Option Addr)≠some a)) rfl jd.stays X HX bu
     (jd.stays _ _ _ _ _ _ ((Pj (D:=(·=d)) (q:=q) w8 rfl _ _ _ _ _ _ _ _).same fun a b c=>by
      rcases b with b|b
      . exact X a b.1 c
      . have:u.heap.size<=a:=b;omega) (fun a b=>by
      rcases b with b|b
      . exact b.1
      . have:u.heap.size<=a:=b;have:=n.o;exact .inr ⟨Zm,by simp;omega⟩) bU.o) fun _ v=>v
    obtain⟨aI,aQ⟩:=hp;have⟨bI,bF⟩:=je aI ((HK.trans (ay.trans E).any).trans (aQ.weak (D':=fun a=>(Value.slice (some ⟨d,0,none⟩:Option Addr) m.methods.length i).ownBlock=some a) fun a _ c=>by rw[c];rfl));clear aI aQ h0 h1 h2 h3 h4 h5 h6 h7 bX bY bZ cu cz cB cK cO cZ X;go_wp2_with fail;exact⟨⟨q+1,_,Zm,by go_num,bI.o,bF.o⟩,by simp[intOf];omega⟩
  . obtain rfl:q=m.methods.length:=Zm
    have L:∀a,a<l.heap.size->¬(Value.slice h m.methods.length i).ownBlock=some a:=fun a b c=>Z0 ((j.own.lt a c).1)
    have aJ:=Q.kp k (L _ (Z0 n.o));have H:=bg.kp k (L _ (Z0 n.o));have⟨bC,bS,aA⟩:=jy (ax.own k fun a c=>Z4 ((j.own.lt a c).1) n.o) (iZ bR.o k fun d f _=>L d (bH.o d f)) j;obtain⟨-,q0,q1,q2,q3,-⟩:=aJ.ca;obtain⟨dD,o0,o1,o2,o3,-⟩:=H.ca;obtain⟨f0,f1,f2,f3,-⟩:=H.fz;have bn:=Zy H;clear j k aJ H L;go_wp2_with fail;obtain⟨G,Y⟩:=Ry (((((wr.setCell ⟨w+1,0,none⟩ m.name).setCell ⟨w+1,1,none⟩ m.jl).setCell ⟨w+1,2,none⟩ (.slice C m.fields.length D)).setCell ⟨w+1,3,none⟩ (.slice h m.methods.length i)));have ae:Kp (·=w+1) wr G:=by rw[Y];exact Q3 (D:=(·=w+1)) rfl _ _ _ _
    have dm:hV G (w+1) 95 #[m.name,m.jl,.slice C m.fields.length D,.slice h m.methods.length i]:=by rw[Y];exact Q4 bn
    rw[<-Y];have aG:=bC.own ae fun a c=>Zm
    have z0:=S.o;refine DV (jw LV rfl (w+1) rfl _ (hH.lV dm) rfl) rfl ?_;have dA:=n.o;exact⟨⟨_,rfl,_,_,rfl,
     SliceOf.owned (iZ bS ae fun d f b=>Zm) dn Zn (bN.o.keep lh.stays (Ext.same aG) fun a b=>.inl b) (fun a b _=>.inr Zm) di,
     (aA.keep (J:=fun a=>I a\/w.heap.size<=a) jd.stays ae (fun d f c=>Z0 ((aA.own.lt d f).1)) (fun a b c=>by
      rcases b with b|b
      . have:=HI.o _ b;omega
      . have:=b.1;omega) fun a b=>b.imp id fun v=>Z0 v.1).slice Zn (fun a b _=>.inr Zm) dz⟩,aG⟩
theorem Qd:Elem 23 90 2:=kN (z:=.agg #[(),()]) (bytes:=48) underlying23 Zo rfl Zn Zn
theorem J4:ym 25 1:=⟨_,underlying25,by kernel_rfl⟩
theorem Ej{α:Type}{l:List α}{q:Nat}{x:α}(a:l[q]?=some x):l.take q++[x]=l.take (q+1):=by
 rw[RL,a];rfl
theorem jX.free{α:Type}{R:l6 α}(hR:∀w I a J c b,R w I c b->R a J c b){w a:World}{I J:Nat->Prop}:∀{xs:List α} {css:List (List Value)},jX R w I xs css->jX R a J xs css
 |[],[],_=>trivial
 |_::_,_::_,h=>⟨hR _ _ _ _ _ _ h.1,jX.free hR h.2⟩
 |[],_::_,h=>h.elim
 |_::_,[],h=>h.elim
theorem EN {w: World} (I : Nat -> Prop) {v: Value} (p : hZ) (hp : SliceOf 2 jc w I v p) (hI : ∀ a, I a -> a < w.heap.size) :Calls prog 20 #[.agg #[v]] w fun c w'=>(∃v',c=.returned (.agg #[v'])/\SliceOf 2 jc w' (fun a=>I a\/w.heap.size<=a) v' p)/\Ext w w':=by
 obtain⟨az,K,rfl,-,dJ⟩:=hp.form;obtain⟨C,A⟩:=Ry (((w.alloc (.cells #[.slice az p.length K] 25)).alloc (.cells #[()] 25)).alloc (.cells #[()] 25));have aR:Ext w C:=by rw[A];exact kx
 have b1:hV C w 25 #[.slice az p.length K]:=by rw[A];exact(hV.new _ _ _).ext kx
 have b2:hV C (w+1) 25 #[()]:=by rw[A];exact(hV.newAt _ _ Zl:hV ((w.alloc (.cells #[.slice az p.length K] 25)).alloc (.cells #[()] 25)) (w+1) 25 #[()]).ext kx
 have b3:hV C (w+2) 25 #[()]:=by rw[A];exact hV.newAt _ _ Zl
 have bE:C.heap.size=w+3:=by rw[A];simp
 obtain⟨-,e0,-⟩:=b1.ca;have⟨cK,bM,X,E,dN,HP,P⟩:=qh A aR b2 b3 bE hp hI;clear A aR b1 b2 b3 bE hp hI;go_enter func20,ntmps20;go_upto_region 2 with(fail);rw[<-cK.o];go_wp2_with fail;clear e0;go_loopw [12] (fun B wr=>∃(q:Nat) (aa:List (List Value)) (v:Value),q<=p.length/\B=.int .i64 q/\nU 90 2 jc wr (fun a=>(I a\/w.heap.size+3<=a)/\a<wr.heap.size/\v.ownBlock≠some a) (w+3) v aa (p.take q)/\hV wr (w+1) 25 #[()]/\hV wr (w+2) 25 #[v]/\Ext w wr) (fun B _=>p.length - (intOf B).toNat)
 case atStart=>exact⟨0,[],(),R4 _,rfl,⟨Rt _ _ _ _,by simp,trivial⟩,X,E,bM⟩
 case round =>
  obtain⟨q,aQ,v,hq,rfl,f,t,i,hE⟩:=hrel;have⟨HM,X,E,Y⟩:=jV f t i hE;have aC:(p.take q).length=q:=by rw[Su];omega
  have aN:=Zy aC;obtain⟨j,k,bB⟩:=jB f.own;rw[aC]at bB;subst bB;clear aC;by_cases dG:q<p.length
  . obtain ⟨e, hx⟩ := get_some dG; obtain ⟨a, dZ, cs, rfl, dA, ⟨vo, va, rfl, ho, ha⟩,-, O⟩ := (HP.ext jc.stays hE).get hx; obtain ⟨p1, p2, rfl,-, dI⟩ := ho.form; obtain ⟨p3, p4, rfl,-, dB⟩ := ha.form; obtain ⟨di, dD, bu, aZ⟩ := ho.cells One.cls Zn; obtain ⟨W, j1⟩ := O.two; have jz := iY W; obtain ⟨n, bC, ae, b5⟩ := nu wr #[.slice p1 e.owns.length p2, .slice p3 e.asks.length p4] 90; obtain ⟨-, k0,-⟩ := b5.ca; have ⟨cO, au, aL, bO, bZ, HA, HX⟩ := qh bC ae b5 (aZ.ext ae) bu (ha.ext rW.stays ae) hx; clear f t i hE ho ha O hx dA bC ae b5 aZ bu; go_upto_region 5 with (fail); rw [<- cO.o]; clear W j1 jz; go_wp2_with fail; refine (PH bO Zm).mono ?_; rintro c w6 ⟨⟨v6, rfl, aI⟩, aA⟩; obtain ⟨o, x, rfl⟩ := jB aI; have aM := Zy aA; have bT : Zz (nU 95 4 jv w6 (fun a => I a \/ (n.heap.size <= a /\ o.map Addr.block ≠ some a)) n (.slice o e.owns.length x) di e.owns) := Zy ⟨aI, dD, bZ.keep jv.stays (Ext.same (au.trans aA)) fun a b => .inl b⟩; clear aA aI k0; go_wp2_with fail; obtain ⟨u, rfl⟩ : ∃ u : World, u = wr := ⟨_, rfl⟩; go_loopw [21] (fun B wr => ∃ (g : Nat) (aa : List (List Value)), g <= e.owns.length /\ B = .int .i64 g /\ nU 95 4 jv wr (fun a => I a \/ (n.heap.size <= a /\ o.map Addr.block ≠ some a)) n (.slice o e.owns.length x) aa e.owns /\ Kp (fun a => (Value.slice o e.owns.length x).ownBlock = some a) w6 wr) (fun B _ => e.owns.length - (intOf B).toNat)
    case atStart=>exact⟨0,_,R4 _,rfl,bT,Kp.rr⟩
    case round =>
     obtain⟨g,aa,hu,rfl,f,hK⟩:=hrel;have⟨dM,HK⟩:=je f hK;by_cases dH:g<e.owns.length
     . obtain⟨r,cg,c,hg,dU,dS⟩:=jS f.own Zm;cases c;obtain⟨ak,hy⟩:=get_some dH;obtain⟨K,aY,-,aD,O⟩:=f.get hy;obtain⟨t1,t2,t3,t4,rfl⟩:=aD.form;obtain⟨W,j1,j2,j3⟩:=O.four;have jz:=iY W;obtain⟨w7,bD,U,b4⟩:=nu wr #[ak.name,ak.jl,.slice t1 ak.fields.length t2,.slice t3 ak.methods.length t4] 95;have⟨bU,bW,cZ,bK,av,HY,bL⟩:=qh (f.ext jv.stays U) (jL.ext jv.stays U aD) bD (O.ext U) U hy aY;obtain⟨-,k0,k1,k2,k3,-⟩:=b4.ca;clear f hK aD O bD b4 U hy aY;go_upto_region 9 with(fail);rw[<-cZ.o];clear W j1 j2 j3 jz;go_wp2_with fail;refine(IV (jv.inside bW) (fun a d=>d.2)).mono ?_;rintro c w8 ⟨⟨dP,rfl,aF⟩,aT⟩;obtain⟨o1,o2,o3,o4,rfl⟩:=aF.form;have ax:=Zy aT;have cB:=Zy aF;have N:=bU.ext jv.stays ax;obtain⟨h0,z,h2,h3⟩:=(bK.ext ax).four;have dm:=N.own.frozenAt (g*4);have dn:=N.own.frozenAt (g*4+1);have dw:=N.own.frozenAt (g*4+2);have dx:=N.own.frozenAt (g*4+3);have dz:=iY z;have bV:=Zy N;clear aT aF N k0 k1 k2 k3;go_upto_region 10 with(fail);have dW:=RP aM.size (RP HK.size av.size);have dX:(wr:Nat)<=w7:=av.size;have dK:(u:Nat)<=n:=au.size;have dY:(w:Nat)<=u:=Y.size;have L:∀a,(I a\/(n.heap.size<=a/\Option.map Addr.block (some r:Option Addr)≠some a))->a≠r:=fun a b c=>by
        subst c;rcases b with b|b
        . have:=P.o _ b;omega
        . simp at b
       obtain⟨aU,bn⟩:=bV.ni (J:=fun a=>I a\/(n.heap.size<=a/\Option.map Addr.block (some r:Option Addr)≠some a)) rfl jv.stays L HY bL
        (jv.stays _ _ _ _ _ _ ((Ph (D:=(·=r)) (q:=g) w8 rfl _ _ _ _).same fun a b c=>by
         rcases b with b|b
         . exact L a b.1 c
         . have:w7.heap.size<=a:=b;omega) (fun a b=>by
         rcases b with b|b
         . exact b.1
         . have:w7.heap.size<=a:=b;exact .inr ⟨Zm,by simp;omega⟩) cB.o) fun _ d=>d
       have⟨bS,bR⟩:=je aU ((HK.trans (av.trans ax).any).trans (bn.weak (D':=fun a=>(Value.slice (some ⟨r,0,none⟩:Option Addr) e.owns.length x).ownBlock=some a) fun a _ c=>by rw[c];rfl));clear aU bn h0 z h2 h3 dm dn dw dx dz L;go_wp2_with fail;exact⟨⟨g+1,_,Zm,by go_num,bS.o,bR.o⟩,by simp[intOf];omega⟩
     . obtain rfl:g=e.owns.length:=Zm
       have bX:=Zy ((f.keep (J:=fun a=>I a\/n.heap.size<=a) jv.stays (Kp.refl (fun _=>False) _) (fun _ _ e=>e) (fun _ _ e=>e) fun a b=>b.imp id And.left).slice Zn (fun a b _=>.inr b) dI);have dK:(u:Nat)<n:=aL.lt;have T:=aM.own hK fun a c=>(f.own.lt a c).1;have G:=Zy (au.trans T);have dh:=Zy T.size;have bF:=Zy (HA.ext rW.stays T);have ai:=fun a c=>HM.own.lt a c;have R:=Zy ai;have i:=E.ext G;have aX:=aL.ext T;have n3:¬(Value.slice j q k).ownBlock=some (w.heap.size+2):=fun c=>Z0 (ai _ c)
       have n5:¬(Value.slice j q k).ownBlock=some u.heap.size:=fun c=>Z0 (ai _ c)
       obtain⟨dO,dR,dV,Z⟩:=rA.ex (fun W'=>Kp (fun a=>(Value.slice j q k).ownBlock=some a) wr W') _ Kp.rr;obtain⟨-,r0,-⟩:=hV.lL fun aK=>i.kp (Z.jm aK) n3;obtain⟨-,-,r1,-⟩:=hV.lL fun aK=>aX.kp (Z.jm aK) n5;have⟨Q,ay⟩:=je Z (HM.ext jc.stays G);clear f hK T Z ai i aX;go_wp2_with fail;refine kD Q 9 [([0,1,2,3,4],5),([6],7),([],8)] [] ?_ ?_
       . exact jf
       refine lS ?_;intro H s;go_wp2_with fail;obtain⟨dQ,dE,bA,bf⟩:=bF.cells One.ask Zn;refine(PG (bf.ext jf) Zm).mono ?_;rintro c D ⟨⟨ed,rfl,aH⟩,aS⟩;obtain⟨x7,y7,rfl⟩:=jB aH;have⟨F,cz,cu⟩:=jy (((Kp.refl _ wr).drew:Ext wr _).trans aS) aH bA;clear aS aH bA bf;go_wp2_with fail;refine kk Q s F.any ?_;clear s H;refine lS ?_;intro H s;go_wp2_with fail;refine kk Q s (F.alloc _).any ?_;clear s H;refine lF rfl fun H s=>?_;have dF:q+1<=4294967296:=Zm
       have aG:=ay.own;rw[aN.o]at aG;have bY:=Zy aG;clear aG;have dC:w+3<=(D.alloc (.cells #[.slice o e.owns.length x,.slice x7 e.asks.length y7] 90)).heap.size:=by have:=G.size;have:=F.size;have:=Y.size;have:=R.o;have:=E.lt;simp;omega
       refine jo Qd rfl (.tmp 33) (.tmp 39) rfl (w+3) (.slice j q k) q aQ.flatten rfl (iZ (D:=fun _=>False) bY (F.alloc _) fun _ _ _ e=>e) D 1 [.slice o e.owns.length x,.slice x7 e.asks.length y7] rfl rfl (hH.ny _ _ rfl) Zt dF dC ?_;intro h S aj aV ag bg;change H _ _;have af:=(F.alloc _).any.trans ag;refine kk Q s af ?_;clear s H;have i:=(E.ext G).kp af n3;obtain⟨bz,d0,-⟩:=i.ca;have f0:=i.frozen 0;have⟨bI,y,aP,bP,bQ⟩:=mr i af aV bg (((Kp.refl _ D).alloc _:Ext D _).any.trans ag);have df:Zz ((D:Nat)<aj):=Zy (by have:=ag.size;simp at this;omega);clear Q r0 r1 i af aV ag bg;refine kC ?_;go_upto_region 12 with(fail);obtain⟨l,hW⟩:=Ry (aj.setCell ⟨w.heap.size+1+1,0,none⟩ (h,q+1,S));have m:Kp (·=w+2) aj l:=by rw[hW];exact(Kp.refl (·=w+2) aj).setCell (p:=⟨w.heap.size+1+1,0,none⟩) (fun _=>rfl) _
       have ah:hV l (w+2) 25 #[(h,q+1,S)]:=by rw[hW];exact bI.jk 0 _
       rw[<-hW];have z1:=E.lt;have z2:=dh.o;have z3:=F.size;have z4:=aP.lt h rfl;have z5:=y.size;have z6:=m.size;have z7:(h<u/\(Value.slice j q k).ownBlock=some h)\/D<h:=by
        rcases bP.o with d|d
        . exact .inl ⟨(R _ d).2,d⟩
        . right;simp at d;omega
       have z8:=df.o;have nv:∀a,(I a\/u.heap.size<=a)->¬(Value.slice j q k).ownBlock=some a:=fun a b c=>by
        have:=R.o _ c;rcases b with b|b
        . have:=P.o _ b;omega
        . omega
       have aJ:∀a,(I a\/w.heap.size+3<=a)->a≠w.heap.size+2:=fun a b c=>by
        rcases b with b|b
        . have:=P.o _ b;omega
        . omega
       have aB:∀(J:Nat->Prop),(∀a,J a->(I a\/w.heap.size+3<=a)/\¬(Value.slice j q k).ownBlock=some a)->Same J wr l:=fun J L a dL g b V=>
        m.lW (y.lW V (L a b).2) (aJ a (L a b).1)
       have bq : jc l (fun a => (I a \/ w.heap.size + 3 <= a) /\ a < l.heap.size /\ (Value.slice (some ⟨h, 0, none⟩) (q + 1) S).ownBlock ≠ some a) e [.slice o e.owns.length x, .slice x7 e.asks.length y7] := by
        refine⟨_,_,rfl,(bX.inside (fun _ _ _ _ d=>jv.inside d) Zn).keep jv.stays (aB _ fun a b=>⟨b.1.imp id fun d=>Zm,nv a (b.1.imp id fun d=>Zm)⟩) fun a b=>⟨b.1.imp id fun d=>Zm,Zm,fun c=>?_⟩,?_⟩
        . have:h=a:=by simpa [Value.ownBlock]using c
          subst this;rcases z7 with d|d
          . rcases b.1 with z|z
            . have:=P.o _ z;omega
            . omega
          . have:=b.2;omega
        . refine(SliceOf.owned (I:=fun a=>wr.heap.size<=a/\a<D.heap.size) cz dE Zn (cu.free fun _ _ _ _ _ _ d=>d) (fun a z h2=>⟨z,h2⟩) dB).keep rW.stays (fun a dL g b V=>?_) fun a b=>⟨.inr Zm,Zm,fun c=>?_⟩
          . exact m.lW (bQ.lW V (nv a (.inr Zm))) (aJ a (.inr Zm))
          . have:h=a:=by simpa [Value.ownBlock]using c
            subst this;rcases z7 with d|d
            . omega
            . have:=b.2;omega
       have aW:nU 90 2 jc l (fun a=>(I a\/w.heap.size+3<=a)/\a<l.heap.size/\(Value.slice (some ⟨h,0,none⟩) (q+1) S).ownBlock≠some a) (w+3) (h,q+1,S) (aQ++[[.slice o e.owns.length x,.slice x7 e.asks.length y7]]) (p.take (q+1)):=by
        rw[<-Ej HX.o];refine⟨?_,fun K V=>(SF.1 V).elim (ay.len K) fun d=>by simp at d;rw[d];rfl,(ay.all.keep jc.stays (aB _ fun a b=>⟨b.1,b.2.2⟩) fun a b=>⟨b.1,Zm,fun c=>?_⟩).snoc bq⟩
        . have:=iZ aP m (fun r hg _ c=>by cases hg;omega);rw[Sl,aN.o,List.flatten_append];simpa using this
        . have:h=a:=by simpa [Value.ownBlock]using c
          subst this;rcases z7 with d|d
          . exact b.2.2 d.2
          . omega
       have t:=((X.ext G).kp y fun c=>Z0 (R.o _ c)).kp m Zm;have⟨bG,bJ,bH,bN⟩:=jV aW ah t ((((Y.trans G).own y fun a c=>Z0 (R.o _ c))).own m fun a c=>Zm);clear aW bq aB aJ nv ah m hW t z1 z2 z3 z4 z5 z6 z7 z8 bz d0 f0 n3 n5;go_wp2_with fail;exact⟨⟨q+1,_,_,Zm,by go_num,bG.o,bH.o,bJ.o,bN.o⟩,by simp[intOf];omega⟩
  . obtain rfl:q=p.length:=Zm
    rw [RH] at f; have aO := Zy f; obtain ⟨-, d0,-⟩ := i.ca; obtain ⟨bz, o0,-⟩ := t.ca; have f0 := t.frozen 0; clear f t i hE; go_wp2_with fail; have m : Kp (· = w + 1) wr (wr.setCell ⟨w + 1, 0, none⟩ (.slice j p.length k)) := (Kp.refl (· = w + 1) wr).setCell (p := ⟨w + 1, 0, none⟩) (fun _ => rfl) _; have ah := X.jk 0 (.slice j p.length k); have y := Zy m; refine DV (jw J4 rfl (w + 1) rfl [.slice j p.length k] (hH.lV ah) rfl) rfl ?_; exact ⟨⟨_, rfl, (aO.keep (J := fun a => I a \/ w.heap.size <= a) jc.stays y (fun r hg c => by have := (aO.own.lt r hg).1; omega) (fun a b c => by
        rcases b.1 with d|d
        . have:=P.o _ d;omega
        . omega) fun a b=>b.1.imp id fun d=>Zm).slice Zn (fun a b _=>.inr Zm) dJ⟩,Y.o.own y.o fun a c=>Zm⟩
end Go.Proofs.YtlhlnddgfcmfkaaGreat
