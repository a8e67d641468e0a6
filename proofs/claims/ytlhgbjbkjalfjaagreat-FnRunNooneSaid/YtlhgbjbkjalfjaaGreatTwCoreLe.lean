/- Walks. -/
import Derived.Test.YtlhgbjbkjalfjaaGreatTwCoreLb
import Derived.Deep.DeepCutAuto
import Derived.Deep.CutRange
set_option maxRecDepth 100000
set_option maxHeartbeats 4000000
set_option linter.all false
namespace Go.Proofs.YtlhgbjbkjalfjaaGreat
open Go Go.RowKit Tryz M
theorem rD(op a:Int)(n m:ByteArray)(w:World)(y: -100000<=a/\a<=100000)(K:n.size<=1000)(J:m.size<=1000):Calls prog 84 #[.agg #[op,a,n,m]] w fun c p=>Ky 20000 c/\Ext w p:=by
 obtain⟨H,I⟩:=y;have k:∀d,Calls prog 140 #[a] d fun c s=>Ky 11200 c/\Ext d s:=fun d=>(Ka a d Zm Zm).mono (by
  rintro c p ⟨⟨C,rfl,-,A⟩,x⟩;exact⟨⟨_,rfl,Zm⟩,x⟩)
 have r:=Zy k;clear k;go_enter func84,ntmps84;go_wp2_with fail;refine(F6 op a n m).mono ?_;rintro c M ⟨⟨t,rfl,o⟩,j⟩;have e:=Zy j;clear j;cases t
 . go_wp2;go_ret;exact⟨⟨_,rfl,SV _⟩,Zv⟩
 . have g:=(hZ.new w 140 #[op,a,n,m]).ext e;obtain⟨u,v⟩:=o rfl;obtain⟨b,rfl⟩:∃b:Nat,op=b:=⟨op.toNat,Zm⟩;have z:b=1\/b=2\/b=3\/b=4\/b=5\/b=6\/b=7\/b=8\/b=9\/b=10\/b=11\/b=12\/b=13\/b=14\/b=15:=Zm
   have i:=g.c 0 b rfl;have h:=Zy g;clear g;go_wp2_with fail;refine(CE b Zm).mono ?_;rintro c N ⟨⟨C,rfl,A⟩,f⟩;have q:=Zy (e.trans f);have B:(ByteArray.mk #[32]).size=1:=rfl;have l:=h.ext f;clear f e i o u v;obtain⟨-,i,D,E,F,-⟩:=l.ca;clear l h;rcases z with rfl|rfl|rfl|rfl|rfl|rfl|rfl|rfl|rfl|rfl|rfl|rfl|rfl|rfl|rfl
   all_goals
    go_wp2_with (go_at_call 140;refine(r _).mono ?_;rintro c O ⟨⟨P,rfl,L⟩,G⟩);go_ret;refine⟨⟨_,rfl,by first|omega|(simp only[UW,B];omega)⟩,?_⟩;have:=q.o;exact Zv
namespace M
theorem Nt:∀(l d:List UInt8),∀b∈mV d l,b.length<=d.length+l.length
 |[],d,b,a=>by simp[mV]at a;subst a;simp
 |c::r,d,b,a=>by
  rw[mV]at a;split at a
  . rcases Ud.1 a with rfl|a
    . omega
    . have:=Nt r [] b a;simp at this |-;omega
  . have:=Nt r _ b a;simp at this |-;omega
theorem Ji{s x:ByteArray}(b:x∈words s):x.size<=s.size:=by
 unfold words at b;obtain⟨a,c,rfl⟩:=Vw.1 b;have:=Nt s.data.toList [] a c;have d:(bs a).size=a.length:=by simp[bs,ByteArray.size]
 have e:s.data.toList.length=s.size:=by simp
 simp at this;omega
theorem Ab(s:ByteArray):∃b a,words s=b::a:=by
 cases c:words s with
 |nil=>exact absurd (by simpa [words]using c) (Kh s.data.toList [])
 |cons b a=>exact⟨b,a,rfl⟩
end M
theorem kV.at_{w:World}{I:Nat->Prop}{a:Option Addr}{n c:Nat}{xs:List ByteArray}{i:Nat}{x:ByteArray}(f:SliceOf 1 kV w I (.slice a n c) xs)(h:xs[i]?=some x):∃b d,a=some ⟨b,d,none⟩/\w.cell? ⟨b,d+i,none⟩=some (.string x):=by
 obtain⟨b,d,j,e,-,rfl,-,g⟩:=f.get h;exact⟨b,d,e,by simpa using g.one⟩
theorem Kp.nI{D:Nat->Prop}{w:World}{b:Nat}(a:D b)(c d e f:Value):Kp D w ((((w.setCell b c).setCell (b,1) d).setCell (b,2) e).setCell (b,3) f):=
 (((((Kp.refl D w).setCell (p:=⟨b,0,none⟩) (fun _=>a) c).setCell (p:=⟨b,1,none⟩) (fun _=>a) d).setCell (p:=⟨b,2,none⟩) (fun _=>a) e).setCell (p:=⟨b,3,none⟩) (fun _=>a) f)
theorem hZ.nI{w:World}{b:Nat}{t:TypeId}{u0 u1 u2 u3:Value}(f:hZ w b t #[u0,u1,u2,u3])(a c d e:Value):hZ ((((w.setCell b a).setCell (b,1) c).setCell (b,2) d).setCell (b,3) e) b t #[a,c,d,e]:=by
 have g:hZ (w.setCell b a) b t #[a,u1,u2,u3]:=f.jy 0 a;have h:hZ ((w.setCell b a).setCell (b,1) c) b t #[a,c,u2,u3]:=g.jy 1 c;have i:hZ (((w.setCell b a).setCell (b,1) c).setCell (b,2) d) b t #[a,c,d,u3]:=h.jy 2 d;exact i.jy 3 e
def MN(m:Nat)(e:Ending):Prop:=∃op a n k b,e=.returned (.tuple #[.agg #[.int .i64 op,.int .i64 a,.string n,.string k],.bool b])/\n.size<=m/\k.size<=m
theorem I6 (s : ByteArray) {w: World} (hs : s.size <= 4000000000) : Calls prog 181 #[s] w fun b w' => MN s.size b /\ Ext w w' := by
 obtain⟨w0,aP,aK,hb⟩:=nu w #[Tc,Tc, "", ""] 140;have⟨aT,HB,aU⟩:=jB aK hb aP;clear aK hb aP;go_enter func181,ntmps181;go_wp2_with fail;rw[<-aU.o];refine(A9 s w0 hs).mono ?_;rintro b w1 ⟨⟨bG,rfl,hS⟩,aF⟩;obtain⟨bn,bq,rfl,aO,-⟩:=hS.form;obtain⟨x0,ak,aY⟩:=M.Ab s;have aI:Zz (∀aR∈M.words s,aR.size<=s.size):=Zy (fun aR hx=>M.Ji hx);rw[aY]at hS aO aI |-;obtain⟨aJ,bF,rfl,G⟩:=kV.at_ (i:=0) hS rfl;rw[U3]at G;obtain⟨V,U⟩:∃V,(x0::ak).length=V:=⟨_,rfl⟩;have bz:1<=V:=by rw[<-U];simp
 have HN:=Zy U;rw[U]at aO hS |-;have⟨HS,ag,aC⟩:=jB hS (HB.ext aF) (aT.trans aF);clear aF hS U;go_wp2;go_loopw [5] (fun i wr=>∃d:Nat,1<=d/\d<=16/\i=.int .i64 d/\Ext w1 wr) (fun i _=>16 - (intOf i).toNat)
 case atStart=>exact⟨1,T9 _,Zm,rfl,Kp.rr⟩
 case round =>
  obtain⟨d,k1,bE,rfl,hE⟩:=hrel;have gw:=hE.je G;have Y:=jc gw;have W:=Zy hE;clear hE;by_cases hk:d<=15
  . have aV : (d : Int) <= 15 := by omega
    obtain⟨bg,bu,bD,HT⟩:=ll wr;have r0:=fun bf=>(HT.jv bf).je gw;have au:=Zy HT;clear HT;go_wp2_with fail;refine jW au 6 [([0,2,3,4],1)] [5] ?_ ?_
    . exact jg
    refine lJ ?_;intro K2 az;go_wp2_with fail;refine(CE d Zm).mono ?_;rintro b a ⟨⟨aZ,rfl,ht⟩,aL⟩;have N:=Zy (((Kp.refl _ wr).drew).trans aL);clear aL;cases hq:(aZ.toList==x0.toList)
    . go_wp2_with fail;refine kk au az N ?_;clear az K2;refine rC ?_;go_wp2;go_round
      case rel=>exact⟨d+1,Zm,Zm,by go_num,W.o.trans N.o⟩
      case measure=>simp[intOf];omega
    . go_wp2_with fail;refine kk au az N ?_;clear az K2;refine rC ?_;obtain⟨w3,aB⟩:=SS (a.alloc (.cells #[d,Tc, "", ""] 140));have aM:Ext a w3:=by rw[aB];exact kx
      have ay:=(W.trans N).trans aM;have P:Zz (hZ w3 a 140 #[d,Tc, "", ""]):=Zy (by rw[aB];exact hZ.new _ _ _);have⟨L,X,aj,aD⟩:=jU (ag.ext ay) (aC.trans ay) (HS.ext kV.stays ay) aB;have af:(w:Nat)≠a:=SY ag.lt ((W.trans N).size)
      have aN:aJ≠a:=SX N.size
      have aa:Zz ((w:Nat)<a):=Zy (SY ag.lt ((W.trans N).size));clear aM ay aB G gw Y W N ag aC HS au r0 hq ht;have ae:=aI.o;rcases ak with _|⟨h,ak⟩
      . have U:V=1:=HN.symm;subst U;clear ae;rw[aD.o]at L P X;obtain⟨-,t,u,v,x,-⟩:=L.ca;obtain⟨n,o,p,q,-⟩:=L.fz;obtain⟨-,B,C,D,E,-⟩:=P.ca;obtain⟨G,f,H,S,-⟩:=P.fz;have y:=L.lt;have F:=P.lt;by_cases av:(30:Int)<s.size
        . go_wp2_with fail;refine Cv (iY mE rfl w rfl [Tc,Tc, "", ""] (hH.l7 (hZ.nI L _ _ _ _)) rfl) rfl ?_;exact⟨⟨_,_,_,_,_,rfl,SV _,SV _⟩,X.own (Kp.nI (D:=(·=w)) rfl _ _ _ _) (fun _ b=>Zm)⟩
        . have ax:s.size<=30:=Zm
          go_wp2_with fail;refine(rD d 0 ⟨#[]⟩ ⟨#[]⟩ _ Zm (SV _) (SV _)).mono ?_;rintro b w6 ⟨⟨T,rfl,-⟩,e⟩;have⟨c,z,A⟩:=jB (L.ext e) (P.ext e) (X.trans e);clear t u v x n o p q B C D E G f H S y F e;obtain⟨-,t,u,v,x,-⟩:=c.ca;obtain⟨n,o,p,q,-⟩:=c.fz;obtain⟨-,B,C,D,E,-⟩:=z.ca;have y:=c.lt;have F:=z.lt;cases aA:(T.toList==s.toList)
          . go_wp2_with fail;refine Cv (iY mE rfl w rfl [Tc,Tc, "", ""] (hH.l7 (hZ.nI c _ _ _ _)) rfl) rfl ?_;exact⟨⟨_,_,_,_,_,rfl,SV _,SV _⟩,A.own (Kp.nI (D:=(·=w)) rfl _ _ _ _) (fun _ b=>Zm)⟩
          . go_wp2_with fail;refine Cv (iY mE rfl w rfl [d,Tc, "", ""] (hH.l7 (hZ.nI c _ _ _ _)) rfl) rfl ?_;exact⟨⟨_,_,_,_,_,rfl,SV _,SV _⟩,A.own (Kp.nI (D:=(·=w)) rfl _ _ _ _) (fun _ b=>Zm)⟩
      . rcases ak with _|⟨K,ak⟩
        . obtain⟨_,_,e1,f⟩:=kV.at_ (i:=1) aj rfl;cases e1;have aH:=ae h Zl;have U:V=2:=HN.symm;subst U;have Y:=jc f;clear ae aj;rw[aD.o]at L P X f Y;go_wp2_with fail;refine(rE h Zm).mono ?_;rintro b g ⟨⟨r,ok,rfl,-,aW,aX⟩,I⟩;have⟨O,j,ah⟩:=jB (L.ext I) (P.ext I) (X.trans I);have h1:=I.je f;have hz:=jc h1;clear I f Y;have aG:aJ≠a:=aN;have v0:=j.frozen 0;have v1:=j.frozen 1;have v2:=j.frozen 2;have v3:=j.frozen 3;have vz:=j.lt;obtain⟨pz,q0,q1,q2,q3,-⟩:=O.ca;obtain⟨p0,p1,p2,p3,-⟩:=O.fz;obtain⟨-,l0,l1,l2,l3,-⟩:=j.ca;cases ok
          . have l:Kp (·=a) g (g.setCell (a,2) h):=nH;have k:Zz (hZ (g.setCell (a,2) h) a 140 #[d,Tc,h, ""]):=Zy (j.jy 2 _);have⟨m,R⟩:=jf (O.kp l af) (ah.own l (fun _ b=>SX aa.o));clear l;obtain⟨-,t,u,v,x,-⟩:=m.ca;obtain⟨n,o,p,q,-⟩:=m.fz;obtain⟨-,B,C,D,E,-⟩:=k.ca;obtain⟨G,f,H,S,-⟩:=k.fz;have y:=m.lt;have F:=k.lt;by_cases av:(30:Int)<s.size
            . go_wp2_with fail;refine Cv (iY mE rfl w rfl [Tc,Tc, "", ""] (hH.l7 (hZ.nI m _ _ _ _)) rfl) rfl ?_;exact⟨⟨_,_,_,_,_,rfl,SV _,SV _⟩,R.own (Kp.nI (D:=(·=w)) rfl _ _ _ _) (fun _ b=>Zm)⟩
            . have ax:s.size<=30:=Zm
              go_wp2_with fail;refine(rD d 0 h ⟨#[]⟩ _ Zm Zm (SV _)).mono ?_;rintro b w6 ⟨⟨T,rfl,-⟩,e⟩;have⟨c,z,A⟩:=jB (m.ext e) (k.ext e) (R.trans e);clear t u v x n o p q B C D E G f H S y F e;obtain⟨-,t,u,v,x,-⟩:=c.ca;obtain⟨n,o,p,q,-⟩:=c.fz;obtain⟨-,B,C,D,E,-⟩:=z.ca;have y:=c.lt;have F:=z.lt;cases aA:(T.toList==s.toList)
              . go_wp2_with fail;refine Cv (iY mE rfl w rfl [Tc,Tc, "", ""] (hH.l7 (hZ.nI c _ _ _ _)) rfl) rfl ?_;exact⟨⟨_,_,_,_,_,rfl,SV _,SV _⟩,A.own (Kp.nI (D:=(·=w)) rfl _ _ _ _) (fun _ b=>Zm)⟩
              . go_wp2_with fail;refine Cv (iY mE rfl w rfl [d,Tc,h, ""] (hH.l7 (hZ.nI c _ _ _ _)) rfl) rfl ?_;exact⟨⟨_,_,_,_,_,rfl,aH,SV _⟩,A.own (Kp.nI (D:=(·=w)) rfl _ _ _ _) (fun _ b=>Zm)⟩
          . have l:Kp (·=a) g (g.setCell (a,1) r):=nH;have k:Zz (hZ (g.setCell (a,1) r) a 140 #[d,r, "", ""]):=Zy (j.jy 1 _);have⟨m,R⟩:=jf (O.kp l af) (ah.own l (fun _ b=>SX aa.o));clear l;obtain⟨-,t,u,v,x,-⟩:=m.ca;obtain⟨n,o,p,q,-⟩:=m.fz;obtain⟨-,B,C,D,E,-⟩:=k.ca;obtain⟨G,f,H,S,-⟩:=k.fz;have y:=m.lt;have F:=k.lt;by_cases av:(30:Int)<s.size
            . go_wp2_with fail;refine Cv (iY mE rfl w rfl [Tc,Tc, "", ""] (hH.l7 (hZ.nI m _ _ _ _)) rfl) rfl ?_;exact⟨⟨_,_,_,_,_,rfl,SV _,SV _⟩,R.own (Kp.nI (D:=(·=w)) rfl _ _ _ _) (fun _ b=>Zm)⟩
            . have ax:s.size<=30:=Zm
              go_wp2_with fail;refine(rD d r ⟨#[]⟩ ⟨#[]⟩ _ Zm (SV _) (SV _)).mono ?_;rintro b w6 ⟨⟨T,rfl,-⟩,e⟩;have⟨c,z,A⟩:=jB (m.ext e) (k.ext e) (R.trans e);clear t u v x n o p q B C D E G f H S y F e;obtain⟨-,t,u,v,x,-⟩:=c.ca;obtain⟨n,o,p,q,-⟩:=c.fz;obtain⟨-,B,C,D,E,-⟩:=z.ca;have y:=c.lt;have F:=z.lt;cases aA:(T.toList==s.toList)
              . go_wp2_with fail;refine Cv (iY mE rfl w rfl [Tc,Tc, "", ""] (hH.l7 (hZ.nI c _ _ _ _)) rfl) rfl ?_;exact⟨⟨_,_,_,_,_,rfl,SV _,SV _⟩,A.own (Kp.nI (D:=(·=w)) rfl _ _ _ _) (fun _ b=>Zm)⟩
              . go_wp2_with fail;refine Cv (iY mE rfl w rfl [d,r, "", ""] (hH.l7 (hZ.nI c _ _ _ _)) rfl) rfl ?_;exact⟨⟨_,_,_,_,_,rfl,SV _,SV _⟩,A.own (Kp.nI (D:=(·=w)) rfl _ _ _ _) (fun _ b=>Zm)⟩
        . obtain⟨_,_,e1,f⟩:=kV.at_ (i:=1) aj rfl;cases e1;have aH:=ae h Zl;obtain⟨_,_,e1,H⟩:=kV.at_ (i:=2) aj rfl;cases e1;have aQ:=ae K Zl;have bA:3<=V:=by have:=HN.o;simp at this;omega
          have bB:(1:Int)<V:=Zm
          have bC:(2:Int)<V:=Zm
          have Y:=jc f;clear ae aj;rw[aD.o]at L P X f Y H;go_wp2_with fail;refine(rE h Zm).mono ?_;rintro b g ⟨⟨r,ok,rfl,-,aW,aX⟩,I⟩;have⟨O,j,ah⟩:=jB (L.ext I) (P.ext I) (X.trans I);have h1:=I.je f;have hz:=jc h1;have h2:=I.je H;clear I f Y H;have aG:=aN;have v0:=j.frozen 0;have v1:=j.frozen 1;have v2:=j.frozen 2;have v3:=j.frozen 3;have vz:=j.lt;obtain⟨pz,q0,q1,q2,q3,-⟩:=O.ca;obtain⟨p0,p1,p2,p3,-⟩:=O.fz;obtain⟨-,l0,l1,l2,l3,-⟩:=j.ca;cases ok
          . have l:Kp (·=a) g (g.setCell (a,2) h):=nH;have k:Zz (hZ (g.setCell (a,2) h) a 140 #[d,Tc,h, ""]):=Zy (j.jy 2 _);have⟨m,R⟩:=jf (O.kp l af) (ah.own l (fun _ b=>SX aa.o));have h3:=l.lL h2 aG;have y3:=k.c 3 "" rfl;have x3:=k.frozen 3;have Z:Kp (·=a) (g.setCell (a,2) h) ((g.setCell (a,2) h).setCell (a,3) K):=nH;have Q:Zz (hZ ((g.setCell (a,2) h).setCell (a,3) K) a 140 #[d,Tc,h,K]):=Zy (k.jy 3 _);have⟨J,ai⟩:=jf (m.kp Z af) (R.own Z (fun _ b=>SX aa.o));clear Z;clear l;obtain⟨-,t,u,v,x,-⟩:=J.ca;obtain⟨n,o,p,q,-⟩:=J.fz;obtain⟨-,B,C,D,E,-⟩:=Q.ca;obtain⟨G,f,H,S,-⟩:=Q.fz;have y:=J.lt;have F:=Q.lt;by_cases av:(30:Int)<s.size
            . go_wp2_with fail;refine Cv (iY mE rfl w rfl [Tc,Tc, "", ""] (hH.l7 (hZ.nI J _ _ _ _)) rfl) rfl ?_;exact⟨⟨_,_,_,_,_,rfl,SV _,SV _⟩,ai.own (Kp.nI (D:=(·=w)) rfl _ _ _ _) (fun _ b=>Zm)⟩
            . have ax:s.size<=30:=Zm
              go_wp2_with fail;refine(rD d 0 h K _ Zm Zm Zm).mono ?_;rintro b w6 ⟨⟨T,rfl,-⟩,e⟩;have⟨c,z,A⟩:=jB (J.ext e) (Q.ext e) (ai.trans e);clear t u v x n o p q B C D E G f H S y F e;obtain⟨-,t,u,v,x,-⟩:=c.ca;obtain⟨n,o,p,q,-⟩:=c.fz;obtain⟨-,B,C,D,E,-⟩:=z.ca;have y:=c.lt;have F:=z.lt;cases aA:(T.toList==s.toList)
              . go_wp2_with fail;refine Cv (iY mE rfl w rfl [Tc,Tc, "", ""] (hH.l7 (hZ.nI c _ _ _ _)) rfl) rfl ?_;exact⟨⟨_,_,_,_,_,rfl,SV _,SV _⟩,A.own (Kp.nI (D:=(·=w)) rfl _ _ _ _) (fun _ b=>Zm)⟩
              . go_wp2_with fail;refine Cv (iY mE rfl w rfl [d,Tc,h,K] (hH.l7 (hZ.nI c _ _ _ _)) rfl) rfl ?_;exact⟨⟨_,_,_,_,_,rfl,aH,aQ⟩,A.own (Kp.nI (D:=(·=w)) rfl _ _ _ _) (fun _ b=>Zm)⟩
          . have l:Kp (·=a) g (g.setCell (a,1) r):=nH;have k:Zz (hZ (g.setCell (a,1) r) a 140 #[d,r, "", ""]):=Zy (j.jy 1 _);have⟨m,R⟩:=jf (O.kp l af) (ah.own l (fun _ b=>SX aa.o));have h3:=l.lL h2 aG;have y3:=k.c 3 "" rfl;have x3:=k.frozen 3;have Z:Kp (·=a) (g.setCell (a,1) r) ((g.setCell (a,1) r).setCell (a,3) K):=nH;have Q:Zz (hZ ((g.setCell (a,1) r).setCell (a,3) K) a 140 #[d,r, "",K]):=Zy (k.jy 3 _);have⟨J,ai⟩:=jf (m.kp Z af) (R.own Z (fun _ b=>SX aa.o));clear Z;clear l;obtain⟨-,t,u,v,x,-⟩:=J.ca;obtain⟨n,o,p,q,-⟩:=J.fz;obtain⟨-,B,C,D,E,-⟩:=Q.ca;obtain⟨G,f,H,S,-⟩:=Q.fz;have y:=J.lt;have F:=Q.lt;by_cases av:(30:Int)<s.size
            . go_wp2_with fail;refine Cv (iY mE rfl w rfl [Tc,Tc, "", ""] (hH.l7 (hZ.nI J _ _ _ _)) rfl) rfl ?_;exact⟨⟨_,_,_,_,_,rfl,SV _,SV _⟩,ai.own (Kp.nI (D:=(·=w)) rfl _ _ _ _) (fun _ b=>Zm)⟩
            . have ax:s.size<=30:=Zm
              go_wp2_with fail;refine(rD d r ⟨#[]⟩ K _ Zm (SV _) Zm).mono ?_;rintro b w6 ⟨⟨T,rfl,-⟩,e⟩;have⟨c,z,A⟩:=jB (J.ext e) (Q.ext e) (ai.trans e);clear t u v x n o p q B C D E G f H S y F e;obtain⟨-,t,u,v,x,-⟩:=c.ca;obtain⟨n,o,p,q,-⟩:=c.fz;obtain⟨-,B,C,D,E,-⟩:=z.ca;have y:=c.lt;have F:=z.lt;cases aA:(T.toList==s.toList)
              . go_wp2_with fail;refine Cv (iY mE rfl w rfl [Tc,Tc, "", ""] (hH.l7 (hZ.nI c _ _ _ _)) rfl) rfl ?_;exact⟨⟨_,_,_,_,_,rfl,SV _,SV _⟩,A.own (Kp.nI (D:=(·=w)) rfl _ _ _ _) (fun _ b=>Zm)⟩
              . go_wp2_with fail;refine Cv (iY mE rfl w rfl [d,r, "",K] (hH.l7 (hZ.nI c _ _ _ _)) rfl) rfl ?_;exact⟨⟨_,_,_,_,_,rfl,SV _,aQ⟩,A.own (Kp.nI (D:=(·=w)) rfl _ _ _ _) (fun _ b=>Zm)⟩
  . have aV:¬(d:Int)<=15:=Zm
    have hB:=ag.ext W;obtain⟨-,t,u,v,x,-⟩:=hB.ca;obtain⟨n,o,p,q,-⟩:=hB.fz;have⟨aS,N⟩:=jf hB (aC.trans W);have y:=hB.lt;clear hB;go_wp2_with fail;refine Cv (iY mE rfl w rfl [Tc,Tc, "", ""] (hH.l7 (hZ.nI aS _ _ _ _)) rfl) rfl ?_;exact⟨⟨_,_,_,_,_,rfl,SV _,SV _⟩,N.own (Kp.nI (D:=(·=w)) rfl _ _ _ _) (fun _ b=>Zm)⟩
theorem tQ:yH 209 2:=⟨_,underlying209,by kernel_rfl⟩
theorem Af:yH 150 2:=⟨_,underlying150,by kernel_rfl⟩
theorem yK:yH 216 3:=⟨_,underlying216,by kernel_rfl⟩
theorem uo:yH 47 4:=⟨_,underlying47,by kernel_rfl⟩
theorem yC(s:ByteArray){w:World}:Calls prog 197 #[s] w fun a b=>RN s.size a/\Ext w b:=by
 cases c:(s.toList==[63])
 . cases d:(s.toList==[35])
   . cases e:(s.toList==[33])
     . go_enter func197,ntmps197;go_wp2_with fail;refine(lM s _).mono ?_;rintro a f ⟨rfl,rfl⟩;go_wp2_with fail;refine Cv (iY tQ rfl w rfl [.int .i64 2,s] (hH.nL _ _ rfl) rfl) rfl ?_;exact⟨⟨_,_,_,rfl,T9 _⟩,kx⟩
     . go_enter func197,ntmps197;go_wp2_with fail;refine Cv (iY tQ rfl w rfl [.int .i64 3, ""] (hH.nL _ _ rfl) rfl) rfl ?_;exact⟨⟨_,_,_,rfl,SV _⟩,kx⟩
   . go_enter func197,ntmps197;go_wp2_with fail;refine Cv (iY tQ rfl w rfl [.int .i64 1, ""] (hH.nL _ _ rfl) rfl) rfl ?_;exact⟨⟨_,_,_,rfl,SV _⟩,kx⟩
 . go_enter func197,ntmps197;go_wp2_with fail;refine Cv (iY tQ rfl w rfl [Tc, ""] (hH.nL _ _ rfl) rfl) rfl ?_;exact⟨⟨_,_,_,rfl,SV _⟩,kx⟩
theorem Kp.BM{D:Nat->Prop}{w:World}{b:Nat}(a:D b)(c d e:Value):Kp D w (((w.setCell b c).setCell (b,1) d).setCell (b,2) e):=
 ((((Kp.refl D w).setCell (p:=⟨b,0,none⟩) (fun _=>a) c).setCell (p:=⟨b,1,none⟩) (fun _=>a) d).setCell (p:=⟨b,2,none⟩) (fun _=>a) e)
theorem hZ.BM{w:World}{b:Nat}{t:TypeId}{u0 u1 u2:Value}(e:hZ w b t #[u0,u1,u2])(a c d:Value):hZ (((w.setCell b a).setCell (b,1) c).setCell (b,2) d) b t #[a,c,d]:=by
 have f:hZ (w.setCell b a) b t #[a,u1,u2]:=e.jy 0 a;have g:hZ ((w.setCell b a).setCell (b,1) c) b t #[a,c,u2]:=f.jy 1 c;exact g.jy 2 d
def Qy(m:Nat)(e:Ending):Prop:=∃n k s b,e=.returned (.tuple #[.agg #[.string n,.int .i64 k,.string s],.bool b])/\n.size<=m/\s.size<=m
theorem Ed{n:Nat}(a:n≠3):((n:Int)==3)=false/\((n:Int) !=3)=true:=by
 have:(n:Int)≠3:=Zm
 exact⟨SF.2 this,by simp[this]⟩
theorem Fs(xs:List ByteArray){v:Value}(m:Nat){I:Nat->Prop}{w:World}(a:SliceOf 1 kV w I v xs)(g:∀T∈xs,T.size<=m):Calls prog 178 #[v] w fun e R=>Qy m e/\Ext w R:=by
 obtain⟨V,X,rfl,k,-⟩:=a.form;by_cases o:xs.length=3
 . match xs,o,a,g,k with
   | [x0, x1, x2], _, a, g, k =>
    obtain⟨b,ae,rfl,s⟩:=kV.at_ (i:=1) a rfl;obtain⟨_,_,K,g2⟩:=kV.at_ (i:=2) a rfl;cases K;have hz:=jc s;have P:=g x1 Zl;have Q:=g x2 Zl;have c:=fun H=>Zy (lM x1 H);clear a g;simp only[TE,Uj]at k |-;cases t:jJ x1
    . simp only[t]at c;go_enter func178,ntmps178;go_wp2_with fail;refine(c _).o.mono ?_;rintro e S ⟨rfl,rfl⟩;go_wp2_with fail;refine Cv (iY yK rfl w rfl ["",Tc, ""] (hH.nL _ _ rfl) rfl) rfl ?_;exact⟨⟨_,_,_,_,rfl,SV _,SV _⟩,kx⟩
    . simp only[t]at c;go_enter func178,ntmps178;go_wp2_with fail;refine(c _).o.mono ?_;rintro e S ⟨rfl,rfl⟩;go_wp2_with fail;refine(yB x2).mono ?_;rintro e C ⟨⟨l,n,W,rfl,O⟩,f⟩;obtain⟨q,A,i,p⟩:=nu C #[l,n] 128;have j:=(hZ.new w 216 #["",Tc, ""]).ext (f.trans i);have L:=((((Kp.refl _ w).alloc _).trans f).trans i).je s;have N:b≠w:=Zm
      have z:(C:Nat)≠w:=by have:=f.size;simp at this;omega
      obtain⟨-,z0,z1,z2,-⟩:=j.ca;obtain⟨Z,f1,f2,-⟩:=j.fz;have⟨D,E,F⟩:=jB j ((((Kp.refl _ w).alloc _).trans f).trans i) A;obtain⟨U,Y,aa,d⟩:=qC.ex (fun J=>Kp (·=w) q J) q Kp.rr;have r1:=fun h=>(d.jv h).lL L N;have r2:=fun h=>(d.jv h).lL (p.c 0 l rfl) z;have r3:=fun h=>(d.jv h).lL (p.c 1 n rfl) z;have r:=Zy d;clear d f i A j p c;go_wp2_with fail;rw[<-F.o];refine jW r 7 [([0,1,2,3,4,5],6)] [] ?_ ?_
      . exact jg
      refine lJ ?_;intro G u;go_wp2_with fail;have x:=(Kp.BM (D:=(·=w)) (w:=q) (b:=w.heap.size) rfl x1 l n).drew;refine kk r u x ?_;clear u G;refine ku ?_;go_wp2_with fail;refine Cv (iY yK rfl w rfl [x1,l,n] (hH.l7 ((hZ.BM D _ _ _).ext (jg))) rfl) rfl ?_;exact⟨⟨_,_,_,_,rfl,P,TL O Q⟩,E.own x (fun _ e=>Zm)⟩
 . obtain⟨B,y⟩:∃B,xs.length=B:=⟨_,rfl⟩;rw[y]at o k |-;obtain⟨n1,n2⟩:=Ed o;clear y a;go_enter func178,ntmps178;go_wp2_with fail
   all_goals
    refine Cv (iY yK rfl w rfl ["",Tc, ""] (hH.nL _ _ rfl) rfl) rfl ?_;exact⟨⟨_,_,_,_,rfl,SV _,SV _⟩,kx⟩
theorem Kp.Em{D:Nat->Prop}{w:World}{b:Nat}(a:D b)(c d:Value):Kp D w ((w.setCell b c).setCell (b,1) d):=
 (((Kp.refl D w).setCell (p:=⟨b,0,none⟩) (fun _=>a) c).setCell (p:=⟨b,1,none⟩) (fun _=>a) d)
theorem hZ.Em{w:World}{b:Nat}{t:TypeId}{u0 u1:Value}(d:hZ w b t #[u0,u1])(a c:Value):hZ ((w.setCell b a).setCell (b,1) c) b t #[a,c]:=by
 have e:hZ (w.setCell b a) b t #[a,u1]:=d.jy 0 a;exact e.jy 1 c
def Sr(m:Nat)(e:Ending):Prop:=∃n k b,e=.returned (.tuple #[.agg #[.string n,.int .i64 k],.bool b])/\n.size<=m
theorem G6 (xs : List ByteArray) {v: Value} (m : Nat) (Q : m <= 4000000000) {I: Nat -> Prop} {w: World} (h : SliceOf 1 kV w I v xs) (i : ∀ F ∈ xs, F.size <= m) :Calls prog 132 #[v] w fun f E=>Sr m f/\Ext w E:=by
 obtain⟨J,K,rfl,n,-⟩:=h.form;by_cases s:xs.length=3
 . match xs,s,h,i,n with
   | [x0, x1, x2], _, h, i, n =>
    obtain⟨b,W,rfl,r⟩:=kV.at_ (i:=1) h rfl;obtain⟨_,_,z,B⟩:=kV.at_ (i:=2) h rfl;cases z;have T:=jc r;have u:=i x1 Zl;have S:=i x2 Zl;clear h i;simp only[TE,Uj]at n |-;go_enter func132,ntmps132;go_wp2_with fail;refine(rE x2 Zm).mono ?_;rintro f j ⟨⟨d,D,rfl,-,-,-⟩,t⟩;have l:=(hZ.new w 150 #["",Tc]).ext t;have k:=Zy (((Kp.refl _ w).alloc _).trans t);have A:=k.je r;have C:b≠w:=Zm
    obtain⟨-,Y,Z,-⟩:=l.ca;obtain⟨M,N,-⟩:=l.fz;have p:=Zy l;obtain⟨H,L,R,q⟩:=qC.ex (fun y=>Kp (·=w) j y) j Kp.rr;have X:=fun G=>(q.jv G).lL A C;have e:=Zy q;clear q t l r B;cases D
    . go_wp2_with fail;refine jW e 17 [([0,1,2,3,4,5,6,7,8,9,10,11,12,13],14),([15],16)] [] ?_ ?_
      . exact jg
      refine lJ ?_;intro c a;go_wp2_with (go_at_call 177;refine(lM x1 _).mono ?_;rintro f x ⟨rfl,rfl⟩);refine kk e a jg ?_;clear a c;refine lJ ?_;intro c a;go_wp2_with fail;have g:=(Kp.Em (D:=(·=w)) (w:=j) (b:=w.heap.size) rfl x1 (.int .i64 d)).drew;refine kk e a g ?_;clear a c;refine ku ?_;go_wp2_with fail;refine Cv (iY Af rfl w rfl [x1,.int .i64 d] (hH.l7 ((hZ.Em p _ _).ext (jg))) rfl) rfl ?_;exact⟨⟨_,_,_,rfl,u⟩,k.own g (fun _ f=>Zm)⟩
    . by_cases o:0<=d
      . go_wp2_with fail;refine jW e 17 [([0,1,2,3,4,5,6,7,8,9,10,11,12,13],14),([15],16)] [] ?_ ?_
        . exact jg
        refine lJ ?_;intro c a;go_wp2_with (go_at_call 177;refine(lM x1 _).mono ?_;rintro f x ⟨rfl,rfl⟩);refine kk e a jg ?_;clear a c;refine lJ ?_;intro c a;go_wp2_with fail;have g:=(Kp.Em (D:=(·=w)) (w:=j) (b:=w.heap.size) rfl x1 (.int .i64 d)).drew;refine kk e a g ?_;clear a c;refine ku ?_;go_wp2_with fail;refine Cv (iY Af rfl w rfl [x1,.int .i64 d] (hH.l7 ((hZ.Em p _ _).ext (jg))) rfl) rfl ?_;exact⟨⟨_,_,_,rfl,u⟩,k.own g (fun _ f=>Zm)⟩
      . have O:=SL o;have P:d<0:=Zm
        go_wp2_with fail;refine jW e 17 [([0,1,2,3,4,5,6,7,8,9,10,11,12,13],14),([15],16)] [] ?_ ?_
        . exact jg
        refine lJ ?_;intro c a;go_wp2_with (go_at_call 177;refine(lM x1 _).mono ?_;rintro f x ⟨rfl,rfl⟩);refine kk e a jg ?_;clear a c;refine lJ ?_;intro c a;go_wp2_with fail;have g:=(Kp.Em (D:=(·=w)) (w:=j) (b:=w.heap.size) rfl x1 (.int .i64 d)).drew;refine kk e a g ?_;clear a c;refine ku ?_;go_wp2_with fail;refine Cv (iY Af rfl w rfl [x1,.int .i64 d] (hH.l7 ((hZ.Em p _ _).ext (jg))) rfl) rfl ?_;exact⟨⟨_,_,_,rfl,u⟩,k.own g (fun _ f=>Zm)⟩
 . obtain⟨d,o⟩:∃d,xs.length=d:=⟨_,rfl⟩;rw[o]at s n |-;obtain⟨U,V⟩:=Ed s;clear o h;go_enter func132,ntmps132;go_wp2_with fail
   all_goals
    refine Cv (iY Af rfl w rfl ["",Tc] (hH.nL _ _ rfl) rfl) rfl ?_;exact⟨⟨_,_,_,rfl,SV _⟩,kx⟩
def Jr(m:Nat)(e:Ending):Prop:=∃n s b,e=.returned (.tuple #[.agg #[.string n,.string s,.slice none 0 0,.slice none 0 0],.bool b])/\n.size<=m/\s.size<=m
theorem Fq (xs : List ByteArray) {v: Value} (m : Nat) {I: Nat -> Prop} {w: World} (c : SliceOf 1 kV w I v xs) (e : ∀ E ∈ xs, E.size <= m) :Calls prog 133 #[v] w fun b C=>Jr m b/\Ext w C:=by
 obtain⟨F,G,rfl,f,-⟩:=c.form;by_cases j:xs.length=3
 . match xs,j,c,e,f with
   | [x0, x1, x2], _, c, e, f =>
    obtain⟨h,O,rfl,u⟩:=kV.at_ (i:=1) c rfl;obtain⟨_,_,t,H⟩:=kV.at_ (i:=2) c rfl;cases t;have K:=jc u;have A:=e x1 Zl;have B:=e x2 Zl;have d:=fun a=>Zy (lM x1 a);have g:=fun a=>Zy (lM x2 a);clear c e;simp only[TE,Uj]at f |-;have r:∀(a:World) (h:Bool),Ext w a->Jr m (.returned (.tuple #[.agg #["", "",(),()],.bool h]))/\Ext w a:=fun a h i=>⟨⟨_,_,_,rfl,SV _,SV _⟩,i⟩;have s:∀(a:World) (k:ByteArray),k.size<=m->Ext w a->Jr m (.returned (.tuple #[.agg #[x1,k,(),()],.bool true]))/\Ext w a:=fun a k z i=>⟨⟨_,_,_,rfl,A,z⟩,i⟩;have⟨n,o⟩:=jf r s;clear r s;cases x:jJ x1<;>simp only[x]at d
    . go_enter func133,ntmps133;go_wp2_with (go_at_call 177;refine(d _).o.mono ?_;rintro b l ⟨rfl,rfl⟩);refine Cv (iY uo rfl w rfl ["", "",(),()] (hH.nL _ _ rfl) rfl) rfl ?_;exact n _ _ kx
    . cases J:(x2.toList==[45])
      . cases y:jJ x2<;>simp only[y]at g
        . go_enter func133,ntmps133;go_wp2_with fail;refine(d _).o.mono ?_;rintro b l ⟨rfl,rfl⟩;go_wp2_with fail;refine(g _).o.mono ?_;rintro b D ⟨rfl,rfl⟩;go_wp2_with fail;refine Cv (iY uo rfl w rfl ["", "",(),()] (hH.nL _ _ rfl) rfl) rfl ?_;exact n _ _ kx
        . go_enter func133,ntmps133;go_wp2_with fail;refine(d _).o.mono ?_;rintro b l ⟨rfl,rfl⟩;go_wp2_with fail;refine(g _).o.mono ?_;rintro b D ⟨rfl,rfl⟩;go_wp2_with fail;refine Cv (iY uo rfl w rfl [x1,x2,(),()] (hH.l7 ((hZ.new w _ _).ext (jw _))) rfl) rfl ?_;exact o _ _ B kx
      . go_enter func133,ntmps133;go_wp2_with (go_at_call 177;refine(d _).o.mono ?_;rintro b l ⟨rfl,rfl⟩);refine Cv (iY uo rfl w rfl [x1, "",(),()] (hH.l7 ((hZ.new w _ _).ext (jw _))) rfl) rfl ?_;exact o _ _ (SV _) kx
 . obtain⟨q,p⟩:∃q,xs.length=q:=⟨_,rfl⟩;rw[p]at j f |-;obtain⟨L,N⟩:=Ed j;clear p c;go_enter func133,ntmps133;go_wp2_with fail
   all_goals
    refine Cv (iY uo rfl w rfl ["", "",(),()] (hH.nL _ _ rfl) rfl) rfl ?_;exact⟨⟨_,_,_,rfl,SV _,SV _⟩,kx⟩
theorem tO:yH 137 3:=⟨_,underlying137,by kernel_rfl⟩
def Gd(w w':World)(e:Ending):Prop:=∃x c0 c1 c2 b,e=.returned (.tuple #[.agg #[c0,c1,c2],.bool b])/\kM w' (fun b=>w.heap.size<=b/\b<w'.heap.size) x [c0,c1,c2]
theorem Gd.zero(w a:World)(b:Bool):Gd w a (.returned (.tuple #[.agg #[Tc,(),()],.bool b])):=
 ⟨⟨0,[],[]⟩,_,_,_,b,rfl,_,_,rfl,SliceOf.nil _ _ _ _,SliceOf.nil _ _ _ _⟩
theorem I9 (xs : List ByteArray) {v: Value} (m : Nat) (hm : m <= 4000000000) {I: Nat -> Prop} {w: World} (X : SliceOf 1 kV w I v xs) (aZ : ∀ b ∈ xs, b.size <= m) :Calls prog 180 #[v] w fun c w'=>Gd w w' c/\Ext w w':=by
 obtain⟨bf,bg,rfl,aY,-⟩:=X.form;obtain⟨s,hn⟩:∃s,xs.length=s:=⟨_,rfl⟩;rw[hn]at aY X |-;by_cases h3:s<3
 . have d3:(s:Int)<3:=Zm
   clear hn X;go_enter func180,ntmps180;go_wp2_with fail
   all_goals
    refine Cv (iY tO rfl w rfl [Tc,(),()] (hH.nL _ _ rfl) rfl) rfl ?_;exact⟨Gd.zero _ _ _,kx⟩
 by_cases bn:15<s
 . have d3:¬(s:Int)<3:=Zm
   have aW:(15:Int)<s:=Zm
   clear hn X;go_enter func180,ntmps180;go_wp2_with fail
   all_goals
    refine Cv (iY tO rfl w rfl [Tc,(),()] (hH.nL _ _ rfl) rfl) rfl ?_;exact⟨Gd.zero _ _ _,kx⟩
 have d3:¬(s:Int)<3:=Zm
 have aW:¬(15:Int)<s:=Zm
 obtain⟨x1,aF⟩:∃b,xs[1]?=some b:=⟨xs[1]'Zm,Ou Zm⟩;obtain⟨u,bC,rfl,K⟩:=kV.at_ X aF;have gz:=jc K;have bB:=aZ x1 (RA aF);have⟨HV,HN,HX⟩:=jB X hn aF;clear X hn aF;obtain⟨w0,aD⟩:=SS (w.alloc (.cells #[Tc,(),()] 137));have aH:Ext w w0:=by rw[aD];exact kx
 have HB:Zz (hZ w0 w 137 #[Tc,(),()]):=Zy (by rw[aD];exact hZ.new _ _ _);have aQ:=aH.je K;have aX:=jc aQ;have⟨aO,aU⟩:=jf aH aD;clear aH aD;go_enter func180,ntmps180;go_wp2_with fail;rw[<-aU.o];go_wp2_with fail;refine(rE x1 Zm).mono ?_;rintro c h ⟨⟨E,ok,rfl,-,-,-⟩,ag⟩;obtain⟨w3,aA⟩:=SS (h.alloc (.cells #[E,(),()] 137));have aJ:Ext h w3:=by rw[aA];exact kx
 have aS:Zz (hZ w3 h 137 #[E,(),()]):=Zy (by rw[aA];exact hZ.new _ _ _);have aI:=(aO.trans ag).trans aJ;have⟨aR,aB,aT⟩:=jB (HB.ext (ag.trans aJ)) aI (HV.ext kV.stays aI);have Z:Zz (w3.heap.size=h+1):=Zy (by rw[aA];simp);have bA:u<h.heap.size:=SX ((aO.trans ag).size)
 have bu:=(HB.ext ag).lt;have aV:=Zy aA;clear ag aJ aI aA aQ aX K gz;go_wp2_with fail;rw[<-aV.o];go_loopw [7,8] (fun x aN wr=>∃(bh:Bool) (r:Nat) (vl vs:Value) (f a:List Tag),2<=r/\r<=s/\x=.bool bh/\aN=.int .i64 r/\f.length+a.length<=r/\hZ wr h 137 #[E,vl,vs]/\
     wr.ownsRow (h+1) 209 2 vl f.length (f.flatMap mg)/\wr.ownsRow (h+1) 209 2 vs a.length (a.flatMap mg)/\(∀u,vl.ownBlock=some u->vs.ownBlock≠some u)/\Kp (·=h) w3 wr) (fun _ aN _=>s - (intOf aN).toNat)
 case atStart=>
  exact⟨false,2,_,_,[],[],T9 _,Zm,rfl,rfl,by simp,aS.o,⟨rfl,.inl ⟨rfl,rfl⟩⟩,⟨rfl,.inl ⟨rfl,rfl⟩⟩,(fun _ x=>by cases x),Kp.rr⟩
 case round =>
  obtain⟨bh,r,vl,vs,f,a,k2,kn,rfl,rfl,bz,hC,aL,aM,hd,aK⟩:=hrel;obtain⟨S,T,rfl⟩:=jA aL;obtain⟨F,G,rfl⟩:=jA aM;have⟨L,Y,J,D,V,H⟩:=nE (aR.kp aK Zm) hC aL aM hd aK;clear hC aL aM hd aK;by_cases bq:r<s
  . have dk:(r:Int)<s:=Zm
    obtain⟨b,hx⟩:∃b,xs[r]?=some b:=⟨xs[r]'(SX HN.o),Ou (SX HN.o)⟩;obtain⟨_,_,n,K⟩:=kV.at_ aT hx;cases n;have gk:=H.lL K Zm;have gz:=jc gk;clear K hx;cases hq:(b.toList==[47])
    . cases bh
      . go_wp2_with fail;refine(yC b).mono ?_;rintro c j ⟨⟨e,d,af,rfl,hs⟩,A⟩;obtain⟨t,l⟩:=SS (j.alloc (.cells #[e,d] 209));have P:Ext j t:=by rw[l];exact kx
        have z:Zz (hZ t j 209 #[e,d]):=Zy (by rw[l];exact hZ.new _ _ _);have k:=A.trans P;have⟨o,p,N⟩:=jB (L.ext k) (Y.ext k) (H.trans k.any);have aa:=Zy (aB.own N (fun _ c=>Zm));have ae:=Zy A.size;have aP:=Zy z.o.lt;have Q:=k;clear A P k;obtain⟨-,z0,z1,z2,-⟩:=o.ca;obtain⟨f0,f1,f2,-⟩:=o.fz;obtain⟨-,c0,c1,c2,-⟩:=p.ca;obtain⟨g0,K,g2,-⟩:=p.fz;obtain⟨-,y0,y1,-⟩:=z.ca;have z5:=o.lt;have c5:=p.lt;have y5:=z.lt;cases af
        . subst l;go_wp2_with fail;refine Cv (iY tO rfl w rfl [Tc,(),()] (hH.l7 (hZ.BM o _ _ _)) rfl) rfl ?_;exact⟨Gd.zero _ _ _,aa.own (Kp.BM (D:=(·=w)) rfl _ _ _) (fun _ c=>Zm)⟩
        . have R:Ext wr ((j.alloc (.cells #[e,d] 209)).alloc (.cells #[e,d] 209)):=(l▸Q).alloc _;have y:=Zy R;clear R Q;subst l;have az:f.length+1<=4294967296:=Zm
          have ax:h+1<=(j.alloc (.cells #[e,d] 209)).heap.size:=by have:=H.size;have:=Z.o;have:=ae.o;simp;omega
          go_wp2_with (refine jo vT rfl (.tmp 63) (.tmp 65) rfl (h+1) (.slice S f.length T) f.length (f.flatMap mg) rfl (jb (D:=fun _=>False) J y fun _ _ _ b=>b) (j+1) 1 [e,d] rfl rfl (hH.nL _ _ Zl) Zt az (by simp at ax |-;omega) ?_;rintro O c9 U aj B ay;have q:=(p.ext (jw _)).kp B (fun c=>SX ((qj J c).1));have d0:=q.frozen 1;have d1:=q.c 1 (.slice S f.length T) rfl;have dz:=q.lt);have ah:=Kp.own (N.alloc _) B (fun u hb=>SY ((qj J hb).1) Z.o);have C:Kp (·=h) U (U.setCell (h,1) (O,f.length+1,c9)):=nH;have au:=jb (jb D y fun _ _ _ b=>b) B (fun g n _ i=>V.o g i n);have ak:=jb au C (fun g _ i W=>Zm);have ai:=jb aj C (fun g _ i W=>Zm);have av:=fun g c=>(qj (jb (D:=fun _=>False) D y fun _ _ _ b=>b) (g:=g) c).2;go_round
          case rel=>
           refine⟨false,r+1,_,_,f++[⟨e,d⟩],a,Zm,Zm,rfl,by go_num,by simp;omega,q.jy 1 _,?_,ak,?_,ah.trans C⟩
           . simpa [mg]using ai
           . intro g n i;cases n;rcases ay with x|x
             . exact V _ x i
             . have:=av O i;omega
          case measure=>simp[intOf];omega
      . go_wp2_with fail;refine(yC b).mono ?_;rintro c j ⟨⟨e,d,af,rfl,hs⟩,A⟩;obtain⟨t,l⟩:=SS (j.alloc (.cells #[e,d] 209));have P:Ext j t:=by rw[l];exact kx
        have z:Zz (hZ t j 209 #[e,d]):=Zy (by rw[l];exact hZ.new _ _ _);have k:=A.trans P;have⟨o,p,N⟩:=jB (L.ext k) (Y.ext k) (H.trans k.any);have aa:=Zy (aB.own N (fun _ c=>Zm));have ae:=Zy A.size;have aP:=Zy z.o.lt;have Q:=k;clear A P k;obtain⟨-,z0,z1,z2,-⟩:=o.ca;obtain⟨f0,f1,f2,-⟩:=o.fz;obtain⟨-,c0,c1,c2,-⟩:=p.ca;obtain⟨g0,K,g2,-⟩:=p.fz;obtain⟨-,y0,y1,-⟩:=z.ca;have z5:=o.lt;have c5:=p.lt;have y5:=z.lt;cases af
        . subst l;go_wp2_with fail;refine Cv (iY tO rfl w rfl [Tc,(),()] (hH.l7 (hZ.BM o _ _ _)) rfl) rfl ?_;exact⟨Gd.zero _ _ _,aa.own (Kp.BM (D:=(·=w)) rfl _ _ _) (fun _ c=>Zm)⟩
        . have R:Ext wr ((j.alloc (.cells #[e,d] 209)).alloc (.cells #[e,d] 209)):=(l▸Q).alloc _;have y:=Zy R;clear R Q;subst l;have az:a.length+1<=4294967296:=Zm
          have ax:h+1<=(j.alloc (.cells #[e,d] 209)).heap.size:=by have:=H.size;have:=Z.o;have:=ae.o;simp;omega
          go_wp2_with (refine jo vT rfl (.tmp 57) (.tmp 59) rfl (h+1) (.slice F a.length G) a.length (a.flatMap mg) rfl (jb (D:=fun _=>False) D y fun _ _ _ b=>b) (j+1) 1 [e,d] rfl rfl (hH.nL _ _ Zl) Zt az (by simp at ax |-;omega) ?_;rintro O c9 U aj B ay;have q:=(p.ext (jw _)).kp B (fun c=>SX ((qj D c).1));have d0:=q.frozen 2;have d1:=q.c 2 (.slice F a.length G) rfl;have dz:=q.lt);have ah:=Kp.own (N.alloc _) B (fun u hb=>SY ((qj D hb).1) Z.o);have C:Kp (·=h) U (U.setCell (h,2) (O,a.length+1,c9)):=nH;have au:=jb (jb J y fun _ _ _ b=>b) B (fun g n _ i=>V.o g n i);have ak:=jb au C (fun g _ i W=>Zm);have ai:=jb aj C (fun g _ i W=>Zm);have av:=fun g c=>(qj (jb (D:=fun _=>False) J y fun _ _ _ b=>b) (g:=g) c).2;go_round
          case rel=>
           refine⟨true,r+1,_,_,f,a++[⟨e,d⟩],Zm,Zm,rfl,by go_num,by simp;omega,q.jy 2 _,ak,?_,?_,ah.trans C⟩
           . simpa [mg]using ai
           . intro g n i;cases i;rcases ay with x|x
             . exact V _ n x
             . have:=av O n;omega
          case measure=>simp[intOf];omega
    . cases bh
      . go_wp2;go_round
        case rel=>exact⟨true,r+1,_,_,f,a,Zm,Zm,rfl,by go_num,Zm,Y.o,J.o,D.o,V.o,H.o⟩
        case measure=>simp[intOf];omega
      . go_wp2_with fail;refine(yC b).mono ?_;rintro c j ⟨⟨e,d,af,rfl,hs⟩,A⟩;obtain⟨t,l⟩:=SS (j.alloc (.cells #[e,d] 209));have P:Ext j t:=by rw[l];exact kx
        have z:Zz (hZ t j 209 #[e,d]):=Zy (by rw[l];exact hZ.new _ _ _);have k:=A.trans P;have⟨o,p,N⟩:=jB (L.ext k) (Y.ext k) (H.trans k.any);have aa:=Zy (aB.own N (fun _ c=>Zm));have ae:=Zy A.size;have aP:=Zy z.o.lt;have Q:=k;clear A P k;obtain⟨-,z0,z1,z2,-⟩:=o.ca;obtain⟨f0,f1,f2,-⟩:=o.fz;obtain⟨-,c0,c1,c2,-⟩:=p.ca;obtain⟨g0,K,g2,-⟩:=p.fz;obtain⟨-,y0,y1,-⟩:=z.ca;have z5:=o.lt;have c5:=p.lt;have y5:=z.lt;cases af
        . subst l;go_wp2_with fail;refine Cv (iY tO rfl w rfl [Tc,(),()] (hH.l7 (hZ.BM o _ _ _)) rfl) rfl ?_;exact⟨Gd.zero _ _ _,aa.own (Kp.BM (D:=(·=w)) rfl _ _ _) (fun _ c=>Zm)⟩
        . have R:Ext wr ((j.alloc (.cells #[e,d] 209)).alloc (.cells #[e,d] 209)):=(l▸Q).alloc _;have y:=Zy R;clear R Q;subst l;have az:a.length+1<=4294967296:=Zm
          have ax:h+1<=(j.alloc (.cells #[e,d] 209)).heap.size:=by have:=H.size;have:=Z.o;have:=ae.o;simp;omega
          go_wp2_with (refine jo vT rfl (.tmp 57) (.tmp 59) rfl (h+1) (.slice F a.length G) a.length (a.flatMap mg) rfl (jb (D:=fun _=>False) D y fun _ _ _ b=>b) (j+1) 1 [e,d] rfl rfl (hH.nL _ _ Zl) Zt az (by simp at ax |-;omega) ?_;rintro O c9 U aj B ay;have q:=(p.ext (jw _)).kp B (fun c=>SX ((qj D c).1));have d0:=q.frozen 2;have d1:=q.c 2 (.slice F a.length G) rfl;have dz:=q.lt);have ah:=Kp.own (N.alloc _) B (fun u hb=>SY ((qj D hb).1) Z.o);have C:Kp (·=h) U (U.setCell (h,2) (O,a.length+1,c9)):=nH;have au:=jb (jb J y fun _ _ _ b=>b) B (fun g n _ i=>V.o g n i);have ak:=jb au C (fun g _ i W=>Zm);have ai:=jb aj C (fun g _ i W=>Zm);have av:=fun g c=>(qj (jb (D:=fun _=>False) J y fun _ _ _ b=>b) (g:=g) c).2;go_round
          case rel=>
           refine⟨true,r+1,_,_,f,a++[⟨e,d⟩],Zm,Zm,rfl,by go_num,by simp;omega,q.jy 2 _,ak,?_,?_,ah.trans C⟩
           . simpa [mg]using ai
           . intro g n i;cases i;rcases ay with x|x
             . exact V _ n x
             . have:=av O n;omega
          case measure=>simp[intOf];omega
  . have dk:¬(r:Int)<s:=Zm
    obtain⟨-,c0,c1,c2,-⟩:=Y.ca;obtain⟨zz,z0,z1,z2,-⟩:=L.ca;obtain⟨f0,f1,f2,-⟩:=L.fz;have cz:=Y.lt;have aC:Kp (·=w) wr (((wr.setCell w E).setCell (w,1) (.slice S f.length T)).setCell (w,2) (.slice F a.length G)):=Kp.BM (D:=(·=w)) rfl _ _ _;have hL:=jb J aC (fun g _ i W=>Zm);have hS:=jb D aC (fun g _ i W=>Zm);have aG:Zz (∀u,Gd w _ (.returned (.tuple #[.agg #[E,.slice S f.length T,.slice F a.length G],.bool u]))/\Ext w (((wr.setCell w E).setCell (w,1) (.slice S f.length T)).setCell (w,2) (.slice F a.length G))):=Zy (fun u=>⟨⟨⟨E,f,a⟩,_,_,_,u,rfl,_,_,rfl,
     SliceOf.lS mg hL rfl rfl (fun _ _=>rfl) (fun _ _=>rfl) (fun u h1 h2=>⟨Zm,h2⟩) (show f.length<=4294967296 by omega),
     SliceOf.lS mg hS rfl rfl (fun _ _=>rfl) (fun _ _=>rfl) (fun u h1 h2=>⟨Zm,h2⟩) (show a.length<=4294967296 by omega)⟩,
     (aB.own H (fun _ c=>Zm)).own aC (fun _ c=>Zm)⟩)
    clear aC hL hS;cases ok
    . go_wp2_with fail;refine Cv (iY tO rfl w rfl [E,.slice S f.length T,.slice F a.length G] (hH.l7 (hZ.BM L _ _ _)) rfl) rfl ?_;exact aG _
    . cases bh
      . go_wp2_with fail;refine Cv (iY tO rfl w rfl [E,.slice S f.length T,.slice F a.length G] (hH.l7 (hZ.BM L _ _ _)) rfl) rfl ?_;exact aG _
      . go_wp2_with fail;refine Cv (iY tO rfl w rfl [E,.slice S f.length T,.slice F a.length G] (hH.l7 (hZ.BM L _ _ _)) rfl) rfl ?_;exact aG _
theorem vQ:yH 132 8:=⟨_,underlying132,by kernel_rfl⟩
theorem Nf:Elem 126 128 2:=kP (z:=.agg #[Tc, ""]) (bytes:=24) underlying126 Zo rfl Zn Zn
def KG(x:Kind):List Value:=[.int .i64 x.kind,.string x.name]
def BZ(m:Nat)(w w':World)(e:Ending):Prop:=∃n va rk rn l2 l3 b,e=.returned (.tuple #[.agg #[.string n,va,.int .i64 rk,.string rn,.int .i64 l2,.int .i64 l3,.slice none 0 0,.slice none 0 0],.bool b])/\n.size<=m/\∃ks,SliceOf 2 nC w' (fun b=>w.heap.size<=b/\b<w'.heap.size) va ks
theorem BZ.zero(m:Nat)(w a:World)(b:Bool):BZ m w a (.returned (.tuple #[.agg #["",(),Tc, "",Tc,Tc,(),()],.bool b])):=
 ⟨_,_,_,_,_,_,b,rfl,SV _,[],SliceOf.nil _ _ _ _⟩
theorem G9(xs:List ByteArray){v:Value}(m:Nat)(hm:m<=4000000000){I:Nat->Prop}{w:World}(g:SliceOf 1 kV w I v xs)(R:∀b∈xs,b.size<=m):Calls prog 179 #[v] w fun e w'=>BZ m w w' e/\Ext w w':=by
 obtain⟨bI,bJ,rfl,bA,-⟩:=g.form;obtain⟨c,D⟩:∃c,xs.length=c:=⟨_,rfl⟩;rw[D]at bA g |-;by_cases h5:c<5
 . have d5:(c:Int)<5:=Zm
   clear D g;go_enter func179,ntmps179;go_wp2_with fail
   all_goals
    refine Cv (iY vQ rfl w rfl ["",(),Tc, "",Tc,Tc,(),()] (hH.nL _ _ rfl) rfl) rfl ?_;exact⟨BZ.zero _ _ _ _,kx⟩
 by_cases h8:8<c
 . have d5:¬(c:Int)<5:=Zm
   have d8:(8:Int)<c:=Zm
   clear D g;go_enter func179,ntmps179;go_wp2_with fail
   all_goals
    refine Cv (iY vQ rfl w rfl ["",(),Tc, "",Tc,Tc,(),()] (hH.nL _ _ rfl) rfl) rfl ?_;exact⟨BZ.zero _ _ _ _,kx⟩
 have d5:¬(c:Int)<5:=Zm
 have d8:¬(8:Int)<c:=Zm
 obtain⟨h,aj⟩:∃b,xs[1]?=some b:=⟨xs[1]'Zm,Ou Zm⟩;obtain⟨x2,ak⟩:∃b,xs[2]?=some b:=⟨xs[2]'Zm,Ou Zm⟩;obtain⟨x3,au⟩:∃b,xs[3]?=some b:=⟨xs[3]'Zm,Ou Zm⟩;obtain⟨x4,av⟩:∃b,xs[4]?=some b:=⟨xs[4]'Zm,Ou Zm⟩;obtain⟨o,bS,rfl,k⟩:=kV.at_ g aj;obtain⟨_,_,p,Y⟩:=kV.at_ g ak;cases p;obtain⟨_,_,p,Z⟩:=kV.at_ g au;cases p;obtain⟨_,_,p,g4⟩:=kV.at_ g av;cases p;have s1:=R h (RA aj);have s2:=R x2 (RA ak);have s3:=R x3 (RA au);have s4:=R x4 (RA av);have gz:=jc k;have⟨HV,HN⟩:=jf g D;have W:=fun aZ=>Zy (lM h aZ);clear g D aj ak au av;obtain⟨S,E⟩:=SS (w.alloc (.cells #["",(),Tc, "",Tc,Tc,(),()] 132));have t:Ext w S:=by rw[E];exact kx
 have HB:Zz (hZ S w 132 #["",(),Tc, "",Tc,Tc,(),()]):=Zy (by rw[E];exact hZ.new _ _ _);have p1:=t.je k;have p2:=t.je Y;have p3:=t.je Z;have p4:=t.je g4;have pz:=jc p1;have⟨aQ,bG⟩:=jf t k;clear t;cases bC:jJ h<;>simp only[bC]at W
 . go_enter func179,ntmps179;subst E;go_wp2_with fail;refine(W _).o.mono ?_;rintro e n ⟨rfl,rfl⟩;go_wp2_with fail;refine Cv (iY vQ rfl w rfl ["",(),Tc, "",Tc,Tc,(),()] (hH.nL _ _ rfl) rfl) rfl ?_;exact⟨BZ.zero _ _ _ _,kx⟩
 have aV:=Zy E;clear E;go_enter func179,ntmps179;go_wp2_with fail;rw[<-aV.o];go_wp2_with fail;refine(W _).o.mono ?_;rintro e n ⟨rfl,rfl⟩;go_wp2_with fail;refine(rE x2 Zm).mono ?_;rintro e w1 ⟨⟨l,bD,rfl,-,-,-⟩,u⟩;have t3:=u.je p3;have t4:=u.je p4;have t1:=u.je p1;have tz:=jc t1;have⟨aM,aR⟩:=jf (HB.ext u) (aQ.trans u);clear u p1 p2 p3 p4 pz;go_wp2_with fail;refine(rE x3 Zm).mono ?_;rintro e w2 ⟨⟨q,bE,rfl,-,-,-⟩,C⟩;have r4:=C.je t4;have r1:=C.je t1;have rz:=jc r1;have⟨aN,aS⟩:=jf (aM.ext C) (aR.trans C);clear C t1 t3 t4 tz;go_wp2_with fail;refine(yB x4).mono ?_;rintro e w3 ⟨⟨i,j,bF,rfl,bR⟩,aD⟩;obtain⟨d,aK,aF,ah⟩:=nu w3 #[i,j] 128;have Q:=aD.trans aF;have q1:=Q.je r1;have⟨ay,az,aW⟩:=jB (aN.ext Q) (aS.trans Q) aK;obtain⟨bH,bK,bQ,B⟩:=ll d;have y1:=fun H=>(B.jv H).je q1;have y2:=fun H=>(B.jv H).je (ah.c 0 i rfl);have y3:=fun H=>(B.jv H).je (ah.c 1 j rfl);have X:=Zy B;clear B aD aF Q aK r1 r4 rz q1 ah;go_wp2_with fail;rw[<-aW.o];refine jW X 8 [([0,1,2,3,4,5,6],7)] [] ?_ ?_
 . exact jg
 refine lJ ?_;intro K2 aH;go_wp2_with fail;refine kk X aH kx ?_;clear aH K2;refine ku ?_;go_wp2_with fail;obtain⟨n,F⟩:=SS ((d.alloc (.cells #[h,(),i,j,l,q,(),()] 132)).drew);have aa:Ext d n:=by rw[F];exact kx
 have aP:Zz (hZ n d 132 #[h,(),i,j,l,q,(),()]):=Zy (by rw[F];exact(hZ.new _ _ _).ext (jg));have⟨aO,V⟩:=jf (ay.ext aa) (az.trans aa);have aU:=Zy (HV.ext kV.stays V);have aC:Zz (n.heap.size=d+1):=Zy (by rw[F];simp);have bP:o<d.heap.size:=SX az.size
 have bN:(w:Nat)<d:=ay.lt;have aX:=Zy F;clear aa F y1 y2 y3 k Y Z g4 gz X;rw[<-aX.o];go_loopw [11] (fun ax wr=>∃(f:Nat) (vl:Value) (a:List Kind),5<=f/\f<=c/\ax=.int .i64 f/\a.length<=f/\hZ wr d 132 #[h,vl,i,j,l,q,(),()]/\
     wr.ownsRow (d+1) 128 2 vl a.length (a.flatMap KG)/\Kp (·=d) n wr) (fun ax _=>c - (intOf ax).toNat)
 case atStart=>
  exact⟨5,_,[],T9 _,Zm,rfl,by simp,aP.o,⟨rfl,.inl ⟨rfl,rfl⟩⟩,Kp.rr⟩
 case round =>
  obtain⟨f,vl,a,k2,kn,rfl,bO,hC,ag,af⟩:=hrel;obtain⟨y,z,rfl⟩:=jA ag;have⟨K,U,O,N⟩:=jU (aO.kp af Zm) hC ag af;clear hC ag af;by_cases bM:f<c
  . have dk:(f:Int)<c:=Zm
    obtain⟨b,hx⟩:∃b,xs[f]?=some b:=⟨xs[f]'(SX HN.o),Ou (SX HN.o)⟩;obtain⟨_,_,p,k⟩:=kV.at_ aU hx;cases p;have gk:=N.lL k Zm;have gz:=jc gk;clear k hx;go_wp2_with fail;refine(yB b).mono ?_;rintro e A ⟨⟨s,r,bf,rfl,hs⟩,ae⟩;obtain⟨T,G⟩:=SS (A.alloc (.cells #[s,r] 128));have aG:Ext A T:=by rw[G];exact kx
    have aB:Zz (hZ T A 128 #[s,r]):=Zy (by rw[G];exact hZ.new _ _ _);have x:=ae.trans aG;have⟨J,L,aA⟩:=jB (K.ext x) (U.ext x) (N.trans x.any);have aT:=Zy (V.own aA (fun _ e=>Zm));have aY:=Zy ae.size;clear ae aG;obtain⟨-,z0,z1,z2,z3,z4,z5,z6,z7,-⟩:=J.ca;obtain⟨f0,f1,f2,f3,f4,f5,f6,f7,-⟩:=J.fz;obtain⟨-,c0,c1,c2,c3,c4,c5,c6,c7,-⟩:=L.ca;obtain⟨g0,k,Y,Z,g4,g5,g6,g7,-⟩:=L.fz;obtain⟨-,y0,y1,-⟩:=aB.ca;have z7:=J.lt;have c7:=L.lt;have y7:=aB.lt;cases bf
    . clear x;subst G;go_wp2_with fail;refine Cv (iY vQ rfl w rfl ["",(),Tc, "",Tc,Tc,(),()] (hH.l7 (hZ.AZ J _ _ _ _ _ _ _ _)) rfl) rfl ?_;exact⟨BZ.zero _ _ _ _,aT.own (Kp.AZ (D:=(·=w)) rfl _ _ _ _ _ _ _ _) (fun _ e=>Zm)⟩
    . have HG:Zz (Ext wr ((A.alloc (.cells #[s,r] 128)).alloc (.cells #[s,r] 128))):=Zy ((G▸x).alloc _);clear x;subst G;have bB:a.length+1<=4294967296:=Zm
      have bz:d+1<=(A.alloc (.cells #[s,r] 128)).heap.size:=by have:=N.size;have:=aC.o;have:=aY.o;simp;omega
      go_wp2_with (refine jo Nf rfl (.tmp 76) (.tmp 78) rfl (d+1) (.slice y a.length z) a.length (a.flatMap KG) rfl (jb (D:=fun _=>False) O HG fun _ _ _ b=>b) (A+1) 1 [s,r] rfl rfl (hH.nL _ _ Zl) Zt bB (by simp at bz |-;omega) ?_;rintro g9 c9 w9 bu aI bL;have P:=(L.ext (jw _)).kp aI (fun e=>SX ((qj O e).1));have d0:=P.frozen 1;have d1:=P.c 1 (.slice y a.length z) rfl;have dz:=P.lt);have bn:=Kp.own (aA.alloc _) aI (fun o hb=>SY ((qj O hb).1) aC.o);have aJ:Kp (·=d) w9 (w9.setCell (d,1) (g9,a.length+1,c9)):=nH;have bq:=jb bu aJ (fun bg _ e2 e3=>Zm);go_round
      case rel=>
       refine⟨f+1,_,a++[⟨s,r⟩],Zm,Zm,by go_num,by simp;omega,P.jy 1 _,?_,bn.trans aJ⟩;simpa [KG]using bq
      case measure=>simp[intOf];omega
  . have dk:¬(f:Int)<c:=Zm
    obtain⟨-,c0,c1,c2,c3,c4,c5,c6,c7,-⟩:=U.ca;obtain⟨zz,z0,z1,z2,z3,z4,z5,z6,z7,-⟩:=K.ca;obtain⟨f0,f1,f2,f3,f4,f5,f6,f7,-⟩:=K.fz;have cz:=U.lt;have ai:Kp (·=w) wr ((((((((wr.setCell w h).setCell (w,1) (.slice y a.length z)).setCell (w,2) i).setCell (w,3) j).setCell (w,4) l).setCell (w,5) q).setCell (w,6) ()).setCell (w,7) ()):=Kp.AZ (D:=(·=w)) rfl _ _ _ _ _ _ _ _;have hL:=jb O ai (fun bg _ e2 e3=>Zm);have aL:Zz (∀o,BZ m w _ (.returned (.tuple #[.agg #[h,.slice y a.length z,i,j,l,q,(),()],.bool o]))/\Ext w ((((((((wr.setCell w h).setCell (w,1) (.slice y a.length z)).setCell (w,2) i).setCell (w,3) j).setCell (w,4) l).setCell (w,5) q).setCell (w,6) ()).setCell (w,7) ())):=Zy (fun o=>⟨⟨_,_,_,_,_,_,o,rfl,s1,a,
     SliceOf.lS KG hL rfl rfl (fun _ _=>rfl) (fun _ _=>rfl) (fun o h1 h2=>⟨Zm,h2⟩) Zm⟩,
     (V.own N (fun _ e=>Zm)).own ai (fun _ e=>Zm)⟩)
    clear ai hL;cases bD<;>cases bE<;>cases bF<;>by_cases h2:0<=l
    all_goals
     go_wp2_with fail;refine Cv (iY vQ rfl w rfl [h,.slice y a.length z,i,j,l,q,(),()] (hH.l7 (hZ.AZ K _ _ _ _ _ _ _ _)) rfl) rfl ?_;exact aL _
theorem uE:Elem 142 47 4:=kP (z:=.agg #["", "",(),()]) (bytes:=80) underlying142 Zo rfl Zn Zn
theorem JA:yH 145 2:=⟨_,underlying145,by kernel_rfl⟩
theorem hZ.BF{W:World}{g:Nat}(t:TypeId)(cs:Array Value)(a:W=g):hZ (W.alloc (.cells cs t)) g t cs:=by
 subst a;exact hZ.new W t cs
def BU{α:Type}(k:Nat)(R:lZ α)(w wx:World)(J:Nat->Prop)(bx:Nat)(t:TypeId)(cells:Array Value)(fi:Nat)(zs:List α):Prop:=
 ∃v',SliceOf k R wx (fun b=>J b\/w.heap.size<=b) v' zs/\hZ wx bx t (cells.setIfInBounds fi v')/\Kp (·=bx) w wx
theorem oL{α:Type}{k:Nat}{R:lZ α}(hR:jM R)(B:0<k){w W:World}{J:Nat->Prop}{css:List (List Value)}{h:List Value}{xs:List α}{y:α}{b e g m c:Nat}{t:TypeId}{cells:Array Value}(v:W.ownsRow w e k (.slice (some ⟨g,0,none⟩) (m+1) c) (m+1) (css.flatten++h)) (z:∀c∈css,c.length=k) (A:kD R w J xs css) (C:R w J y h) (D:h.length=k) (i:Ext w W)(n:(∀d,J d->d≠b)/\xs.length+1<=4294967296) (p:hZ w b t cells) (f:Nat):BU k R w (W.setCell (b,f) (.slice (some ⟨g,0,none⟩) (m+1) c)) J b t cells f (xs++[y]):=by
 have j:Kp (·=b) W (W.setCell (b,f) (.slice (some ⟨g,0,none⟩) (m+1) c)):=nH;have x:=p.ext i;have G:=p.lt;refine⟨_,?_,x.jy f _,i.any.trans j⟩;have o:=jb v j (fun I F q e=>Zm);have s:css.flatten++h=(css++[h]).flatten:=by simp
 rw[s]at o;have r:Same J w (W.setCell (b,f) (.slice (some ⟨g,0,none⟩) (m+1) c)):=fun d H K q l=>j.lL (i.je l) (n.1 d q);refine SliceOf.owned o (fun c l=>?_) B ((A.keep hR r (fun _ a=>.inl a)).snoc (hR _ _ _ _ _ _ r (fun _ a=>.inl a) C)) (fun d u E=>.inr u) (by simpa using n.2);rcases TZ.1 l with a|a
 . exact z c a
 . simp at a;subst a;exact D
theorem Mw(w:World)(I:Nat->Prop)(hI:∀a,I a->a<w.heap.size)(q:mD){ks:List Value}(hk:ja w I q ks)(x:Class){cs:List Value}(hx:jh w I x cs)(aA:q.owns≠[])(hl:q.owns.length<=1000):Calls prog 135 #[.agg ks.toArray,.agg cs.toArray] w fun v w'=>(∃aC,v=.returned (.agg aC.toArray)/\ja w' (fun a=>I a\/w.heap.size<=a) ⟨q.owns.dropLast++[x],q.asks⟩ aC)/\Ext w w':=by
 obtain⟨vo,va,rfl,hO,z⟩:=hk;obtain⟨s,q1,t,q2,rfl⟩:=hx.form;obtain⟨B,C,rfl,aU,aK⟩:=hO.form;obtain⟨E,J,rfl,-,-⟩:=z.form;have aL:=Vs.2 aA;obtain⟨i,X⟩:∃i,q.owns.length=i+1:=⟨q.owns.length - 1,Zm⟩;have av:q.owns.take i=q.owns.dropLast:=by rw[List.dropLast_eq_take,X];rfl
 have ag:=hO.take (i:=i) Zm;rw[av]at ag;have ax:q.owns.dropLast.length=i:=by rw[List.length_dropLast,X];rfl
 obtain⟨e,H⟩:=SS (((w.alloc (.cells #[.slice B q.owns.length C,.slice E q.asks.length J] 145)).alloc (.cells #[x.name,x.jl,.slice s x.fields.length q1,.slice t x.methods.length q2] 47)).alloc (.cells #[(),()] 145));have P:Ext w e:=by rw[H];exact kx
 have b2:hZ e w 145 #[.slice B q.owns.length C,.slice E q.asks.length J]:=by rw[H];exact(hZ.new _ _ _).ext kx
 have b3:hZ e (w+1) 47 #[x.name,x.jl,.slice s x.fields.length q1,.slice t x.methods.length q2]:=by rw[H];exact(hZ.BF (W:=w.alloc (.cells #[.slice B q.owns.length C,.slice E q.asks.length J] 145)) _ _ Zl).ext kx
 have b4:hZ e (w+2) 145 #[(),()]:=by rw[H];exact hZ.BF _ _ Zl
 obtain⟨L,ak,au,ay⟩:=SliceOf.cells One.cls Zn (ag.ext jh.stays P);have⟨HY,aD,aa,ae,af,K,Z,aG⟩:=wL (jh.stays _ _ _ _ _ _ (Ext.same P) (fun _ F=>F) hx) (z.ext mQ.stays P) ak au ay b2 b4 P;have aB:e.heap.size=w+3:=by rw[H];simp
 have HJ:Zz ((∀a,I a->a≠w.heap.size)/\q.owns.dropLast.length+1<=4294967296):=Zy ⟨fun a c=>SX (hI a c),Zm⟩;have aj:=Zy aB;obtain⟨aR,aS,aW,U⟩:=ll e;have r0:=fun ah=>(b2.ext (U.jv ah)).c 0 (.slice B q.owns.length C) rfl;obtain⟨-,r1,r2,r3,r4,-⟩:=hZ.lC fun ah=>(b3.ext (U.jv ah));have g:=Zy U;have aM:((q.owns.length:Nat):Int) - 1=(i:Int):=Zm
 have aN:IntKind.i64.wrap (((q.owns.length:Nat):Int) - 1)=(i:Int):=by rw[TK _ Zm];omega
 have aV:(0:Int)<=(i:Int):=Zm
 have aX:i<=4000:=Zm
 have⟨HI,HN,aQ,aH⟩:=jU hI X ax H;clear aB P b2 b3 b4 H U ak au ay hO ag z hx av aA X ax aL aK hI;go_enter func135,ntmps135;go_upto_region 1 with(fail);rw[<-aH.o];go_cut [] (fun wx=>BU 4 jh e wx I w 145 #[.slice B q.owns.length C,.slice E q.asks.length J] 0 (q.owns.dropLast++[x]))
 case first =>
  refine qp g 12 (.two [1,2,3,4,5,6,7,9] 0 10 (.two [] 8 10 (.one [] 10 (.one [] 11 (.fin []))) (.one [] 8 (.one [] 11 (.fin [])))) (.one [] 0 (.one [] 8 (.one [] 11 (.fin []))))) ?_ ?_
  . exact jg
  refine two [_,_,_,_,_,_,_,_] rfl rfl rfl fun aI G=>?_;(repeat (go_big_quiet_step (fail)));((refine F5 G (fun d b=>?_) fun d b=>?_)<;>clear G aI)
  . have N:Ext e e.drew:=jg;generalize e.drew=wd at N |-;go_wp2_with fail;obtain⟨f,m⟩:∃A,A=wd.alloc (.cells #[] 47):=⟨_,rfl⟩;have y:Ext e f:=N.trans (by rw[m];exact jw _);have o:f.ownsRow e 47 4 (.slice (some ⟨wd,0,none⟩) 0 0) 0 []:=by rw[m];exact kG wd _ _ _ N.size rfl
    have ai:Zz ((f:Nat)=wd+1):=Zy (by rw[m];simp);rw[<-m];clear m;refine kk g b y ?_;clear b d;refine Fw rfl rfl (fun d b=>?_) fun d b=>?_
    . skip;refine jK uE _ rfl (.tmp 5) (.tmp 12) rfl e (.slice (some ⟨wd,0,none⟩) 0 0) 0 [] rfl o B i C L.flatten rfl (af.ext y) Zm y.size ?_;intro T k h aO;rw[Tm,TW]at h;have l:=y.own aO (fun a c=>(o.lt a c).1);change d _ _;refine kk g b l ?_;clear b d;refine jX rfl fun d b=>?_;go_wp2_with fail;obtain⟨wc,O⟩:∃A,A=k.alloc (.cells #[x.name,x.jl,.slice s x.fields.length q1,.slice t x.methods.length q2] 47):=⟨_,rfl⟩;have p:Ext e wc:=l.trans (by rw[O];exact jw _);have aJ:Ext k wc:=by rw[O];exact jw _
      have j:hH wc k 0 [x.name,x.jl,.slice s x.fields.length q1,.slice t x.methods.length q2]:=by rw[O];exact hH.nL _ _ rfl
      have aY:Zz ((wc:Nat)=k+1):=Zy (by rw[O];simp);rw[<-O];clear O;refine kk g b p ?_;clear b d;have h:=jb (D:=fun _=>False) h aJ fun _ _ _ x=>x;refine jX rfl fun d b=>?_;refine jo uE rfl (.tmp 13) (.tmp 15) rfl e T i L.flatten rfl h k 1 [x.name,x.jl,.slice s x.fields.length q1,.slice t x.methods.length q2] rfl rfl j Zt Zm p.size ?_;intro g9 c9 wf D R _;have r:=p.own R (fun a c=>(h.lt a c).1);change d _ _;refine kk g b r ?_;clear b d;refine kL ?_;have u:=K.ext r;obtain⟨zX,vX,-⟩:=u.ca;have fX:=u.frozen 0;have z:=oL (R:=jh) jh.stays Zm D aa ae HY rfl r HJ K 0;clear j o h D g u;go_wp2;go_meet;exact z
    . skip;go_wp2_with fail;obtain⟨k,n⟩:∃A,A=f.alloc (.cells #[x.name,x.jl,.slice s x.fields.length q1,.slice t x.methods.length q2] 47):=⟨_,rfl⟩;have l:Ext e k:=y.trans (by rw[n];exact jw _);have V:Ext f k:=by rw[n];exact jw _
      have j:hH k f 0 [x.name,x.jl,.slice s x.fields.length q1,.slice t x.methods.length q2]:=by rw[n];exact hH.nL _ _ rfl
      have aP:Zz ((k:Nat)=f+1):=Zy (by rw[n];simp);rw[<-n];clear n;refine kk g b l ?_;clear b d;have o:=jb (D:=fun _=>False) o V fun _ _ _ x=>x;refine jX rfl fun d b=>?_;refine jK uE _ rfl (.tmp 5) (.tmp 12) rfl e (.slice (some ⟨wd,0,none⟩) 0 0) 0 [] rfl o B i C L.flatten rfl (af.ext l) Zm l.size ?_;intro T wc h Q;rw[Tm,TW]at h;have p:=l.own Q (fun a c=>(o.lt a c).1);have j:=j.kp Q (fun v=>by simp[Value.ownBlock]at v;have:=ai.o;omega);change d _ _;refine kk g b p ?_;clear b d;refine jX rfl fun d b=>?_;refine jo uE rfl (.tmp 13) (.tmp 15) rfl e T i L.flatten rfl h f 1 [x.name,x.jl,.slice s x.fields.length q1,.slice t x.methods.length q2] rfl rfl j Zt Zm p.size ?_;intro g9 c9 wf D R _;have r:=p.own R (fun a c=>(h.lt a c).1);change d _ _;refine kk g b r ?_;clear b d;refine kL ?_;have u:=K.ext r;obtain⟨zX,vX,-⟩:=u.ca;have fX:=u.frozen 0;have z:=oL (R:=jh) jh.stays Zm D aa ae HY rfl r HJ K 0;clear j o h D g u;go_wp2;go_meet;exact z
  . have N:Ext e e.drew:=jg;generalize e.drew=wd at N |-;go_wp2_with fail;obtain⟨f,m⟩:∃A,A=wd.alloc (.cells #[x.name,x.jl,.slice s x.fields.length q1,.slice t x.methods.length q2] 47):=⟨_,rfl⟩;have y:Ext e f:=N.trans (by rw[m];exact jw _);have aT:Ext wd f:=by rw[m];exact jw _
    have j:hH f wd 0 [x.name,x.jl,.slice s x.fields.length q1,.slice t x.methods.length q2]:=by rw[m];exact hH.nL _ _ rfl
    have ai:Zz ((f:Nat)=wd+1):=Zy (by rw[m];simp);rw[<-m];clear m;refine kk g b y ?_;clear b d;refine jX rfl fun d b=>?_;go_wp2_with fail;obtain⟨k,n⟩:∃A,A=f.alloc (.cells #[] 47):=⟨_,rfl⟩;have V:Ext f k:=by rw[n];exact jw _
    have l:=y.trans V;have o:k.ownsRow e 47 4 (.slice (some ⟨f,0,none⟩) 0 0) 0 []:=by rw[n];exact kG f _ _ _ y.size rfl
    have aP:Zz ((k:Nat)=f+1):=Zy (by rw[n];simp);rw[<-n];clear n;refine kk g b l ?_;clear b d;have j:=j.ext V;refine jX rfl fun d b=>?_;refine jK uE _ rfl (.tmp 5) (.tmp 12) rfl e (.slice (some ⟨f,0,none⟩) 0 0) 0 [] rfl o B i C L.flatten rfl (af.ext l) Zm l.size ?_;intro T wc h Q;rw[Tm,TW]at h;have p:=l.own Q (fun a c=>(o.lt a c).1);have j:=j.kp Q (fun v=>by simp[Value.ownBlock]at v;have:=ai.o;omega);change d _ _;refine kk g b p ?_;clear b d;refine jX rfl fun d b=>?_;refine jo uE rfl (.tmp 13) (.tmp 15) rfl e T i L.flatten rfl h wd 1 [x.name,x.jl,.slice s x.fields.length q1,.slice t x.methods.length q2] rfl rfl j Zt Zm p.size ?_;intro g9 c9 wf D R _;have r:=p.own R (fun a c=>(h.lt a c).1);change d _ _;refine kk g b r ?_;clear b d;refine kL ?_;have u:=K.ext r;obtain⟨zX,vX,-⟩:=u.ca;have fX:=u.frozen 0;have z:=oL (R:=jh) jh.stays Zm D aa ae HY rfl r HJ K 0;clear j o h D g u;go_wp2;go_meet;exact z
 obtain⟨v',Y,c,G⟩:=hcut;obtain⟨a6,m6,rfl,-,-⟩:=Y.form;obtain⟨S,az⟩:∃S,(q.owns.dropLast++[x]).length=S:=⟨_,rfl⟩;rw[az]at Y c;clear az;have c:hZ wc w 145 #[.slice a6 S m6,.slice E q.asks.length J]:=c;have W:=Z.kp G Zm;obtain⟨ez,e0,e1,-⟩:=c.ca;obtain⟨gz,g0,g1,-⟩:=W.ca;obtain⟨k0,k1,-⟩:=W.fz;have⟨Z,HS,HK,aF⟩:=jU W Y G (aD.keep mQ.stays (G.same (fun a c=>SX (HI.o a c))) (fun _ F=>F));clear c W Y G r0 r1 r2 r3 r4 g aM aN;go_wp2_with fail;refine Cv (jE JA rfl (w+2) rfl [.slice a6 S m6,.slice E q.asks.length J] (hH.l7 (hZ.Em Z _ _)) rfl) rfl ?_;have hP:Kp (·=w+2) wc ((wc.setCell ⟨w+2,0,none⟩ (.slice a6 S m6)).setCell ⟨w+2,1,none⟩ (.slice E q.asks.length J)):=Kp.Em (D:=(·=w+2)) rfl _ _;exact⟨⟨_,rfl,_,_,rfl,HS.keep jh.stays (hP.same (fun a c v=>c.elim (fun F=>SX (HI.o a F)) (fun F=>SX aj.o))) (fun a c=>c.imp id (fun F=>SX aj.o)),aF.o.keep mQ.stays (hP.same (fun a c v=>SX (HI.o a c))) (fun a c=>.inl c)⟩,(aG.o.own HK.o (fun a v=>Zm)).own hP (fun a v=>Zm)⟩
theorem Mt{w:World}(I:Nat->Prop){cs:List Value}(c:M.Method)(p:jd w I c cs):Calls prog 211 #[.agg cs.toArray] w fun o O=>BV o/\Ext w O:=by
 obtain⟨va,vc,vm,rfl,-,q,h2⟩:=p;obtain⟨X,Y,rfl,hn,ae⟩:=q.form;obtain⟨w0,J,r,s⟩:=nu w #[c.name,va,c.ret.kind,c.ret.name,c.locals,c.stack,.slice X c.code.length Y,vm] 132;obtain⟨Z,-,-,-,-,y,-,z,-⟩:=s.ca;have⟨HB,Q,g,V⟩:=jU s (q.ext (fun _ _ _ _ _ _ _ _ p=>p) r) r J;clear r s J q h2;go_enter func211,ntmps211;go_wp2_with fail;rw[<-V.o];go_wp2_with fail;refine(si).mono ?_;rintro o O ⟨rfl,rfl⟩;obtain⟨v,H⟩:∃v,(decide (1<=(c.code.length:Int))&&decide ((c.code.length:Int)<=16))=v:=⟨_,rfl⟩;rw[H];cases v
 . go_wp2;go_ret;exact⟨⟨_,rfl⟩,g⟩
 clear H;go_wp2;go_loopw [3] (fun u wr=>∃b:Nat,b<=c.code.length/\u=.int .i64 b/\Ext w0 wr) (fun u _=>c.code.length - (intOf u).toNat)
 case atStart=>exact⟨0,SV _,rfl,Kp.rr⟩
 case round =>
  obtain⟨b,hk,rfl,e⟩:=hrel;have x:=Zy e;have n:=e.je z;have A:=e.je y;have dz:=jc n;by_cases E:b<c.code.length
  . have dk:(b:Int)<c.code.length:=Zm
    obtain⟨a,K⟩:∃a,c.code[b]?=some a:=⟨c.code[b]'E,Ou E⟩;obtain⟨b',af,cs,rfl,hI,rfl,-,D⟩:=Q.get K;obtain⟨B,g1,g2,g3⟩:=(D.ext e).four;have gz:=jc B;obtain⟨j,i⟩:=SS (wr.alloc (.cells #[.int .i64 a.op,.int .i64 a.a,.string a.name,.string a.member] 140));have h:Ext wr j:=by rw[i];exact kx
    have R:Zz (hZ j wr 140 #[.int .i64 a.op,.int .i64 a.a,.string a.name,.string a.member]):=Zy (by rw[i];exact hZ.new _ _ _);have⟨T,S,U,W⟩:=jU (h.je n) (h.je A) (x.trans h) i;clear K D e h i;go_wp2_with fail;rw[<-W.o];refine(F6 a.op a.a a.name a.member).mono ?_;rintro o w2 ⟨⟨aa,rfl,t⟩,f⟩;have k:=Zy (U.trans f);have e5:=f.je T;have e3:=f.je S;have ez:=jc e5;have C:=R.ext f;obtain⟨-,P,y1,-⟩:=C.ca;have yz:=jc P;clear f C B g1 g2 g3 gz n A dz z y Z;cases aa
    . clear t;go_wp2;go_ret;exact⟨⟨_,rfl⟩,g.trans k⟩
    . obtain⟨o1,o2⟩:=t rfl;have F:a.op=1\/a.op=2\/a.op=3\/a.op=4\/a.op=5\/a.op=6\/a.op=7\/a.op=8\/a.op=9\/a.op=10\/a.op=11\/a.op=12\/a.op=13\/a.op=14\/a.op=15:=Zm
      obtain⟨N,G⟩:∃N,a.op=N:=⟨_,rfl⟩;rw[G]at F P;obtain⟨d,L⟩:∃d,a.a=d:=⟨_,rfl⟩;rw[L]at y1;clear t o1 o2 G L;have l:d<c.locals\/c.locals<=d:=Zm
      have m:d<c.code.length\/(c.code.length:Int)<=d:=Zm
      rcases F with rfl|rfl|rfl|rfl|rfl|rfl|rfl|rfl|rfl|rfl|rfl|rfl|rfl|rfl|rfl<;>rcases l with l|l<;>rcases m with m|m
      all_goals
       have b3:decide (c.locals<=d)=decide (c.locals<=d):=rfl;go_wp2_with fail;first
       |(go_ret;exact⟨⟨_,rfl⟩,g.trans k⟩)
       | (go_round
          case rel=>exact⟨b+1,Zm,by go_num,k.o⟩
          case measure=>simp[intOf];omega)
  . have dk:¬(b:Int)<c.code.length:=Zm
    clear e;go_wp2;go_ret;exact⟨⟨_,rfl⟩,g.trans x⟩
theorem OC{w:World}(I:Nat->Prop){cs:List Value}(c:M.Method)(f:jd w I c cs):Calls prog 200 #[.agg cs.toArray] w fun a d=>BV a/\Ext w d:=by
 obtain⟨va,vc,vm,rfl,j,o,p⟩:=f;obtain⟨D,u1,rfl,ak,ah⟩:=j.form;obtain⟨E,u2,rfl,au,ai⟩:=o.form;obtain⟨F,u3,rfl,av,aj⟩:=p.form;obtain⟨w0,O,G,t⟩:=nu w #[c.name,.slice D c.args.length u1,c.ret.kind,c.ret.name,c.locals,c.stack,.slice E c.code.length u2,.slice F c.maps.length u3] 132;obtain⟨cz,V,W,X,Y,Z,c5,c6,c7,-⟩:=t.ca;have Q:=Zy t;have C:Zz (jd w I c [c.name,.slice D c.args.length u1,c.ret.kind,c.ret.name,c.locals,c.stack,.slice E c.code.length u2,.slice F c.maps.length u3]):=Zy ⟨_,_,_,rfl,j,o,p⟩;have⟨T,l,n⟩:=jB j G O;have i:=fun U=>Zy (lM c.name U);clear G t O j o p;cases ae:jJ c.name<;>simp only[ae]at i
 . go_enter func200,ntmps200;go_wp2_with fail;rw[<-n.o];go_wp2_with fail;refine(i _).o.mono ?_;rintro a d ⟨rfl,rfl⟩;go_wp2;go_ret;exact⟨⟨_,rfl⟩,l⟩
 by_cases h3:3<c.args.length
 . have aa:decide ((3:Int)<c.args.length)=true:=Tz Zm;go_enter func200,ntmps200;go_wp2_with fail;rw[<-n.o];go_wp2_with fail;refine(i _).o.mono ?_;rintro a d ⟨rfl,rfl⟩;go_wp2;go_ret;exact⟨⟨_,rfl⟩,l⟩
 have aa:decide ((3:Int)<c.args.length)=false:=SL Zm;go_enter func200,ntmps200;go_wp2_with fail;rw[<-n.o];go_wp2_with fail;refine(i _).o.mono ?_;rintro a d ⟨rfl,rfl⟩;go_wp2_with fail;refine(BO c.ret.kind c.ret.name).mono ?_;rintro a w2 ⟨⟨q2,rfl⟩,q⟩;have e:=Zy (l.trans q);have u:=Q.ext q;have R:=Zy u;clear q V W X Y Z c5 c6 c7 cz;obtain⟨dz,d0,d1,d2,d3,d4,d5,d6,d7,-⟩:=u.ca;clear u;cases q2
 . go_wp2;go_ret;exact⟨⟨_,rfl⟩,e⟩
 go_wp2_with fail;refine(si).mono ?_;rintro a d ⟨rfl,rfl⟩;obtain⟨q3,L⟩:∃z,(decide ((c.args.length:Int)+1<=c.locals)&&decide (c.locals<=6))=z:=⟨_,rfl⟩;rw[L];clear L;cases q3
 . go_wp2;go_ret;exact⟨⟨_,rfl⟩,e⟩
 go_wp2_with fail;refine(si).mono ?_;rintro a d ⟨rfl,rfl⟩;obtain⟨q4,N⟩:∃z,(decide ((1:Int)<=c.stack)&&decide (c.stack<=5))=z:=⟨_,rfl⟩;rw[N];clear N;cases q4
 . go_wp2;go_ret;exact⟨⟨_,rfl⟩,e⟩
 go_wp2_with fail;refine(Mt I c (jd.stays _ _ _ _ _ _ (Ext.same e) (fun _ f=>f) C)).mono ?_;rintro a w3 ⟨⟨q5,rfl⟩,r⟩;have m:=Zy (e.trans r);have v:=R.ext r;have S:=Zy v;clear r d0 d1 d2 d3 d4 d5 d6 d7 dz;obtain⟨ez,e0,e1,e2,e3,e4,e5,e6,e7,-⟩:=v.ca;clear v;cases q5
 . go_wp2;go_ret;exact⟨⟨_,rfl⟩,m⟩
 go_wp2_with fail;refine(Mv I c (jd.stays _ _ _ _ _ _ (Ext.same m) (fun _ f=>f) C)).mono ?_;rintro a w4 ⟨⟨q6,rfl⟩,s⟩;have h:=Zy (m.trans s);have x:=S.ext s;clear s e0 e1 e2 e3 e4 e5 e6 e7 ez;obtain⟨fz,-,f1,-⟩:=x.ca;have ag:=Zy x;clear x;cases q6
 . go_wp2;go_ret;exact⟨⟨_,rfl⟩,h⟩
 go_wp2;go_loopw [3] (fun y wr=>∃b:Nat,b<=c.args.length/\y=.int .i64 b/\Ext w4 wr) (fun y _=>c.args.length - (intOf y).toNat)
 case atStart=>exact⟨0,SV _,rfl,Kp.rr⟩
 case round =>
  obtain⟨b,hk,rfl,g⟩:=hrel;have A:=Zy g;have g1:=g.je f1;have gz:=jc g1;by_cases K:b<c.args.length
  . have dk:(b:Int)<c.args.length:=Zm
    obtain⟨k,P⟩:∃k,c.args[b]?=some k:=⟨c.args[b]'K,Ou K⟩;obtain⟨b',ax,cs,rfl,hI,rfl,-,J⟩:=T.get P;obtain⟨y0,y1⟩:=(J.ext (h.trans g)).two;have yz:=jc y0;clear P J g;go_wp2_with fail;refine(BO k.kind k.name).mono ?_;rintro a w5 ⟨⟨af,rfl⟩,H⟩;have B:=Zy (A.trans H);clear H;cases af
    . go_wp2;go_ret;exact⟨⟨_,rfl⟩,h.trans B⟩
    . go_wp2;go_round
      case rel=>exact⟨b+1,Zm,by go_num,B.o⟩
      case measure=>simp[intOf];omega
  . have dk:¬(b:Int)<c.args.length:=Zm
    clear g;go_wp2;go_ret;exact⟨⟨_,rfl⟩,h.trans A⟩
theorem OA{w:World}(I:Nat->Prop){cs:List Value}(c:Class)(y:jh w I c cs):Calls prog 182 #[.agg cs.toArray] w fun p P=>BV p/\Ext w P:=by
 obtain⟨vf,vm,rfl,G,H⟩:=y;obtain⟨a1,m1,rfl,aH,aF⟩:=G.form;obtain⟨a2,m2,rfl,aI,aG⟩:=H.form;obtain⟨w0,ah,aa,hb⟩:=nu w #[c.name,c.jl,.slice a1 c.fields.length m1,.slice a2 c.methods.length m2] 47;obtain⟨cz,c0,c1,T,U,-⟩:=hb.ca;have⟨R,S,j,au⟩:=jU G H aa ah;clear aa hb ah G H;go_enter func182,ntmps182;go_upto_region 1 with(fail);rw[<-au.o];go_cut [31] (fun aC wx=>(∃D,aC=.bool D)/\wx=w0)
 case first=>
  go_wp2_with fail;refine(lM _ _).mono ?_;rintro p P ⟨rfl,rfl⟩;cases jJ c.name
  . go_wp2;go_meet;exact⟨⟨_,rfl⟩,rfl⟩
  obtain⟨qs,aJ⟩:∃o,(c.jl.toList==[])=o:=⟨_,rfl⟩;cases qs
  . go_wp2_with fail;refine(lM _ _).mono ?_;rintro p P ⟨rfl,rfl⟩;cases jJ c.jl
    . go_wp2;go_meet;exact⟨⟨_,rfl⟩,rfl⟩
    by_cases h3:3<c.fields.length
    . have J:decide ((3:Int)<c.fields.length)=true:=Tz Zm;go_wp2;go_meet;exact⟨⟨_,rfl⟩,rfl⟩
    . have J:decide ((3:Int)<c.fields.length)=false:=SL Zm;go_wp2;go_meet;exact⟨⟨_,rfl⟩,rfl⟩
  . by_cases h3:3<c.fields.length
    . have J:decide ((3:Int)<c.fields.length)=true:=Tz Zm;go_wp2;go_meet;exact⟨⟨_,rfl⟩,rfl⟩
    . have J:decide ((3:Int)<c.fields.length)=false:=SL Zm;go_wp2;go_meet;exact⟨⟨_,rfl⟩,rfl⟩
 obtain⟨⟨D,rfl⟩,ai⟩:=hcut;rw[ai];clear ai;cases D;rotate_left
 . go_wp2;go_ret;exact⟨⟨_,rfl⟩,j⟩
 go_wp2;go_loopw [3] (fun i wr=>∃g:Nat,g<=c.fields.length/\i=.int .i64 g/\Ext w0 wr) (fun i _=>c.fields.length - (intOf i).toNat)
 case atStart=>exact⟨0,SV _,rfl,Kp.rr⟩
 case round =>
  obtain⟨g,hk,rfl,q⟩:=hrel;have t:=Zy q;have F:=q.je T;have V:=q.je U;have W:=jc F;clear c0 c1 T U cz;by_cases af:g<c.fields.length
  . have dk:(g:Int)<c.fields.length:=Zm
    obtain⟨l,B⟩:∃l,c.fields[g]?=some l:=⟨c.fields[g]'af,Ou af⟩;obtain⟨E,O,cs,rfl,hI,rfl,-,z⟩:=R.get B;obtain⟨u,v,x⟩:=(z.ext (j.trans q)).three;have C:=Zy ((R.take (i:=g) Zm).ext lv.stays (j.trans q));have A:(c.fields.take g).length=g:=by rw[Tj];omega
    obtain⟨av,ay,aB,e⟩:=ll wr;have y0:=fun b=>(e.jv b).je u;have y1:=fun b=>(e.jv b).je v;have y2:=fun b=>(e.jv b).je x;have y3:=fun b=>(e.jv b).je F;have⟨f,aj⟩:=jf e A;clear e q z B u v x W A;have m:Ext wr wr.drew:=jg;go_wp2_with fail;refine jW f 32 [([0,1,2,3,4,5],6),([7,8,9,10,11,12,13,14],15),([16,17,18,19,20,21,22,23,24,25,26,27,28],29)] [30,31] ?_ ?_
    . exact jg
    refine lJ ?_;intro d a;go_wp2_with fail;refine(lM _ _).mono ?_;rintro p w1 ⟨rfl,rfl⟩;cases jJ l.name
    . go_wp2_with fail;refine kk f a m ?_;clear a d;refine lJ ?_;intro d a;go_wp2_with fail;refine kk f a m ?_;clear a d;refine lJ ?_;intro d a;go_wp2_with fail;refine kk f a m ?_;clear a d;refine rC ?_;go_wp2;go_ret;exact⟨⟨_,rfl⟩,(j.trans t).trans m⟩
    go_wp2_with fail;refine kk f a m ?_;clear a d;refine lJ ?_;intro d a;go_wp2_with fail;refine(BO l.kind.kind l.kind.name).mono ?_;rintro p w2 ⟨⟨q2,rfl⟩,r⟩;have h:=m.trans r;cases q2
    . go_wp2_with fail;refine kk f a h ?_;clear a d;refine lJ ?_;intro d a;go_wp2_with fail;refine kk f a h ?_;clear a d;refine rC ?_;go_wp2;go_ret;exact⟨⟨_,rfl⟩,(j.trans t).trans h⟩
    go_wp2_with fail;refine kk f a h ?_;clear a d;refine lJ ?_;intro d a;go_wp2_with fail;refine(J9 I (.slice (some ⟨E,O,none⟩) g m1) (c.fields.take g) (C.ext lv.stays h) l.name).mono ?_;rintro p w3 ⟨⟨N,rfl,-⟩,K⟩;have n:=h.trans K;obtain⟨o,hq⟩:∃o,decide (0<=N)=o:=⟨_,rfl⟩;cases o
    . go_wp2_with fail;refine kk f a n ?_;clear a d;refine rC ?_;go_wp2;go_round
      case rel=>exact⟨g+1,Zm,by go_num,t.o.trans n⟩
      case measure=>simp[intOf];omega
    . go_wp2_with fail;refine kk f a n ?_;clear a d;refine rC ?_;go_wp2;go_ret;exact⟨⟨_,rfl⟩,(j.trans t).trans n⟩
  . have dk : ¬ (g : Int) < c.fields.length := by omega
    obtain⟨Q,rfl⟩:∃Q:World,Q=wr:=⟨_,rfl⟩;clear q;go_wp2;go_loopw [4] (fun i wr=>∃g:Nat,g<=c.methods.length/\i=.int .i64 g/\Ext Q wr) (fun i _=>c.methods.length - (intOf i).toNat)
    case atStart=>exact⟨0,SV _,rfl,Kp.rr⟩
    case round =>
     obtain⟨k,aD,rfl,r⟩:=hrel;have⟨s,aA⟩:=jf (t.trans r) r;have X:=r.je V;have ez:=jc X;clear F V W;by_cases ag:k<c.methods.length
     . have ax:(k:Int)<c.methods.length:=Zm
       obtain⟨l,B⟩:∃l,c.methods[k]?=some l:=⟨c.methods[k]'ag,Ou ag⟩;obtain⟨E,O,cs,rfl,hI,L,-,z⟩:=S.get B;obtain⟨ma,mu,mb,mv,md,mw,rfl⟩:=L.form;have ae:=jd.stays _ _ _ _ _ _ (Ext.same (j.trans s)) (fun _ y=>y) L;obtain⟨u,v,x,Y,Z,g5,g6,g7⟩:=(z.ext (j.trans s)).eight;have C:=Zy ((S.take (i:=k) Zm).ext jd.stays (j.trans s));have A:(c.methods.take k).length=k:=by rw[Tj];omega
       obtain⟨av,ay,aB,e⟩:=ll wr;have y0:=fun b=>(e.jv b).je u;have y1:=fun b=>(e.jv b).je v;have y2:=fun b=>(e.jv b).je x;have y3:=fun b=>(e.jv b).je Y;have y4:=fun b=>(e.jv b).je Z;have y5:=fun b=>(e.jv b).je g5;have y6:=fun b=>(e.jv b).je g6;have y7:=fun b=>(e.jv b).je g7;have ye:=fun b=>(e.jv b).je X;have f:=Zy e;have ak:=Zy ae;have aj:=Zy A;clear e r z B u v x Y Z g5 g6 g7 ez A L ae;have m:Ext wr wr.drew:=jg;go_wp2_with fail;refine jW f 21 [([0,1,2,3,4],5),([6,7,8,9,10,11,12,13,14,15,16,17],18)] [19,20] ?_ ?_
       . exact jg
       refine lJ ?_;intro d a;go_wp2_with fail;refine(OC I l (jd.stays _ _ _ _ _ _ (Ext.same m) (fun _ y=>y) ak)).mono ?_;rintro p w2 ⟨⟨q2,rfl⟩,az⟩;have h:=m.trans az;cases q2
       . go_wp2_with fail;refine kk f a h ?_;clear a d;refine lJ ?_;intro d a;go_wp2_with fail;refine kk f a h ?_;clear a d;refine rC ?_;go_wp2;go_ret;exact⟨⟨_,rfl⟩,(j.trans s).trans h⟩
       go_wp2_with fail;refine kk f a h ?_;clear a d;refine lJ ?_;intro d a;go_wp2_with fail;refine(Ja I (.slice (some ⟨E,O,none⟩) k m2) (c.methods.take k) (C.ext jd.stays h) l.name).mono ?_;rintro p w3 ⟨⟨N,rfl,-⟩,K⟩;have n:=h.trans K;obtain⟨o,hq⟩:∃o,decide (0<=N)=o:=⟨_,rfl⟩;cases o
       . go_wp2_with fail;refine kk f a n ?_;clear a d;refine rC ?_;go_wp2;go_round
         case rel=>exact⟨k+1,Zm,by go_num,(aA.o).trans n⟩
         case measure=>simp[intOf];omega
       . go_wp2_with fail;refine kk f a n ?_;clear a d;refine rC ?_;go_wp2;go_ret;exact⟨⟨_,rfl⟩,(j.trans s).trans n⟩
     . have ax:¬(k:Int)<c.methods.length:=Zm
       clear r;go_wp2;go_ret;exact⟨⟨_,rfl⟩,j.trans s⟩
end Go.Proofs.YtlhgbjbkjalfjaaGreat
