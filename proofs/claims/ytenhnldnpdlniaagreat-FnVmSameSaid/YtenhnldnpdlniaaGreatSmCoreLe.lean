/- Walks. -/
import Derived.Test.YtenhnldnpdlniaaGreatSmCoreLb
import Derived.Test.YtenhnldnpdlniaaGreatSmCoreLc
set_option maxRecDepth 100000
set_option maxHeartbeats 4000000
set_option linter.all false
namespace Go.Proofs.YtenhnldnpdlniaaGreat
open Go Go.RowKit Tryz M
theorem sP(op a:Int)(n m:ByteArray)(w:World)(y: -100000<=a/\a<=100000)(K:n.size<=1000)(J:m.size<=1000):Calls prog 86 #[.agg #[op,a,n,m]] w fun c p=>LU 20000 c/\Ext w p:=by
 obtain⟨H,I⟩:=y;have k:∀d,Calls prog 135 #[a] d fun c s=>LU 11200 c/\Ext d s:=fun d=>(Lt a d Zm Zm).mono (by
  rintro c p ⟨⟨C,rfl,-,A⟩,x⟩;exact⟨⟨_,rfl,Zm⟩,x⟩)
 have r:=Zy k;clear k;go_enter func86,ntmps86;go_wp2_with fail;refine(Nr op a n m).mono ?_;rintro c M ⟨⟨t,rfl,o⟩,j⟩;have e:=Zy j;clear j;cases t
 . go_wp2;go_ret;exact⟨⟨_,rfl,Tz _⟩,Zv⟩
 . have g:=(jq.new w 134 #[op,a,n,m]).ext e;obtain⟨u,v⟩:=o rfl;obtain⟨b,rfl⟩:∃b:Nat,op=b:=⟨op.toNat,Zm⟩;have z:b=1\/b=2\/b=3\/b=4\/b=5\/b=6\/b=7\/b=8\/b=9\/b=10\/b=11\/b=12\/b=13\/b=14\/b=15:=Zm
   have i:=g.c 0 b rfl;have h:=Zy g;clear g;go_wp2_with fail;refine(CY b Zm).mono ?_;rintro c N ⟨⟨C,rfl,A⟩,f⟩;have q:=Zy (e.trans f);have B:(ByteArray.mk #[32]).size=1:=rfl;have l:=h.ext f;clear f e i o u v;obtain⟨-,i,D,E,F,-⟩:=l.ca;clear l h;rcases z with rfl|rfl|rfl|rfl|rfl|rfl|rfl|rfl|rfl|rfl|rfl|rfl|rfl|rfl|rfl
   all_goals
    go_wp2_with (go_at_call 135;refine(r _).mono ?_;rintro c O ⟨⟨P,rfl,L⟩,G⟩);go_ret;refine⟨⟨_,rfl,by first|omega|(simp only[UQ,B];omega)⟩,?_⟩;have:=q.o;exact Zv
namespace M
theorem OI:∀(l d:List UInt8),∀b∈nO d l,b.length<=d.length+l.length
 |[],d,b,a=>by simp[nO]at a;subst a;simp
 |c::r,d,b,a=>by
  rw[nO]at a;split at a
  . rcases Ui.1 a with rfl|a
    . omega
    . have:=OI r [] b a;simp at this |-;omega
  . have:=OI r _ b a;simp at this |-;omega
theorem JY{s x:ByteArray}(b:x∈words s):x.size<=s.size:=by
 unfold words at b;obtain⟨a,c,rfl⟩:=V5.1 b;have:=OI s.data.toList [] a c;have d:(bs a).size=a.length:=by simp[bs,ByteArray.size]
 have e:s.data.toList.length=s.size:=by simp
 simp at this;omega
theorem FK(s:ByteArray):∃b a,words s=b::a:=by
 cases c:words s with
 |nil=>exact absurd (by simpa [words]using c) (LB s.data.toList [])
 |cons b a=>exact⟨b,a,rfl⟩
end M
theorem lQ.at_{w:World}{I:Nat->Prop}{a:Option Addr}{n c:Nat}{xs:List ByteArray}{i:Nat}{x:ByteArray}(f:SliceOf 1 lQ w I (.slice a n c) xs)(h:xs[i]?=some x):∃b d,a=some ⟨b,d,none⟩/\w.cell? ⟨b,d+i,none⟩=some (.string x):=by
 obtain⟨b,d,j,e,-,rfl,-,g⟩:=f.get h;exact⟨b,d,e,by simpa using g.one⟩
theorem Kp.oQ{D:Nat->Prop}{w:World}{b:Nat}(a:D b)(c d e f:Value):Kp D w ((((w.setCell b c).setCell (b,1) d).setCell (b,2) e).setCell (b,3) f):=
 (((((Kp.refl D w).setCell (p:=⟨b,0,none⟩) (fun _=>a) c).setCell (p:=⟨b,1,none⟩) (fun _=>a) d).setCell (p:=⟨b,2,none⟩) (fun _=>a) e).setCell (p:=⟨b,3,none⟩) (fun _=>a) f)
theorem jq.oQ{w:World}{b:Nat}{t:TypeId}{u0 u1 u2 u3:Value}(f:jq w b t #[u0,u1,u2,u3])(a c d e:Value):jq ((((w.setCell b a).setCell (b,1) c).setCell (b,2) d).setCell (b,3) e) b t #[a,c,d,e]:=by
 have g:jq (w.setCell b a) b t #[a,u1,u2,u3]:=f.jR 0 a;have h:jq ((w.setCell b a).setCell (b,1) c) b t #[a,c,u2,u3]:=g.jR 1 c;have i:jq (((w.setCell b a).setCell (b,1) c).setCell (b,2) d) b t #[a,c,d,u3]:=h.jR 2 d;exact i.jR 3 e
def N7(m:Nat)(e:Ending):Prop:=∃op a n k b,e=.returned (.tuple #[.agg #[.int .i64 op,.int .i64 a,.string n,.string k],.bool b])/\n.size<=m/\k.size<=m
theorem JF (s : ByteArray){w: World}(hs : s.size <= 4000000000) : Calls prog 168 #[s] w fun b w' => N7 s.size b /\ Ext w w' := by
 obtain⟨w0,aP,aK,hb⟩:=nu w #[Tj,Tj,"",""] 134;have⟨aT,HB,aU⟩:=jI aK hb aP;clear aK hb aP;go_enter func168,ntmps168;go_wp2_with fail;rw[<-aU.o];refine(Bl s w0 hs).mono ?_;rintro b w1 ⟨⟨bG,rfl,hS⟩,aF⟩;obtain⟨bn,bq,rfl,aO,-⟩:=hS.form;obtain⟨x0,ak,aY⟩:=M.FK s;have aI:Zz (∀aR∈M.words s,aR.size<=s.size):=Zy (fun aR hx=>M.JY hx);rw[aY]at hS aO aI |-;obtain⟨aJ,bF,rfl,G⟩:=lQ.at_ (i:=0) hS rfl;rw[UU]at G;obtain⟨V,U⟩:∃V,(x0::ak).length=V:=⟨_,rfl⟩;have bz:1<=V:=by rw[<-U];simp
 have HN:=Zy U;rw[U]at aO hS |-;have⟨HS,ag,aC⟩:=jI hS (HB.ext aF) (aT.trans aF);clear aF hS U;go_wp2;go_loopw [5] (fun i wr=>∃d:Nat,1<=d/\d<=16/\i=.int .i64 d/\Ext w1 wr) (fun i _=>16 - (intOf i).toNat)
 case atStart=>exact⟨1,Tu _,Zm,rfl,Kp.rr⟩
 case round=>
  obtain⟨d,k1,bE,rfl,hE⟩:=hrel;have gw:=hE.jm G;have Y:=jv gw;have W:=Zy hE;clear hE;by_cases hk:d<=15
  . have aV:(d:Int)<=15:=Zm
    obtain⟨bg,bu,bD,HT⟩:=lL wr;have r0:=fun bf=>(HT.jC bf).jm gw;have au:=Zy HT;clear HT;go_wp2_with fail;refine lq au 6 [([0,2,3,4],1)] [5] ?_ ?_
    . exact jA
    refine nE ?_;intro K2 az;go_wp2_with fail;refine(CY d Zm).mono ?_;rintro b a ⟨⟨aZ,rfl,ht⟩,aL⟩;have N:=Zy (((Kp.refl _ wr).drew).trans aL);clear aL;cases hq:(aZ.toList==x0.toList)
    . go_wp2_with fail;refine kk au az N ?_;clear az K2;refine uC ?_;go_wp2;go_round
      case rel=>exact⟨d+1,Zm,Zm,Zk,W.o.trans N.o⟩
      case measure=>exact Zj
    . go_wp2_with fail;refine kk au az N ?_;clear az K2;refine uC ?_;obtain⟨w3,aB⟩:=S9 (a.alloc (.cells #[d,Tj,"",""] 134));have aM:Ext a w3:=by rw[aB];exact kx
      have ay:=(W.trans N).trans aM;have P:Zz (jq w3 a 134 #[d,Tj,"",""]):=Zy (by rw[aB];exact jq.new _ _ _);have⟨L,X,aj,aD⟩:=kD (ag.ext ay) (aC.trans ay) (HS.ext lQ.stays ay) aB;have af:(w:Nat)≠a:=Tf ag.lt ((W.trans N).size)
      have aN:aJ≠a:=Te N.size
      have aa:Zz ((w:Nat)<a):=Zy (Tf ag.lt ((W.trans N).size));clear aM ay aB G gw Y W N ag aC HS au r0 hq ht;have ae:=aI.o;rcases ak with _|⟨h,ak⟩
      . have U:V=1:=HN.symm;subst U;clear ae;rw[aD.o]at L P X;obtain⟨-,t,u,v,x,-⟩:=L.ca;obtain⟨n,o,p,q,-⟩:=L.fz;obtain⟨-,B,C,D,E,-⟩:=P.ca;obtain⟨G,f,H,S,-⟩:=P.fz;have y:=L.lt;have F:=P.lt;by_cases av:(30:Int)<s.size
        . go_wp2_with fail;refine PG (hU nD rfl w rfl [Tj,Tj,"",""] (hQ.kX (jq.oQ L _ _ _ _)) rfl) rfl ?_;exact⟨⟨_,_,_,_,_,rfl,Tz _,Tz _⟩,X.own (Kp.oQ (D:=(·=w)) rfl _ _ _ _) (fun _ b=>Zm)⟩
        . have ax:s.size<=30:=Zm
          go_wp2_with fail;refine(sP d 0 ⟨#[]⟩ ⟨#[]⟩ _ Zm (Tz _) (Tz _)).mono ?_;rintro b w6 ⟨⟨T,rfl,-⟩,e⟩;have⟨c,z,A⟩:=jI (L.ext e) (P.ext e) (X.trans e);clear t u v x n o p q B C D E G f H S y F e;obtain⟨-,t,u,v,x,-⟩:=c.ca;obtain⟨n,o,p,q,-⟩:=c.fz;obtain⟨-,B,C,D,E,-⟩:=z.ca;have y:=c.lt;have F:=z.lt;cases aA:(T.toList==s.toList)
          . go_wp2_with fail;refine PG (hU nD rfl w rfl [Tj,Tj,"",""] (hQ.kX (jq.oQ c _ _ _ _)) rfl) rfl ?_;exact⟨⟨_,_,_,_,_,rfl,Tz _,Tz _⟩,A.own (Kp.oQ (D:=(·=w)) rfl _ _ _ _) (fun _ b=>Zm)⟩
          . go_wp2_with fail;refine PG (hU nD rfl w rfl [d,Tj,"",""] (hQ.kX (jq.oQ c _ _ _ _)) rfl) rfl ?_;exact⟨⟨_,_,_,_,_,rfl,Tz _,Tz _⟩,A.own (Kp.oQ (D:=(·=w)) rfl _ _ _ _) (fun _ b=>Zm)⟩
      . rcases ak with _|⟨K,ak⟩
        . obtain⟨_,_,e1,f⟩:=lQ.at_ (i:=1) aj rfl;cases e1;have aH:=ae h Zl;have U:V=2:=HN.symm;subst U;have Y:=jv f;clear ae aj;rw[aD.o]at L P X f Y;go_wp2_with fail;refine(sQ h Zm).mono ?_;rintro b g ⟨⟨r,ok,rfl,-,aW,aX⟩,I⟩;have⟨O,j,ah⟩:=jI (L.ext I) (P.ext I) (X.trans I);have h1:=I.jm f;have hz:=jv h1;clear I f Y;have aG:aJ≠a:=aN;have v0:=j.frozen 0;have v1:=j.frozen 1;have v2:=j.frozen 2;have v3:=j.frozen 3;have vz:=j.lt;obtain⟨pz,q0,q1,q2,q3,-⟩:=O.ca;obtain⟨p0,p1,p2,p3,-⟩:=O.fz;obtain⟨-,l0,l1,l2,l3,-⟩:=j.ca;cases ok
          . have l:Kp (·=a) g (g.setCell (a,2) h):=qM;have k:Zz (jq (g.setCell (a,2) h) a 134 #[d,Tj,h,""]):=Zy (j.jR 2 _);have⟨m,R⟩:=jw (O.kp l af) (ah.own l (fun _ b=>Te aa.o));clear l;obtain⟨-,t,u,v,x,-⟩:=m.ca;obtain⟨n,o,p,q,-⟩:=m.fz;obtain⟨-,B,C,D,E,-⟩:=k.ca;obtain⟨G,f,H,S,-⟩:=k.fz;have y:=m.lt;have F:=k.lt;by_cases av:(30:Int)<s.size
            . go_wp2_with fail;refine PG (hU nD rfl w rfl [Tj,Tj,"",""] (hQ.kX (jq.oQ m _ _ _ _)) rfl) rfl ?_;exact⟨⟨_,_,_,_,_,rfl,Tz _,Tz _⟩,R.own (Kp.oQ (D:=(·=w)) rfl _ _ _ _) (fun _ b=>Zm)⟩
            . have ax:s.size<=30:=Zm
              go_wp2_with fail;refine(sP d 0 h ⟨#[]⟩ _ Zm Zm (Tz _)).mono ?_;rintro b w6 ⟨⟨T,rfl,-⟩,e⟩;have⟨c,z,A⟩:=jI (m.ext e) (k.ext e) (R.trans e);clear t u v x n o p q B C D E G f H S y F e;obtain⟨-,t,u,v,x,-⟩:=c.ca;obtain⟨n,o,p,q,-⟩:=c.fz;obtain⟨-,B,C,D,E,-⟩:=z.ca;have y:=c.lt;have F:=z.lt;cases aA:(T.toList==s.toList)
              . go_wp2_with fail;refine PG (hU nD rfl w rfl [Tj,Tj,"",""] (hQ.kX (jq.oQ c _ _ _ _)) rfl) rfl ?_;exact⟨⟨_,_,_,_,_,rfl,Tz _,Tz _⟩,A.own (Kp.oQ (D:=(·=w)) rfl _ _ _ _) (fun _ b=>Zm)⟩
              . go_wp2_with fail;refine PG (hU nD rfl w rfl [d,Tj,h,""] (hQ.kX (jq.oQ c _ _ _ _)) rfl) rfl ?_;exact⟨⟨_,_,_,_,_,rfl,aH,Tz _⟩,A.own (Kp.oQ (D:=(·=w)) rfl _ _ _ _) (fun _ b=>Zm)⟩
          . have l:Kp (·=a) g (g.setCell (a,1) r):=qM;have k:Zz (jq (g.setCell (a,1) r) a 134 #[d,r,"",""]):=Zy (j.jR 1 _);have⟨m,R⟩:=jw (O.kp l af) (ah.own l (fun _ b=>Te aa.o));clear l;obtain⟨-,t,u,v,x,-⟩:=m.ca;obtain⟨n,o,p,q,-⟩:=m.fz;obtain⟨-,B,C,D,E,-⟩:=k.ca;obtain⟨G,f,H,S,-⟩:=k.fz;have y:=m.lt;have F:=k.lt;by_cases av:(30:Int)<s.size
            . go_wp2_with fail;refine PG (hU nD rfl w rfl [Tj,Tj,"",""] (hQ.kX (jq.oQ m _ _ _ _)) rfl) rfl ?_;exact⟨⟨_,_,_,_,_,rfl,Tz _,Tz _⟩,R.own (Kp.oQ (D:=(·=w)) rfl _ _ _ _) (fun _ b=>Zm)⟩
            . have ax:s.size<=30:=Zm
              go_wp2_with fail;refine(sP d r ⟨#[]⟩ ⟨#[]⟩ _ Zm (Tz _) (Tz _)).mono ?_;rintro b w6 ⟨⟨T,rfl,-⟩,e⟩;have⟨c,z,A⟩:=jI (m.ext e) (k.ext e) (R.trans e);clear t u v x n o p q B C D E G f H S y F e;obtain⟨-,t,u,v,x,-⟩:=c.ca;obtain⟨n,o,p,q,-⟩:=c.fz;obtain⟨-,B,C,D,E,-⟩:=z.ca;have y:=c.lt;have F:=z.lt;cases aA:(T.toList==s.toList)
              . go_wp2_with fail;refine PG (hU nD rfl w rfl [Tj,Tj,"",""] (hQ.kX (jq.oQ c _ _ _ _)) rfl) rfl ?_;exact⟨⟨_,_,_,_,_,rfl,Tz _,Tz _⟩,A.own (Kp.oQ (D:=(·=w)) rfl _ _ _ _) (fun _ b=>Zm)⟩
              . go_wp2_with fail;refine PG (hU nD rfl w rfl [d,r,"",""] (hQ.kX (jq.oQ c _ _ _ _)) rfl) rfl ?_;exact⟨⟨_,_,_,_,_,rfl,Tz _,Tz _⟩,A.own (Kp.oQ (D:=(·=w)) rfl _ _ _ _) (fun _ b=>Zm)⟩
        . obtain⟨_,_,e1,f⟩:=lQ.at_ (i:=1) aj rfl;cases e1;have aH:=ae h Zl;obtain⟨_,_,e1,H⟩:=lQ.at_ (i:=2) aj rfl;cases e1;have aQ:=ae K Zl;have bA:3<=V:=by have:=HN.o;simp at this;omega
          have bB:(1:Int)<V:=Zm
          have bC:(2:Int)<V:=Zm
          have Y:=jv f;clear ae aj;rw[aD.o]at L P X f Y H;go_wp2_with fail;refine(sQ h Zm).mono ?_;rintro b g ⟨⟨r,ok,rfl,-,aW,aX⟩,I⟩;have⟨O,j,ah⟩:=jI (L.ext I) (P.ext I) (X.trans I);have h1:=I.jm f;have hz:=jv h1;have h2:=I.jm H;clear I f Y H;have aG:=aN;have v0:=j.frozen 0;have v1:=j.frozen 1;have v2:=j.frozen 2;have v3:=j.frozen 3;have vz:=j.lt;obtain⟨pz,q0,q1,q2,q3,-⟩:=O.ca;obtain⟨p0,p1,p2,p3,-⟩:=O.fz;obtain⟨-,l0,l1,l2,l3,-⟩:=j.ca;cases ok
          . have l:Kp (·=a) g (g.setCell (a,2) h):=qM;have k:Zz (jq (g.setCell (a,2) h) a 134 #[d,Tj,h,""]):=Zy (j.jR 2 _);have⟨m,R⟩:=jw (O.kp l af) (ah.own l (fun _ b=>Te aa.o));have h3:=l.mJ h2 aG;have y3:=k.c 3 "" rfl;have x3:=k.frozen 3;have Z:Kp (·=a) (g.setCell (a,2) h) ((g.setCell (a,2) h).setCell (a,3) K):=qM;have Q:Zz (jq ((g.setCell (a,2) h).setCell (a,3) K) a 134 #[d,Tj,h,K]):=Zy (k.jR 3 _);have⟨J,ai⟩:=jw (m.kp Z af) (R.own Z (fun _ b=>Te aa.o));clear Z;clear l;obtain⟨-,t,u,v,x,-⟩:=J.ca;obtain⟨n,o,p,q,-⟩:=J.fz;obtain⟨-,B,C,D,E,-⟩:=Q.ca;obtain⟨G,f,H,S,-⟩:=Q.fz;have y:=J.lt;have F:=Q.lt;by_cases av:(30:Int)<s.size
            . go_wp2_with fail;refine PG (hU nD rfl w rfl [Tj,Tj,"",""] (hQ.kX (jq.oQ J _ _ _ _)) rfl) rfl ?_;exact⟨⟨_,_,_,_,_,rfl,Tz _,Tz _⟩,ai.own (Kp.oQ (D:=(·=w)) rfl _ _ _ _) (fun _ b=>Zm)⟩
            . have ax:s.size<=30:=Zm
              go_wp2_with fail;refine(sP d 0 h K _ Zm Zm Zm).mono ?_;rintro b w6 ⟨⟨T,rfl,-⟩,e⟩;have⟨c,z,A⟩:=jI (J.ext e) (Q.ext e) (ai.trans e);clear t u v x n o p q B C D E G f H S y F e;obtain⟨-,t,u,v,x,-⟩:=c.ca;obtain⟨n,o,p,q,-⟩:=c.fz;obtain⟨-,B,C,D,E,-⟩:=z.ca;have y:=c.lt;have F:=z.lt;cases aA:(T.toList==s.toList)
              . go_wp2_with fail;refine PG (hU nD rfl w rfl [Tj,Tj,"",""] (hQ.kX (jq.oQ c _ _ _ _)) rfl) rfl ?_;exact⟨⟨_,_,_,_,_,rfl,Tz _,Tz _⟩,A.own (Kp.oQ (D:=(·=w)) rfl _ _ _ _) (fun _ b=>Zm)⟩
              . go_wp2_with fail;refine PG (hU nD rfl w rfl [d,Tj,h,K] (hQ.kX (jq.oQ c _ _ _ _)) rfl) rfl ?_;exact⟨⟨_,_,_,_,_,rfl,aH,aQ⟩,A.own (Kp.oQ (D:=(·=w)) rfl _ _ _ _) (fun _ b=>Zm)⟩
          . have l:Kp (·=a) g (g.setCell (a,1) r):=qM;have k:Zz (jq (g.setCell (a,1) r) a 134 #[d,r,"",""]):=Zy (j.jR 1 _);have⟨m,R⟩:=jw (O.kp l af) (ah.own l (fun _ b=>Te aa.o));have h3:=l.mJ h2 aG;have y3:=k.c 3 "" rfl;have x3:=k.frozen 3;have Z:Kp (·=a) (g.setCell (a,1) r) ((g.setCell (a,1) r).setCell (a,3) K):=qM;have Q:Zz (jq ((g.setCell (a,1) r).setCell (a,3) K) a 134 #[d,r,"",K]):=Zy (k.jR 3 _);have⟨J,ai⟩:=jw (m.kp Z af) (R.own Z (fun _ b=>Te aa.o));clear Z;clear l;obtain⟨-,t,u,v,x,-⟩:=J.ca;obtain⟨n,o,p,q,-⟩:=J.fz;obtain⟨-,B,C,D,E,-⟩:=Q.ca;obtain⟨G,f,H,S,-⟩:=Q.fz;have y:=J.lt;have F:=Q.lt;by_cases av:(30:Int)<s.size
            . go_wp2_with fail;refine PG (hU nD rfl w rfl [Tj,Tj,"",""] (hQ.kX (jq.oQ J _ _ _ _)) rfl) rfl ?_;exact⟨⟨_,_,_,_,_,rfl,Tz _,Tz _⟩,ai.own (Kp.oQ (D:=(·=w)) rfl _ _ _ _) (fun _ b=>Zm)⟩
            . have ax:s.size<=30:=Zm
              go_wp2_with fail;refine(sP d r ⟨#[]⟩ K _ Zm (Tz _) Zm).mono ?_;rintro b w6 ⟨⟨T,rfl,-⟩,e⟩;have⟨c,z,A⟩:=jI (J.ext e) (Q.ext e) (ai.trans e);clear t u v x n o p q B C D E G f H S y F e;obtain⟨-,t,u,v,x,-⟩:=c.ca;obtain⟨n,o,p,q,-⟩:=c.fz;obtain⟨-,B,C,D,E,-⟩:=z.ca;have y:=c.lt;have F:=z.lt;cases aA:(T.toList==s.toList)
              . go_wp2_with fail;refine PG (hU nD rfl w rfl [Tj,Tj,"",""] (hQ.kX (jq.oQ c _ _ _ _)) rfl) rfl ?_;exact⟨⟨_,_,_,_,_,rfl,Tz _,Tz _⟩,A.own (Kp.oQ (D:=(·=w)) rfl _ _ _ _) (fun _ b=>Zm)⟩
              . go_wp2_with fail;refine PG (hU nD rfl w rfl [d,r,"",K] (hQ.kX (jq.oQ c _ _ _ _)) rfl) rfl ?_;exact⟨⟨_,_,_,_,_,rfl,Tz _,aQ⟩,A.own (Kp.oQ (D:=(·=w)) rfl _ _ _ _) (fun _ b=>Zm)⟩
  . have aV:¬(d:Int)<=15:=Zm
    have hB:=ag.ext W;obtain⟨-,t,u,v,x,-⟩:=hB.ca;obtain⟨n,o,p,q,-⟩:=hB.fz;have⟨aS,N⟩:=jw hB (aC.trans W);have y:=hB.lt;clear hB;go_wp2_with fail;refine PG (hU nD rfl w rfl [Tj,Tj,"",""] (hQ.kX (jq.oQ aS _ _ _ _)) rfl) rfl ?_;exact⟨⟨_,_,_,_,_,rfl,Tz _,Tz _⟩,N.own (Kp.oQ (D:=(·=w)) rfl _ _ _ _) (fun _ b=>Zm)⟩
theorem uM:zQ 236 2:=⟨_,underlying236,Zo⟩
theorem Aq:zQ 93 2:=⟨_,underlying93,Zo⟩
theorem zl:zQ 154 3:=⟨_,underlying154,Zo⟩
theorem uS:zQ 38 4:=⟨_,underlying38,Zo⟩
theorem yX(s:ByteArray){w:World}:Calls prog 210 #[s] w fun a b=>R8 s.size a/\Ext w b:=by
 cases c:(s.toList==[63])
 . cases d:(s.toList==[35])
   . cases e:(s.toList==[33])
     . go_enter func210,ntmps210;go_wp2_with fail;refine(kT s _).mono ?_;rintro a f ⟨rfl,rfl⟩;go_wp2_with fail;refine PG (hU uM rfl w rfl [.int .i64 2,s] (hQ.oI _ _ rfl) rfl) rfl ?_;exact⟨⟨_,_,_,rfl,Tu _⟩,kx⟩
     . go_enter func210,ntmps210;go_wp2_with fail;refine PG (hU uM rfl w rfl [.int .i64 3,""] (hQ.oI _ _ rfl) rfl) rfl ?_;exact⟨⟨_,_,_,rfl,Tz _⟩,kx⟩
   . go_enter func210,ntmps210;go_wp2_with fail;refine PG (hU uM rfl w rfl [.int .i64 1,""] (hQ.oI _ _ rfl) rfl) rfl ?_;exact⟨⟨_,_,_,rfl,Tz _⟩,kx⟩
 . go_enter func210,ntmps210;go_wp2_with fail;refine PG (hU uM rfl w rfl [Tj,""] (hQ.oI _ _ rfl) rfl) rfl ?_;exact⟨⟨_,_,_,rfl,Tz _⟩,kx⟩
theorem Kp.Ce{D:Nat->Prop}{w:World}{b:Nat}(a:D b)(c d e:Value):Kp D w (((w.setCell b c).setCell (b,1) d).setCell (b,2) e):=
 ((((Kp.refl D w).setCell (p:=⟨b,0,none⟩) (fun _=>a) c).setCell (p:=⟨b,1,none⟩) (fun _=>a) d).setCell (p:=⟨b,2,none⟩) (fun _=>a) e)
theorem jq.Ce{w:World}{b:Nat}{t:TypeId}{u0 u1 u2:Value}(e:jq w b t #[u0,u1,u2])(a c d:Value):jq (((w.setCell b a).setCell (b,1) c).setCell (b,2) d) b t #[a,c,d]:=by
 have f:jq (w.setCell b a) b t #[a,u1,u2]:=e.jR 0 a;have g:jq ((w.setCell b a).setCell (b,1) c) b t #[a,c,u2]:=f.jR 1 c;exact g.jR 2 d
def Rh(m:Nat)(e:Ending):Prop:=∃n k s b,e=.returned (.tuple #[.agg #[.string n,.int .i64 k,.string s],.bool b])/\n.size<=m/\s.size<=m
theorem EI{n:Nat}(a:n≠3):((n:Int)==3)=false/\((n:Int) !=3)=true:=by
 have:(n:Int)≠3:=Zm
 exact⟨SK.2 this,by simp[this]⟩
theorem F6(xs:List ByteArray){v:Value}(m:Nat){I:Nat->Prop}{w:World}(a:SliceOf 1 lQ w I v xs)(g:∀T∈xs,T.size<=m):Calls prog 165 #[v] w fun e R=>Rh m e/\Ext w R:=by
 obtain⟨V,X,rfl,k,-⟩:=a.form;by_cases o:xs.length=3
 . match xs,o,a,g,k with
   |[x0,x1,x2],_,a,g,k=>
    obtain⟨b,ae,rfl,s⟩:=lQ.at_ (i:=1) a rfl;obtain⟨_,_,K,g2⟩:=lQ.at_ (i:=2) a rfl;cases K;have hz:=jv s;have P:=g x1 Zl;have Q:=g x2 Zl;have c:=fun H=>Zy (kT x1 H);clear a g;simp only[TL,U8]at k |-;cases t:jL x1
    . simp only[t]at c;go_enter func165,ntmps165;go_wp2_with fail;refine(c _).o.mono ?_;rintro e S ⟨rfl,rfl⟩;go_wp2_with fail;refine PG (hU zl rfl w rfl ["",Tj,""] (hQ.oI _ _ rfl) rfl) rfl ?_;exact⟨⟨_,_,_,_,rfl,Tz _,Tz _⟩,kx⟩
    . simp only[t]at c;go_enter func165,ntmps165;go_wp2_with fail;refine(c _).o.mono ?_;rintro e S ⟨rfl,rfl⟩;go_wp2_with fail;refine(yV x2).mono ?_;rintro e C ⟨⟨l,n,W,rfl,O⟩,f⟩;obtain⟨q,A,i,p⟩:=nu C #[l,n] 109;have j:=(jq.new w 154 #["",Tj,""]).ext (f.trans i);have L:=((((Kp.refl _ w).alloc _).trans f).trans i).jm s;have N:b≠w:=Zm
      have z:(C:Nat)≠w:=by have:=f.size;simp at this;omega
      obtain⟨-,z0,z1,z2,-⟩:=j.ca;obtain⟨Z,f1,f2,-⟩:=j.fz;have⟨D,E,F⟩:=jI j ((((Kp.refl _ w).alloc _).trans f).trans i) A;obtain⟨U,Y,aa,d⟩:=tN.ex (fun J=>Kp (·=w) q J) q Kp.rr;have r1:=fun h=>(d.jC h).mJ L N;have r2:=fun h=>(d.jC h).mJ (p.c 0 l rfl) z;have r3:=fun h=>(d.jC h).mJ (p.c 1 n rfl) z;have r:=Zy d;clear d f i A j p c;go_wp2_with fail;rw[<-F.o];refine lq r 7 [([0,1,2,3,4,5],6)] [] ?_ ?_
      . exact jA
      refine nE ?_;intro G u;go_wp2_with fail;have x:=(Kp.Ce (D:=(·=w)) (w:=q) (b:=w.heap.size) rfl x1 l n).drew;refine kk r u x ?_;clear u G;refine lD ?_;go_wp2_with fail;refine PG (hU zl rfl w rfl [x1,l,n] (hQ.kX ((jq.Ce D _ _ _).ext (jA))) rfl) rfl ?_;exact⟨⟨_,_,_,_,rfl,P,TV O Q⟩,E.own x (fun _ e=>Zm)⟩
 . obtain⟨B,y⟩:∃B,xs.length=B:=⟨_,rfl⟩;rw[y]at o k |-;obtain⟨n1,n2⟩:=EI o;clear y a;go_enter func165,ntmps165;go_wp2_with fail
   all_goals
    refine PG (hU zl rfl w rfl ["",Tj,""] (hQ.oI _ _ rfl) rfl) rfl ?_;exact⟨⟨_,_,_,_,rfl,Tz _,Tz _⟩,kx⟩
theorem Kp.EN{D:Nat->Prop}{w:World}{b:Nat}(a:D b)(c d:Value):Kp D w ((w.setCell b c).setCell (b,1) d):=
 (((Kp.refl D w).setCell (p:=⟨b,0,none⟩) (fun _=>a) c).setCell (p:=⟨b,1,none⟩) (fun _=>a) d)
theorem jq.EN{w:World}{b:Nat}{t:TypeId}{u0 u1:Value}(d:jq w b t #[u0,u1])(a c:Value):jq ((w.setCell b a).setCell (b,1) c) b t #[a,c]:=by
 have e:jq (w.setCell b a) b t #[a,u1]:=d.jR 0 a;exact e.jR 1 c
def Sy(m:Nat)(e:Ending):Prop:=∃n k b,e=.returned (.tuple #[.agg #[.string n,.int .i64 k],.bool b])/\n.size<=m
theorem Ig(xs:List ByteArray){v:Value}(m:Nat)(Q:m<=4000000000){I:Nat->Prop}{w:World}(h:SliceOf 1 lQ w I v xs)(i:∀F∈xs,F.size<=m):Calls prog 129 #[v] w fun f E=>Sy m f/\Ext w E:=by
 obtain⟨J,K,rfl,n,-⟩:=h.form;by_cases s:xs.length=3
 . match xs,s,h,i,n with
   |[x0,x1,x2],_,h,i,n=>
    obtain⟨b,W,rfl,r⟩:=lQ.at_ (i:=1) h rfl;obtain⟨_,_,z,B⟩:=lQ.at_ (i:=2) h rfl;cases z;have T:=jv r;have u:=i x1 Zl;have S:=i x2 Zl;clear h i;simp only[TL,U8]at n |-;go_enter func129,ntmps129;go_wp2_with fail;refine(sQ x2 Zm).mono ?_;rintro f j ⟨⟨d,D,rfl,-,-,-⟩,t⟩;have l:=(jq.new w 93 #["",Tj]).ext t;have k:=Zy (((Kp.refl _ w).alloc _).trans t);have A:=k.jm r;have C:b≠w:=Zm
    obtain⟨-,Y,Z,-⟩:=l.ca;obtain⟨M,N,-⟩:=l.fz;have p:=Zy l;obtain⟨H,L,R,q⟩:=tN.ex (fun y=>Kp (·=w) j y) j Kp.rr;have X:=fun G=>(q.jC G).mJ A C;have e:=Zy q;clear q t l r B;cases D
    . go_wp2_with fail;refine lq e 17 [([0,1,2,3,4,5,6,7,8,9,10,11,12,13],14),([15],16)] [] ?_ ?_
      . exact jA
      refine nE ?_;intro c a;go_wp2_with (go_at_call 117;refine(kT x1 _).mono ?_;rintro f x ⟨rfl,rfl⟩);refine kk e a jA ?_;clear a c;refine nE ?_;intro c a;go_wp2_with fail;have g:=(Kp.EN (D:=(·=w)) (w:=j) (b:=w.heap.size) rfl x1 (.int .i64 d)).drew;refine kk e a g ?_;clear a c;refine lD ?_;go_wp2_with fail;refine PG (hU Aq rfl w rfl [x1,.int .i64 d] (hQ.kX ((jq.EN p _ _).ext (jA))) rfl) rfl ?_;exact⟨⟨_,_,_,rfl,u⟩,k.own g (fun _ f=>Zm)⟩
    . by_cases o:0<=d
      . go_wp2_with fail;refine lq e 17 [([0,1,2,3,4,5,6,7,8,9,10,11,12,13],14),([15],16)] [] ?_ ?_
        . exact jA
        refine nE ?_;intro c a;go_wp2_with (go_at_call 117;refine(kT x1 _).mono ?_;rintro f x ⟨rfl,rfl⟩);refine kk e a jA ?_;clear a c;refine nE ?_;intro c a;go_wp2_with fail;have g:=(Kp.EN (D:=(·=w)) (w:=j) (b:=w.heap.size) rfl x1 (.int .i64 d)).drew;refine kk e a g ?_;clear a c;refine lD ?_;go_wp2_with fail;refine PG (hU Aq rfl w rfl [x1,.int .i64 d] (hQ.kX ((jq.EN p _ _).ext (jA))) rfl) rfl ?_;exact⟨⟨_,_,_,rfl,u⟩,k.own g (fun _ f=>Zm)⟩
      . have O:=SS o;have P:d<0:=Zm
        go_wp2_with fail;refine lq e 17 [([0,1,2,3,4,5,6,7,8,9,10,11,12,13],14),([15],16)] [] ?_ ?_
        . exact jA
        refine nE ?_;intro c a;go_wp2_with (go_at_call 117;refine(kT x1 _).mono ?_;rintro f x ⟨rfl,rfl⟩);refine kk e a jA ?_;clear a c;refine nE ?_;intro c a;go_wp2_with fail;have g:=(Kp.EN (D:=(·=w)) (w:=j) (b:=w.heap.size) rfl x1 (.int .i64 d)).drew;refine kk e a g ?_;clear a c;refine lD ?_;go_wp2_with fail;refine PG (hU Aq rfl w rfl [x1,.int .i64 d] (hQ.kX ((jq.EN p _ _).ext (jA))) rfl) rfl ?_;exact⟨⟨_,_,_,rfl,u⟩,k.own g (fun _ f=>Zm)⟩
 . obtain⟨d,o⟩:∃d,xs.length=d:=⟨_,rfl⟩;rw[o]at s n |-;obtain⟨U,V⟩:=EI s;clear o h;go_enter func129,ntmps129;go_wp2_with fail
   all_goals
    refine PG (hU Aq rfl w rfl ["",Tj] (hQ.oI _ _ rfl) rfl) rfl ?_;exact⟨⟨_,_,_,rfl,Tz _⟩,kx⟩
def J7(m:Nat)(e:Ending):Prop:=∃n s b,e=.returned (.tuple #[.agg #[.string n,.string s,.slice none 0 0,.slice none 0 0],.bool b])/\n.size<=m/\s.size<=m
theorem F5(xs:List ByteArray){v:Value}(m:Nat){I:Nat->Prop}{w:World}(c:SliceOf 1 lQ w I v xs)(e:∀E∈xs,E.size<=m):Calls prog 130 #[v] w fun b C=>J7 m b/\Ext w C:=by
 obtain⟨F,G,rfl,f,-⟩:=c.form;by_cases j:xs.length=3
 . match xs,j,c,e,f with
   |[x0,x1,x2],_,c,e,f=>
    obtain⟨h,O,rfl,u⟩:=lQ.at_ (i:=1) c rfl;obtain⟨_,_,t,H⟩:=lQ.at_ (i:=2) c rfl;cases t;have K:=jv u;have A:=e x1 Zl;have B:=e x2 Zl;have d:=fun a=>Zy (kT x1 a);have g:=fun a=>Zy (kT x2 a);clear c e;simp only[TL,U8]at f |-;have r:∀(a:World)(h:Bool),Ext w a->J7 m (.returned (.tuple #[.agg #["","",(),()],.bool h]))/\Ext w a:=fun a h i=>⟨⟨_,_,_,rfl,Tz _,Tz _⟩,i⟩;have s:∀(a:World)(k:ByteArray),k.size<=m->Ext w a->J7 m (.returned (.tuple #[.agg #[x1,k,(),()],.bool true]))/\Ext w a:=fun a k z i=>⟨⟨_,_,_,rfl,A,z⟩,i⟩;have⟨n,o⟩:=jw r s;clear r s;cases x:jL x1<;>simp only[x]at d
    . go_enter func130,ntmps130;go_wp2_with (go_at_call 117;refine(d _).o.mono ?_;rintro b l ⟨rfl,rfl⟩);refine PG (hU uS rfl w rfl ["","",(),()] (hQ.oI _ _ rfl) rfl) rfl ?_;exact n _ _ kx
    . cases J:(x2.toList==[45])
      . cases y:jL x2<;>simp only[y]at g
        . go_enter func130,ntmps130;go_wp2_with fail;refine(d _).o.mono ?_;rintro b l ⟨rfl,rfl⟩;go_wp2_with fail;refine(g _).o.mono ?_;rintro b D ⟨rfl,rfl⟩;go_wp2_with fail;refine PG (hU uS rfl w rfl ["","",(),()] (hQ.oI _ _ rfl) rfl) rfl ?_;exact n _ _ kx
        . go_enter func130,ntmps130;go_wp2_with fail;refine(d _).o.mono ?_;rintro b l ⟨rfl,rfl⟩;go_wp2_with fail;refine(g _).o.mono ?_;rintro b D ⟨rfl,rfl⟩;go_wp2_with fail;refine PG (hU uS rfl w rfl [x1,x2,(),()] (hQ.kX ((jq.new w _ _).ext (jJ _))) rfl) rfl ?_;exact o _ _ B kx
      . go_enter func130,ntmps130;go_wp2_with (go_at_call 117;refine(d _).o.mono ?_;rintro b l ⟨rfl,rfl⟩);refine PG (hU uS rfl w rfl [x1,"",(),()] (hQ.kX ((jq.new w _ _).ext (jJ _))) rfl) rfl ?_;exact o _ _ (Tz _) kx
 . obtain⟨q,p⟩:∃q,xs.length=q:=⟨_,rfl⟩;rw[p]at j f |-;obtain⟨L,N⟩:=EI j;clear p c;go_enter func130,ntmps130;go_wp2_with fail
   all_goals
    refine PG (hU uS rfl w rfl ["","",(),()] (hQ.oI _ _ rfl) rfl) rfl ?_;exact⟨⟨_,_,_,rfl,Tz _,Tz _⟩,kx⟩
theorem uL:zQ 198 3:=⟨_,underlying198,Zo⟩
def GZ(w w':World)(e:Ending):Prop:=∃x c0 c1 c2 b,e=.returned (.tuple #[.agg #[c0,c1,c2],.bool b])/\mI w' (fun b=>w.heap.size<=b/\b<w'.heap.size) x [c0,c1,c2]
theorem GZ.zero(w a:World)(b:Bool):GZ w a (.returned (.tuple #[.agg #[Tj,(),()],.bool b])):=
 ⟨⟨0,[],[]⟩,_,_,_,b,rfl,_,_,rfl,SliceOf.nil _ _ _ _,SliceOf.nil _ _ _ _⟩
theorem JH(xs:List ByteArray){v:Value}(m:Nat)(hm:m<=4000000000){I:Nat->Prop}{w:World}(X:SliceOf 1 lQ w I v xs)(aZ:∀b∈xs,b.size<=m):Calls prog 167 #[v] w fun c w'=>GZ w w' c/\Ext w w':=by
 obtain⟨bf,bg,rfl,aY,-⟩:=X.form;obtain⟨s,hn⟩:∃s,xs.length=s:=⟨_,rfl⟩;rw[hn]at aY X |-;by_cases h3:s<3
 . have d3:(s:Int)<3:=Zm
   clear hn X;go_enter func167,ntmps167;go_wp2_with fail
   all_goals
    refine PG (hU uL rfl w rfl [Tj,(),()] (hQ.oI _ _ rfl) rfl) rfl ?_;exact⟨GZ.zero _ _ _,kx⟩
 by_cases bn:15<s
 . have d3:¬(s:Int)<3:=Zm
   have aW:(15:Int)<s:=Zm
   clear hn X;go_enter func167,ntmps167;go_wp2_with fail
   all_goals
    refine PG (hU uL rfl w rfl [Tj,(),()] (hQ.oI _ _ rfl) rfl) rfl ?_;exact⟨GZ.zero _ _ _,kx⟩
 have d3:¬(s:Int)<3:=Zm
 have aW:¬(15:Int)<s:=Zm
 obtain⟨x1,aF⟩:∃b,xs[1]?=some b:=⟨xs[1]'Zm,CU Zm⟩;obtain⟨u,bC,rfl,K⟩:=lQ.at_ X aF;have gz:=jv K;have bB:=aZ x1 (Tx aF);have⟨HV,HN,HX⟩:=jI X hn aF;clear X hn aF;obtain⟨w0,aD⟩:=S9 (w.alloc (.cells #[Tj,(),()] 198));have aH:Ext w w0:=by rw[aD];exact kx
 have HB:Zz (jq w0 w 198 #[Tj,(),()]):=Zy (by rw[aD];exact jq.new _ _ _);have aQ:=aH.jm K;have aX:=jv aQ;have⟨aO,aU⟩:=jw aH aD;clear aH aD;go_enter func167,ntmps167;go_wp2_with fail;rw[<-aU.o];go_wp2_with fail;refine(sQ x1 Zm).mono ?_;rintro c h ⟨⟨E,ok,rfl,-,-,-⟩,ag⟩;obtain⟨w3,aA⟩:=S9 (h.alloc (.cells #[E,(),()] 198));have aJ:Ext h w3:=by rw[aA];exact kx
 have aS:Zz (jq w3 h 198 #[E,(),()]):=Zy (by rw[aA];exact jq.new _ _ _);have aI:=(aO.trans ag).trans aJ;have⟨aR,aB,aT⟩:=jI (HB.ext (ag.trans aJ)) aI (HV.ext lQ.stays aI);have Z:Zz (w3.heap.size=h+1):=Zy (by rw[aA];simp);have bA:u<h.heap.size:=Te ((aO.trans ag).size)
 have bu:=(HB.ext ag).lt;have aV:=Zy aA;clear ag aJ aI aA aQ aX K gz;go_wp2_with fail;rw[<-aV.o];go_loopw [7,8] (fun x aN wr=>∃(bh:Bool)(r:Nat)(vl vs:Value)(f a:List Tag),2<=r/\r<=s/\x=.bool bh/\aN=.int .i64 r/\f.length+a.length<=r/\jq wr h 198 #[E,vl,vs]/\
     wr.ownsRow (h+1) 236 2 vl f.length (f.flatMap kG)/\wr.ownsRow (h+1) 236 2 vs a.length (a.flatMap kG)/\(∀u,vl.ownBlock=some u->vs.ownBlock≠some u)/\Kp (·=h) w3 wr) (fun _ aN _=>s - (intOf aN).toNat)
 case atStart=>
  exact⟨false,2,_,_,[],[],Tu _,Zm,rfl,rfl,Zl,aS.o,⟨rfl,.inl ⟨rfl,rfl⟩⟩,⟨rfl,.inl ⟨rfl,rfl⟩⟩,(fun _ x=>by cases x),Kp.rr⟩
 case round=>
  obtain⟨bh,r,vl,vs,f,a,k2,kn,rfl,rfl,bz,hC,aL,aM,hd,aK⟩:=hrel;obtain⟨S,T,rfl⟩:=jS aL;obtain⟨F,G,rfl⟩:=jS aM;have⟨L,Y,J,D,V,H⟩:=pR (aR.kp aK Zm) hC aL aM hd aK;clear hC aL aM hd aK;by_cases bq:r<s
  . have dk:(r:Int)<s:=Zm
    obtain⟨b,hx⟩:∃b,xs[r]?=some b:=⟨xs[r]'(Te HN.o),CU (Te HN.o)⟩;obtain⟨_,_,n,K⟩:=lQ.at_ aT hx;cases n;have gk:=H.mJ K Zm;have gz:=jv gk;clear K hx;cases hq:(b.toList==[47])
    . cases bh
      . go_wp2_with fail;refine(yX b).mono ?_;rintro c j ⟨⟨e,d,af,rfl,hs⟩,A⟩;obtain⟨t,l⟩:=S9 (j.alloc (.cells #[e,d] 236));have P:Ext j t:=by rw[l];exact kx
        have z:Zz (jq t j 236 #[e,d]):=Zy (by rw[l];exact jq.new _ _ _);have k:=A.trans P;have⟨o,p,N⟩:=jI (L.ext k) (Y.ext k) (H.trans k.any);have aa:=Zy (aB.own N (fun _ c=>Zm));have ae:=Zy A.size;have aP:=Zy z.o.lt;have Q:=k;clear A P k;obtain⟨-,z0,z1,z2,-⟩:=o.ca;obtain⟨f0,f1,f2,-⟩:=o.fz;obtain⟨-,c0,c1,c2,-⟩:=p.ca;obtain⟨g0,K,g2,-⟩:=p.fz;obtain⟨-,y0,y1,-⟩:=z.ca;have z5:=o.lt;have c5:=p.lt;have y5:=z.lt;cases af
        . subst l;go_wp2_with fail;refine PG (hU uL rfl w rfl [Tj,(),()] (hQ.kX (jq.Ce o _ _ _)) rfl) rfl ?_;exact⟨GZ.zero _ _ _,aa.own (Kp.Ce (D:=(·=w)) rfl _ _ _) (fun _ c=>Zm)⟩
        . have R:Ext wr ((j.alloc (.cells #[e,d] 236)).alloc (.cells #[e,d] 236)):=(l▸Q).alloc _;have y:=Zy R;clear R Q;subst l;have az:f.length+1<=4294967296:=Zm
          have ax:h+1<=(j.alloc (.cells #[e,d] 236)).heap.size:=by have:=H.size;have:=Z.o;have:=ae.o;simp;omega
          go_wp2_with (refine jF nH rfl (.tmp 63) (.tmp 65) rfl (h+1) (.slice S f.length T) f.length (f.flatMap kG) rfl (jr (D:=fun _=>False) J y fun _ _ _ b=>b) (j+1) 1 [e,d] rfl rfl (hQ.oI _ _ Zl) Zt az (by simp at ax |-;omega) ?_;rintro O c9 U aj B ay;have q:=(p.ext (jJ _)).kp B (fun c=>Te ((oJ J c).1));have d0:=q.frozen 1;have d1:=q.c 1 (.slice S f.length T) rfl;have dz:=q.lt);have ah:=Kp.own (N.alloc _) B (fun u hb=>Tf ((oJ J hb).1) Z.o);have C:Kp (·=h) U (U.setCell (h,1) (O,f.length+1,c9)):=qM;have au:=jr (jr D y fun _ _ _ b=>b) B (fun g n _ i=>V.o g i n);have ak:=jr au C (fun g _ i W=>Zm);have ai:=jr aj C (fun g _ i W=>Zm);have av:=fun g c=>(oJ (jr (D:=fun _=>False) D y fun _ _ _ b=>b) (g:=g) c).2;go_round
          case rel=>
           refine⟨false,r+1,_,_,f++[⟨e,d⟩],a,Zm,Zm,rfl,Zk,by simp;omega,q.jR 1 _,?_,ak,?_,ah.trans C⟩
           . simpa [kG]using ai
           . intro g n i;cases n;rcases ay with x|x
             . exact V _ x i
             . have:=av O i;omega
          case measure=>exact Zj
      . go_wp2_with fail;refine(yX b).mono ?_;rintro c j ⟨⟨e,d,af,rfl,hs⟩,A⟩;obtain⟨t,l⟩:=S9 (j.alloc (.cells #[e,d] 236));have P:Ext j t:=by rw[l];exact kx
        have z:Zz (jq t j 236 #[e,d]):=Zy (by rw[l];exact jq.new _ _ _);have k:=A.trans P;have⟨o,p,N⟩:=jI (L.ext k) (Y.ext k) (H.trans k.any);have aa:=Zy (aB.own N (fun _ c=>Zm));have ae:=Zy A.size;have aP:=Zy z.o.lt;have Q:=k;clear A P k;obtain⟨-,z0,z1,z2,-⟩:=o.ca;obtain⟨f0,f1,f2,-⟩:=o.fz;obtain⟨-,c0,c1,c2,-⟩:=p.ca;obtain⟨g0,K,g2,-⟩:=p.fz;obtain⟨-,y0,y1,-⟩:=z.ca;have z5:=o.lt;have c5:=p.lt;have y5:=z.lt;cases af
        . subst l;go_wp2_with fail;refine PG (hU uL rfl w rfl [Tj,(),()] (hQ.kX (jq.Ce o _ _ _)) rfl) rfl ?_;exact⟨GZ.zero _ _ _,aa.own (Kp.Ce (D:=(·=w)) rfl _ _ _) (fun _ c=>Zm)⟩
        . have R:Ext wr ((j.alloc (.cells #[e,d] 236)).alloc (.cells #[e,d] 236)):=(l▸Q).alloc _;have y:=Zy R;clear R Q;subst l;have az:a.length+1<=4294967296:=Zm
          have ax:h+1<=(j.alloc (.cells #[e,d] 236)).heap.size:=by have:=H.size;have:=Z.o;have:=ae.o;simp;omega
          go_wp2_with (refine jF nH rfl (.tmp 57) (.tmp 59) rfl (h+1) (.slice F a.length G) a.length (a.flatMap kG) rfl (jr (D:=fun _=>False) D y fun _ _ _ b=>b) (j+1) 1 [e,d] rfl rfl (hQ.oI _ _ Zl) Zt az (by simp at ax |-;omega) ?_;rintro O c9 U aj B ay;have q:=(p.ext (jJ _)).kp B (fun c=>Te ((oJ D c).1));have d0:=q.frozen 2;have d1:=q.c 2 (.slice F a.length G) rfl;have dz:=q.lt);have ah:=Kp.own (N.alloc _) B (fun u hb=>Tf ((oJ D hb).1) Z.o);have C:Kp (·=h) U (U.setCell (h,2) (O,a.length+1,c9)):=qM;have au:=jr (jr J y fun _ _ _ b=>b) B (fun g n _ i=>V.o g n i);have ak:=jr au C (fun g _ i W=>Zm);have ai:=jr aj C (fun g _ i W=>Zm);have av:=fun g c=>(oJ (jr (D:=fun _=>False) J y fun _ _ _ b=>b) (g:=g) c).2;go_round
          case rel=>
           refine⟨true,r+1,_,_,f,a++[⟨e,d⟩],Zm,Zm,rfl,Zk,by simp;omega,q.jR 2 _,ak,?_,?_,ah.trans C⟩
           . simpa [kG]using ai
           . intro g n i;cases i;rcases ay with x|x
             . exact V _ n x
             . have:=av O n;omega
          case measure=>exact Zj
    . cases bh
      . go_wp2;go_round
        case rel=>exact⟨true,r+1,_,_,f,a,Zm,Zm,rfl,Zk,Zm,Y.o,J.o,D.o,V.o,H.o⟩
        case measure=>exact Zj
      . go_wp2_with fail;refine(yX b).mono ?_;rintro c j ⟨⟨e,d,af,rfl,hs⟩,A⟩;obtain⟨t,l⟩:=S9 (j.alloc (.cells #[e,d] 236));have P:Ext j t:=by rw[l];exact kx
        have z:Zz (jq t j 236 #[e,d]):=Zy (by rw[l];exact jq.new _ _ _);have k:=A.trans P;have⟨o,p,N⟩:=jI (L.ext k) (Y.ext k) (H.trans k.any);have aa:=Zy (aB.own N (fun _ c=>Zm));have ae:=Zy A.size;have aP:=Zy z.o.lt;have Q:=k;clear A P k;obtain⟨-,z0,z1,z2,-⟩:=o.ca;obtain⟨f0,f1,f2,-⟩:=o.fz;obtain⟨-,c0,c1,c2,-⟩:=p.ca;obtain⟨g0,K,g2,-⟩:=p.fz;obtain⟨-,y0,y1,-⟩:=z.ca;have z5:=o.lt;have c5:=p.lt;have y5:=z.lt;cases af
        . subst l;go_wp2_with fail;refine PG (hU uL rfl w rfl [Tj,(),()] (hQ.kX (jq.Ce o _ _ _)) rfl) rfl ?_;exact⟨GZ.zero _ _ _,aa.own (Kp.Ce (D:=(·=w)) rfl _ _ _) (fun _ c=>Zm)⟩
        . have R:Ext wr ((j.alloc (.cells #[e,d] 236)).alloc (.cells #[e,d] 236)):=(l▸Q).alloc _;have y:=Zy R;clear R Q;subst l;have az:a.length+1<=4294967296:=Zm
          have ax:h+1<=(j.alloc (.cells #[e,d] 236)).heap.size:=by have:=H.size;have:=Z.o;have:=ae.o;simp;omega
          go_wp2_with (refine jF nH rfl (.tmp 57) (.tmp 59) rfl (h+1) (.slice F a.length G) a.length (a.flatMap kG) rfl (jr (D:=fun _=>False) D y fun _ _ _ b=>b) (j+1) 1 [e,d] rfl rfl (hQ.oI _ _ Zl) Zt az (by simp at ax |-;omega) ?_;rintro O c9 U aj B ay;have q:=(p.ext (jJ _)).kp B (fun c=>Te ((oJ D c).1));have d0:=q.frozen 2;have d1:=q.c 2 (.slice F a.length G) rfl;have dz:=q.lt);have ah:=Kp.own (N.alloc _) B (fun u hb=>Tf ((oJ D hb).1) Z.o);have C:Kp (·=h) U (U.setCell (h,2) (O,a.length+1,c9)):=qM;have au:=jr (jr J y fun _ _ _ b=>b) B (fun g n _ i=>V.o g n i);have ak:=jr au C (fun g _ i W=>Zm);have ai:=jr aj C (fun g _ i W=>Zm);have av:=fun g c=>(oJ (jr (D:=fun _=>False) J y fun _ _ _ b=>b) (g:=g) c).2;go_round
          case rel=>
           refine⟨true,r+1,_,_,f,a++[⟨e,d⟩],Zm,Zm,rfl,Zk,by simp;omega,q.jR 2 _,ak,?_,?_,ah.trans C⟩
           . simpa [kG]using ai
           . intro g n i;cases i;rcases ay with x|x
             . exact V _ n x
             . have:=av O n;omega
          case measure=>exact Zj
  . have dk:¬(r:Int)<s:=Zm
    obtain⟨-,c0,c1,c2,-⟩:=Y.ca;obtain⟨zz,z0,z1,z2,-⟩:=L.ca;obtain⟨f0,f1,f2,-⟩:=L.fz;have cz:=Y.lt;have aC:Kp (·=w) wr (((wr.setCell w E).setCell (w,1) (.slice S f.length T)).setCell (w,2) (.slice F a.length G)):=Kp.Ce (D:=(·=w)) rfl _ _ _;have hL:=jr J aC (fun g _ i W=>Zm);have hS:=jr D aC (fun g _ i W=>Zm);have aG:Zz (∀u,GZ w _ (.returned (.tuple #[.agg #[E,.slice S f.length T,.slice F a.length G],.bool u]))/\Ext w (((wr.setCell w E).setCell (w,1) (.slice S f.length T)).setCell (w,2) (.slice F a.length G))):=Zy (fun u=>⟨⟨⟨E,f,a⟩,_,_,_,u,rfl,_,_,rfl,
     SliceOf.mD kG hL rfl rfl (fun _ _=>rfl) (fun _ _=>rfl) (fun u h1 h2=>⟨Zm,h2⟩) (show f.length<=4294967296 by omega),
     SliceOf.mD kG hS rfl rfl (fun _ _=>rfl) (fun _ _=>rfl) (fun u h1 h2=>⟨Zm,h2⟩) (show a.length<=4294967296 by omega)⟩,
     (aB.own H (fun _ c=>Zm)).own aC (fun _ c=>Zm)⟩)
    clear aC hL hS;cases ok
    . go_wp2_with fail;refine PG (hU uL rfl w rfl [E,.slice S f.length T,.slice F a.length G] (hQ.kX (jq.Ce L _ _ _)) rfl) rfl ?_;exact aG _
    . cases bh
      . go_wp2_with fail;refine PG (hU uL rfl w rfl [E,.slice S f.length T,.slice F a.length G] (hQ.kX (jq.Ce L _ _ _)) rfl) rfl ?_;exact aG _
      . go_wp2_with fail;refine PG (hU uL rfl w rfl [E,.slice S f.length T,.slice F a.length G] (hQ.kX (jq.Ce L _ _ _)) rfl) rfl ?_;exact aG _
theorem wH:zQ 113 8:=⟨_,underlying113,Zo⟩
theorem Ou:Elem 107 109 2:=oH (z:=.agg #[Tj,""]) (bytes:=24) underlying107 Zo rfl Zn Zn
def L8(x:Kind):List Value:=[.int .i64 x.kind,.string x.name]
def Cs(m:Nat)(w w':World)(e:Ending):Prop:=∃n va rk rn l2 l3 b,e=.returned (.tuple #[.agg #[.string n,va,.int .i64 rk,.string rn,.int .i64 l2,.int .i64 l3,.slice none 0 0,.slice none 0 0],.bool b])/\n.size<=m/\∃ks,SliceOf 2 mV w' (fun b=>w.heap.size<=b/\b<w'.heap.size) va ks
theorem Cs.zero(m:Nat)(w a:World)(b:Bool):Cs m w a (.returned (.tuple #[.agg #["",(),Tj,"",Tj,Tj,(),()],.bool b])):=
 ⟨_,_,_,_,_,_,b,rfl,Tz _,[],SliceOf.nil _ _ _ _⟩
theorem Ii(xs:List ByteArray){v:Value}(m:Nat)(hm:m<=4000000000){I:Nat->Prop}{w:World}(g:SliceOf 1 lQ w I v xs)(R:∀b∈xs,b.size<=m):Calls prog 166 #[v] w fun e w'=>Cs m w w' e/\Ext w w':=by
 obtain⟨bI,bJ,rfl,bA,-⟩:=g.form;obtain⟨c,D⟩:∃c,xs.length=c:=⟨_,rfl⟩;rw[D]at bA g |-;by_cases h5:c<5
 . have d5:(c:Int)<5:=Zm
   clear D g;go_enter func166,ntmps166;go_wp2_with fail
   all_goals
    refine PG (hU wH rfl w rfl ["",(),Tj,"",Tj,Tj,(),()] (hQ.oI _ _ rfl) rfl) rfl ?_;exact⟨Cs.zero _ _ _ _,kx⟩
 by_cases h8:8<c
 . have d5:¬(c:Int)<5:=Zm
   have d8:(8:Int)<c:=Zm
   clear D g;go_enter func166,ntmps166;go_wp2_with fail
   all_goals
    refine PG (hU wH rfl w rfl ["",(),Tj,"",Tj,Tj,(),()] (hQ.oI _ _ rfl) rfl) rfl ?_;exact⟨Cs.zero _ _ _ _,kx⟩
 have d5:¬(c:Int)<5:=Zm
 have d8:¬(8:Int)<c:=Zm
 obtain⟨h,aj⟩:∃b,xs[1]?=some b:=⟨xs[1]'Zm,CU Zm⟩;obtain⟨x2,ak⟩:∃b,xs[2]?=some b:=⟨xs[2]'Zm,CU Zm⟩;obtain⟨x3,au⟩:∃b,xs[3]?=some b:=⟨xs[3]'Zm,CU Zm⟩;obtain⟨x4,av⟩:∃b,xs[4]?=some b:=⟨xs[4]'Zm,CU Zm⟩;obtain⟨o,bS,rfl,k⟩:=lQ.at_ g aj;obtain⟨_,_,p,Y⟩:=lQ.at_ g ak;cases p;obtain⟨_,_,p,Z⟩:=lQ.at_ g au;cases p;obtain⟨_,_,p,g4⟩:=lQ.at_ g av;cases p;have s1:=R h (Tx aj);have s2:=R x2 (Tx ak);have s3:=R x3 (Tx au);have s4:=R x4 (Tx av);have gz:=jv k;have⟨HV,HN⟩:=jw g D;have W:=fun aZ=>Zy (kT h aZ);clear g D aj ak au av;obtain⟨S,E⟩:=S9 (w.alloc (.cells #["",(),Tj,"",Tj,Tj,(),()] 113));have t:Ext w S:=by rw[E];exact kx
 have HB:Zz (jq S w 113 #["",(),Tj,"",Tj,Tj,(),()]):=Zy (by rw[E];exact jq.new _ _ _);have p1:=t.jm k;have p2:=t.jm Y;have p3:=t.jm Z;have p4:=t.jm g4;have pz:=jv p1;have⟨aQ,bG⟩:=jw t k;clear t;cases bC:jL h<;>simp only[bC]at W
 . go_enter func166,ntmps166;subst E;go_wp2_with fail;refine(W _).o.mono ?_;rintro e n ⟨rfl,rfl⟩;go_wp2_with fail;refine PG (hU wH rfl w rfl ["",(),Tj,"",Tj,Tj,(),()] (hQ.oI _ _ rfl) rfl) rfl ?_;exact⟨Cs.zero _ _ _ _,kx⟩
 have aV:=Zy E;clear E;go_enter func166,ntmps166;go_wp2_with fail;rw[<-aV.o];go_wp2_with fail;refine(W _).o.mono ?_;rintro e n ⟨rfl,rfl⟩;go_wp2_with fail;refine(sQ x2 Zm).mono ?_;rintro e w1 ⟨⟨l,bD,rfl,-,-,-⟩,u⟩;have t3:=u.jm p3;have t4:=u.jm p4;have t1:=u.jm p1;have tz:=jv t1;have⟨aM,aR⟩:=jw (HB.ext u) (aQ.trans u);clear u p1 p2 p3 p4 pz;go_wp2_with fail;refine(sQ x3 Zm).mono ?_;rintro e w2 ⟨⟨q,bE,rfl,-,-,-⟩,C⟩;have r4:=C.jm t4;have r1:=C.jm t1;have rz:=jv r1;have⟨aN,aS⟩:=jw (aM.ext C) (aR.trans C);clear C t1 t3 t4 tz;go_wp2_with fail;refine(yV x4).mono ?_;rintro e w3 ⟨⟨i,j,bF,rfl,bR⟩,aD⟩;obtain⟨d,aK,aF,ah⟩:=nu w3 #[i,j] 109;have Q:=aD.trans aF;have q1:=Q.jm r1;have⟨ay,az,aW⟩:=jI (aN.ext Q) (aS.trans Q) aK;obtain⟨bH,bK,bQ,B⟩:=lL d;have y1:=fun H=>(B.jC H).jm q1;have y2:=fun H=>(B.jC H).jm (ah.c 0 i rfl);have y3:=fun H=>(B.jC H).jm (ah.c 1 j rfl);have X:=Zy B;clear B aD aF Q aK r1 r4 rz q1 ah;go_wp2_with fail;rw[<-aW.o];refine lq X 8 [([0,1,2,3,4,5,6],7)] [] ?_ ?_
 . exact jA
 refine nE ?_;intro K2 aH;go_wp2_with fail;refine kk X aH kx ?_;clear aH K2;refine lD ?_;go_wp2_with fail;obtain⟨n,F⟩:=S9 ((d.alloc (.cells #[h,(),i,j,l,q,(),()] 113)).drew);have aa:Ext d n:=by rw[F];exact kx
 have aP:Zz (jq n d 113 #[h,(),i,j,l,q,(),()]):=Zy (by rw[F];exact(jq.new _ _ _).ext (jA));have⟨aO,V⟩:=jw (ay.ext aa) (az.trans aa);have aU:=Zy (HV.ext lQ.stays V);have aC:Zz (n.heap.size=d+1):=Zy (by rw[F];simp);have bP:o<d.heap.size:=Te az.size
 have bN:(w:Nat)<d:=ay.lt;have aX:=Zy F;clear aa F y1 y2 y3 k Y Z g4 gz X;rw[<-aX.o];go_loopw [11] (fun ax wr=>∃(f:Nat)(vl:Value)(a:List Kind),5<=f/\f<=c/\ax=.int .i64 f/\a.length<=f/\jq wr d 113 #[h,vl,i,j,l,q,(),()]/\
     wr.ownsRow (d+1) 109 2 vl a.length (a.flatMap L8)/\Kp (·=d) n wr) (fun ax _=>c - (intOf ax).toNat)
 case atStart=>
  exact⟨5,_,[],Tu _,Zm,rfl,Zl,aP.o,⟨rfl,.inl ⟨rfl,rfl⟩⟩,Kp.rr⟩
 case round=>
  obtain⟨f,vl,a,k2,kn,rfl,bO,hC,ag,af⟩:=hrel;obtain⟨y,z,rfl⟩:=jS ag;have⟨K,U,O,N⟩:=kD (aO.kp af Zm) hC ag af;clear hC ag af;by_cases bM:f<c
  . have dk:(f:Int)<c:=Zm
    obtain⟨b,hx⟩:∃b,xs[f]?=some b:=⟨xs[f]'(Te HN.o),CU (Te HN.o)⟩;obtain⟨_,_,p,k⟩:=lQ.at_ aU hx;cases p;have gk:=N.mJ k Zm;have gz:=jv gk;clear k hx;go_wp2_with fail;refine(yV b).mono ?_;rintro e A ⟨⟨s,r,bf,rfl,hs⟩,ae⟩;obtain⟨T,G⟩:=S9 (A.alloc (.cells #[s,r] 109));have aG:Ext A T:=by rw[G];exact kx
    have aB:Zz (jq T A 109 #[s,r]):=Zy (by rw[G];exact jq.new _ _ _);have x:=ae.trans aG;have⟨J,L,aA⟩:=jI (K.ext x) (U.ext x) (N.trans x.any);have aT:=Zy (V.own aA (fun _ e=>Zm));have aY:=Zy ae.size;clear ae aG;obtain⟨-,z0,z1,z2,z3,z4,z5,z6,z7,-⟩:=J.ca;obtain⟨f0,f1,f2,f3,f4,f5,f6,f7,-⟩:=J.fz;obtain⟨-,c0,c1,c2,c3,c4,c5,c6,c7,-⟩:=L.ca;obtain⟨g0,k,Y,Z,g4,g5,g6,g7,-⟩:=L.fz;obtain⟨-,y0,y1,-⟩:=aB.ca;have z7:=J.lt;have c7:=L.lt;have y7:=aB.lt;cases bf
    . clear x;subst G;go_wp2_with fail;refine PG (hU wH rfl w rfl ["",(),Tj,"",Tj,Tj,(),()] (hQ.kX (jq.Ib J _ _ _ _ _ _ _ _)) rfl) rfl ?_;exact⟨Cs.zero _ _ _ _,aT.own (Kp.Ib (D:=(·=w)) rfl _ _ _ _ _ _ _ _) (fun _ e=>Zm)⟩
    . have HG:Zz (Ext wr ((A.alloc (.cells #[s,r] 109)).alloc (.cells #[s,r] 109))):=Zy ((G▸x).alloc _);clear x;subst G;have bB:a.length+1<=4294967296:=Zm
      have bz:d+1<=(A.alloc (.cells #[s,r] 109)).heap.size:=by have:=N.size;have:=aC.o;have:=aY.o;simp;omega
      go_wp2_with (refine jF Ou rfl (.tmp 76) (.tmp 78) rfl (d+1) (.slice y a.length z) a.length (a.flatMap L8) rfl (jr (D:=fun _=>False) O HG fun _ _ _ b=>b) (A+1) 1 [s,r] rfl rfl (hQ.oI _ _ Zl) Zt bB (by simp at bz |-;omega) ?_;rintro g9 c9 w9 bu aI bL;have P:=(L.ext (jJ _)).kp aI (fun e=>Te ((oJ O e).1));have d0:=P.frozen 1;have d1:=P.c 1 (.slice y a.length z) rfl;have dz:=P.lt);have bn:=Kp.own (aA.alloc _) aI (fun o hb=>Tf ((oJ O hb).1) aC.o);have aJ:Kp (·=d) w9 (w9.setCell (d,1) (g9,a.length+1,c9)):=qM;have bq:=jr bu aJ (fun bg _ e2 e3=>Zm);go_round
      case rel=>
       refine⟨f+1,_,a++[⟨s,r⟩],Zm,Zm,Zk,by simp;omega,P.jR 1 _,?_,bn.trans aJ⟩;simpa [L8]using bq
      case measure=>exact Zj
  . have dk:¬(f:Int)<c:=Zm
    obtain⟨-,c0,c1,c2,c3,c4,c5,c6,c7,-⟩:=U.ca;obtain⟨zz,z0,z1,z2,z3,z4,z5,z6,z7,-⟩:=K.ca;obtain⟨f0,f1,f2,f3,f4,f5,f6,f7,-⟩:=K.fz;have cz:=U.lt;have ai:Kp (·=w) wr ((((((((wr.setCell w h).setCell (w,1) (.slice y a.length z)).setCell (w,2) i).setCell (w,3) j).setCell (w,4) l).setCell (w,5) q).setCell (w,6) ()).setCell (w,7) ()):=Kp.Ib (D:=(·=w)) rfl _ _ _ _ _ _ _ _;have hL:=jr O ai (fun bg _ e2 e3=>Zm);have aL:Zz (∀o,Cs m w _ (.returned (.tuple #[.agg #[h,.slice y a.length z,i,j,l,q,(),()],.bool o]))/\Ext w ((((((((wr.setCell w h).setCell (w,1) (.slice y a.length z)).setCell (w,2) i).setCell (w,3) j).setCell (w,4) l).setCell (w,5) q).setCell (w,6) ()).setCell (w,7) ())):=Zy (fun o=>⟨⟨_,_,_,_,_,_,o,rfl,s1,a,
     SliceOf.mD L8 hL rfl rfl (fun _ _=>rfl) (fun _ _=>rfl) (fun o h1 h2=>⟨Zm,h2⟩) Zm⟩,
     (V.own N (fun _ e=>Zm)).own ai (fun _ e=>Zm)⟩)
    clear ai hL;cases bD<;>cases bE<;>cases bF<;>by_cases h2:0<=l
    all_goals
     go_wp2_with fail;refine PG (hU wH rfl w rfl [h,.slice y a.length z,i,j,l,q,(),()] (hQ.kX (jq.Ib K _ _ _ _ _ _ _ _)) rfl) rfl ?_;exact aL _
theorem vC:Elem 29 38 4:=oH (z:=.agg #["","",(),()]) (bytes:=80) underlying29 Zo rfl Zn Zn
theorem Ke:zQ 32 2:=⟨_,underlying32,Zo⟩
theorem jq.BU{W:World}{g:Nat}(t:TypeId)(cs:Array Value)(a:W=g):jq (W.alloc (.cells cs t)) g t cs:=by
 subst a;exact jq.new W t cs
def Cn{α:Type}(k:Nat)(R:om α)(w wx:World)(J:Nat->Prop)(bx:Nat)(t:TypeId)(cells:Array Value)(fi:Nat)(zs:List α):Prop:=
 ∃v',SliceOf k R wx (fun b=>J b\/w.heap.size<=b) v' zs/\jq wx bx t (cells.setIfInBounds fi v')/\Kp (·=bx) w wx
theorem pV{α:Type}{k:Nat}{R:om α}(hR:kE R)(C:0<k){w W:World}{J:Nat->Prop}{e:List (List Value)}{h:List Value}{xs:List α}{y:α}{b n g m c:Nat}{t:TypeId}{cells:Array Value}(x:W.ownsRow w n k (.slice (some ⟨g,0,none⟩) (m+1) c) (m+1) (e.flatten++h))(A:∀c∈e,c.length=k)(B:lZ R w J xs e)(D:R w J y h)(E:h.length=k)(i:Ext w W)(o:(∀d,J d->d≠b)/\xs.length+1<=4294967296)(q:jq w b t cells)(f:Nat):Cn k R w (W.setCell (b,f) (.slice (some ⟨g,0,none⟩) (m+1) c)) J b t cells f (xs++[y]):=by
 have j:Kp (·=b) W (W.setCell (b,f) (.slice (some ⟨g,0,none⟩) (m+1) c)):=qM;have z:=q.ext i;have H:=q.lt;refine⟨_,?_,z.jR f _,i.any.trans j⟩;have p:=jr x j (fun K G r n=>Zm);have u:e.flatten++h=(e++[h]).flatten:=by simp
 rw[u]at p;have s:Same J w (W.setCell (b,f) (.slice (some ⟨g,0,none⟩) (m+1) c)):=fun d I L r l=>j.mJ (i.jm l) (o.1 d r);refine SliceOf.owned p (fun c l=>?_) C ((B.keep hR s (fun _ a=>.inl a)).snoc (hR _ _ _ _ _ _ s (fun _ a=>.inl a) D)) (fun d v F=>.inr v) (by simpa using o.2);rcases TU.1 l with a|a
 . exact A c a
 . simp at a;subst a;exact E
theorem Nu(w:World)(I:Nat->Prop)(hI:∀a,I a->a<w.heap.size)(q:mZ){ks:List Value}(hk:jo w I q ks)(x:Class){cs:List Value}(hx:jT w I x cs)(aA:q.owns≠[])(hl:q.owns.length<=1000):Calls prog 132 #[.agg ks.toArray,.agg cs.toArray] w fun v w'=>(∃aC,v=.returned (.agg aC.toArray)/\jo w' (fun a=>I a\/w.heap.size<=a) ⟨q.owns.dropLast++[x],q.asks⟩ aC)/\Ext w w':=by
 obtain⟨vo,va,rfl,hO,z⟩:=hk;obtain⟨s,q1,t,q2,rfl⟩:=hx.form;obtain⟨B,C,rfl,aU,aK⟩:=hO.form;obtain⟨E,J,rfl,-,-⟩:=z.form;have aL:=VO.2 aA;obtain⟨i,X⟩:∃i,q.owns.length=i+1:=⟨q.owns.length - 1,Zm⟩;have av:q.owns.take i=q.owns.dropLast:=by rw[List.dropLast_eq_take,X];rfl
 have ag:=hO.take (i:=i) Zm;rw[av]at ag;have ax:q.owns.dropLast.length=i:=by rw[List.length_dropLast,X];rfl
 obtain⟨e,H⟩:=S9 (((w.alloc (.cells #[.slice B q.owns.length C,.slice E q.asks.length J] 32)).alloc (.cells #[x.name,x.jE,.slice s x.fields.length q1,.slice t x.methods.length q2] 38)).alloc (.cells #[(),()] 32));have P:Ext w e:=by rw[H];exact kx
 have b2:jq e w 32 #[.slice B q.owns.length C,.slice E q.asks.length J]:=by rw[H];exact(jq.new _ _ _).ext kx
 have b3:jq e (w+1) 38 #[x.name,x.jE,.slice s x.fields.length q1,.slice t x.methods.length q2]:=by rw[H];exact(jq.BU (W:=w.alloc (.cells #[.slice B q.owns.length C,.slice E q.asks.length J] 32)) _ _ Zl).ext kx
 have b4:jq e (w+2) 32 #[(),()]:=by rw[H];exact jq.BU _ _ Zl
 obtain⟨L,ak,au,ay⟩:=SliceOf.cells One.cls Zn (ag.ext jT.stays P);have⟨HY,aD,aa,ae,af,K,Z,aG⟩:=Em (jT.stays _ _ _ _ _ _ (Ext.same P) (fun _ F=>F) hx) (z.ext vL.stays P) ak au ay b2 b4 P;have aB:e.heap.size=w+3:=by rw[H];simp
 have HJ:Zz ((∀a,I a->a≠w.heap.size)/\q.owns.dropLast.length+1<=4294967296):=Zy ⟨fun a c=>Te (hI a c),Zm⟩;have aj:=Zy aB;obtain⟨aR,aS,aW,U⟩:=lL e;have r0:=fun ah=>(b2.ext (U.jC ah)).c 0 (.slice B q.owns.length C) rfl;obtain⟨-,r1,r2,r3,r4,-⟩:=jq.pq fun ah=>(b3.ext (U.jC ah));have g:=Zy U;have aM:((q.owns.length:Nat):Int) - 1=(i:Int):=Zm
 have aN:IntKind.i64.wrap (((q.owns.length:Nat):Int) - 1)=(i:Int):=by rw[TM _ Zm];omega
 have aV:(0:Int)<=(i:Int):=Zm
 have aX:i<=4000:=Zm
 have⟨HI,HN,aQ,aH⟩:=kD hI X ax H;clear aB P b2 b3 b4 H U ak au ay hO ag z hx av aA X ax aL aK hI;go_enter func132,ntmps132;go_upto_region 1 with(fail);rw[<-aH.o];go_cut [] (fun wx=>Cn 4 jT e wx I w 32 #[.slice B q.owns.length C,.slice E q.asks.length J] 0 (q.owns.dropLast++[x]))
 case first=>
  refine rQ g 12 (.two [1,2,3,4,5,6,7,9] 0 10 (.two [] 8 10 (.one [] 10 (.one [] 11 (.fin []))) (.one [] 8 (.one [] 11 (.fin [])))) (.one [] 0 (.one [] 8 (.one [] 11 (.fin []))))) ?_ ?_
  . exact jA
  refine two [_,_,_,_,_,_,_,_] rfl rfl rfl fun aI G=>?_;(repeat (go_big_quiet_step (fail)));((refine EP G (fun d b=>?_) fun d b=>?_)<;>clear G aI)
  . have N:Ext e e.drew:=jA;generalize e.drew=wd at N |-;go_wp2_with fail;obtain⟨f,m⟩:∃A,A=wd.alloc (.cells #[] 38):=⟨_,rfl⟩;have y:Ext e f:=N.trans (by rw[m];exact jJ _);have o:f.ownsRow e 38 4 (.slice (some ⟨wd,0,none⟩) 0 0) 0 []:=by rw[m];exact kV wd _ _ _ N.size rfl
    have ai:Zz ((f:Nat)=wd+1):=Zy (by rw[m];simp);rw[<-m];clear m;refine kk g b y ?_;clear b d;refine Ck rfl rfl (fun d b=>?_) fun d b=>?_
    . skip;refine kM vC _ rfl (.tmp 5) (.tmp 12) rfl e (.slice (some ⟨wd,0,none⟩) 0 0) 0 [] rfl o B i C L.flatten rfl (af.ext y) Zm y.size ?_;intro T k h aO;rw[Tk,TZ]at h;have l:=y.own aO (fun a c=>(o.lt a c).1);change d _ _;refine kk g b l ?_;clear b d;refine j3 rfl fun d b=>?_;go_wp2_with fail;obtain⟨wc,O⟩:∃A,A=k.alloc (.cells #[x.name,x.jE,.slice s x.fields.length q1,.slice t x.methods.length q2] 38):=⟨_,rfl⟩;have p:Ext e wc:=l.trans (by rw[O];exact jJ _);have aJ:Ext k wc:=by rw[O];exact jJ _
      have j:hQ wc k 0 [x.name,x.jE,.slice s x.fields.length q1,.slice t x.methods.length q2]:=by rw[O];exact hQ.oI _ _ rfl
      have aY:Zz ((wc:Nat)=k+1):=Zy (by rw[O];simp);rw[<-O];clear O;refine kk g b p ?_;clear b d;have h:=jr (D:=fun _=>False) h aJ fun _ _ _ x=>x;refine j3 rfl fun d b=>?_;refine jF vC rfl (.tmp 13) (.tmp 15) rfl e T i L.flatten rfl h k 1 [x.name,x.jE,.slice s x.fields.length q1,.slice t x.methods.length q2] rfl rfl j Zt Zm p.size ?_;intro g9 c9 wf D R _;have r:=p.own R (fun a c=>(h.lt a c).1);change d _ _;refine kk g b r ?_;clear b d;refine kQ ?_;have u:=K.ext r;obtain⟨zX,vX,-⟩:=u.ca;have fX:=u.frozen 0;have z:=pV (R:=jT) jT.stays Zm D aa ae HY rfl r HJ K 0;clear j o h D g u;go_wp2;go_meet;exact z
    . skip;go_wp2_with fail;obtain⟨k,n⟩:∃A,A=f.alloc (.cells #[x.name,x.jE,.slice s x.fields.length q1,.slice t x.methods.length q2] 38):=⟨_,rfl⟩;have l:Ext e k:=y.trans (by rw[n];exact jJ _);have V:Ext f k:=by rw[n];exact jJ _
      have j:hQ k f 0 [x.name,x.jE,.slice s x.fields.length q1,.slice t x.methods.length q2]:=by rw[n];exact hQ.oI _ _ rfl
      have aP:Zz ((k:Nat)=f+1):=Zy (by rw[n];simp);rw[<-n];clear n;refine kk g b l ?_;clear b d;have o:=jr (D:=fun _=>False) o V fun _ _ _ x=>x;refine j3 rfl fun d b=>?_;refine kM vC _ rfl (.tmp 5) (.tmp 12) rfl e (.slice (some ⟨wd,0,none⟩) 0 0) 0 [] rfl o B i C L.flatten rfl (af.ext l) Zm l.size ?_;intro T wc h Q;rw[Tk,TZ]at h;have p:=l.own Q (fun a c=>(o.lt a c).1);have j:=j.kp Q (fun v=>by simp[Value.ownBlock]at v;have:=ai.o;omega);change d _ _;refine kk g b p ?_;clear b d;refine j3 rfl fun d b=>?_;refine jF vC rfl (.tmp 13) (.tmp 15) rfl e T i L.flatten rfl h f 1 [x.name,x.jE,.slice s x.fields.length q1,.slice t x.methods.length q2] rfl rfl j Zt Zm p.size ?_;intro g9 c9 wf D R _;have r:=p.own R (fun a c=>(h.lt a c).1);change d _ _;refine kk g b r ?_;clear b d;refine kQ ?_;have u:=K.ext r;obtain⟨zX,vX,-⟩:=u.ca;have fX:=u.frozen 0;have z:=pV (R:=jT) jT.stays Zm D aa ae HY rfl r HJ K 0;clear j o h D g u;go_wp2;go_meet;exact z
  . have N:Ext e e.drew:=jA;generalize e.drew=wd at N |-;go_wp2_with fail;obtain⟨f,m⟩:∃A,A=wd.alloc (.cells #[x.name,x.jE,.slice s x.fields.length q1,.slice t x.methods.length q2] 38):=⟨_,rfl⟩;have y:Ext e f:=N.trans (by rw[m];exact jJ _);have aT:Ext wd f:=by rw[m];exact jJ _
    have j:hQ f wd 0 [x.name,x.jE,.slice s x.fields.length q1,.slice t x.methods.length q2]:=by rw[m];exact hQ.oI _ _ rfl
    have ai:Zz ((f:Nat)=wd+1):=Zy (by rw[m];simp);rw[<-m];clear m;refine kk g b y ?_;clear b d;refine j3 rfl fun d b=>?_;go_wp2_with fail;obtain⟨k,n⟩:∃A,A=f.alloc (.cells #[] 38):=⟨_,rfl⟩;have V:Ext f k:=by rw[n];exact jJ _
    have l:=y.trans V;have o:k.ownsRow e 38 4 (.slice (some ⟨f,0,none⟩) 0 0) 0 []:=by rw[n];exact kV f _ _ _ y.size rfl
    have aP:Zz ((k:Nat)=f+1):=Zy (by rw[n];simp);rw[<-n];clear n;refine kk g b l ?_;clear b d;have j:=j.ext V;refine j3 rfl fun d b=>?_;refine kM vC _ rfl (.tmp 5) (.tmp 12) rfl e (.slice (some ⟨f,0,none⟩) 0 0) 0 [] rfl o B i C L.flatten rfl (af.ext l) Zm l.size ?_;intro T wc h Q;rw[Tk,TZ]at h;have p:=l.own Q (fun a c=>(o.lt a c).1);have j:=j.kp Q (fun v=>by simp[Value.ownBlock]at v;have:=ai.o;omega);change d _ _;refine kk g b p ?_;clear b d;refine j3 rfl fun d b=>?_;refine jF vC rfl (.tmp 13) (.tmp 15) rfl e T i L.flatten rfl h wd 1 [x.name,x.jE,.slice s x.fields.length q1,.slice t x.methods.length q2] rfl rfl j Zt Zm p.size ?_;intro g9 c9 wf D R _;have r:=p.own R (fun a c=>(h.lt a c).1);change d _ _;refine kk g b r ?_;clear b d;refine kQ ?_;have u:=K.ext r;obtain⟨zX,vX,-⟩:=u.ca;have fX:=u.frozen 0;have z:=pV (R:=jT) jT.stays Zm D aa ae HY rfl r HJ K 0;clear j o h D g u;go_wp2;go_meet;exact z
 obtain⟨v',Y,c,G⟩:=hcut;obtain⟨a6,m6,rfl,-,-⟩:=Y.form;obtain⟨S,az⟩:∃S,(q.owns.dropLast++[x]).length=S:=⟨_,rfl⟩;rw[az]at Y c;clear az;have c:jq wc w 32 #[.slice a6 S m6,.slice E q.asks.length J]:=c;have W:=Z.kp G Zm;obtain⟨ez,e0,e1,-⟩:=c.ca;obtain⟨gz,g0,g1,-⟩:=W.ca;obtain⟨k0,k1,-⟩:=W.fz;have⟨Z,HS,HK,aF⟩:=kD W Y G (aD.keep vL.stays (G.same (fun a c=>Te (HI.o a c))) (fun _ F=>F));clear c W Y G r0 r1 r2 r3 r4 g aM aN;go_wp2_with fail;refine PG (jM Ke rfl (w+2) rfl [.slice a6 S m6,.slice E q.asks.length J] (hQ.kX (jq.EN Z _ _)) rfl) rfl ?_;have hP:Kp (·=w+2) wc ((wc.setCell ⟨w+2,0,none⟩ (.slice a6 S m6)).setCell ⟨w+2,1,none⟩ (.slice E q.asks.length J)):=Kp.EN (D:=(·=w+2)) rfl _ _;exact⟨⟨_,rfl,_,_,rfl,HS.keep jT.stays (hP.same (fun a c v=>c.elim (fun F=>Te (HI.o a F)) (fun F=>Te aj.o))) (fun a c=>c.imp id (fun F=>Te aj.o)),aF.o.keep vL.stays (hP.same (fun a c v=>Te (HI.o a c))) (fun a c=>.inl c)⟩,(aG.o.own HK.o (fun a v=>Zm)).own hP (fun a v=>Zm)⟩
end Go.Proofs.YtenhnldnpdlniaaGreat
