/- Walks. -/
import Derived.Test.YtlhlnddgfcmfkaaGreatRsCoreLb
import Derived.Deep.DeepCutAuto
import Derived.Deep.CutRange
set_option maxRecDepth 100000
set_option maxHeartbeats 4000000
set_option linter.all false
namespace Go.Proofs.YtlhlnddgfcmfkaaGreat
open Go Go.RowKit Tryz
theorem rq(op a:Int)(n m:ByteArray)(w:World)(y: -100000<=a∧a<=100000)(K:n.size<=1000)(J:m.size<=1000):Calls prog 95 #[.agg #[op,a,n,m]] w fun c p=>JJ 20000 c∧Ext w p:=by
 obtain⟨H,I⟩:=y;have k:∀d,Calls prog 145 #[a] d fun c s=>JJ 11200 c∧Ext d s:=fun d=>(Jt a d Zm Zm).mono (by
  rintro c p ⟨⟨C,rfl,-,A⟩,x⟩;exact⟨⟨_,rfl,by omega⟩,x⟩)
 have r:=Zy k;clear k;go_enter func95,ntmps95;go_wp2_with fail;refine(Le op a n m).mono ?_;rintro c M ⟨⟨t,rfl,o⟩,j⟩;have e:=Zy j;clear j;cases t
 . go_wp2_with fail;go_ret;exact⟨⟨_,rfl,Nat.zero_le _⟩,Zv⟩
 . have g:=(hV.new w 149 #[op,a,n,m]).ext e;obtain⟨u,v⟩:=o rfl;obtain⟨b,rfl⟩:∃b:Nat,op=b:=⟨op.toNat,by omega⟩;have z:b=1∨b=2∨b=3∨b=4∨b=5∨b=6∨b=7∨b=8∨b=9∨b=10∨b=11∨b=12∨b=13∨b=14∨b=15:=by omega
   have i:=g.c 0 b rfl;have h:=Zy g;clear g;go_wp2_with fail;refine(Cg b Zm).mono ?_;rintro c N ⟨⟨C,rfl,A⟩,f⟩;have q:=Zy (e.trans f);have B:(ByteArray.mk #[32]).size=1:=rfl;have l:=h.ext f;clear f e i o u v;obtain⟨-,i,D,E,F,-⟩:=l.ca;clear l h;rcases z with rfl|rfl|rfl|rfl|rfl|rfl|rfl|rfl|rfl|rfl|rfl|rfl|rfl|rfl|rfl
   all_goals
    go_wp2_with (go_at_call 145;refine(r _).mono ?_;rintro c O ⟨⟨P,rfl,L⟩,G⟩);go_ret;refine⟨⟨_,rfl,by first|omega|(simp only[ByteArray.size_append,B];omega)⟩,?_⟩;have:=q.o;exact Zv
namespace M
theorem Mt:∀(l d:List UInt8),∀b∈mM d l,b.length<=d.length+l.length
 |[],d,b,a=>by simp[mM]at a;subst a;simp
 |c::r,d,b,a=>by
  rw[mM]at a;split at a
  . rcases List.mem_cons.1 a with rfl|a
    . omega
    . have:=Mt r [] b a;simp at this ⊢;omega
  . have:=Mt r _ b a;simp at this ⊢;omega
theorem Io{s x:ByteArray}(b:x∈words s):x.size<=s.size:=by
 unfold words at b;obtain⟨a,c,rfl⟩:=List.mem_map.1 b;have:=Mt s.data.toList [] a c;have d:(bs a).size=a.length:=by simp[bs,ByteArray.size]
 have e:s.data.toList.length=s.size:=by simp
 simp at this;omega
theorem zG(s:ByteArray):∃b a,words s=b::a:=by
 cases c:words s with
 |nil=>exact absurd (by simpa [words]using c) (Jy s.data.toList [])
 |cons b a=>exact⟨b,a,rfl⟩
end M
theorem kS.at_{w:World}{I:Nat->Prop}{a:Option Addr}{n c:Nat}{xs:List ByteArray}{i:Nat}{x:ByteArray}(f:SliceOf 1 kS w I (.slice a n c) xs)(h:xs[i]?=some x):∃b d,a=some ⟨b,d,none⟩∧w.cell? ⟨b,d+i,none⟩=some (.string x):=by
 obtain⟨b,d,j,e,-,rfl,-,g⟩:=f.get h;exact⟨b,d,e,by simpa using g.one⟩
theorem Kp.ni{D:Nat->Prop}{w:World}{b:Nat}(a:D b)(c d e f:Value):Kp D w ((((w.setCell b c).setCell (b,1) d).setCell (b,2) e).setCell (b,3) f):=
 (((((Kp.refl D w).setCell (p:=⟨b,0,none⟩) (fun _=>a) c).setCell (p:=⟨b,1,none⟩) (fun _=>a) d).setCell (p:=⟨b,2,none⟩) (fun _=>a) e).setCell (p:=⟨b,3,none⟩) (fun _=>a) f)
theorem hV.ni{w:World}{b:Nat}{t:TypeId}{u0 u1 u2 u3:Value}(f:hV w b t #[u0,u1,u2,u3])(a c d e:Value):hV ((((w.setCell b a).setCell (b,1) c).setCell (b,2) d).setCell (b,3) e) b t #[a,c,d,e]:=by
 have g:hV (w.setCell b a) b t #[a,u1,u2,u3]:=f.jk 0 a;have h:hV ((w.setCell b a).setCell (b,1) c) b t #[a,c,u2,u3]:=g.jk 1 c;have i:hV (((w.setCell b a).setCell (b,1) c).setCell (b,2) d) b t #[a,c,d,u3]:=h.jk 2 d;exact i.jk 3 e
def LJ(m:Nat)(e:Ending):Prop:=∃op a n k b,e=.returned (.tuple #[.agg #[.int .i64 op,.int .i64 a,.string n,.string k],.bool b])∧n.size<=m∧k.size<=m
theorem Ia (s : ByteArray) {w: World} (hs : s.size <= 4000000000) : Calls prog 169 #[s] w fun b w' => LJ s.size b ∧ Ext w w' := by
 obtain⟨w0,aP,aK,hb⟩:=nu w #[.int .i64 0,.int .i64 0, "", ""] 149;have⟨aT,HB,aU⟩:=jy aK hb aP;clear aK hb aP;go_enter func169,ntmps169;go_wp2_with fail;rw[<-aU.o];refine(Ao s w0 hs).mono ?_;rintro b w1 ⟨⟨bG,rfl,hS⟩,aF⟩;obtain⟨bn,bq,rfl,aO,-⟩:=hS.form;obtain⟨x0,ak,aY⟩:=M.zG s;have aI:Zz (∀aR∈M.words s,aR.size<=s.size):=Zy (fun aR hx=>M.Io hx);rw[aY]at hS aO aI ⊢;obtain⟨aJ,bF,rfl,G⟩:=kS.at_ (i:=0) hS rfl;rw[Nat.add_zero]at G;obtain⟨V,U⟩:∃V,(x0::ak).length=V:=⟨_,rfl⟩;have bz:1<=V:=by rw[<-U];simp
 have HN:=Zy U;rw[U]at aO hS ⊢;have⟨HS,ag,aC⟩:=jy hS (HB.ext aF) (aT.trans aF);clear aF hS U;go_wp2_with fail;go_loopw [5] (fun i wr=>∃d:Nat,1<=d∧d<=16∧i=.int .i64 d∧Ext w1 wr) (fun i _=>16 - (intOf i).toNat)
 case atStart=>exact⟨1,Nat.le_refl _,by omega,rfl,Kp.rr⟩
 case round =>
  obtain⟨d,k1,bE,rfl,hE⟩:=hrel;have gw:=hE.jb G;have Y:=iY gw;have W:=Zy hE;clear hE;by_cases hk:d<=15
  . have aV : (d : Int) <= 15 := by omega
    obtain⟨bg,bu,bD,HT⟩:=kY wr;have r0:=fun bf=>(HT.jm bf).jb gw;have au:=Zy HT;clear HT;go_wp2_with fail;refine kD au 6 [([0,2,3,4],1)] [5] ?_ ?_
    . exact jf
    refine lS ?_;intro K2 az;go_wp2_with fail;refine(Cg d Zm).mono ?_;rintro b a ⟨⟨aZ,rfl,ht⟩,aL⟩;have N:=Zy (((Kp.refl _ wr).drew).trans aL);clear aL;cases hq:(aZ.toList==x0.toList)
    . go_wp2_with fail;refine kk au az N ?_;clear az K2;refine sK ?_;go_wp2_with fail;go_round
      case rel=>exact⟨d+1,by omega,by omega,by go_num,W.o.trans N.o⟩
      case measure=>simp[intOf];omega
    . go_wp2_with fail;refine kk au az N ?_;clear az K2;refine sK ?_;obtain⟨w3,aB⟩:=Ry (a.alloc (.cells #[d,.int .i64 0, "", ""] 149));have aM:Ext a w3:=by rw[aB];exact kx
      have ay:=(W.trans N).trans aM;have P:Zz (hV w3 a 149 #[d,.int .i64 0, "", ""]):=Zy (by rw[aB];exact hV.new _ _ _);have⟨L,X,aj,aD⟩:=jV (ag.ext ay) (aC.trans ay) (HS.ext kS.stays ay) aB;have af:(w:Nat)≠a:=by have:=ag.lt;have:=(W.trans N).size;omega
      have aN:aJ≠a:=by have:=N.size;omega
      have aa:Zz ((w:Nat)<a):=Zy (by have:=ag.lt;have:=(W.trans N).size;omega);clear aM ay aB G gw Y W N ag aC HS au r0 hq ht;have ae:=aI.o;rcases ak with _|⟨h,ak⟩
      . have U:V=1:=HN.symm;subst U;clear ae;rw[aD.o]at L P X;obtain⟨-,t,u,v,x,-⟩:=L.ca;obtain⟨o,p,q,r,-⟩:=L.fz;obtain⟨-,B,C,D,E,-⟩:=P.ca;obtain⟨G,g,H,S,-⟩:=P.fz;have y:=L.lt;have F:=P.lt;by_cases av:(30:Int)<s.size
        . go_wp2_with fail;refine bodyPost_ret (ja l9 rfl w rfl [.int .i64 0,.int .i64 0, "", ""] (hH.lV (hV.ni L _ _ _ _)) rfl) rfl ?_;exact⟨⟨_,_,_,_,_,rfl,Nat.zero_le _,Nat.zero_le _⟩,X.own (Kp.ni (D:=(·=w)) rfl _ _ _ _) (fun _ b=>by omega)⟩
        . have ax:s.size<=30:=by omega
          go_wp2_with fail;refine(rq d 0 ⟨#[]⟩ ⟨#[]⟩ _ Zm (Nat.zero_le _) (Nat.zero_le _)).mono ?_;rintro b w6 ⟨⟨T,rfl,-⟩,f⟩;have⟨c,z,A⟩:=jy (L.ext f) (P.ext f) (X.trans f);clear t u v x o p q r B C D E G g H S y F f;obtain⟨-,t,u,v,x,-⟩:=c.ca;obtain⟨o,p,q,r,-⟩:=c.fz;obtain⟨-,B,C,D,E,-⟩:=z.ca;have y:=c.lt;have F:=z.lt;cases aA:(T.toList==s.toList)
          . go_wp2_with fail;refine bodyPost_ret (ja l9 rfl w rfl [.int .i64 0,.int .i64 0, "", ""] (hH.lV (hV.ni c _ _ _ _)) rfl) rfl ?_;exact⟨⟨_,_,_,_,_,rfl,Nat.zero_le _,Nat.zero_le _⟩,A.own (Kp.ni (D:=(·=w)) rfl _ _ _ _) (fun _ b=>by omega)⟩
          . go_wp2_with fail;refine bodyPost_ret (ja l9 rfl w rfl [d,.int .i64 0, "", ""] (hH.lV (hV.ni c _ _ _ _)) rfl) rfl ?_;exact⟨⟨_,_,_,_,_,rfl,Nat.zero_le _,Nat.zero_le _⟩,A.own (Kp.ni (D:=(·=w)) rfl _ _ _ _) (fun _ b=>by omega)⟩
      . rcases ak with _|⟨K,ak⟩
        . obtain⟨_,_,e1,g⟩:=kS.at_ (i:=1) aj rfl;cases e1;have aH:=ae h Zl;have U:V=2:=HN.symm;subst U;have Y:=iY g;clear ae aj;rw[aD.o]at L P X g Y;go_wp2_with fail;refine(ru h Zm).mono ?_;rintro b e ⟨⟨m,ok,rfl,-,aW,aX⟩,I⟩;have⟨O,j,ah⟩:=jy (L.ext I) (P.ext I) (X.trans I);have h1:=I.jb g;have hz:=iY h1;clear I g Y;have aG:aJ≠a:=aN;have v0:=j.frozen 0;have v1:=j.frozen 1;have v2:=j.frozen 2;have v3:=j.frozen 3;have vz:=j.lt;obtain⟨pz,q0,q1,q2,q3,-⟩:=O.ca;obtain⟨p0,p1,p2,p3,-⟩:=O.fz;obtain⟨-,l0,l1,l2,l3,-⟩:=j.ca;cases ok
          . have l:Kp (·=a) e (e.setCell (a,2) h):=(Kp.refl (·=a) e).setCell (p:=⟨a,2,none⟩) (fun _=>rfl) _;have k:Zz (hV (e.setCell (a,2) h) a 149 #[d,.int .i64 0,h, ""]):=Zy (j.jk 2 _);have⟨n,R⟩:=je (O.kp l af) (ah.own l (fun _ b=>by have:=aa.o;omega));clear l;obtain⟨-,t,u,v,x,-⟩:=n.ca;obtain⟨o,p,q,r,-⟩:=n.fz;obtain⟨-,B,C,D,E,-⟩:=k.ca;obtain⟨G,g,H,S,-⟩:=k.fz;have y:=n.lt;have F:=k.lt;by_cases av:(30:Int)<s.size
            . go_wp2_with fail;refine bodyPost_ret (ja l9 rfl w rfl [.int .i64 0,.int .i64 0, "", ""] (hH.lV (hV.ni n _ _ _ _)) rfl) rfl ?_;exact⟨⟨_,_,_,_,_,rfl,Nat.zero_le _,Nat.zero_le _⟩,R.own (Kp.ni (D:=(·=w)) rfl _ _ _ _) (fun _ b=>by omega)⟩
            . have ax:s.size<=30:=by omega
              go_wp2_with fail;refine(rq d 0 h ⟨#[]⟩ _ Zm Zm (Nat.zero_le _)).mono ?_;rintro b w6 ⟨⟨T,rfl,-⟩,f⟩;have⟨c,z,A⟩:=jy (n.ext f) (k.ext f) (R.trans f);clear t u v x o p q r B C D E G g H S y F f;obtain⟨-,t,u,v,x,-⟩:=c.ca;obtain⟨o,p,q,r,-⟩:=c.fz;obtain⟨-,B,C,D,E,-⟩:=z.ca;have y:=c.lt;have F:=z.lt;cases aA:(T.toList==s.toList)
              . go_wp2_with fail;refine bodyPost_ret (ja l9 rfl w rfl [.int .i64 0,.int .i64 0, "", ""] (hH.lV (hV.ni c _ _ _ _)) rfl) rfl ?_;exact⟨⟨_,_,_,_,_,rfl,Nat.zero_le _,Nat.zero_le _⟩,A.own (Kp.ni (D:=(·=w)) rfl _ _ _ _) (fun _ b=>by omega)⟩
              . go_wp2_with fail;refine bodyPost_ret (ja l9 rfl w rfl [d,.int .i64 0,h, ""] (hH.lV (hV.ni c _ _ _ _)) rfl) rfl ?_;exact⟨⟨_,_,_,_,_,rfl,aH,Nat.zero_le _⟩,A.own (Kp.ni (D:=(·=w)) rfl _ _ _ _) (fun _ b=>by omega)⟩
          . have l:Kp (·=a) e (e.setCell (a,1) m):=(Kp.refl (·=a) e).setCell (p:=⟨a,1,none⟩) (fun _=>rfl) _;have k:Zz (hV (e.setCell (a,1) m) a 149 #[d,m, "", ""]):=Zy (j.jk 1 _);have⟨n,R⟩:=je (O.kp l af) (ah.own l (fun _ b=>by have:=aa.o;omega));clear l;obtain⟨-,t,u,v,x,-⟩:=n.ca;obtain⟨o,p,q,r,-⟩:=n.fz;obtain⟨-,B,C,D,E,-⟩:=k.ca;obtain⟨G,g,H,S,-⟩:=k.fz;have y:=n.lt;have F:=k.lt;by_cases av:(30:Int)<s.size
            . go_wp2_with fail;refine bodyPost_ret (ja l9 rfl w rfl [.int .i64 0,.int .i64 0, "", ""] (hH.lV (hV.ni n _ _ _ _)) rfl) rfl ?_;exact⟨⟨_,_,_,_,_,rfl,Nat.zero_le _,Nat.zero_le _⟩,R.own (Kp.ni (D:=(·=w)) rfl _ _ _ _) (fun _ b=>by omega)⟩
            . have ax:s.size<=30:=by omega
              go_wp2_with fail;refine(rq d m ⟨#[]⟩ ⟨#[]⟩ _ Zm (Nat.zero_le _) (Nat.zero_le _)).mono ?_;rintro b w6 ⟨⟨T,rfl,-⟩,f⟩;have⟨c,z,A⟩:=jy (n.ext f) (k.ext f) (R.trans f);clear t u v x o p q r B C D E G g H S y F f;obtain⟨-,t,u,v,x,-⟩:=c.ca;obtain⟨o,p,q,r,-⟩:=c.fz;obtain⟨-,B,C,D,E,-⟩:=z.ca;have y:=c.lt;have F:=z.lt;cases aA:(T.toList==s.toList)
              . go_wp2_with fail;refine bodyPost_ret (ja l9 rfl w rfl [.int .i64 0,.int .i64 0, "", ""] (hH.lV (hV.ni c _ _ _ _)) rfl) rfl ?_;exact⟨⟨_,_,_,_,_,rfl,Nat.zero_le _,Nat.zero_le _⟩,A.own (Kp.ni (D:=(·=w)) rfl _ _ _ _) (fun _ b=>by omega)⟩
              . go_wp2_with fail;refine bodyPost_ret (ja l9 rfl w rfl [d,m, "", ""] (hH.lV (hV.ni c _ _ _ _)) rfl) rfl ?_;exact⟨⟨_,_,_,_,_,rfl,Nat.zero_le _,Nat.zero_le _⟩,A.own (Kp.ni (D:=(·=w)) rfl _ _ _ _) (fun _ b=>by omega)⟩
        . obtain⟨_,_,e1,g⟩:=kS.at_ (i:=1) aj rfl;cases e1;have aH:=ae h Zl;obtain⟨_,_,e1,H⟩:=kS.at_ (i:=2) aj rfl;cases e1;have aQ:=ae K Zl;have bA:3<=V:=by have:=HN.o;simp at this;omega
          have bB:(1:Int)<V:=by omega
          have bC:(2:Int)<V:=by omega
          have Y:=iY g;clear ae aj;rw[aD.o]at L P X g Y H;go_wp2_with fail;refine(ru h Zm).mono ?_;rintro b e ⟨⟨m,ok,rfl,-,aW,aX⟩,I⟩;have⟨O,j,ah⟩:=jy (L.ext I) (P.ext I) (X.trans I);have h1:=I.jb g;have hz:=iY h1;have h2:=I.jb H;clear I g Y H;have aG:=aN;have v0:=j.frozen 0;have v1:=j.frozen 1;have v2:=j.frozen 2;have v3:=j.frozen 3;have vz:=j.lt;obtain⟨pz,q0,q1,q2,q3,-⟩:=O.ca;obtain⟨p0,p1,p2,p3,-⟩:=O.fz;obtain⟨-,l0,l1,l2,l3,-⟩:=j.ca;cases ok
          . have l:Kp (·=a) e (e.setCell (a,2) h):=(Kp.refl (·=a) e).setCell (p:=⟨a,2,none⟩) (fun _=>rfl) _;have k:Zz (hV (e.setCell (a,2) h) a 149 #[d,.int .i64 0,h, ""]):=Zy (j.jk 2 _);have⟨n,R⟩:=je (O.kp l af) (ah.own l (fun _ b=>by have:=aa.o;omega));have h3:=l.lW h2 aG;have y3:=k.c 3 "" rfl;have x3:=k.frozen 3;have Z:Kp (·=a) (e.setCell (a,2) h) ((e.setCell (a,2) h).setCell (a,3) K):=(Kp.refl (·=a) (e.setCell (a,2) h)).setCell (p:=⟨a,3,none⟩) (fun _=>rfl) _;have Q:Zz (hV ((e.setCell (a,2) h).setCell (a,3) K) a 149 #[d,.int .i64 0,h,K]):=Zy (k.jk 3 _);have⟨J,ai⟩:=je (n.kp Z af) (R.own Z (fun _ b=>by have:=aa.o;omega));clear Z;clear l;obtain⟨-,t,u,v,x,-⟩:=J.ca;obtain⟨o,p,q,r,-⟩:=J.fz;obtain⟨-,B,C,D,E,-⟩:=Q.ca;obtain⟨G,g,H,S,-⟩:=Q.fz;have y:=J.lt;have F:=Q.lt;by_cases av:(30:Int)<s.size
            . go_wp2_with fail;refine bodyPost_ret (ja l9 rfl w rfl [.int .i64 0,.int .i64 0, "", ""] (hH.lV (hV.ni J _ _ _ _)) rfl) rfl ?_;exact⟨⟨_,_,_,_,_,rfl,Nat.zero_le _,Nat.zero_le _⟩,ai.own (Kp.ni (D:=(·=w)) rfl _ _ _ _) (fun _ b=>by omega)⟩
            . have ax:s.size<=30:=by omega
              go_wp2_with fail;refine(rq d 0 h K _ Zm Zm Zm).mono ?_;rintro b w6 ⟨⟨T,rfl,-⟩,f⟩;have⟨c,z,A⟩:=jy (J.ext f) (Q.ext f) (ai.trans f);clear t u v x o p q r B C D E G g H S y F f;obtain⟨-,t,u,v,x,-⟩:=c.ca;obtain⟨o,p,q,r,-⟩:=c.fz;obtain⟨-,B,C,D,E,-⟩:=z.ca;have y:=c.lt;have F:=z.lt;cases aA:(T.toList==s.toList)
              . go_wp2_with fail;refine bodyPost_ret (ja l9 rfl w rfl [.int .i64 0,.int .i64 0, "", ""] (hH.lV (hV.ni c _ _ _ _)) rfl) rfl ?_;exact⟨⟨_,_,_,_,_,rfl,Nat.zero_le _,Nat.zero_le _⟩,A.own (Kp.ni (D:=(·=w)) rfl _ _ _ _) (fun _ b=>by omega)⟩
              . go_wp2_with fail;refine bodyPost_ret (ja l9 rfl w rfl [d,.int .i64 0,h,K] (hH.lV (hV.ni c _ _ _ _)) rfl) rfl ?_;exact⟨⟨_,_,_,_,_,rfl,aH,aQ⟩,A.own (Kp.ni (D:=(·=w)) rfl _ _ _ _) (fun _ b=>by omega)⟩
          . have l:Kp (·=a) e (e.setCell (a,1) m):=(Kp.refl (·=a) e).setCell (p:=⟨a,1,none⟩) (fun _=>rfl) _;have k:Zz (hV (e.setCell (a,1) m) a 149 #[d,m, "", ""]):=Zy (j.jk 1 _);have⟨n,R⟩:=je (O.kp l af) (ah.own l (fun _ b=>by have:=aa.o;omega));have h3:=l.lW h2 aG;have y3:=k.c 3 "" rfl;have x3:=k.frozen 3;have Z:Kp (·=a) (e.setCell (a,1) m) ((e.setCell (a,1) m).setCell (a,3) K):=(Kp.refl (·=a) (e.setCell (a,1) m)).setCell (p:=⟨a,3,none⟩) (fun _=>rfl) _;have Q:Zz (hV ((e.setCell (a,1) m).setCell (a,3) K) a 149 #[d,m, "",K]):=Zy (k.jk 3 _);have⟨J,ai⟩:=je (n.kp Z af) (R.own Z (fun _ b=>by have:=aa.o;omega));clear Z;clear l;obtain⟨-,t,u,v,x,-⟩:=J.ca;obtain⟨o,p,q,r,-⟩:=J.fz;obtain⟨-,B,C,D,E,-⟩:=Q.ca;obtain⟨G,g,H,S,-⟩:=Q.fz;have y:=J.lt;have F:=Q.lt;by_cases av:(30:Int)<s.size
            . go_wp2_with fail;refine bodyPost_ret (ja l9 rfl w rfl [.int .i64 0,.int .i64 0, "", ""] (hH.lV (hV.ni J _ _ _ _)) rfl) rfl ?_;exact⟨⟨_,_,_,_,_,rfl,Nat.zero_le _,Nat.zero_le _⟩,ai.own (Kp.ni (D:=(·=w)) rfl _ _ _ _) (fun _ b=>by omega)⟩
            . have ax:s.size<=30:=by omega
              go_wp2_with fail;refine(rq d m ⟨#[]⟩ K _ Zm (Nat.zero_le _) Zm).mono ?_;rintro b w6 ⟨⟨T,rfl,-⟩,f⟩;have⟨c,z,A⟩:=jy (J.ext f) (Q.ext f) (ai.trans f);clear t u v x o p q r B C D E G g H S y F f;obtain⟨-,t,u,v,x,-⟩:=c.ca;obtain⟨o,p,q,r,-⟩:=c.fz;obtain⟨-,B,C,D,E,-⟩:=z.ca;have y:=c.lt;have F:=z.lt;cases aA:(T.toList==s.toList)
              . go_wp2_with fail;refine bodyPost_ret (ja l9 rfl w rfl [.int .i64 0,.int .i64 0, "", ""] (hH.lV (hV.ni c _ _ _ _)) rfl) rfl ?_;exact⟨⟨_,_,_,_,_,rfl,Nat.zero_le _,Nat.zero_le _⟩,A.own (Kp.ni (D:=(·=w)) rfl _ _ _ _) (fun _ b=>by omega)⟩
              . go_wp2_with fail;refine bodyPost_ret (ja l9 rfl w rfl [d,m, "",K] (hH.lV (hV.ni c _ _ _ _)) rfl) rfl ?_;exact⟨⟨_,_,_,_,_,rfl,Nat.zero_le _,aQ⟩,A.own (Kp.ni (D:=(·=w)) rfl _ _ _ _) (fun _ b=>by omega)⟩
  . have aV:¬(d:Int)<=15:=by omega
    have hB:=ag.ext W;obtain⟨-,t,u,v,x,-⟩:=hB.ca;obtain⟨o,p,q,r,-⟩:=hB.fz;have⟨aS,N⟩:=je hB (aC.trans W);have y:=hB.lt;clear hB;go_wp2_with fail;refine bodyPost_ret (ja l9 rfl w rfl [.int .i64 0,.int .i64 0, "", ""] (hH.lV (hV.ni aS _ _ _ _)) rfl) rfl ?_;exact⟨⟨_,_,_,_,_,rfl,Nat.zero_le _,Nat.zero_le _⟩,N.own (Kp.ni (D:=(·=w)) rfl _ _ _ _) (fun _ b=>by omega)⟩
theorem tL:ym 211 2:=⟨_,underlying211,by kernel_rfl⟩
theorem zJ:ym 97 2:=⟨_,underlying97,by kernel_rfl⟩
theorem yt:ym 183 3:=⟨_,underlying183,by kernel_rfl⟩
theorem tY:ym 95 4:=⟨_,underlying95,by kernel_rfl⟩
theorem xZ(s:ByteArray){w:World}:Calls prog 183 #[s] w fun a b=>QK s.size a∧Ext w b:=by
 cases c:(s.toList==[63])
 . cases d:(s.toList==[35])
   . cases e:(s.toList==[33])
     . go_enter func183,ntmps183;go_wp2_with fail;refine(kF s _).mono ?_;rintro a f ⟨rfl,rfl⟩;go_wp2_with fail;refine bodyPost_ret (ja tL rfl w rfl [.int .i64 2,s] (hH.ny _ _ rfl) rfl) rfl ?_;exact⟨⟨_,_,_,rfl,Nat.le_refl _⟩,kx⟩
     . go_enter func183,ntmps183;go_wp2_with fail;refine bodyPost_ret (ja tL rfl w rfl [.int .i64 3, ""] (hH.ny _ _ rfl) rfl) rfl ?_;exact⟨⟨_,_,_,rfl,Nat.zero_le _⟩,kx⟩
   . go_enter func183,ntmps183;go_wp2_with fail;refine bodyPost_ret (ja tL rfl w rfl [.int .i64 1, ""] (hH.ny _ _ rfl) rfl) rfl ?_;exact⟨⟨_,_,_,rfl,Nat.zero_le _⟩,kx⟩
 . go_enter func183,ntmps183;go_wp2_with fail;refine bodyPost_ret (ja tL rfl w rfl [.int .i64 0, ""] (hH.ny _ _ rfl) rfl) rfl ?_;exact⟨⟨_,_,_,rfl,Nat.zero_le _⟩,kx⟩
theorem Kp.Bj{D:Nat->Prop}{w:World}{b:Nat}(a:D b)(c d e:Value):Kp D w (((w.setCell b c).setCell (b,1) d).setCell (b,2) e):=
 ((((Kp.refl D w).setCell (p:=⟨b,0,none⟩) (fun _=>a) c).setCell (p:=⟨b,1,none⟩) (fun _=>a) d).setCell (p:=⟨b,2,none⟩) (fun _=>a) e)
theorem hV.Bj{w:World}{b:Nat}{t:TypeId}{u0 u1 u2:Value}(e:hV w b t #[u0,u1,u2])(a c d:Value):hV (((w.setCell b a).setCell (b,1) c).setCell (b,2) d) b t #[a,c,d]:=by
 have f:hV (w.setCell b a) b t #[a,u1,u2]:=e.jk 0 a;have g:hV ((w.setCell b a).setCell (b,1) c) b t #[a,c,u2]:=f.jk 1 c;exact g.jk 2 d
def Ps(m:Nat)(e:Ending):Prop:=∃n k s b,e=.returned (.tuple #[.agg #[.string n,.int .i64 k,.string s],.bool b])∧n.size<=m∧s.size<=m
theorem DF{n:Nat}(a:n≠3):((n:Int)==3)=false∧((n:Int) !=3)=true:=by
 have:(n:Int)≠3:=by omega
 exact⟨beq_eq_false_iff_ne.2 this,by simp[this]⟩
theorem ED(xs:List ByteArray){v:Value}(m:Nat){I:Nat->Prop}{w:World}(a:SliceOf 1 kS w I v xs)(g:∀T∈xs,T.size<=m):Calls prog 166 #[v] w fun e R=>Ps m e∧Ext w R:=by
 obtain⟨V,X,rfl,k,-⟩:=a.form;by_cases o:xs.length=3
 . match xs,o,a,g,k with
   | [x0, x1, x2], _, a, g, k =>
    obtain⟨b,ae,rfl,s⟩:=kS.at_ (i:=1) a rfl;obtain⟨_,_,K,g2⟩:=kS.at_ (i:=2) a rfl;cases K;have hz:=iY s;have P:=g x1 Zl;have Q:=g x2 Zl;have c:=fun H=>Zy (kF x1 H);clear a g;simp only[List.length_cons,List.length_nil]at k ⊢;cases t:M.jC x1
    . simp only[t]at c;go_enter func166,ntmps166;go_wp2_with fail;refine(c _).o.mono ?_;rintro e S ⟨rfl,rfl⟩;go_wp2_with fail;refine bodyPost_ret (ja yt rfl w rfl ["",.int .i64 0, ""] (hH.ny _ _ rfl) rfl) rfl ?_;exact⟨⟨_,_,_,_,rfl,Nat.zero_le _,Nat.zero_le _⟩,kx⟩
    . simp only[t]at c;go_enter func166,ntmps166;go_wp2_with fail;refine(c _).o.mono ?_;rintro e S ⟨rfl,rfl⟩;go_wp2_with fail;refine(xY x2).mono ?_;rintro e C ⟨⟨l,n,W,rfl,O⟩,f⟩;obtain⟨q,A,i,p⟩:=nu C #[l,n] 137;have j:=(hV.new w 183 #["",.int .i64 0, ""]).ext (f.trans i);have L:=((((Kp.refl _ w).alloc _).trans f).trans i).jb s;have N:b≠w:=by omega
      have z:(C:Nat)≠w:=by have:=f.size;simp at this;omega
      obtain⟨-,z0,z1,z2,-⟩:=j.ca;obtain⟨Z,f1,f2,-⟩:=j.fz;have⟨D,E,F⟩:=jy j ((((Kp.refl _ w).alloc _).trans f).trans i) A;obtain⟨U,Y,aa,d⟩:=rA.ex (fun J=>Kp (·=w) q J) q Kp.rr;have r1:=fun h=>(d.jm h).lW L N;have r2:=fun h=>(d.jm h).lW (p.c 0 l rfl) z;have r3:=fun h=>(d.jm h).lW (p.c 1 n rfl) z;have r:=Zy d;clear d f i A j p c;go_wp2_with fail;rw[<-F.o];refine kD r 7 [([0,1,2,3,4,5],6)] [] ?_ ?_
      . exact jf
      refine lS ?_;intro G u;go_wp2_with fail;have x:=(Kp.Bj (D:=(·=w)) (w:=q) (b:=w.heap.size) rfl x1 l n).drew;refine kk r u x ?_;clear u G;refine kC ?_;go_wp2_with fail;refine bodyPost_ret (ja yt rfl w rfl [x1,l,n] (hH.lV ((hV.Bj D _ _ _).ext (jf))) rfl) rfl ?_;exact⟨⟨_,_,_,_,rfl,P,Nat.le_trans O Q⟩,E.own x (fun _ e=>by omega)⟩
 . obtain⟨B,y⟩:∃B,xs.length=B:=⟨_,rfl⟩;rw[y]at o k ⊢;obtain⟨n1,n2⟩:=DF o;clear y a;go_enter func166,ntmps166;go_wp2_with fail
   all_goals
    refine bodyPost_ret (ja yt rfl w rfl ["",.int .i64 0, ""] (hH.ny _ _ rfl) rfl) rfl ?_;exact⟨⟨_,_,_,_,rfl,Nat.zero_le _,Nat.zero_le _⟩,kx⟩
theorem Kp.DU{D:Nat->Prop}{w:World}{b:Nat}(a:D b)(c d:Value):Kp D w ((w.setCell b c).setCell (b,1) d):=
 (((Kp.refl D w).setCell (p:=⟨b,0,none⟩) (fun _=>a) c).setCell (p:=⟨b,1,none⟩) (fun _=>a) d)
theorem hV.DU{w:World}{b:Nat}{t:TypeId}{u0 u1:Value}(d:hV w b t #[u0,u1])(a c:Value):hV ((w.setCell b a).setCell (b,1) c) b t #[a,c]:=by
 have e:hV (w.setCell b a) b t #[a,u1]:=d.jk 0 a;exact e.jk 1 c
def Ri(m:Nat)(e:Ending):Prop:=∃n k b,e=.returned (.tuple #[.agg #[.string n,.int .i64 k],.bool b])∧n.size<=m
theorem Gp (xs : List ByteArray) {v: Value} (m : Nat) (Q : m <= 4000000000) {I: Nat -> Prop} {w: World} (h : SliceOf 1 kS w I v xs) (i : ∀ F ∈ xs, F.size <= m) :Calls prog 137 #[v] w fun f E=>Ri m f∧Ext w E:=by
 obtain⟨J,K,rfl,n,-⟩:=h.form;by_cases s:xs.length=3
 . match xs,s,h,i,n with
   | [x0, x1, x2], _, h, i, n =>
    obtain⟨b,W,rfl,r⟩:=kS.at_ (i:=1) h rfl;obtain⟨_,_,z,B⟩:=kS.at_ (i:=2) h rfl;cases z;have T:=iY r;have u:=i x1 Zl;have S:=i x2 Zl;clear h i;simp only[List.length_cons,List.length_nil]at n ⊢;go_enter func137,ntmps137;go_wp2_with fail;refine(ru x2 Zm).mono ?_;rintro f j ⟨⟨d,D,rfl,-,-,-⟩,t⟩;have l:=(hV.new w 97 #["",.int .i64 0]).ext t;have k:=Zy (((Kp.refl _ w).alloc _).trans t);have A:=k.jb r;have C:b≠w:=by omega
    obtain⟨-,Y,Z,-⟩:=l.ca;obtain⟨M,N,-⟩:=l.fz;have p:=Zy l;obtain⟨H,L,R,q⟩:=rA.ex (fun y=>Kp (·=w) j y) j Kp.rr;have X:=fun G=>(q.jm G).lW A C;have e:=Zy q;clear q t l r B;cases D
    . go_wp2_with fail;refine kD e 17 [([0,1,2,3,4,5,6,7,8,9,10,11,12,13],14),([15],16)] [] ?_ ?_
      . exact jf
      refine lS ?_;intro c a;go_wp2_with (go_at_call 165;refine(kF x1 _).mono ?_;rintro f x ⟨rfl,rfl⟩);refine kk e a jf ?_;clear a c;refine lS ?_;intro c a;go_wp2_with fail;have g:=(Kp.DU (D:=(·=w)) (w:=j) (b:=w.heap.size) rfl x1 (.int .i64 d)).drew;refine kk e a g ?_;clear a c;refine kC ?_;go_wp2_with fail;refine bodyPost_ret (ja zJ rfl w rfl [x1,.int .i64 d] (hH.lV ((hV.DU p _ _).ext (jf))) rfl) rfl ?_;exact⟨⟨_,_,_,rfl,u⟩,k.own g (fun _ f=>by omega)⟩
    . by_cases o:0<=d
      . go_wp2_with fail;refine kD e 17 [([0,1,2,3,4,5,6,7,8,9,10,11,12,13],14),([15],16)] [] ?_ ?_
        . exact jf
        refine lS ?_;intro c a;go_wp2_with (go_at_call 165;refine(kF x1 _).mono ?_;rintro f x ⟨rfl,rfl⟩);refine kk e a jf ?_;clear a c;refine lS ?_;intro c a;go_wp2_with fail;have g:=(Kp.DU (D:=(·=w)) (w:=j) (b:=w.heap.size) rfl x1 (.int .i64 d)).drew;refine kk e a g ?_;clear a c;refine kC ?_;go_wp2_with fail;refine bodyPost_ret (ja zJ rfl w rfl [x1,.int .i64 d] (hH.lV ((hV.DU p _ _).ext (jf))) rfl) rfl ?_;exact⟨⟨_,_,_,rfl,u⟩,k.own g (fun _ f=>by omega)⟩
      . have O:=decide_eq_false o;have P:d<0:=by omega
        go_wp2_with fail;refine kD e 17 [([0,1,2,3,4,5,6,7,8,9,10,11,12,13],14),([15],16)] [] ?_ ?_
        . exact jf
        refine lS ?_;intro c a;go_wp2_with (go_at_call 165;refine(kF x1 _).mono ?_;rintro f x ⟨rfl,rfl⟩);refine kk e a jf ?_;clear a c;refine lS ?_;intro c a;go_wp2_with fail;have g:=(Kp.DU (D:=(·=w)) (w:=j) (b:=w.heap.size) rfl x1 (.int .i64 d)).drew;refine kk e a g ?_;clear a c;refine kC ?_;go_wp2_with fail;refine bodyPost_ret (ja zJ rfl w rfl [x1,.int .i64 d] (hH.lV ((hV.DU p _ _).ext (jf))) rfl) rfl ?_;exact⟨⟨_,_,_,rfl,u⟩,k.own g (fun _ f=>by omega)⟩
 . obtain⟨d,o⟩:∃d,xs.length=d:=⟨_,rfl⟩;rw[o]at s n ⊢;obtain⟨U,V⟩:=DF s;clear o h;go_enter func137,ntmps137;go_wp2_with fail
   all_goals
    refine bodyPost_ret (ja zJ rfl w rfl ["",.int .i64 0] (hH.ny _ _ rfl) rfl) rfl ?_;exact⟨⟨_,_,_,rfl,Nat.zero_le _⟩,kx⟩
def IA(m:Nat)(e:Ending):Prop:=∃n s b,e=.returned (.tuple #[.agg #[.string n,.string s,.slice none 0 0,.slice none 0 0],.bool b])∧n.size<=m∧s.size<=m
theorem EC (xs : List ByteArray) {v: Value} (m : Nat) {I: Nat -> Prop} {w: World} (c : SliceOf 1 kS w I v xs) (e : ∀ E ∈ xs, E.size <= m) :Calls prog 138 #[v] w fun b C=>IA m b∧Ext w C:=by
 obtain⟨F,G,rfl,f,-⟩:=c.form;by_cases j:xs.length=3
 . match xs,j,c,e,f with
   | [x0, x1, x2], _, c, e, f =>
    obtain⟨h,O,rfl,u⟩:=kS.at_ (i:=1) c rfl;obtain⟨_,_,t,H⟩:=kS.at_ (i:=2) c rfl;cases t;have K:=iY u;have A:=e x1 Zl;have B:=e x2 Zl;have d:=fun a=>Zy (kF x1 a);have g:=fun a=>Zy (kF x2 a);clear c e;simp only[List.length_cons,List.length_nil]at f ⊢;have r:∀(a:World) (h:Bool),Ext w a->IA m (.returned (.tuple #[.agg #["", "",(),()],.bool h]))∧Ext w a:=fun a h i=>⟨⟨_,_,_,rfl,Nat.zero_le _,Nat.zero_le _⟩,i⟩;have s:∀(a:World) (k:ByteArray),k.size<=m->Ext w a->IA m (.returned (.tuple #[.agg #[x1,k,(),()],.bool true]))∧Ext w a:=fun a k z i=>⟨⟨_,_,_,rfl,A,z⟩,i⟩;have⟨n,o⟩:=je r s;clear r s;cases x:M.jC x1<;>simp only[x]at d
    . go_enter func138,ntmps138;go_wp2_with (go_at_call 165;refine(d _).o.mono ?_;rintro b l ⟨rfl,rfl⟩);refine bodyPost_ret (ja tY rfl w rfl ["", "",(),()] (hH.ny _ _ rfl) rfl) rfl ?_;exact n _ _ kx
    . cases J:(x2.toList==[45])
      . cases y:M.jC x2<;>simp only[y]at g
        . go_enter func138,ntmps138;go_wp2_with fail;refine(d _).o.mono ?_;rintro b l ⟨rfl,rfl⟩;go_wp2_with fail;refine(g _).o.mono ?_;rintro b D ⟨rfl,rfl⟩;go_wp2_with fail;refine bodyPost_ret (ja tY rfl w rfl ["", "",(),()] (hH.ny _ _ rfl) rfl) rfl ?_;exact n _ _ kx
        . go_enter func138,ntmps138;go_wp2_with fail;refine(d _).o.mono ?_;rintro b l ⟨rfl,rfl⟩;go_wp2_with fail;refine(g _).o.mono ?_;rintro b D ⟨rfl,rfl⟩;go_wp2_with fail;refine bodyPost_ret (ja tY rfl w rfl [x1,x2,(),()] (hH.lV ((hV.new w _ _).ext (jr _))) rfl) rfl ?_;exact o _ _ B kx
      . go_enter func138,ntmps138;go_wp2_with (go_at_call 165;refine(d _).o.mono ?_;rintro b l ⟨rfl,rfl⟩);refine bodyPost_ret (ja tY rfl w rfl [x1, "",(),()] (hH.lV ((hV.new w _ _).ext (jr _))) rfl) rfl ?_;exact o _ _ (Nat.zero_le _) kx
 . obtain⟨q,p⟩:∃q,xs.length=q:=⟨_,rfl⟩;rw[p]at j f ⊢;obtain⟨L,N⟩:=DF j;clear p c;go_enter func138,ntmps138;go_wp2_with fail
   all_goals
    refine bodyPost_ret (ja tY rfl w rfl ["", "",(),()] (hH.ny _ _ rfl) rfl) rfl ?_;exact⟨⟨_,_,_,rfl,Nat.zero_le _,Nat.zero_le _⟩,kx⟩
theorem tK:ym 146 3:=⟨_,underlying146,by kernel_rfl⟩
def Fx(w w':World)(e:Ending):Prop:=∃x c0 c1 c2 b,e=.returned (.tuple #[.agg #[c0,c1,c2],.bool b])∧kX w' (fun b=>w.heap.size<=b∧b<w'.heap.size) x [c0,c1,c2]
theorem Fx.zero(w a:World)(b:Bool):Fx w a (.returned (.tuple #[.agg #[.int .i64 0,(),()],.bool b])):=
 ⟨⟨0,[],[]⟩,_,_,_,b,rfl,_,_,rfl,SliceOf.nil _ _ _ _,SliceOf.nil _ _ _ _⟩
theorem Ic (xs : List ByteArray) {v: Value} (m : Nat) (hm : m <= 4000000000) {I: Nat -> Prop} {w: World} (X : SliceOf 1 kS w I v xs) (aZ : ∀ b ∈ xs, b.size <= m) :Calls prog 168 #[v] w fun d w'=>Fx w w' d∧Ext w w':=by
 obtain⟨bf,bg,rfl,aY,-⟩:=X.form;obtain⟨s,hn⟩:∃s,xs.length=s:=⟨_,rfl⟩;rw[hn]at aY X ⊢;by_cases h3:s<3
 . have d3:(s:Int)<3:=by omega
   clear hn X;go_enter func168,ntmps168;go_wp2_with fail
   all_goals
    refine bodyPost_ret (ja tK rfl w rfl [.int .i64 0,(),()] (hH.ny _ _ rfl) rfl) rfl ?_;exact⟨Fx.zero _ _ _,kx⟩
 by_cases bn:15<s
 . have d3:¬(s:Int)<3:=by omega
   have aW:(15:Int)<s:=by omega
   clear hn X;go_enter func168,ntmps168;go_wp2_with fail
   all_goals
    refine bodyPost_ret (ja tK rfl w rfl [.int .i64 0,(),()] (hH.ny _ _ rfl) rfl) rfl ?_;exact⟨Fx.zero _ _ _,kx⟩
 have d3:¬(s:Int)<3:=by omega
 have aW:¬(15:Int)<s:=by omega
 obtain⟨x1,aF⟩:∃b,xs[1]?=some b:=⟨xs[1]'Zm,List.getElem?_eq_getElem Zm⟩;obtain⟨u,bC,rfl,L⟩:=kS.at_ X aF;have gz:=iY L;have bB:=aZ x1 (List.mem_of_getElem? aF);have⟨HV,HN,HX⟩:=jy X hn aF;clear X hn aF;obtain⟨w0,aD⟩:=Ry (w.alloc (.cells #[.int .i64 0,(),()] 146));have aH:Ext w w0:=by rw[aD];exact kx
 have HB:Zz (hV w0 w 146 #[.int .i64 0,(),()]):=Zy (by rw[aD];exact hV.new _ _ _);have aQ:=aH.jb L;have aX:=iY aQ;have⟨aO,aU⟩:=je aH aD;clear aH aD;go_enter func168,ntmps168;go_wp2_with fail;rw[<-aU.o];go_wp2_with fail;refine(ru x1 Zm).mono ?_;rintro d c ⟨⟨F,ok,rfl,-,-,-⟩,ag⟩;obtain⟨w3,aA⟩:=Ry (c.alloc (.cells #[F,(),()] 146));have aJ:Ext c w3:=by rw[aA];exact kx
 have aS:Zz (hV w3 c 146 #[F,(),()]):=Zy (by rw[aA];exact hV.new _ _ _);have aI:=(aO.trans ag).trans aJ;have⟨aR,aB,aT⟩:=jy (HB.ext (ag.trans aJ)) aI (HV.ext kS.stays aI);have Z:Zz (w3.heap.size=c+1):=Zy (by rw[aA];simp);have bA:u<c.heap.size:=by have:=(aO.trans ag).size;omega
 have bu:=(HB.ext ag).lt;have aV:=Zy aA;clear ag aJ aI aA aQ aX L gz;go_wp2_with fail;rw[<-aV.o];go_loopw [7,8] (fun x aN wr=>∃(bh:Bool) (r:Nat) (vl vs:Value) (h a:List M.Tag),2<=r∧r<=s∧x=.bool bh∧aN=.int .i64 r∧h.length+a.length<=r∧hV wr c 146 #[F,vl,vs]∧
     wr.ownsRow (c+1) 211 2 vl h.length (h.flatMap lY)∧wr.ownsRow (c+1) 211 2 vs a.length (a.flatMap lY)∧(∀u,vl.ownBlock=some u->vs.ownBlock≠some u)∧Kp (·=c) w3 wr) (fun _ aN _=>s - (intOf aN).toNat)
 case atStart=>
  exact⟨false,2,_,_,[],[],Nat.le_refl _,by omega,rfl,rfl,by simp,aS.o,⟨rfl,.inl ⟨rfl,rfl⟩⟩,⟨rfl,.inl ⟨rfl,rfl⟩⟩,(fun _ x=>by cases x),Kp.rr⟩
 case round =>
  obtain⟨bh,r,vl,vs,h,a,k2,kn,rfl,rfl,bz,hC,aL,aM,hd,aK⟩:=hrel;obtain⟨T,U,rfl⟩:=jB aL;obtain⟨G,H,rfl⟩:=jB aM;have⟨N,Y,K,E,V,J⟩:=nZ (aR.kp aK Zm) hC aL aM hd aK;clear hC aL aM hd aK;by_cases bq:r<s
  . have dk:(r:Int)<s:=by omega
    obtain⟨b,hx⟩:∃b,xs[r]?=some b:=⟨xs[r]'(by have:=HN.o;omega),List.getElem?_eq_getElem (by have:=HN.o;omega)⟩;obtain⟨_,_,n,L⟩:=kS.at_ aT hx;cases n;have gk:=J.lW L Zm;have gz:=iY gk;clear L hx;cases hq:(b.toList==[47])
    . cases bh
      . go_wp2_with fail;refine(xZ b).mono ?_;rintro d j ⟨⟨f,e,af,rfl,hs⟩,A⟩;obtain⟨t,l⟩:=Ry (j.alloc (.cells #[f,e] 211));have Q:Ext j t:=by rw[l];exact kx
        have z:Zz (hV t j 211 #[f,e]):=Zy (by rw[l];exact hV.new _ _ _);have k:=A.trans Q;have⟨o,p,O⟩:=jy (N.ext k) (Y.ext k) (J.trans k.any);have aa:=Zy (aB.own O (fun _ d=>by omega));have ae:=Zy A.size;have aP:=Zy z.o.lt;have R:=k;clear A Q k;obtain⟨-,z0,z1,z2,-⟩:=o.ca;obtain⟨f0,f1,f2,-⟩:=o.fz;obtain⟨-,c0,c1,c2,-⟩:=p.ca;obtain⟨g0,L,g2,-⟩:=p.fz;obtain⟨-,y0,y1,-⟩:=z.ca;have z5:=o.lt;have c5:=p.lt;have y5:=z.lt;cases af
        . subst l;go_wp2_with fail;refine bodyPost_ret (ja tK rfl w rfl [.int .i64 0,(),()] (hH.lV (hV.Bj o _ _ _)) rfl) rfl ?_;exact⟨Fx.zero _ _ _,aa.own (Kp.Bj (D:=(·=w)) rfl _ _ _) (fun _ d=>by omega)⟩
        . have S:Ext wr ((j.alloc (.cells #[f,e] 211)).alloc (.cells #[f,e] 211)):=(l▸R).alloc _;have y:=Zy S;clear S R;subst l;have az:h.length+1<=4294967296:=by omega
          have ax:c+1<=(j.alloc (.cells #[f,e] 211)).heap.size:=by have:=J.size;have:=Z.o;have:=ae.o;simp;omega
          go_wp2_with (refine jo vK rfl (.tmp 63) (.tmp 65) rfl (c+1) (.slice T h.length U) h.length (h.flatMap lY) rfl (iZ (D:=fun _=>False) K y fun _ _ _ b=>b) (j+1) 1 [f,e] rfl rfl (hH.ny _ _ Zl) Zt az (by simp at ax ⊢;omega) ?_;rintro P c9 D aj B ay;have q:=(p.ext (jr _)).kp B (fun d=>by have:=(pY K d).1;omega);have d0:=q.frozen 1;have d1:=q.c 1 (.slice T h.length U) rfl;have dz:=q.lt);have ah:=Kp.own (O.alloc _) B (fun u hb=>by have:=(pY K hb).1;have:=Z.o;omega);have C:Kp (·=c) D (D.setCell (c,1) (P,h.length+1,c9)):=(Kp.refl (·=c) D).setCell (p:=⟨c,1,none⟩) (fun _=>rfl) _;have au:=iZ (iZ E y fun _ _ _ b=>b) B (fun g n _ i=>V.o g i n);have ak:=iZ au C (fun g _ i W=>by omega);have ai:=iZ aj C (fun g _ i W=>by omega);have av:=fun g d=>(pY (iZ (D:=fun _=>False) E y fun _ _ _ b=>b) (g:=g) d).2;go_round
          case rel=>
           refine⟨false,r+1,_,_,h++[⟨f,e⟩],a,by omega,by omega,rfl,by go_num,by simp;omega,q.jk 1 _,?_,ak,?_,ah.trans C⟩
           . simpa [lY]using ai
           . intro g n i;cases n;rcases ay with x|x
             . exact V _ x i
             . have:=av P i;omega
          case measure=>simp[intOf];omega
      . go_wp2_with fail;refine(xZ b).mono ?_;rintro d j ⟨⟨f,e,af,rfl,hs⟩,A⟩;obtain⟨t,l⟩:=Ry (j.alloc (.cells #[f,e] 211));have Q:Ext j t:=by rw[l];exact kx
        have z:Zz (hV t j 211 #[f,e]):=Zy (by rw[l];exact hV.new _ _ _);have k:=A.trans Q;have⟨o,p,O⟩:=jy (N.ext k) (Y.ext k) (J.trans k.any);have aa:=Zy (aB.own O (fun _ d=>by omega));have ae:=Zy A.size;have aP:=Zy z.o.lt;have R:=k;clear A Q k;obtain⟨-,z0,z1,z2,-⟩:=o.ca;obtain⟨f0,f1,f2,-⟩:=o.fz;obtain⟨-,c0,c1,c2,-⟩:=p.ca;obtain⟨g0,L,g2,-⟩:=p.fz;obtain⟨-,y0,y1,-⟩:=z.ca;have z5:=o.lt;have c5:=p.lt;have y5:=z.lt;cases af
        . subst l;go_wp2_with fail;refine bodyPost_ret (ja tK rfl w rfl [.int .i64 0,(),()] (hH.lV (hV.Bj o _ _ _)) rfl) rfl ?_;exact⟨Fx.zero _ _ _,aa.own (Kp.Bj (D:=(·=w)) rfl _ _ _) (fun _ d=>by omega)⟩
        . have S:Ext wr ((j.alloc (.cells #[f,e] 211)).alloc (.cells #[f,e] 211)):=(l▸R).alloc _;have y:=Zy S;clear S R;subst l;have az:a.length+1<=4294967296:=by omega
          have ax:c+1<=(j.alloc (.cells #[f,e] 211)).heap.size:=by have:=J.size;have:=Z.o;have:=ae.o;simp;omega
          go_wp2_with (refine jo vK rfl (.tmp 57) (.tmp 59) rfl (c+1) (.slice G a.length H) a.length (a.flatMap lY) rfl (iZ (D:=fun _=>False) E y fun _ _ _ b=>b) (j+1) 1 [f,e] rfl rfl (hH.ny _ _ Zl) Zt az (by simp at ax ⊢;omega) ?_;rintro P c9 D aj B ay;have q:=(p.ext (jr _)).kp B (fun d=>by have:=(pY E d).1;omega);have d0:=q.frozen 2;have d1:=q.c 2 (.slice G a.length H) rfl;have dz:=q.lt);have ah:=Kp.own (O.alloc _) B (fun u hb=>by have:=(pY E hb).1;have:=Z.o;omega);have C:Kp (·=c) D (D.setCell (c,2) (P,a.length+1,c9)):=(Kp.refl (·=c) D).setCell (p:=⟨c,2,none⟩) (fun _=>rfl) _;have au:=iZ (iZ K y fun _ _ _ b=>b) B (fun g n _ i=>V.o g n i);have ak:=iZ au C (fun g _ i W=>by omega);have ai:=iZ aj C (fun g _ i W=>by omega);have av:=fun g d=>(pY (iZ (D:=fun _=>False) K y fun _ _ _ b=>b) (g:=g) d).2;go_round
          case rel=>
           refine⟨true,r+1,_,_,h,a++[⟨f,e⟩],by omega,by omega,rfl,by go_num,by simp;omega,q.jk 2 _,ak,?_,?_,ah.trans C⟩
           . simpa [lY]using ai
           . intro g n i;cases i;rcases ay with x|x
             . exact V _ n x
             . have:=av P n;omega
          case measure=>simp[intOf];omega
    . cases bh
      . go_wp2_with fail;go_round
        case rel=>exact⟨true,r+1,_,_,h,a,by omega,by omega,rfl,by go_num,by omega,Y.o,K.o,E.o,V.o,J.o⟩
        case measure=>simp[intOf];omega
      . go_wp2_with fail;refine(xZ b).mono ?_;rintro d j ⟨⟨f,e,af,rfl,hs⟩,A⟩;obtain⟨t,l⟩:=Ry (j.alloc (.cells #[f,e] 211));have Q:Ext j t:=by rw[l];exact kx
        have z:Zz (hV t j 211 #[f,e]):=Zy (by rw[l];exact hV.new _ _ _);have k:=A.trans Q;have⟨o,p,O⟩:=jy (N.ext k) (Y.ext k) (J.trans k.any);have aa:=Zy (aB.own O (fun _ d=>by omega));have ae:=Zy A.size;have aP:=Zy z.o.lt;have R:=k;clear A Q k;obtain⟨-,z0,z1,z2,-⟩:=o.ca;obtain⟨f0,f1,f2,-⟩:=o.fz;obtain⟨-,c0,c1,c2,-⟩:=p.ca;obtain⟨g0,L,g2,-⟩:=p.fz;obtain⟨-,y0,y1,-⟩:=z.ca;have z5:=o.lt;have c5:=p.lt;have y5:=z.lt;cases af
        . subst l;go_wp2_with fail;refine bodyPost_ret (ja tK rfl w rfl [.int .i64 0,(),()] (hH.lV (hV.Bj o _ _ _)) rfl) rfl ?_;exact⟨Fx.zero _ _ _,aa.own (Kp.Bj (D:=(·=w)) rfl _ _ _) (fun _ d=>by omega)⟩
        . have S:Ext wr ((j.alloc (.cells #[f,e] 211)).alloc (.cells #[f,e] 211)):=(l▸R).alloc _;have y:=Zy S;clear S R;subst l;have az:a.length+1<=4294967296:=by omega
          have ax:c+1<=(j.alloc (.cells #[f,e] 211)).heap.size:=by have:=J.size;have:=Z.o;have:=ae.o;simp;omega
          go_wp2_with (refine jo vK rfl (.tmp 57) (.tmp 59) rfl (c+1) (.slice G a.length H) a.length (a.flatMap lY) rfl (iZ (D:=fun _=>False) E y fun _ _ _ b=>b) (j+1) 1 [f,e] rfl rfl (hH.ny _ _ Zl) Zt az (by simp at ax ⊢;omega) ?_;rintro P c9 D aj B ay;have q:=(p.ext (jr _)).kp B (fun d=>by have:=(pY E d).1;omega);have d0:=q.frozen 2;have d1:=q.c 2 (.slice G a.length H) rfl;have dz:=q.lt);have ah:=Kp.own (O.alloc _) B (fun u hb=>by have:=(pY E hb).1;have:=Z.o;omega);have C:Kp (·=c) D (D.setCell (c,2) (P,a.length+1,c9)):=(Kp.refl (·=c) D).setCell (p:=⟨c,2,none⟩) (fun _=>rfl) _;have au:=iZ (iZ K y fun _ _ _ b=>b) B (fun g n _ i=>V.o g n i);have ak:=iZ au C (fun g _ i W=>by omega);have ai:=iZ aj C (fun g _ i W=>by omega);have av:=fun g d=>(pY (iZ (D:=fun _=>False) K y fun _ _ _ b=>b) (g:=g) d).2;go_round
          case rel=>
           refine⟨true,r+1,_,_,h,a++[⟨f,e⟩],by omega,by omega,rfl,by go_num,by simp;omega,q.jk 2 _,ak,?_,?_,ah.trans C⟩
           . simpa [lY]using ai
           . intro g n i;cases i;rcases ay with x|x
             . exact V _ n x
             . have:=av P n;omega
          case measure=>simp[intOf];omega
  . have dk:¬(r:Int)<s:=by omega
    obtain⟨-,c0,c1,c2,-⟩:=Y.ca;obtain⟨zz,z0,z1,z2,-⟩:=N.ca;obtain⟨f0,f1,f2,-⟩:=N.fz;have cz:=Y.lt;have aC:Kp (·=w) wr (((wr.setCell w F).setCell (w,1) (.slice T h.length U)).setCell (w,2) (.slice G a.length H)):=Kp.Bj (D:=(·=w)) rfl _ _ _;have hL:=iZ K aC (fun g _ i W=>by omega);have hS:=iZ E aC (fun g _ i W=>by omega);have aG:Zz (∀u,Fx w _ (.returned (.tuple #[.agg #[F,.slice T h.length U,.slice G a.length H],.bool u]))∧Ext w (((wr.setCell w F).setCell (w,1) (.slice T h.length U)).setCell (w,2) (.slice G a.length H))):=Zy (fun u=>⟨⟨⟨F,h,a⟩,_,_,_,u,rfl,_,_,rfl,
     SliceOf.lJ lY hL rfl rfl (fun _ _=>rfl) (fun _ _=>rfl) (fun u h1 h2=>⟨by omega,h2⟩) (show h.length<=4294967296 by omega),
     SliceOf.lJ lY hS rfl rfl (fun _ _=>rfl) (fun _ _=>rfl) (fun u h1 h2=>⟨by omega,h2⟩) (show a.length<=4294967296 by omega)⟩,
     (aB.own J (fun _ d=>by omega)).own aC (fun _ d=>by omega)⟩)
    clear aC hL hS;cases ok
    . go_wp2_with fail;refine bodyPost_ret (ja tK rfl w rfl [F,.slice T h.length U,.slice G a.length H] (hH.lV (hV.Bj N _ _ _)) rfl) rfl ?_;exact aG _
    . cases bh
      . go_wp2_with fail;refine bodyPost_ret (ja tK rfl w rfl [F,.slice T h.length U,.slice G a.length H] (hH.lV (hV.Bj N _ _ _)) rfl) rfl ?_;exact aG _
      . go_wp2_with fail;refine bodyPost_ret (ja tK rfl w rfl [F,.slice T h.length U,.slice G a.length H] (hH.lV (hV.Bj N _ _ _)) rfl) rfl ?_;exact aG _
theorem vH:ym 141 8:=⟨_,underlying141,by kernel_rfl⟩
theorem Me:Elem 135 137 2:=kN (z:=.agg #[.int .i64 0, ""]) (bytes:=24) underlying135 Zo rfl Zn Zn
def JO(x:M.Kind):List Value:=[.int .i64 x.kind,.string x.name]
def Bw(m:Nat)(w w':World)(e:Ending):Prop:=∃n va rk rn l2 l3 b,e=.returned (.tuple #[.agg #[.string n,va,.int .i64 rk,.string rn,.int .i64 l2,.int .i64 l3,.slice none 0 0,.slice none 0 0],.bool b])∧n.size<=m∧∃ks,SliceOf 2 l7 w' (fun b=>w.heap.size<=b∧b<w'.heap.size) va ks
theorem Bw.zero(m:Nat)(w a:World)(b:Bool):Bw m w a (.returned (.tuple #[.agg #["",(),.int .i64 0, "",.int .i64 0,.int .i64 0,(),()],.bool b])):=
 ⟨_,_,_,_,_,_,b,rfl,Nat.zero_le _,[],SliceOf.nil _ _ _ _⟩
theorem Gs(xs:List ByteArray){v:Value}(m:Nat)(hm:m<=4000000000){I:Nat->Prop}{w:World}(g:SliceOf 1 kS w I v xs)(R:∀c∈xs,c.size<=m):Calls prog 167 #[v] w fun e w'=>Bw m w w' e∧Ext w w':=by
 obtain⟨bI,bJ,rfl,bA,-⟩:=g.form;obtain⟨d,D⟩:∃d,xs.length=d:=⟨_,rfl⟩;rw[D]at bA g ⊢;by_cases h5:d<5
 . have d5:(d:Int)<5:=by omega
   clear D g;go_enter func167,ntmps167;go_wp2_with fail
   all_goals
    refine bodyPost_ret (ja vH rfl w rfl ["",(),.int .i64 0, "",.int .i64 0,.int .i64 0,(),()] (hH.ny _ _ rfl) rfl) rfl ?_;exact⟨Bw.zero _ _ _ _,kx⟩
 by_cases h8:8<d
 . have d5:¬(d:Int)<5:=by omega
   have d8:(8:Int)<d:=by omega
   clear D g;go_enter func167,ntmps167;go_wp2_with fail
   all_goals
    refine bodyPost_ret (ja vH rfl w rfl ["",(),.int .i64 0, "",.int .i64 0,.int .i64 0,(),()] (hH.ny _ _ rfl) rfl) rfl ?_;exact⟨Bw.zero _ _ _ _,kx⟩
 have d5:¬(d:Int)<5:=by omega
 have d8:¬(8:Int)<d:=by omega
 obtain⟨h,aj⟩:∃c,xs[1]?=some c:=⟨xs[1]'Zm,List.getElem?_eq_getElem Zm⟩;obtain⟨x2,ak⟩:∃c,xs[2]?=some c:=⟨xs[2]'Zm,List.getElem?_eq_getElem Zm⟩;obtain⟨x3,au⟩:∃c,xs[3]?=some c:=⟨xs[3]'Zm,List.getElem?_eq_getElem Zm⟩;obtain⟨x4,av⟩:∃c,xs[4]?=some c:=⟨xs[4]'Zm,List.getElem?_eq_getElem Zm⟩;obtain⟨o,bS,rfl,k⟩:=kS.at_ g aj;obtain⟨_,_,p,Y⟩:=kS.at_ g ak;cases p;obtain⟨_,_,p,Z⟩:=kS.at_ g au;cases p;obtain⟨_,_,p,g4⟩:=kS.at_ g av;cases p;have s1:=R h (List.mem_of_getElem? aj);have s2:=R x2 (List.mem_of_getElem? ak);have s3:=R x3 (List.mem_of_getElem? au);have s4:=R x4 (List.mem_of_getElem? av);have gz:=iY k;have⟨HV,HN⟩:=je g D;have W:=fun aZ=>Zy (kF h aZ);clear g D aj ak au av;obtain⟨S,E⟩:=Ry (w.alloc (.cells #["",(),.int .i64 0, "",.int .i64 0,.int .i64 0,(),()] 141));have t:Ext w S:=by rw[E];exact kx
 have HB:Zz (hV S w 141 #["",(),.int .i64 0, "",.int .i64 0,.int .i64 0,(),()]):=Zy (by rw[E];exact hV.new _ _ _);have p1:=t.jb k;have p2:=t.jb Y;have p3:=t.jb Z;have p4:=t.jb g4;have pz:=iY p1;have⟨aQ,bG⟩:=je t k;clear t;cases bC:M.jC h<;>simp only[bC]at W
 . go_enter func167,ntmps167;subst E;go_wp2_with fail;refine(W _).o.mono ?_;rintro e n ⟨rfl,rfl⟩;go_wp2_with fail;refine bodyPost_ret (ja vH rfl w rfl ["",(),.int .i64 0, "",.int .i64 0,.int .i64 0,(),()] (hH.ny _ _ rfl) rfl) rfl ?_;exact⟨Bw.zero _ _ _ _,kx⟩
 have aV:=Zy E;clear E;go_enter func167,ntmps167;go_wp2_with fail;rw[<-aV.o];go_wp2_with fail;refine(W _).o.mono ?_;rintro e n ⟨rfl,rfl⟩;go_wp2_with fail;refine(ru x2 Zm).mono ?_;rintro e w1 ⟨⟨l,bD,rfl,-,-,-⟩,u⟩;have t3:=u.jb p3;have t4:=u.jb p4;have t1:=u.jb p1;have tz:=iY t1;have⟨aM,aR⟩:=je (HB.ext u) (aQ.trans u);clear u p1 p2 p3 p4 pz;go_wp2_with fail;refine(ru x3 Zm).mono ?_;rintro e w2 ⟨⟨q,bE,rfl,-,-,-⟩,C⟩;have r4:=C.jb t4;have r1:=C.jb t1;have rz:=iY r1;have⟨aN,aS⟩:=je (aM.ext C) (aR.trans C);clear C t1 t3 t4 tz;go_wp2_with fail;refine(xY x4).mono ?_;rintro e w3 ⟨⟨i,j,bF,rfl,bR⟩,aD⟩;obtain⟨b,aK,aF,ah⟩:=nu w3 #[i,j] 137;have Q:=aD.trans aF;have q1:=Q.jb r1;have⟨ay,az,aW⟩:=jy (aN.ext Q) (aS.trans Q) aK;obtain⟨bH,bK,bQ,B⟩:=kY b;have y1:=fun H=>(B.jm H).jb q1;have y2:=fun H=>(B.jm H).jb (ah.c 0 i rfl);have y3:=fun H=>(B.jm H).jb (ah.c 1 j rfl);have X:=Zy B;clear B aD aF Q aK r1 r4 rz q1 ah;go_wp2_with fail;rw[<-aW.o];refine kD X 8 [([0,1,2,3,4,5,6],7)] [] ?_ ?_
 . exact jf
 refine lS ?_;intro K2 aH;go_wp2_with fail;refine kk X aH kx ?_;clear aH K2;refine kC ?_;go_wp2_with fail;obtain⟨n,F⟩:=Ry ((b.alloc (.cells #[h,(),i,j,l,q,(),()] 141)).drew);have aa:Ext b n:=by rw[F];exact kx
 have aP:Zz (hV n b 141 #[h,(),i,j,l,q,(),()]):=Zy (by rw[F];exact(hV.new _ _ _).ext (jf));have⟨aO,V⟩:=je (ay.ext aa) (az.trans aa);have aU:=Zy (HV.ext kS.stays V);have aC:Zz (n.heap.size=b+1):=Zy (by rw[F];simp);have bP:o<b.heap.size:=by have:=az.size;omega
 have bN:(w:Nat)<b:=ay.lt;have aX:=Zy F;clear aa F y1 y2 y3 k Y Z g4 gz X;rw[<-aX.o];go_loopw [11] (fun ax wr=>∃(f:Nat) (vl:Value) (a:List M.Kind),5<=f∧f<=d∧ax=.int .i64 f∧a.length<=f∧hV wr b 141 #[h,vl,i,j,l,q,(),()]∧
     wr.ownsRow (b+1) 137 2 vl a.length (a.flatMap JO)∧Kp (·=b) n wr) (fun ax _=>d - (intOf ax).toNat)
 case atStart=>
  exact⟨5,_,[],Nat.le_refl _,by omega,rfl,by simp,aP.o,⟨rfl,.inl ⟨rfl,rfl⟩⟩,Kp.rr⟩
 case round =>
  obtain⟨f,vl,a,k2,kn,rfl,bO,hC,ag,af⟩:=hrel;obtain⟨y,z,rfl⟩:=jB ag;have⟨K,U,O,N⟩:=jV (aO.kp af Zm) hC ag af;clear hC ag af;by_cases bM:f<d
  . have dk:(f:Int)<d:=by omega
    obtain⟨c,hx⟩:∃c,xs[f]?=some c:=⟨xs[f]'(by have:=HN.o;omega),List.getElem?_eq_getElem (by have:=HN.o;omega)⟩;obtain⟨_,_,p,k⟩:=kS.at_ aU hx;cases p;have gk:=N.lW k Zm;have gz:=iY gk;clear k hx;go_wp2_with fail;refine(xY c).mono ?_;rintro e A ⟨⟨s,r,bf,rfl,hs⟩,ae⟩;obtain⟨T,G⟩:=Ry (A.alloc (.cells #[s,r] 137));have aG:Ext A T:=by rw[G];exact kx
    have aB:Zz (hV T A 137 #[s,r]):=Zy (by rw[G];exact hV.new _ _ _);have x:=ae.trans aG;have⟨J,L,aA⟩:=jy (K.ext x) (U.ext x) (N.trans x.any);have aT:=Zy (V.own aA (fun _ e=>by omega));have aY:=Zy ae.size;clear ae aG;obtain⟨-,z0,z1,z2,z3,z4,z5,z6,z7,-⟩:=J.ca;obtain⟨f0,f1,f2,f3,f4,f5,f6,f7,-⟩:=J.fz;obtain⟨-,c0,c1,c2,c3,c4,c5,c6,c7,-⟩:=L.ca;obtain⟨g0,k,Y,Z,g4,g5,g6,g7,-⟩:=L.fz;obtain⟨-,y0,y1,-⟩:=aB.ca;have z7:=J.lt;have c7:=L.lt;have y7:=aB.lt;cases bf
    . clear x;subst G;go_wp2_with fail;refine bodyPost_ret (ja vH rfl w rfl ["",(),.int .i64 0, "",.int .i64 0,.int .i64 0,(),()] (hH.lV (hV.yQ J _ _ _ _ _ _ _ _)) rfl) rfl ?_;exact⟨Bw.zero _ _ _ _,aT.own (Kp.yQ (D:=(·=w)) rfl _ _ _ _ _ _ _ _) (fun _ e=>by omega)⟩
    . have HG:Zz (Ext wr ((A.alloc (.cells #[s,r] 137)).alloc (.cells #[s,r] 137))):=Zy ((G▸x).alloc _);clear x;subst G;have bB:a.length+1<=4294967296:=by omega
      have bz:b+1<=(A.alloc (.cells #[s,r] 137)).heap.size:=by have:=N.size;have:=aC.o;have:=aY.o;simp;omega
      go_wp2_with (refine jo Me rfl (.tmp 76) (.tmp 78) rfl (b+1) (.slice y a.length z) a.length (a.flatMap JO) rfl (iZ (D:=fun _=>False) O HG fun _ _ _ c=>c) (A+1) 1 [s,r] rfl rfl (hH.ny _ _ Zl) Zt bB (by simp at bz ⊢;omega) ?_;rintro g9 c9 w9 bu aI bL;have P:=(L.ext (jr _)).kp aI (fun e=>by have:=(pY O e).1;omega);have d0:=P.frozen 1;have d1:=P.c 1 (.slice y a.length z) rfl;have dz:=P.lt);have bn:=Kp.own (aA.alloc _) aI (fun o hb=>by have:=(pY O hb).1;have:=aC.o;omega);have aJ:Kp (·=b) w9 (w9.setCell (b,1) (g9,a.length+1,c9)):=(Kp.refl (·=b) w9).setCell (p:=⟨b,1,none⟩) (fun _=>rfl) _;have bq:=iZ bu aJ (fun bg _ e2 e3=>by omega);go_round
      case rel=>
       refine⟨f+1,_,a++[⟨s,r⟩],by omega,by omega,by go_num,by simp;omega,P.jk 1 _,?_,bn.trans aJ⟩;simpa [JO]using bq
      case measure=>simp[intOf];omega
  . have dk:¬(f:Int)<d:=by omega
    obtain⟨-,c0,c1,c2,c3,c4,c5,c6,c7,-⟩:=U.ca;obtain⟨zz,z0,z1,z2,z3,z4,z5,z6,z7,-⟩:=K.ca;obtain⟨f0,f1,f2,f3,f4,f5,f6,f7,-⟩:=K.fz;have cz:=U.lt;have ai:Kp (·=w) wr ((((((((wr.setCell w h).setCell (w,1) (.slice y a.length z)).setCell (w,2) i).setCell (w,3) j).setCell (w,4) l).setCell (w,5) q).setCell (w,6) ()).setCell (w,7) ()):=Kp.yQ (D:=(·=w)) rfl _ _ _ _ _ _ _ _;have hL:=iZ O ai (fun bg _ e2 e3=>by omega);have aL:Zz (∀o,Bw m w _ (.returned (.tuple #[.agg #[h,.slice y a.length z,i,j,l,q,(),()],.bool o]))∧Ext w ((((((((wr.setCell w h).setCell (w,1) (.slice y a.length z)).setCell (w,2) i).setCell (w,3) j).setCell (w,4) l).setCell (w,5) q).setCell (w,6) ()).setCell (w,7) ())):=Zy (fun o=>⟨⟨_,_,_,_,_,_,o,rfl,s1,a,
     SliceOf.lJ JO hL rfl rfl (fun _ _=>rfl) (fun _ _=>rfl) (fun o h1 h2=>⟨by omega,h2⟩) Zm⟩,
     (V.own N (fun _ e=>by omega)).own ai (fun _ e=>by omega)⟩)
    clear ai hL;cases bD<;>cases bE<;>cases bF<;>by_cases h2:0<=l
    all_goals
     go_wp2_with fail;refine bodyPost_ret (ja vH rfl w rfl [h,.slice y a.length z,i,j,l,q,(),()] (hH.lV (hV.yQ K _ _ _ _ _ _ _ _)) rfl) rfl ?_;exact aL _
theorem uu:Elem 87 95 4:=kN (z:=.agg #["", "",(),()]) (bytes:=80) underlying87 Zo rfl Zn Zn
theorem IK:ym 90 2:=⟨_,underlying90,by kernel_rfl⟩
theorem hV.Ba{W:World}{g:Nat}(t:TypeId)(cs:Array Value)(a:W=g):hV (W.alloc (.cells cs t)) g t cs:=by
 subst a;exact hV.new W t cs
def Bu{α:Type}(k:Nat)(R:l6 α)(w wx:World)(J:Nat->Prop)(bx:Nat)(t:TypeId)(cells:Array Value)(fi:Nat)(zs:List α):Prop:=
 ∃v',SliceOf k R wx (fun b=>J b∨w.heap.size<=b) v' zs∧hV wx bx t (cells.setIfInBounds fi v')∧Kp (·=bx) w wx
theorem oF{α:Type}{k:Nat}{R:l6 α}(hR:jL R)(B:0<k){w W:World}{J:Nat->Prop}{css:List (List Value)}{h:List Value}{xs:List α}{y:α}{a e g m c:Nat}{t:TypeId}{cells:Array Value}(v:W.ownsRow w e k (.slice (some ⟨g,0,none⟩) (m+1) c) (m+1) (css.flatten++h)) (z:∀c∈css,c.length=k) (A:jX R w J xs css) (C:R w J y h) (D:h.length=k) (i:Ext w W)(n:(∀f,J f->f≠a)∧xs.length+1<=4294967296) (p:hV w a t cells) (d:Nat):Bu k R w (W.setCell (a,d) (.slice (some ⟨g,0,none⟩) (m+1) c)) J a t cells d (xs++[y]):=by
 have j:Kp (·=a) W (W.setCell (a,d) (.slice (some ⟨g,0,none⟩) (m+1) c)):=(Kp.refl (·=a) W).setCell (p:=⟨a,d,none⟩) (fun _=>rfl) _;have x:=p.ext i;have G:=p.lt;refine⟨_,?_,x.jk d _,i.any.trans j⟩;have o:=iZ v j (fun I F q e=>by omega);have s:css.flatten++h=(css++[h]).flatten:=by simp
 rw[s]at o;have r:Same J w (W.setCell (a,d) (.slice (some ⟨g,0,none⟩) (m+1) c)):=fun f H K q l=>j.lW (i.jb l) (n.1 f q);refine SliceOf.owned o (fun c l=>?_) B ((A.keep hR r (fun _ b=>.inl b)).snoc (hR _ _ _ _ _ _ r (fun _ b=>.inl b) C)) (fun f u E=>.inr u) (by simpa using n.2);rcases List.mem_append.1 l with b|b
 . exact z c b
 . simp at b;subst b;exact D
theorem Lh(w:World)(I:Nat->Prop)(hI:∀a,I a->a<w.heap.size)(q:M.nk){ks:List Value}(hk:jc w I q ks)(x:M.Class){cs:List Value}(hx:jv w I x cs)(aA:q.owns≠[])(hl:q.owns.length<=1000):Calls prog 140 #[.agg ks.toArray,.agg cs.toArray] w fun v w'=>(∃aC,v=.returned (.agg aC.toArray)∧jc w' (fun a=>I a∨w.heap.size<=a) ⟨q.owns.dropLast++[x],q.asks⟩ aC)∧Ext w w':=by
 obtain⟨vo,va,rfl,hO,z⟩:=hk;obtain⟨s,q1,t,q2,rfl⟩:=hx.form;obtain⟨B,C,rfl,aU,aK⟩:=hO.form;obtain⟨E,J,rfl,-,-⟩:=z.form;have aL:=List.length_pos_iff.2 aA;obtain⟨i,X⟩:∃i,q.owns.length=i+1:=⟨q.owns.length - 1,by omega⟩;have av:q.owns.take i=q.owns.dropLast:=by rw[List.dropLast_eq_take,X];rfl
 have ag:=hO.take (i:=i) Zm;rw[av]at ag;have ax:q.owns.dropLast.length=i:=by rw[List.length_dropLast,X];rfl
 obtain⟨e,H⟩:=Ry (((w.alloc (.cells #[.slice B q.owns.length C,.slice E q.asks.length J] 90)).alloc (.cells #[x.name,x.jl,.slice s x.fields.length q1,.slice t x.methods.length q2] 95)).alloc (.cells #[(),()] 90));have P:Ext w e:=by rw[H];exact kx
 have b2:hV e w 90 #[.slice B q.owns.length C,.slice E q.asks.length J]:=by rw[H];exact(hV.new _ _ _).ext kx
 have b3:hV e (w+1) 95 #[x.name,x.jl,.slice s x.fields.length q1,.slice t x.methods.length q2]:=by rw[H];exact(hV.Ba (W:=w.alloc (.cells #[.slice B q.owns.length C,.slice E q.asks.length J] 90)) _ _ Zl).ext kx
 have b4:hV e (w+2) 90 #[(),()]:=by rw[H];exact hV.Ba _ _ Zl
 obtain⟨L,ak,au,ay⟩:=SliceOf.cells One.cls Zn (ag.ext jv.stays P);have⟨HY,aD,aa,ae,af,K,Z,aG⟩:=xJ (jv.stays _ _ _ _ _ _ (Ext.same P) (fun _ F=>F) hx) (z.ext rW.stays P) ak au ay b2 b4 P;have aB:e.heap.size=w+3:=by rw[H];simp
 have HJ:Zz ((∀a,I a->a≠w.heap.size)∧q.owns.dropLast.length+1<=4294967296):=Zy ⟨fun a c=>by have:=hI a c;omega,by omega⟩;have aj:=Zy aB;obtain⟨aR,aS,aW,U⟩:=kY e;have r0:=fun ah=>(b2.ext (U.jm ah)).c 0 (.slice B q.owns.length C) rfl;obtain⟨-,r1,r2,r3,r4,-⟩:=hV.lL fun ah=>(b3.ext (U.jm ah));have g:=Zy U;have aM:((q.owns.length:Nat):Int) - 1=(i:Int):=by omega
 have aN:IntKind.i64.wrap (((q.owns.length:Nat):Int) - 1)=(i:Int):=by rw[IntWalk.i64_in _ Zm];omega
 have aV:(0:Int)<=(i:Int):=by omega
 have aX:i<=4000:=by omega
 have⟨HI,HN,aQ,aH⟩:=jV hI X ax H;clear aB P b2 b3 b4 H U ak au ay hO ag z hx av aA X ax aL aK hI;go_enter func140,ntmps140;go_upto_region 1 with(fail);rw[<-aH.o];go_cut [] (fun wx=>Bu 4 jv e wx I w 90 #[.slice B q.owns.length C,.slice E q.asks.length J] 0 (q.owns.dropLast++[x]))
 case first =>
  refine qA g 12 (.two [1,2,3,4,5,6,7,9] 0 10 (.two [] 8 10 (.one [] 10 (.one [] 11 (.fin []))) (.one [] 8 (.one [] 11 (.fin [])))) (.one [] 0 (.one [] 8 (.one [] 11 (.fin []))))) ?_ ?_
  . exact jf
  refine two [_,_,_,_,_,_,_,_] rfl rfl rfl fun aI G=>?_;(repeat (go_big_quiet_step (fail)));((refine Gf G (fun d b=>?_) fun d b=>?_)<;>clear G aI)
  . have N:Ext e e.drew:=jf;generalize e.drew=wd at N ⊢;go_wp2_with fail;obtain⟨f,m⟩:∃A,A=wd.alloc (.cells #[] 95):=⟨_,rfl⟩;have y:Ext e f:=N.trans (by rw[m];exact jr _);have o:f.ownsRow e 95 4 (.slice (some ⟨wd,0,none⟩) 0 0) 0 []:=by rw[m];exact kG wd _ _ _ N.size rfl
    have ai:Zz ((f:Nat)=wd+1):=Zy (by rw[m];simp);rw[<-m];clear m;refine kk g b y ?_;clear b d;refine EG rfl rfl (fun d b=>?_) fun d b=>?_
    . skip;refine jJ uu _ rfl (.tmp 5) (.tmp 12) rfl e (.slice (some ⟨wd,0,none⟩) 0 0) 0 [] rfl o B i C L.flatten rfl (af.ext y) Zm y.size ?_;intro T k h aO;rw[Nat.zero_add,List.nil_append]at h;have l:=y.own aO (fun a c=>(o.lt a c).1);change d _ _;refine kk g b l ?_;clear b d;refine jZ rfl fun d b=>?_;go_wp2_with fail;obtain⟨wc,O⟩:∃A,A=k.alloc (.cells #[x.name,x.jl,.slice s x.fields.length q1,.slice t x.methods.length q2] 95):=⟨_,rfl⟩;have p:Ext e wc:=l.trans (by rw[O];exact jr _);have aJ:Ext k wc:=by rw[O];exact jr _
      have j:hH wc k 0 [x.name,x.jl,.slice s x.fields.length q1,.slice t x.methods.length q2]:=by rw[O];exact hH.ny _ _ rfl
      have aY:Zz ((wc:Nat)=k+1):=Zy (by rw[O];simp);rw[<-O];clear O;refine kk g b p ?_;clear b d;have h:=iZ (D:=fun _=>False) h aJ fun _ _ _ x=>x;refine jZ rfl fun d b=>?_;refine jo uu rfl (.tmp 13) (.tmp 15) rfl e T i L.flatten rfl h k 1 [x.name,x.jl,.slice s x.fields.length q1,.slice t x.methods.length q2] rfl rfl j Zt Zm p.size ?_;intro g9 c9 wf D R _;have r:=p.own R (fun a c=>(h.lt a c).1);change d _ _;refine kk g b r ?_;clear b d;refine kM ?_;have u:=K.ext r;obtain⟨zX,vX,-⟩:=u.ca;have fX:=u.frozen 0;have z:=oF (R:=jv) jv.stays Zm D aa ae HY rfl r HJ K 0;clear j o h D g u;go_wp2_with fail;go_meet;exact z
    . skip;go_wp2_with fail;obtain⟨k,n⟩:∃A,A=f.alloc (.cells #[x.name,x.jl,.slice s x.fields.length q1,.slice t x.methods.length q2] 95):=⟨_,rfl⟩;have l:Ext e k:=y.trans (by rw[n];exact jr _);have V:Ext f k:=by rw[n];exact jr _
      have j:hH k f 0 [x.name,x.jl,.slice s x.fields.length q1,.slice t x.methods.length q2]:=by rw[n];exact hH.ny _ _ rfl
      have aP:Zz ((k:Nat)=f+1):=Zy (by rw[n];simp);rw[<-n];clear n;refine kk g b l ?_;clear b d;have o:=iZ (D:=fun _=>False) o V fun _ _ _ x=>x;refine jZ rfl fun d b=>?_;refine jJ uu _ rfl (.tmp 5) (.tmp 12) rfl e (.slice (some ⟨wd,0,none⟩) 0 0) 0 [] rfl o B i C L.flatten rfl (af.ext l) Zm l.size ?_;intro T wc h Q;rw[Nat.zero_add,List.nil_append]at h;have p:=l.own Q (fun a c=>(o.lt a c).1);have j:=j.kp Q (fun v=>by simp[Value.ownBlock]at v;have:=ai.o;omega);change d _ _;refine kk g b p ?_;clear b d;refine jZ rfl fun d b=>?_;refine jo uu rfl (.tmp 13) (.tmp 15) rfl e T i L.flatten rfl h f 1 [x.name,x.jl,.slice s x.fields.length q1,.slice t x.methods.length q2] rfl rfl j Zt Zm p.size ?_;intro g9 c9 wf D R _;have r:=p.own R (fun a c=>(h.lt a c).1);change d _ _;refine kk g b r ?_;clear b d;refine kM ?_;have u:=K.ext r;obtain⟨zX,vX,-⟩:=u.ca;have fX:=u.frozen 0;have z:=oF (R:=jv) jv.stays Zm D aa ae HY rfl r HJ K 0;clear j o h D g u;go_wp2_with fail;go_meet;exact z
  . have N:Ext e e.drew:=jf;generalize e.drew=wd at N ⊢;go_wp2_with fail;obtain⟨f,m⟩:∃A,A=wd.alloc (.cells #[x.name,x.jl,.slice s x.fields.length q1,.slice t x.methods.length q2] 95):=⟨_,rfl⟩;have y:Ext e f:=N.trans (by rw[m];exact jr _);have aT:Ext wd f:=by rw[m];exact jr _
    have j:hH f wd 0 [x.name,x.jl,.slice s x.fields.length q1,.slice t x.methods.length q2]:=by rw[m];exact hH.ny _ _ rfl
    have ai:Zz ((f:Nat)=wd+1):=Zy (by rw[m];simp);rw[<-m];clear m;refine kk g b y ?_;clear b d;refine jZ rfl fun d b=>?_;go_wp2_with fail;obtain⟨k,n⟩:∃A,A=f.alloc (.cells #[] 95):=⟨_,rfl⟩;have V:Ext f k:=by rw[n];exact jr _
    have l:=y.trans V;have o:k.ownsRow e 95 4 (.slice (some ⟨f,0,none⟩) 0 0) 0 []:=by rw[n];exact kG f _ _ _ y.size rfl
    have aP:Zz ((k:Nat)=f+1):=Zy (by rw[n];simp);rw[<-n];clear n;refine kk g b l ?_;clear b d;have j:=j.ext V;refine jZ rfl fun d b=>?_;refine jJ uu _ rfl (.tmp 5) (.tmp 12) rfl e (.slice (some ⟨f,0,none⟩) 0 0) 0 [] rfl o B i C L.flatten rfl (af.ext l) Zm l.size ?_;intro T wc h Q;rw[Nat.zero_add,List.nil_append]at h;have p:=l.own Q (fun a c=>(o.lt a c).1);have j:=j.kp Q (fun v=>by simp[Value.ownBlock]at v;have:=ai.o;omega);change d _ _;refine kk g b p ?_;clear b d;refine jZ rfl fun d b=>?_;refine jo uu rfl (.tmp 13) (.tmp 15) rfl e T i L.flatten rfl h wd 1 [x.name,x.jl,.slice s x.fields.length q1,.slice t x.methods.length q2] rfl rfl j Zt Zm p.size ?_;intro g9 c9 wf D R _;have r:=p.own R (fun a c=>(h.lt a c).1);change d _ _;refine kk g b r ?_;clear b d;refine kM ?_;have u:=K.ext r;obtain⟨zX,vX,-⟩:=u.ca;have fX:=u.frozen 0;have z:=oF (R:=jv) jv.stays Zm D aa ae HY rfl r HJ K 0;clear j o h D g u;go_wp2_with fail;go_meet;exact z
 obtain⟨v',Y,c,G⟩:=hcut;obtain⟨a6,m6,rfl,-,-⟩:=Y.form;obtain⟨S,az⟩:∃S,(q.owns.dropLast++[x]).length=S:=⟨_,rfl⟩;rw[az]at Y c;clear az;have c:hV wc w 90 #[.slice a6 S m6,.slice E q.asks.length J]:=c;have W:=Z.kp G Zm;obtain⟨ez,e0,e1,-⟩:=c.ca;obtain⟨gz,g0,g1,-⟩:=W.ca;obtain⟨k0,k1,-⟩:=W.fz;have⟨Z,HS,HK,aF⟩:=jV W Y G (aD.keep rW.stays (G.same (fun a c=>by have:=HI.o a c;omega)) (fun _ F=>F));clear c W Y G r0 r1 r2 r3 r4 g aM aN;go_wp2_with fail;refine bodyPost_ret (jw IK rfl (w+2) rfl [.slice a6 S m6,.slice E q.asks.length J] (hH.lV (hV.DU Z _ _)) rfl) rfl ?_;have hP:Kp (·=w+2) wc ((wc.setCell ⟨w+2,0,none⟩ (.slice a6 S m6)).setCell ⟨w+2,1,none⟩ (.slice E q.asks.length J)):=Kp.DU (D:=(·=w+2)) rfl _ _;exact⟨⟨_,rfl,_,_,rfl,HS.keep jv.stays (hP.same (fun a c v=>c.elim (fun F=>by have:=HI.o a F;omega) (fun F=>by have:=aj.o;omega))) (fun a c=>c.imp id (fun F=>by have:=aj.o;omega)),aF.o.keep rW.stays (hP.same (fun a c v=>by have:=HI.o a c;omega)) (fun a c=>.inl c)⟩,(aG.o.own HK.o (fun a v=>by omega)).own hP (fun a v=>by omega)⟩
end Go.Proofs.YtlhlnddgfcmfkaaGreat
