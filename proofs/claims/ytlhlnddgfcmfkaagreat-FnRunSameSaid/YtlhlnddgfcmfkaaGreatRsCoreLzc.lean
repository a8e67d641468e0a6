/- Walks. -/
import Derived.Test.YtlhlnddgfcmfkaaGreatRsCoreH
import Derived.Test.YtlhlnddgfcmfkaaGreatRsCoreLzb
set_option maxRecDepth 100000
set_option maxHeartbeats 4000000
set_option linter.all false
namespace Go.Proofs.YtlhlnddgfcmfkaaGreat
open Go Go.RowKit Tryz M
theorem kK.lc{r:Rc}{s:Rs}{w W:World}(b:kK r s w)(a:LC r.l r.p w W):kK r s W:=b.oJ a.kp a.at_
theorem LC.turn{l:jh}{p:hZ}{w W a:World}{b:Nat}(c:LC l p w W)(d:Kp (·=b) W a)(h:w<=b)(g:l.L<w):LC l p w a:=
 ⟨c.kp.own d fun f e=>Zm,c.at_.kp d fun f i e=>Zm⟩
theorem QZ{D:Nat->Prop}{w:World}{b:Nat}(a:D b)(c d e:Value):Kp D w (((w.setCell b c).setCell (b,1) d).setCell (b,2) e):=
 (((Kp.refl D w).setCell (p:=⟨b,0,none⟩) (fun _=>a) c).setCell (p:=⟨b,1,none⟩) (fun _=>a) d).setCell (p:=⟨b,2,none⟩) (fun _=>a) e
theorem QY{w:World}{b:Nat}{t:TypeId}{u0 u1 u2:Value}(e:hV w b t #[u0,u1,u2]){a c d:Value}:hV (((w.setCell b a).setCell (b,1) c).setCell (b,2) d) b t #[a,c,d]:=by
 have f:hV (w.setCell b a) b t #[a,u1,u2]:=e.jk 0 a;have g:hV ((w.setCell b a).setCell (b,1) c) b t #[a,c,u2]:=f.jk 1 c;exact g.jk 2 d
theorem Q6{D:Nat->Prop}{w:World}{b:Nat}(a:D b)(c d e f g:Value):Kp D w (((((w.setCell b c).setCell (b,1) d).setCell (b,2) e).setCell (b,3) f).setCell (b,4) g):=
 (Nt a c d e f).setCell (p:=⟨b,4,none⟩) (fun _=>a) g
theorem Q5{w:World}{b:Nat}{t:TypeId}{u0 u1 u2 u3 u4:Value}(g:hV w b t #[u0,u1,u2,u3,u4]){a c d e f:Value}:hV (((((w.setCell b a).setCell (b,1) c).setCell (b,2) d).setCell (b,3) e).setCell (b,4) f) b t #[a,c,d,e,f]:=by
 have h:hV (w.setCell b a) b t #[a,u1,u2,u3,u4]:=g.jk 0 a;have i:hV ((w.setCell b a).setCell (b,1) c) b t #[a,c,u2,u3,u4]:=h.jk 1 c;have j:hV (((w.setCell b a).setCell (b,1) c).setCell (b,2) d) b t #[a,c,d,u3,u4]:=i.jk 2 d;have k:hV ((((w.setCell b a).setCell (b,1) c).setCell (b,2) d).setCell (b,3) e) b t #[a,c,d,e,u4]:=j.jk 3 e;exact k.jk 4 f
theorem DX(r:Rc)(s:Rs){w:World}(R:kK r s w)(k:Int)(i:Ins):Calls prog 57 #[some r.R,k,.agg #[i.op,i.a,i.name,i.member]] w fun e w'=>e=.returned (.tuple #[])/\kK r s w':=by
 obtain⟨w0,aB,ak,O⟩:=nu w #[i.op,i.a,i.name,i.member] 149;obtain⟨u,rfl,S,h1,up,-⟩:=R.qi ak;obtain⟨-,P,-,Q,-⟩:=O.ca;have⟨aH,HA,H1,HB,F⟩:=mr aB S h1 O up;have aO:(w:Nat)<u.w:=O.lt;have aM:r.l.D<w/\r.l.D<r.R:=by have:=R.ku.Ev;have:=S.hB;have:=S.low.1;have:=R.ku.ord;omega
 clear R up aB ak S h1 O;go_enter func57,ntmps57;go_upto_region 1 with(fail);rw[<-aH.o];cases hn:(i.name.toList==[]);case' false=>
  go_wp2_with fail
  refine(q9 r u _ H1 k i.name).mono ?_
  rintro e m ⟨rfl,ax⟩
  have g:=Zy ax
  clear ax
 case' true=>
  obtain⟨m,ah⟩:∃m,m=u.w:=⟨_,rfl⟩
  rw[<-ah]
  have g:Zz (kK r u m):=Zy (by rw[ah];exact H1)
  clear ah
 all_goals
  clear P Q;obtain⟨-,P,-,Q,e3,-⟩:=(g.blk HA HB).ca;have aN:u.w.heap.size<=m:=g.1.size;have av:r.l.L<m:=g.ku.lt;obtain⟨aI,ae,aL,n⟩:=rA.ex (LC r.l r.p m) _ (LC.refl g.ku);obtain⟨-,T,-⟩:=hV.lL fun z=>g.xG.kp (n.jm z).kp Zm;obtain⟨-,-,-,g2,g3,-⟩:=hV.lL fun z=>(g.blk HA HB).kp (n.jm z).kp Zm;have a:=Zy n;clear n;cases h9:(i.op==9);case' true=>
   go_upto_region 5 with(fail)
   obtain⟨G,y⟩:∃G,call r.p k i.name i.member=G:=⟨_,rfl⟩
   have X:=Zy y
   have W:Zz (G.2=1->ky r.p G.1=true/\sG r.p k G.1.of.keeper (M.method r.p G.1)):=Zy (by rw[<-y];exact J7 g.ku.ok)
   clear y P Q e3
   refine qA a 15 (.two [0,1,2,3,4,5,6,7,8] 9 13 (.one [10,11,12] 13 (.one [] 14 (.fin []))) (.one [] 9 (.one [10,11,12] 14 (.fin [])))) ?_ ?_
   . exact(LC.refl g.ku).drew
   refine two [_,_,_,_,_,_,_,_,_] rfl rfl rfl fun E l=>?_;(repeat (go_big_quiet_step (fail)))
   refine Rh l (Rb (e:=6) (d:=32) (n:=m.heap.size) (v:=fun d=>.tuple #[.agg #[.int .i64 G.1.of.keeper,.string G.1.of.name,.int .i64 G.1.at_],d]) (V:=fun d=>yS d G.2) (z:=#[.int .i64 0, "",.int .i64 0]) (t:=65) ⟨rfl,?_,?_,?_⟩ (a.o.o _ (LC.refl g.ku).drew) (R5 _)
    (fun d Z=>((Z.put (some 22) (.tuple #[.agg #[.int .i64 G.1.of.keeper,.string G.1.of.name,.int .i64 G.1.at_],d])).put (some 33) (.agg #[.int .i64 G.1.of.keeper,.string G.1.of.name,.int .i64 G.1.at_])).put (some 34) d) ?_ (fun _ _=>rfl) ?_ rfl rfl)<;>clear l E
   . rintro ai _ ⟨q,rfl⟩ hn h f;simp (decide:=true)only[Act.put,Rx,RU,RN]at f |-;go_wp2_with fail;refine(uw _ _ _ (a.jm _).at_ k i.name i.member).mono ?_;rintro e w8 ⟨⟨d,rfl,K⟩,af,H⟩;rw[X.o]at K |-;go_wp2_with fail;exact f d w8 K.weak (a.o.o _ ((a.jm _).step af H)) (II.of H fun aK hg e=>Zm)
   . intro a' j h f;go_wp2_with fail;exact f
   . rintro _ ⟨q,rfl⟩;exact a.o.o _ ((a.jm _).ext (jr _))
   . intro ai d E A l;change wpQuiet _ _ _ _ [_,_,_] _;simp (decide:=true)only[Act.put,Rx,RU,RN]at l |-;(repeat (go_big_quiet_step (fail)));exact Sw l
   . rintro c d _ A ⟨q,rfl⟩ B o;have I:=a.jm q;generalize ae q=w3 at*;obtain⟨f0,f1,f2,-⟩:=o.fz;obtain⟨aa,q0,q1,q2,-⟩:=o.ca;have⟨D,aD⟩:=je o B;have v:Zz (LC r.l r.p m (((w3.setCell c (.int .i64 G.1.of.keeper)).setCell (c,1) (.string G.1.of.name)).setCell (c,2) (.int .i64 G.1.at_))):=Zy (I.turn (b:=c) (QZ (D:=(·=c)) rfl _ _ _) B av);have Y:=Zy A;clear T g2 g3 I o B A;simp (decide:=true)only[Act.put,Rx,RU,RN];refine jZ rfl fun h f=>?_;go_wp2_with fail;refine kk a f v ?_;clear f h;clear a;refine kM ?_;obtain⟨j,p⟩:=Ry ((((w3.setCell c (.int .i64 G.1.of.keeper)).setCell (c,1) (.string G.1.of.name)).setCell (c,2) (.int .i64 G.1.at_)));have t:kK r u j:=g.lc (by rw[p];exact v);have x:hV j c 65 #[.int .i64 G.1.of.keeper,.string G.1.of.name,.int .i64 G.1.at_]:=by rw[p];exact QY D
     rw[<-p];clear p f0 f1 f2 aa q0 q1 q2 D v;have L:=Zy t;rcases Y.o with⟨C,rfl⟩|⟨C,b,rfl⟩;rotate_left
     . clear t x;go_wp2_with fail;refine RA ?_;exact⟨rfl,F _ L⟩
     obtain⟨aA,az⟩:=W.o C;obtain⟨s2,rfl,ay,h2,aC,-⟩:=t.qi Kp.rr;obtain⟨aI,ae,aL,n⟩:=rA.ex (fun W'=>kK r s2 W') _ h2;obtain⟨-,T,-⟩:=hV.lL fun z=>(n.jm z).xG;obtain⟨-,q0,q1,q2,-⟩:=hV.lL fun z=>(n.jm z).blk ay x;have⟨a,U,aJ,aF,V⟩:=mr n h2 aC aA az;clear n t x ay h2 aC aA az C;go_wp2_with fail;refine kD a 12 [([0,1,2,3,4,5,6,7,8,9],10),([],11)] [] ?_ ?_
     . exact U.ext jf
     refine lS ?_;intro h f;go_wp2_with fail;refine(lq _ _ _ (U.ext jf).ku G.1 aF).mono ?_;rintro e w5 ⟨⟨cs,ag,rfl⟩,au⟩;obtain⟨t2,rfl⟩:=nI ag;have⟨aj,aG⟩:=je ((U.ext jf).ext au) ag;clear ag au;simp only[mg];go_wp2_with fail;refine kk a f aj ?_;clear f h;refine lF rfl fun h f=>?_;go_wp2_with fail;refine(Ai r s2 aj k G.1.of.keeper _ aG V).mono ?_;rintro e w6 ⟨rfl,J⟩;have N:=Zy J;clear J;go_wp2_with fail;refine kk a f N ?_;clear f h;clear a T q0 q1 q2;refine wG rfl ?_;go_wp2_with fail;refine RA ?_;exact⟨rfl,F _ (aJ _ N)⟩
  case' false=>
   cases h7:(i.op==7)
   case' false=>
    cases h8:(i.op==8)
    case' false=>
     go_wp2_with fail
     refine RA ?_
     exact⟨rfl,F _ g⟩
  all_goals
   go_upto_region 10 with(fail);obtain⟨G,y⟩:∃G,M.get r.p k i.name i.member=G:=⟨_,rfl⟩;have X:=Zy y;have W:Zz (G.2=1->ql r.p k G.1.of.keeper G.1.kind):=Zy (by rw[<-y];exact Ms g.ku.ok);clear y P Q e3;refine qA a 15 (.two [0,1,2,3,4,5,6,7,8] 9 13 (.one [10,11,12] 13 (.one [] 14 (.fin []))) (.one [] 9 (.one [10,11,12] 14 (.fin [])))) ?_ ?_
   . exact(LC.refl g.ku).drew
   refine two [_,_,_,_,_,_,_,_,_] rfl rfl rfl fun E l=>?_;(repeat (go_big_quiet_step (fail)));refine Rh l (Rb (e:=8) (d:=62) (n:=m.heap.size) (v:=fun d=>.tuple #[.agg #[.int .i64 G.1.of.keeper,.string G.1.of.name,.int .i64 G.1.at_,.int .i64 G.1.kind.kind,.string G.1.kind.name],d]) (V:=fun d=>yS d G.2) (z:=#[.int .i64 0, "",.int .i64 0,.int .i64 0, ""]) (t:=213) ⟨rfl,?_,?_,?_⟩ (a.o.o _ (LC.refl g.ku).drew) (R5 _)
    (fun d Z=>((Z.put (some 52) (.tuple #[.agg #[.int .i64 G.1.of.keeper,.string G.1.of.name,.int .i64 G.1.at_,.int .i64 G.1.kind.kind,.string G.1.kind.name],d])).put (some 63) (.agg #[.int .i64 G.1.of.keeper,.string G.1.of.name,.int .i64 G.1.at_,.int .i64 G.1.kind.kind,.string G.1.kind.name])).put (some 64) d) ?_ (fun _ _=>rfl) ?_ rfl rfl)<;>clear l E
   . rintro ai _ ⟨q,rfl⟩ hn h f;simp (decide:=true)only[Act.put,Rx,RU,RN]at f |-;go_wp2_with fail;refine(vO _ _ _ (a.jm _).at_ k i.name i.member).mono ?_;rintro e w8 ⟨⟨d,rfl,K⟩,af,H⟩;rw[X.o]at K |-;go_wp2_with fail;exact f d w8 K.weak (a.o.o _ ((a.jm _).step af H)) (II.of H fun aK hg e=>Zm)
   . intro a' j h f;go_wp2_with fail;exact f
   . rintro _ ⟨q,rfl⟩;exact a.o.o _ ((a.jm _).ext (jr _))
   . intro ai d E A l;change wpQuiet _ _ _ _ [_,_,_] _;simp (decide:=true)only[Act.put,Rx,RU,RN]at l |-;(repeat (go_big_quiet_step (fail)));exact Sw l
   . rintro c d _ A ⟨q,rfl⟩ B o;have I:=a.jm q;generalize ae q=w3 at*;obtain⟨f0,f1,f2,f3,f4,-⟩:=o.fz;obtain⟨aa,q0,q1,q2,q3,q4,-⟩:=o.ca;have⟨D,aD⟩:=je o B;have v:Zz (LC r.l r.p m (((((w3.setCell c (.int .i64 G.1.of.keeper)).setCell (c,1) (.string G.1.of.name)).setCell (c,2) (.int .i64 G.1.at_)).setCell (c,3) (.int .i64 G.1.kind.kind)).setCell (c,4) (.string G.1.kind.name))):=Zy (I.turn (b:=c) (Q6 (D:=(·=c)) rfl _ _ _ _ _) B av);have Y:=Zy A;clear T g2 g3 I o B A;simp (decide:=true)only[Act.put,Rx,RU,RN];refine jZ rfl fun h f=>?_;go_wp2_with fail;refine kk a f v ?_;clear f h;clear a;refine kM ?_;obtain⟨j,p⟩:=Ry ((((((w3.setCell c (.int .i64 G.1.of.keeper)).setCell (c,1) (.string G.1.of.name)).setCell (c,2) (.int .i64 G.1.at_)).setCell (c,3) (.int .i64 G.1.kind.kind)).setCell (c,4) (.string G.1.kind.name)));have t:kK r u j:=g.lc (by rw[p];exact v);have x:hV j c 213 #[.int .i64 G.1.of.keeper,.string G.1.of.name,.int .i64 G.1.at_,.int .i64 G.1.kind.kind,.string G.1.kind.name]:=by rw[p];exact Q5 D
     rw[<-p];clear p f0 f1 f2 f3 f4 aa q0 q1 q2 q3 q4 D v;have L:=Zy t;rcases Y.o with⟨C,rfl⟩|⟨C,b,rfl⟩;rotate_left
     . clear t x;go_wp2_with fail;refine RA ?_;exact⟨rfl,F _ L⟩
     obtain⟨-,q0,-,-,q3,q4,-⟩:=x.ca;have V:=Zy (W C);clear t x C;go_wp2_with fail;refine(xV r u L k G.1.of.keeper G.1.kind V).mono ?_;rintro e w6 ⟨rfl,J⟩;have N:=Zy J;clear J q0 q3 q4;go_wp2_with fail;refine RA ?_;exact⟨rfl,F _ N⟩
end Go.Proofs.YtlhlnddgfcmfkaaGreat
