/- Walks. -/
import Derived.Test.YtenhnldnpdlniaaGreatSmCoreLn
import Derived.Test.YtenhnldnpdlniaaGreatSmCoreLo
set_option maxRecDepth 100000
set_option maxHeartbeats 4000000
set_option linter.all false
namespace Go.Proofs.YtenhnldnpdlniaaGreat
open Go Go.RowKit Tryz M
variable {n: ByteArray}{i: Ins}{k: Int}{xs: List Tag}{l: List oO}{m: M.Method}{c d g j: Nat}{D I: Nat->Prop}{a b e: Option Addr}{q: Option lU}{r x: Ref}{α: Type}{t: TypeId}{u0 u1 u2 u3 u4 v: Value}{W w: World}{p: jl}{f s: lU}
def SB(w w':World)(l:List oO)(e:Ending):Prop:=∃v,e=.returned v/\SliceOf 5 xY w' (fun b=>w.heap.size<=b) v l
theorem Kr:((nk p r).getD []).length<=6:=by
 cases a:nk p r with
 |none=>simp
 |some b=>exact vQ _ _ _ a
theorem JK(w:World)(I:Nat->Prop)(hI:∀a,I a->a<w.heap.size){v:Value}(p:jl)(hp:SliceOf 2 jo w I v p)(aI:kv p=true)(r:Ref)(hr:owned p r=true):Calls prog 231 #[.agg #[v],.agg #[r.keeper,r.name]] w fun d w'=>SB w w' (kL p ((nk p r).getD []).reverse []) d/\Ext w w':=by
 obtain⟨aB,aC,rfl,hn,dD⟩:=hp.form;have⟨ay,X⟩:=jw (yx hr) (Kr (p:=p) (r:=r));obtain⟨H,R⟩:=S9 ((w.alloc (.cells #[.slice aB p.length aC] 25)).alloc (.cells #[r.keeper,r.name] 64));have af:Ext w H:=by rw[R];exact Zx
 have aP:Zz (jq H w 25 #[.slice aB p.length aC]):=Zy (by rw[R];exact(jq.new _ _ _).ext Zx);have bD:Zz (jq H (w+1) 64 #[r.keeper,r.name]):=Zy (by rw[R];exact jq.after _ _ Zl);have⟨HC,V,bR,HP,bL,ax⟩:=pR (uo H I (fun a u=>Tf (hI a u) af.size) p (hp.ext jo.stays af) aI r hr) af R hp hI aI;obtain⟨cz,c0,-⟩:=aP.ca;obtain⟨rz,r0,r1,-⟩:=bD.ca;clear af R hp aI hI hr;obtain⟨aA,hO⟩:∃aA,nk p r=aA:=⟨_,rfl⟩;rw[hO]at HC ay X |-;obtain⟨l,hL⟩:∃l,aA.getD []=l:=⟨_,rfl⟩;rw[hL]at ay X |-;have HL:=Zy hL;clear hO hL;go_enter func231,ntmps231;go_upto_region 1 with(fail);rw[<-bR.o];go_wp2_with fail;refine HC.mono ?_;rintro d g ⟨⟨vl,rfl,hs⟩,aD⟩;rw[HL.o]at hs;obtain⟨la,lc,rfl,dH,dG⟩:=hs.form;have⟨HS,W⟩:=jw hs aD;obtain⟨w2,aL,aZ,-⟩:=nu g #[] 173;have bF:=Zy aZ;have bP:Zz (w2.ownsRow g 173 5 (.slice (some ⟨g,0,none⟩) 0 0) 0 []):=Zy (by rw[aL];exact kV g _ _ _ (Tu _) rfl);have bS:=Zy aL;have aU:=Zy (V.trans aD).size;clear hs aD HC c0 cz r0 r1 rz aZ aL;go_wp2_with fail;rw[<-bS.o];go_loopw [7,8,9,10] (fun s7 s8 _ _ wr=>∃(e f:Nat)(s:Option Addr)(t:Nat),e<=l.length/\s8=.int .i64 ((e:Int) - 1)/\s7=.slice s f t/\Zz (f=(kL p (l.drop e).reverse []).length)/\Zz (wr.ownsRow g 173 5 (.slice s f t) f ((kL p (l.drop e).reverse []).flatMap nX))/\Ext g wr) (fun _ s8 _ _ _=>(intOf s8+1).toNat)
 case atStart=>exact⟨l.length,0,_,_,Tu _,rfl,rfl,Zy (by simp[kL]),Zy (by simpa [kL]using bP.o),bF.o⟩
 case round=>
  obtain⟨e,f,s,t,hm,rfl,rfl,HN,Z,O⟩:=hrel;have U:=Zy O;cases e with
  |zero=>
   have dk:¬(0:Int)<=((0:Nat):Int) - 1:=Zm
   clear O;go_wp2;go_ret;refine⟨⟨_,rfl,?_⟩,(V.trans W).trans U⟩;have n:=Z.o;simp only[UF]at n;exact SliceOf.mD nX n (by rw[HN.o];rfl) rfl (fun _ _=>rfl) (fun _ _=>rfl) (fun a u _=>Te aU.o) (by have:=qi ax.o l.reverse;rw[UB]at this;have:=X.o;omega)
  | succ e =>
   have bA:((e+1:Nat):Int) - 1=(e:Int):=Zm
   rw[bA];have dk:(0:Int)<=(e:Int):=Zm
   have dA:(e:Int)<l.length:=Zm
   obtain⟨o,E⟩:∃o,l[e]?=some o:=⟨l[e]'Zm,CU Zm⟩;have hD:=mM E;obtain⟨dF,b,ah⟩:=sM (ay o (Tx E));obtain⟨dJ,cu,bq⟩:=oW w I _ p HP o b ah;obtain⟨dK,dL,rfl,aG,bg⟩:=cu;obtain⟨ae,N,rfl,-,dE⟩:=aG.form;obtain⟨ai,aj,rfl,-,dI⟩:=bg.form;obtain⟨g1,q1,dw,rfl,-,rfl,-,d1⟩:=(HS.ext qN.stays O).get E;obtain⟨x0,x1⟩:=d1.two;obtain⟨aX,-⟩:g1<g/\True:=by
    obtain⟨aW,bB,aV,L,-,rfl,-,K⟩:=HS.get E;cases L;exact⟨jv K.two.1,trivial⟩
   have⟨di,dm,HX,HD,aT,bI,bH,bJ⟩:=Em x0 x1 E hD ah (vB ax ah) aG aX;have aS:=fun aa (n:Ext wr aa)=>bq aa (((V.trans W).trans U).trans n);obtain⟨x,ag⟩:∃x,kL p (l.drop (e+1)).reverse []=x:=⟨_,rfl⟩;rw[ag]at HN Z;have aO:=Zy ag;have bC:Zz (x.length<=18):=Zy (by rw[<-ag];have:=qi ax (l.drop (e+1)).reverse;rw[UB,UW]at this;have:=X.o;omega);obtain⟨bU,bV,bZ,j⟩:=lL wr;have p0:=fun h=>(aP.ext ((W.trans O).trans (j.jC h))).c 0 (.slice aB p.length aC) rfl;have r0:=fun h=>(j.jC h).jm x0;have r1:=fun h=>(j.jC h).jm x1;have q:=Zy j;have bQ:Zz (∀a,(Value.slice s f t).ownBlock=some a->g.heap.size<=a/\a<wr.heap.size):=Zy fun a u=>Z.lt a u;clear E ah aG bg d1 x0 x1 j O bq hD aX ag bA;go_upto_region 6 with(fail);go_cut [9] (fun s9 wx=>∃a,s9=.pointer (some ⟨a,0,none⟩)/\jq wx a 38 #[b.name,b.jE,.slice ae b.fields.length N,.slice ai b.methods.length aj]/\Ext wr wx/\wr.heap.size<=a)
   case first=>
    refine rQ q 7 (.two [0,1,2,3,4] 5 6 (.one [] 6 (.fin [])) (.one [] 5 (.fin []))) ?_ ?_
    . exact jA
    refine two [_,_,_,_,_] rfl rfl rfl fun bT hK=>?_;(repeat (go_big_quiet_step (fail)));((refine EP hK (fun k c=>?_) fun k c=>?_)<;>clear hK bT)
    . have z:Ext wr wr.drew:=jA;generalize wr.drew=wd at z |-;go_wp2_with fail;refine(aS wd z).mono ?_;rintro d w4 ⟨rfl,P⟩;have e4:=z.trans P;go_wp2_with fail;refine kk q c e4 ?_;clear c k;refine j3 rfl fun k c=>?_;go_wp2_with fail;obtain⟨w5,S,D,y⟩:=nu w4 #["","",(),()] 38;rw[<-S];have au:=Zy e4;have C:=e4.trans D;have⟨dh,ak⟩:=jw D y;clear S D;obtain⟨zz,z0,z1,z2,z3,-⟩:=y.ca;obtain⟨cK,cO,cZ,df,-⟩:=y.fz;have av:=Zy C;clear y;refine kk q c C ?_;clear c k;refine kQ ?_;go_wp2_with fail;have Q:=ak.KV b.name b.jE (.slice ae b.fields.length N) (.slice ai b.methods.length aj);go_meet;exact⟨_,rfl,Q.1,av.own Q.2 (fun a d=>Te au.size),au.o.size⟩
    . have z:Ext wr wr.drew:=jA;generalize wr.drew=wd at z |-;go_wp2_with fail;obtain⟨w5,S,D,y⟩:=nu wd #["","",(),()] 38;rw[<-S];have aQ:=Zy z;have C:=z.trans D;clear S D;refine kk q c C ?_;clear c k;refine j3 rfl fun k c=>?_;go_wp2_with fail;refine(aS w5 C).mono ?_;rintro d w4 ⟨rfl,P⟩;have b6:=y.ext P;have au:=Zy P;have e6:=C.trans P;obtain⟨zz,z0,z1,z2,z3,-⟩:=b6.ca;obtain⟨cK,cO,cZ,df,-⟩:=b6.fz;have⟨ak,av⟩:=jw b6 e6;clear y b6;go_wp2_with fail;refine kk q c e6 ?_;clear c k;refine kQ ?_;go_wp2_with fail;have Q:=ak.KV b.name b.jE (.slice ae b.fields.length N) (.slice ai b.methods.length aj);go_meet;exact⟨_,rfl,Q.1,av.own Q.2 (fun a d=>Te aQ.size),aQ.o.size⟩
   obtain⟨J,rfl,aY,aF,dB⟩:=hcut;obtain⟨w9,rfl⟩:∃w9,w9=wc:=⟨_,rfl⟩;have⟨bE,bG⟩:=jw aY aF;have bO:Zz (w9.ownsRow g 173 5 (.slice s f t) f (x.flatMap nX)):=Zy (jr (D:=fun _=>False) Z aF fun _ _ _ o=>o);have bM:Zz ((Value.slice s f t).ownBlock≠some J):=Zy (fun d=>Te ((bQ _ d).2));have dn:Zz (g<=J):=Zy (Te U.size);clear aY aF q p0 r0 r1;go_wp2_with fail;obtain⟨wo,rfl⟩:∃wo:World,wo=wr:=⟨_,rfl⟩;go_loopw [7,10] (fun s7 aM wr=>∃(i f:Nat)(s:Option Addr)(t:Nat),i<=b.fields.length/\aM=.int .i64 (i:Int)/\s7=.slice s f t/\Zz (f=x.length+i)/\Zz (wr.ownsRow g 173 5 (.slice s f t) f ((kK o (b.fields.take i) x).flatMap nX)/\(Value.slice s f t).ownBlock≠some J)/\Zz (jq wr J 38 #[b.name,b.jE,.slice ae b.fields.length N,.slice ai b.methods.length aj])/\Zz (Ext g wr)) (fun _ aM _=>b.fields.length - (intOf aM).toNat)
   case atStart=>exact⟨0,f,_,_,Tz _,rfl,rfl,Zy (Te HN.o),Zy ⟨by simpa [kK]using bO.o,bM.o⟩,bE,Zy (U.o.trans bG.o)⟩
   case round=>
    obtain⟨i,m,F,G,hj,rfl,rfl,Y,B,T,A⟩:=hrel;have az:Zz (∀a,(Value.slice F m G).ownBlock=some a->g.heap.size<=a/\a<wr.heap.size):=Zy fun a u=>B.1.lt a u;by_cases bz:i<b.fields.length
    . have dj:(i:Int)<b.fields.length:=Zm
      have dz:(0:Int)<=(i:Int):=Zm
      obtain⟨aN,hy⟩:∃aN,b.fields[i]?=some aN:=⟨b.fields[i]'bz,CU bz⟩;obtain⟨g3,q3,dx,rfl,bW,rfl,-,d3⟩:=(bH.ext lI.stays ((V.trans W).trans A)).get hy;obtain⟨y0,y1,y2⟩:=d3.three;have bX:g3<g:=Tf (bL.o g3 bW) aU.o
      obtain⟨bU,bV,bZ,j⟩:=tN.ex (fun aa=>Kp (fun a=>(Value.slice F m G).ownBlock=some a) wr aa) _ Kp.rr;have aK:¬(Value.slice F m G).ownBlock=some g3:=fun d=>Te ((az _ d).1)
      have aJ:¬(Value.slice F m G).ownBlock=some g1:=fun d=>Tf ((az _ d).1) bJ.o
      have i0:=fun h=>(j.jC h).mJ (A.jm (by
       obtain⟨aW,bB,aV,L,-,rfl,-,K⟩:=HS.get HX;cases L;exact K.two.1)) aJ
      have i1:=fun h=>(j.jC h).mJ (A.jm (by
       obtain⟨aW,bB,aV,L,-,rfl,-,K⟩:=HS.get HX;cases L;exact K.two.2)) aJ
      have u2:=fun h=>(T.kp (j.jC h) B.2).c 2 (.slice (some ⟨g3,q3,none⟩) b.fields.length N) rfl;have t1:=fun h=>(j.jC h).mJ y1 aK;have t2:=fun h=>(j.jC h).mJ y2 aK;obtain⟨sz,-,-,s2,-⟩:=T.ca;have⟨q,HY⟩:=jw j hy;have bY:m+1<=4294967296:=Tg Y.o bC.o bI.o
      have dC:=A.size;clear hy j y0 y1 y2 d3 bX aK aJ;go_upto_region 10 with(fail);refine lq q 16 [([0,1,2,3,4,5,6,7,8,9,10,11,12,13],14),([],15)] [] ?_ ?_
      . exact jA
      refine nE ?_;intro k c;go_wp2_with fail;refine kk q c Zx ?_;clear c k;refine mF rfl fun k c=>?_;refine jF Gl rfl (.tmp 38) (.tmp 52) rfl g (.slice F m G) m _ rfl (jr (D:=fun _=>False) B.1 Zx fun _ _ _ o=>o) wr 1 (nX ⟨o,m,aN.kind⟩) rfl rfl (hQ.KO _ _ rfl) (Jy) bY ?_ ?_
      . simp;omega
      intro g2 c2 cB bn bf bu;change k _ _;have aH:Kp (fun a=>(Value.slice F m G).ownBlock=some a) wr cB:=(Zx:Ext wr _).any.trans bf;have⟨aR,bN⟩:=jw aH bn;have bK:Zz (g2≠J):=Zy (fun d=>by
       rcases bu with n|n
       . exact B.2 (by rw[n,d])
       . simp at n;omega)
      refine kk q c aH ?_;clear c k;clear bn bf aH bu;refine lD ?_;go_wp2;go_round
      case rel=>exact⟨i+1,m+1,_,_,Zm,Zk,rfl,Zy (Te Y.o),Zy ⟨by
       have hl:(kK o (b.fields.take i) x).length=m:=by rw[qC,Y.o,TN];omega
       rw[yo HY.o,TD,hl];simpa using bN.o,fun d=>bK.o (by simpa [Value.ownBlock]using d)⟩,Zy (T.o.kp aR.o B.o.2),Zy (A.o.own aR.o fun a u=>(az.o a u).1)⟩
      case measure=>exact Zj
    . have dj:¬(i:Int)<b.fields.length:=Zm
      have HJ:Zz (i=b.fields.length):=Zy Zm;obtain⟨sz,-,-,s2,-⟩:=T.ca;go_wp2;go_round
      case rel=>exact⟨e,m,_,_,Zm,rfl,rfl,Zy (by
       rw[HD.o,List.reverse_cons,wh,uG aT.o,aO.o,qC,Y.o,HJ.o]),Zy (by
       have n:=B.1;rw[HJ.o,TA]at n;rw[HD.o,List.reverse_cons,wh,uG aT.o,aO.o];exact n),A⟩
      case measure=>simp[intOf]
theorem jq.QL{b:Nat}(e:jq w b t #[u0,u1,u2])(a c d:Value):jq (((w.setCell b a).setCell (b,1) c).setCell (b,2) d) b t #[a,c,d]/\Kp (·=b) w (((w.setCell b a).setCell (b,1) c).setCell (b,2) d):=by
 have f:jq (w.setCell b a) b t #[a,u1,u2]:=e.jR 0 a;have g:jq ((w.setCell b a).setCell (b,1) c) b t #[a,c,u2]:=f.jR 1 c;have h:jq (((w.setCell b a).setCell (b,1) c).setCell (b,2) d) b t #[a,c,d]:=g.jR 2 d;exact⟨h,qM⟩
theorem E9(w:World)(I:Nat->Prop)(hI:∀c,I c->c<w.heap.size){v:Value}(p:jl)(y:SliceOf 2 jo w I v p)(J:kv p=true)(k:Int)(hk:has p k=true)(nm:ByteArray):Calls prog 229 #[.agg #[v],k,nm] w fun s w'=>s=.returned (.tuple #[.agg #[.int .i64 (DZ p k nm).1.keeper,.string (DZ p k nm).1.name],.int .i64 (DZ p k nm).2])/\Ext w w':=by
 obtain⟨T,V,rfl,hn,aj⟩:=y.form;obtain⟨d,i⟩:=S9 ((w.alloc (.cells #[.slice T p.length V] 25)).alloc (.cells #[Tj,""] 64));have h:Ext w d:=by rw[i];exact Zx
 have N:Zz (jq d w 25 #[.slice T p.length V]):=Zy (by rw[i];exact(jq.new _ _ _).ext Zx);have af:Zz (jq d (w+1) 64 #[Tj,""]):=Zy (by rw[i];exact jq.after _ _ Zl);have⟨n,R,ah,ai⟩:=kD (zM d I (fun c G=>Tf (hI c G) h.size) _ p (y.ext jo.stays h) J k hk nm) (fun f (g:Ext d f) r (ho:owned p r=true)=>GL f I (fun c G=>Tf (hI c G) ((h.trans g).size)) p ((y.ext jo.stays h).ext jo.stays g) J r ho) h i;obtain⟨F,E,-⟩:=N.ca;have⟨q,m⟩:=jw (fun g=>Ae (p:=p) (k:=k) (n:=nm) g) (fun g=>G9 (p:=p) (k:=k) (n:=nm) g);obtain⟨e,hF⟩:∃e,find p k nm=e:=⟨_,rfl⟩;have a:Zz (DZ p k nm=if e.2=1 then(if jW p e.1 then(e.1,1)else(q9,4))else(q9,2)):=Zy (by unfold DZ;rw[hF]);obtain⟨C,X⟩:∃C,DZ p k nm=C:=⟨_,rfl⟩;rw[X]at a |-;rw[hF]at n q m;clear hF X h i y J hI hk;obtain⟨⟨z,A⟩,rc⟩:=e;obtain⟨⟨fk,fn⟩,fc⟩:=C;simp only at n a q m |-;go_enter func229,ntmps229;go_upto_region 1 with(fail);rw[<-ai.o];go_wp2_with fail;refine n.mono ?_;rintro s w1 ⟨rfl,Y⟩;obtain⟨w2,aa,Z,U⟩:=nu w1 #[z,A] 64;have t:=Y.trans Z;have⟨P,j,ae,O,S⟩:=nC t (af.ext t) (N.ext t) U aa;have D:Zz (∀f,Ext w2 f->∀K L,Ext w ((f.setCell ⟨w+1,0,none⟩ K).setCell ⟨w+1,1,none⟩ L)):=Zy (fun f hW K L=>((ah.trans P).trans hW).own (Kp.duo (D:=(·=w+1)) rfl K L) (fun c s=>Zm));clear Y Z t U aa E F n;by_cases x:rc=1
 . subst x;have o:=Zy (R w2 P ⟨z,A⟩ (q Zl));rw[m.o Zl]at o;have H:=a.o;rw[Ty rfl]at H;have a:=Zy H;clear H R q m;obtain⟨B,W⟩:∃B,jW p ⟨z,A⟩=B:=⟨_,rfl⟩;rw[W]at o a;clear W;obtain⟨F,E,-⟩:=ae.ca;obtain⟨rz,r0,r1,-⟩:=O.ca;go_upto_region 4 with(fail);rw[<-S.o];go_wp2_with fail;refine o.mono ?_;rintro s w3 ⟨rfl,u⟩;have⟨Q,l,ag⟩:=jI u (j.ext u) (O.ext u);clear u E F r0 r1 rz o;obtain⟨gz,g0,g1,-⟩:=l.ca;obtain⟨f0,f1,-⟩:=l.fz;obtain⟨rz,r0,r1,-⟩:=ag.ca;cases B
   . have b:=a.o;simp only[U3,Uq]at b;cases b;go_wp2_with fail;refine PG (hU qF rfl (w+1) rfl [Tj,""] (hQ.kX (l.duo _ _)) rfl) rfl ?_;exact⟨rfl,D _ Q _ _⟩
   . have b:=a.o;simp only[Uy]at b;cases b;go_wp2_with fail;refine PG (hU qF rfl (w+1) rfl [z,A] (hQ.kX (l.duo _ _)) rfl) rfl ?_;exact⟨rfl,D _ Q _ _⟩
 . have b:=a.o;rw[T9 x]at b;cases b;have ak:(rc !=1)=true:=by simpa using x
   clear x;obtain⟨gz,g0,g1,-⟩:=j.ca;obtain⟨f0,f1,-⟩:=j.fz;go_upto_region 3 with(fail);rw[<-S.o];go_wp2_with fail;refine PG (hU qF rfl (w+1) rfl [Tj,""] (hQ.kX (j.duo _ _)) rfl) rfl ?_;exact⟨rfl,D _ Kp.rr _ _⟩
theorem Py{r:List Ref}{c:Class}{i:Nat}(b:cls? p x=some c)(a:(c.methods.findIdx? fun d=>decide (d.name=n))=some i):mq p n (x::r)=some ⟨x,i⟩:=by
 unfold mq pY;rw[uG b,a]
theorem Ni{r:List Ref}{c:Class}(b:cls? p x=some c)(a:(c.methods.findIdx? fun d=>decide (d.name=n))=none):mq p n (x::r)=mq p n r:=by
 rw[mq];unfold pY;rw[uG b,a]
theorem Lm(w:World)(I:Nat->Prop){v:Value}(p:jl)(Q:SliceOf 2 jo w I v p)(J:Nat->Prop)(vc:Value)(a:List Ref)(L:SliceOf 2 qN w J vc a)(ho:∀c∈a,owned p c=true)(nm:ByteArray):Calls prog 230 #[.agg #[v],vc,nm] w fun o w'=>o=.returned (.tuple #[.agg #[.int .i64 ((mq p nm a).getD M.oN).of.keeper,.string ((mq p nm a).getD M.oN).of.name,.int .i64 ((mq p nm a).getD M.oN).at_],.bool (mq p nm a).isSome])/\Ext w w':=by
 obtain⟨F,G,rfl,hn,aM⟩:=Q.form;obtain⟨la,lc,rfl,aS,aN⟩:=L.form;obtain⟨i,u⟩:=S9 ((w.alloc (.cells #[.slice F p.length G] 25)).alloc (.cells #[Tj,"",Tj] 66));have ae:Ext w i:=by rw[u];exact Zx
 have ak:Zz (jq i w 25 #[.slice F p.length G]):=Zy (by rw[u];exact(jq.new _ _ _).ext Zx);have S:Zz (jq i (w+1) 66 #[Tj,"",Tj]):=Zy (by rw[u];exact jq.after _ _ Zl);have⟨HP,HL,HO,l,ay⟩:=nC Q L ho ae u;obtain⟨h,O⟩:∃h,mq p nm a=h:=⟨_,rfl⟩;rw[O];have av:=Zy O;clear ae u Q L ho O;go_enter func230,ntmps230;go_wp2_with fail;rw[<-ay.o];go_loopw [8,9] (fun e _ wr=>∃b:Nat,b<=a.length/\e=.int .i64 b/\Ext i wr/\Zz (mq p nm (a.drop b)=h)) (fun e _ _=>a.length - (intOf e).toNat)
 case atStart=>exact⟨0,Tz _,rfl,Kp.rr,Zy (by simpa using av.o)⟩
 case round=>
  obtain⟨b,hk,rfl,r,C⟩:=hrel;have k:=Zy r;by_cases ah:b<a.length
  . have dk:(b:Int)<a.length:=Zm
    have aL:(0:Int)<=(b:Int):=Zm
    obtain⟨c,A⟩:∃c,a[b]?=some c:=⟨a[b]'ah,CU ah⟩;obtain⟨aP,f,R⟩:=sM (HO c (Tx A));obtain⟨aU,aI,ag⟩:=oW w I _ p HP c f R;obtain⟨aV,aW,rfl,af,N⟩:=aI;obtain⟨aC,aD,rfl,-,aO⟩:=af.form;obtain⟨ai,aj,rfl,-,aR⟩:=N.form;obtain⟨g1,q1,aK,rfl,-,rfl,-,X⟩:=((HL.ext qN.stays l).ext qN.stays r).get A;obtain⟨j,x⟩:=X.two;have⟨T,au,W,az,aA,ax⟩:=pR (mM A) N R j x (fun d (K:Ext wr d)=>ag d ((l.trans k).trans K));obtain⟨aJ,aa,aT,n⟩:=lL wr;have p0:=fun y=>(ak.ext (r.trans (n.jC y))).c 0 (.slice F p.length G) rfl;have r0:=fun y=>(n.jC y).jm j;have r1:=fun y=>(n.jC y).jm x;have aH:∀d,(Instr.field 38 (.agg #[f.name,f.jE,.slice aC f.fields.length aD,.slice ai f.methods.length aj]) 3).run prog d=.ok (.slice ai f.methods.length aj) d:=(fun d=>by kernel_rfl);obtain⟨B,P⟩:∃B,(f.methods.findIdx? fun aa=>decide (aa.name=nm))=B:=⟨_,rfl⟩;have⟨U,V⟩:=jw P (fun d (K:Ext wr d)=>GJ d I f.methods (au.ext jy.stays ((l.trans k).trans K)) nm);rw[P]at V;have z:=Zy n;clear A R af N X j x n r ag P;go_upto_region 4 with(fail);go_cut [9] (fun s9 wx=>s9=.int .i64 (M.De B)/\Ext wr wx)
    case first=>
     refine lq z 9 [([0,1,2,3,4,7],5),([6],8)] [] ?_ ?_
     . exact jA
     refine nE ?_;intro E t;have Z:Ext wr wr.drew:=jA;go_wp2_with fail;refine(ax _ Z).mono ?_;rintro o w4 ⟨rfl,aF⟩;have H:=Z.trans aF;go_wp2_with fail;refine kk z t H ?_;clear t E;refine nE ?_;intro E t;go_wp2_with fail;refine(V _ H).mono ?_;rintro o w5 ⟨rfl,aG⟩;have Y:=H.trans aG;go_wp2_with fail;refine kk z t Y ?_;clear t E;refine lD ?_;go_wp2;go_meet;exact⟨rfl,Y⟩
    obtain⟨rfl,s⟩:=hcut;obtain⟨w9,rfl⟩:∃w9,w9=wc:=⟨_,rfl⟩;have D:=Zy (k.trans s);have j:=s.jm az;have x:=s.jm aA;have xz:=jv j;clear z p0 r0 r1 aH;cases B with
    |none=>
     have m:Zz (mq p nm (a.drop (b+1))=h):=Zy (by rw[<-C.o,T.o,Ni W.o U.o]);simp only[M.De];clear s j x xz;go_wp2;go_round
     case rel=>exact⟨b+1,Zm,Zk,D.o,m⟩
     case measure=>exact Zj
    |some e=>
     have m:Zz (some (⟨c,e⟩:pU)=h):=Zy (by rw[<-C.o,T.o,Py W.o U.o]);have aQ:(0:Int)<=(e:Int):=Zm
     simp only[M.De];have g:=Zy (S.ext D);obtain⟨gz,g0,g1,g2,-⟩:=g.ca;obtain⟨f0,f1,f2,-⟩:=g.fz;clear s;go_wp2_with fail;have q:=g.QL (.int .i64 c.keeper) (.string c.name) e;refine PG (hU rJ rfl (w+1) rfl [.int .i64 c.keeper,.string c.name,e] (hQ.kX q.1) rfl) rfl ?_;exact⟨by rw[<-m.o];rfl,(l.trans D).own q.2 (fun aB o=>Zm)⟩
  . have dk:¬(b:Int)<a.length:=Zm
    have m:Zz (none=h):=Zy (by rw[<-C.o,U6 Zm];rfl);have g:=Zy (S.ext k);obtain⟨gz,g0,g1,g2,-⟩:=g.ca;obtain⟨f0,f1,f2,-⟩:=g.fz;clear r;go_wp2_with fail;have q:=g.QL Tj "" Tj;refine PG (hU rJ rfl (w+1) rfl [Tj,"",Tj] (hQ.kX q.1) rfl) rfl ?_;exact⟨by rw[<-m.o];rfl,(l.trans k).own q.2 (fun aB o=>Zm)⟩
theorem jq.Px{b:Nat}(g:jq w b t #[u0,u1,u2,u3,u4])(a c d e f:Value):jq (((((w.setCell b a).setCell (b,1) c).setCell (b,2) d).setCell (b,3) e).setCell (b,4) f) b t #[a,c,d,e,f]/\Kp (·=b) w (((((w.setCell b a).setCell (b,1) c).setCell (b,2) d).setCell (b,3) e).setCell (b,4) f):=by
 have h:jq (w.setCell b a) b t #[a,u1,u2,u3,u4]:=g.jR 0 a;have i:jq ((w.setCell b a).setCell (b,1) c) b t #[a,c,u2,u3,u4]:=h.jR 1 c;have j:jq (((w.setCell b a).setCell (b,1) c).setCell (b,2) d) b t #[a,c,d,u3,u4]:=i.jR 2 d;have k:jq ((((w.setCell b a).setCell (b,1) c).setCell (b,2) d).setCell (b,3) e) b t #[a,c,d,e,u4]:=j.jR 3 e;have l:jq (((((w.setCell b a).setCell (b,1) c).setCell (b,2) d).setCell (b,3) e).setCell (b,4) f) b t #[a,c,d,e,f]:=k.jR 4 f;exact⟨l,qM⟩
theorem jq.SQ{b:Nat}{u5 u6 u7: Value}(j:jq w b t #[u0,u1,u2,u3,u4,u5,u6,u7])(a c d e f g h i:Value):jq ((((((((w.setCell b a).setCell (b,1) c).setCell (b,2) d).setCell (b,3) e).setCell (b,4) f).setCell (b,5) g).setCell (b,6) h).setCell (b,7) i) b t #[a,c,d,e,f,g,h,i]/\Kp (·=b) w ((((((((w.setCell b a).setCell (b,1) c).setCell (b,2) d).setCell (b,3) e).setCell (b,4) f).setCell (b,5) g).setCell (b,6) h).setCell (b,7) i):=by
 have k:jq (w.setCell b a) b t #[a,u1,u2,u3,u4,u5,u6,u7]:=j.jR 0 a;have l:jq ((w.setCell b a).setCell (b,1) c) b t #[a,c,u2,u3,u4,u5,u6,u7]:=k.jR 1 c;have m:jq (((w.setCell b a).setCell (b,1) c).setCell (b,2) d) b t #[a,c,d,u3,u4,u5,u6,u7]:=l.jR 2 d;have n:jq ((((w.setCell b a).setCell (b,1) c).setCell (b,2) d).setCell (b,3) e) b t #[a,c,d,e,u4,u5,u6,u7]:=m.jR 3 e;have o:jq (((((w.setCell b a).setCell (b,1) c).setCell (b,2) d).setCell (b,3) e).setCell (b,4) f) b t #[a,c,d,e,f,u5,u6,u7]:=n.jR 4 f;have p:jq ((((((w.setCell b a).setCell (b,1) c).setCell (b,2) d).setCell (b,3) e).setCell (b,4) f).setCell (b,5) g) b t #[a,c,d,e,f,g,u6,u7]:=o.jR 5 g;have q:jq (((((((w.setCell b a).setCell (b,1) c).setCell (b,2) d).setCell (b,3) e).setCell (b,4) f).setCell (b,5) g).setCell (b,6) h) b t #[a,c,d,e,f,g,h,u7]:=p.jR 6 h;have r:jq ((((((((w.setCell b a).setCell (b,1) c).setCell (b,2) d).setCell (b,3) e).setCell (b,4) f).setCell (b,5) g).setCell (b,6) h).setCell (b,7) i) b t #[a,c,d,e,f,g,h,i]:=q.jR 7 i;exact⟨r,qM⟩
theorem xS(w:World)(I:Nat->Prop){v:Value}(p:jl)(y:SliceOf 2 jo w I v p)(x:pU)(c:Class)(i:Nat)(m:M.Method)(t:cls? p x.of=some c)(V:x.at_=i)(u:c.methods[i]?=some m):∃j,jy w I m j/\∀W,Ext w W->Calls prog 203 #[.agg #[v],.agg #[x.of.keeper,x.of.name,x.at_]] W fun n w'=>n=.returned (.agg j.toArray)/\Ext W w':=by
 obtain⟨⟨z,A⟩,ax⟩:=x;simp only at V t;subst V;obtain⟨az,ak,P⟩:=oW w I v p y ⟨z,A⟩ c t;obtain⟨g,h,rfl,hn,aC⟩:=y.form;obtain⟨vf,vm,rfl,hF,r⟩:=ak;obtain⟨fa,fc,rfl,-,aD⟩:=hF.form;obtain⟨ma,X,rfl,-,aG⟩:=r.form;obtain⟨N,Y,j,rfl,-,s,-,U⟩:=r.get u;have au:i<c.methods.length:=(Tt.1 u).1;refine⟨j,s,fun W R=>?_⟩;obtain⟨D,J,E,K,F,L,rfl⟩:=s.form;obtain⟨Z,y1,y2,y3,y4,y5,y6,y7⟩:=U.eight;have di:(i:Int)<c.methods.length:=Zm
 have aA:(0:Int)<=(i:Int):=Zm
 obtain⟨e,f⟩:=S9 (((W.alloc (.cells #[.slice g p.length h] 25)).alloc (.cells #[z,A,i] 66)).alloc (.cells #["",(),Tj,"",Tj,Tj,(),()] 113));have q:Ext W e:=by rw[f];exact Zx
 have G:jq e W 25 #[.slice g p.length h]:=by rw[f];exact(jq.new _ _ _).ext Zx
 have H:jq e (W+1) 66 #[z,A,i]:=by rw[f];exact(jq.after (W:=W.alloc (.cells #[.slice g p.length h] 25)) _ _ Zl).ext Zx
 have aa:Zz (jq e (W+2) 113 #["",(),Tj,"",Tj,Tj,(),()]):=Zy (by rw[f];exact jq.after _ _ Zl);have d:=R.trans q;obtain⟨av,aB,aH,b⟩:=lL e;have p0:=fun a=>(G.ext (b.jC a)).c 0 (.slice g p.length h) rfl;obtain⟨-,d0,d1,d2,-⟩:=jq.pq fun a=>(H.ext (b.jC a));have t0:=fun a=>(d.trans (b.jC a)).jm Z;have t1:=fun a=>(d.trans (b.jC a)).jm y1;have t2:=fun a=>(d.trans (b.jC a)).jm y2;have t3:=fun a=>(d.trans (b.jC a)).jm y3;have t4:=fun a=>(d.trans (b.jC a)).jm y4;have t5:=fun a=>(d.trans (b.jC a)).jm y5;have t6:=fun a=>(d.trans (b.jC a)).jm y6;have t7:=fun a=>(d.trans (b.jC a)).jm y7;have aF:∀W,(Instr.field 38 (.agg #[c.name,c.jE,.slice fa c.fields.length fc,.slice (some ⟨N,Y,none⟩) c.methods.length X]) 3).run prog W=.ok (.slice (some ⟨N,Y,none⟩) c.methods.length X) W:=(fun W=>by kernel_rfl);have⟨ae,af,ah,B⟩:=kD (fun C (aj:Ext e C)=>P C (d.trans aj)) q f b;clear G H q f d b Z y1 y2 y3 y4 y5 y6 y7 U s r hF P y t u R au;go_enter func203,ntmps203;go_upto_region 1 with(fail);rw[<-ah.o];refine lq B 9 [([0,1,2,5,6],3)] [4,7,8] ?_ ?_
 . exact jA
 refine nE ?_;intro K2 T;have o:Ext e e.drew:=jA;go_wp2_with fail;refine(ae _ o).mono ?_;rintro n w4 ⟨rfl,Q⟩;have k:=o.trans Q;have⟨ag,l⟩:=jw k (aa.ext k);go_wp2_with fail;refine kk B T k ?_;clear T K2;refine qX [_,_,_] rfl fun ai S=>?_;(repeat (go_big_quiet_step (fail)));refine qn S ?_;clear S ai;clear o Q k;obtain⟨gz,g0,g1,g2,g3,g4,g5,g6,g7,-⟩:=l.ca;obtain⟨f0,f1,f2,f3,f4,f5,f6,f7,-⟩:=l.fz;go_wp2_with fail;have O:=l.SQ m.name (.slice D m.args.length J) m.ret.kind m.ret.name m.locals m.stack (.slice E m.code.length K) (.slice F m.maps.length L);refine PG (jM DR rfl (W+2) rfl [m.name,.slice D m.args.length J,m.ret.kind,m.ret.name,m.locals,m.stack,.slice E m.code.length K,.slice F m.maps.length L] (hQ.kX O.1) rfl) rfl ?_;exact⟨rfl,(af.trans ag).own O.2 (fun ay n=>Zm)⟩
theorem NC(w:World)(I:Nat->Prop)(hI:∀d,I d->d<w.heap.size){v:Value}(p:jl)(hp:SliceOf 2 jo w I v p)(Z:kv p=true)(k:Int)(Y:has p k=true)(nm f:ByteArray)(bD:jL nm=true)(bC:jL f=true):Calls prog 202 #[.agg #[v],k,nm,f] w fun i w'=>i=.returned (.tuple #[.agg #[.int .i64 (call p k nm f).1.of.keeper,.string (call p k nm f).1.of.name,.int .i64 (call p k nm f).1.at_],.int .i64 (call p k nm f).2])/\Ext w w':=by
 obtain⟨O,P,rfl,hn,bI⟩:=hp.form;obtain⟨e,E⟩:=S9 ((w.alloc (.cells #[.slice O p.length P] 25)).alloc (.cells #[Tj,"",Tj] 66));have Q:Ext w e:=by rw[E];exact Zx
 have aA:Zz (jq e w 25 #[.slice O p.length P]):=Zy (by rw[E];exact(jq.new _ _ _).ext Zx);have bf:Zz (jq e (w+1) 66 #[Tj,"",Tj]):=Zy (by rw[E];exact jq.after _ _ Zl);have U:∀a,Ext e a->∀d,I d->d<a.heap.size:=fun a b d D=>Tf (hI d D) ((Q.trans b).size)
 have s:∀a,Ext e a->SliceOf 2 jo a I (.slice O p.length P) p:=fun a b=>(hp.ext jo.stays Q).ext jo.stays b;have⟨J,aC,aL,aI,HP,bn,bz⟩:=tq (E9 e I (U e Kp.rr) p (s e Kp.rr) Z k Y nm) (fun a (b:Ext e a) r (ho:owned p r=true)=>uo a I (U a b) p (s a b) Z r ho) (fun a (b:Ext e a) bA vc A V ho=>Lm a I p (s a b) bA vc A V ho f) (fun a (b:Ext e a) (aY:Int) (hy:has p aY=true) (cs:List Value) (j:M.Method) (hm:jy a I j cs)=>Fa a I (U a b) _ p (s a b) Z k aY Y hy cs j hm) (s e Kp.rr) Q E;obtain⟨q,o,-⟩:=aA.ca;have N:=Zy (fun b=>Gf (p:=p) (k:=k) (n:=nm) b);obtain⟨G,hG⟩:∃G,call p k nm f=G:=⟨_,rfl⟩;have z:Zz ((if(DZ p k nm).2=1 then
  (match pick p (DZ p k nm).1 f with
  |none=>(M.oN,3)
  |some x=>if jY p k x.of.keeper (M.method p x)then(x,1)else(M.oN,4))
 else(M.oN,(DZ p k nm).2))=G):=Zy (by rw[<-hG];unfold call;rw[IX Y bD bC];rfl)
 rw[hG];obtain⟨aa,hF⟩:∃aa,DZ p k nm=aa:=⟨_,rfl⟩;rw[hF]at J N z;clear hG hF Q E hp Z hI Y s U;obtain⟨⟨t,u⟩,rc⟩:=aa;obtain⟨⟨⟨gk,gn⟩,ga⟩,gc⟩:=G;simp only at J N z |-;go_enter func202,ntmps202;go_upto_region 1 with(fail);rw[<-bz.o];go_wp2_with fail;refine J.mono ?_;rintro i w1 ⟨rfl,aN⟩;obtain⟨w2,aW,aO,b8⟩:=nu w1 #[t,u] 64;have R:=aN.trans aO;have⟨K,aB,af,bg,aK⟩:=nC R (bf.ext R) (aA.ext R) b8 aW;have ae:Zz (∀a,Ext w2 a->jq a (w+1) 66 #[Tj,"",Tj]/\∀v0 v1 v2,Ext w (((a.setCell ⟨w+1,0,none⟩ v0).setCell ⟨w+1,1,none⟩ v1).setCell ⟨w+1,2,none⟩ v2)):=Zy (fun a hW=>⟨aB.ext hW,fun v0 v1 v2=>((bn.trans K).trans hW).own ((aB.ext hW).QL v0 v1 v2).2 (fun d i=>Zm)⟩);clear aN aO R b8 aW o q J;by_cases X:rc=1
 . subst X;obtain⟨av,az,W⟩:=N.o Zl;have⟨aD,ag⟩:=jw (aC w2 K ⟨t,u⟩ az) (yx az);have L:Zz ((match mq p f (chain p ⟨t,u⟩)with
    |none=>(M.oN,(3:Int))
    |some x=>if jY p k x.of.keeper (M.method p x)then(x,1)else(M.oN,4))=(⟨⟨gk,gn⟩,ga⟩,gc)):=Zy (by
     have:=z.o;rw[Ty rfl]at this;unfold pick at this;rw[Ty av]at this;exact this)
   have ah:=Zy (fun x (b:mq p f (chain p ⟨t,u⟩)=some x)=>pM (p:=p) (r:=⟨t,u⟩) (n:=f) (x:=x) (by unfold pick;rw[Ty av];exact b));rw[<-W]at ag;obtain⟨A,V⟩:∃A,chain p ⟨t,u⟩=A:=⟨_,rfl⟩;rw[V]at W L ah ag;have bq:=Zy W.symm;clear av az W V z aC N;obtain⟨q,o,-⟩:=af.ca;obtain⟨rz,r0,r1,-⟩:=bg.ca;go_upto_region 4 with(fail);rw[<-aK.o];go_wp2_with fail;refine aD.mono ?_;rintro i w3 ⟨⟨vl,rfl,hs⟩,S⟩;rw[bq.o]at hs;obtain⟨la,lc,rfl,-,-⟩:=hs.form;have⟨aG,aM⟩:=jw S (aL w3 (K.trans S) _ _ _ hs ag);obtain⟨aj,hO⟩:∃aj,mq p f A=aj:=⟨_,rfl⟩;rw[hO]at aM L ah;have aQ:=af.ext S;clear o q r0 r1 rz S hO aD aL;obtain⟨q,o,-⟩:=aQ.ca;clear aQ;go_wp2_with fail;refine aM.mono ?_;rintro i w4 ⟨rfl,T⟩;cases aj with
   |none=>
    have g:=L.o;simp only at g;cases g;obtain⟨H,F,C,B⟩:=nu w4 #[Tj,"",Tj] 66;have y:=Zy (aG.trans (T.trans C));have⟨c,ai⟩:=jw (ae H y) F;clear T C B F o q;simp only[Vv,Ua,M.oN,q9];obtain⟨gz,g0,g1,g2,-⟩:=c.1.ca;obtain⟨f0,f1,f2,-⟩:=c.1.fz;go_upto_region 7 with(fail);rw[<-ai.o];go_wp2_with fail;refine PG (hU rJ rfl (w+1) rfl [Tj,"",Tj] (hQ.kX (c.1.QL _ _ _).1) rfl) rfl ?_;exact⟨rfl,c.2 _ _ _⟩
   | some x =>
    obtain⟨-,-,bE,cl,j,aX,ax,aU,-,aV⟩:=ah.o x rfl;have aT:M.method p x=j:=by unfold M.method;rw[aV];rfl
    obtain⟨⟨l,xn⟩,xa⟩:=x;obtain⟨H,F,C,B⟩:=nu w4 #[l,xn,xa] 66;have y:=Zy (aG.trans (T.trans C));have aF:=Zy (K.trans y);obtain⟨ms,ay,aS⟩:=xS H I p (HP.ext jo.stays aF) ⟨⟨l,xn⟩,xa⟩ cl bE j ax aX aU;have aR:has p l=true:=(sM (r:=⟨l,xn⟩) (by unfold owned;rw[ax];rfl)).1;have⟨aZ,bG⟩:=jw B ay;obtain⟨bH,bB,bK,n⟩:=lL H;have p0:=fun m=>(af.ext (y.trans (n.jC m))).c 0 (.slice O p.length P) rfl;obtain⟨-,s0,s1,s2,-⟩:=jq.pq fun m=>(B.ext (n.jC m));obtain⟨d,D⟩:∃d,jY p k l j=d:=⟨_,rfl⟩;have aH:Zz ((if d=true then((⟨⟨l,xn⟩,xa⟩:pU),(1:Int))else(M.oN,4))=(⟨⟨gk,gn⟩,ga⟩,gc)):=Zy (by have:=L.o;simp only[aT,D]at this;exact this);have⟨bu,aJ⟩:=jw aS (fun m=>aI.o (bB m) (aF.trans (n.jC m)) l aR ms j (jy.stays _ _ _ _ _ _ (Ext.same (n.jC m)) (fun _ b=>b) ay));rw[D]at aJ;have⟨h,ai⟩:=jw n F;clear T C B F o q ay aS n D aT aV aU ax aX aR aI;simp only[TC,Ul];go_upto_region 8 with(fail);rw[<-ai.o];go_cut [52] (fun bF wx=>bF=.bool !d/\Ext H wx)
    case first=>
     refine zJ h ?_ ?_;rotate_left;(repeat (go_big_quiet_step (first|(go_at_call 203;refine(bu _ (h.jC _)).mono ?_;rintro i w6 ⟨rfl,ak⟩;exact⟨rfl,h.o.o w6 ((h.jC _).trans ak)⟩)|(go_at_call 200;refine(aJ _).mono ?_;rintro i w6 ⟨rfl,ak⟩;exact⟨rfl,h.o.o w6 ((h.jC _).trans ak)⟩))));refine TP ?_;(rintro _ ⟨sW,rfl⟩);rotate_left
     . exact jA
     go_wp2;go_meet;exact⟨rfl,h.jC sW⟩
    obtain⟨rfl,au⟩:=hcut;obtain⟨w9,rfl⟩:∃w9,w9=wc:=⟨_,rfl⟩;have c:=Zy (ae w9 (y.trans au));have aP:=aZ.ext au;obtain⟨xz,x0,x1,x2,-⟩:=aP.ca;obtain⟨gz,g0,g1,g2,-⟩:=c.1.ca;obtain⟨f0,f1,f2,-⟩:=c.1.fz;clear au aP h p0 s0 s1 s2;cases d
    . have g:=aH.o;simp only[U3,Uq]at g;cases g;simp only[Bool.not_false];go_wp2_with fail;refine PG (hU rJ rfl (w+1) rfl [Tj,"",Tj] (hQ.kX (c.1.QL _ _ _).1) rfl) rfl ?_;exact⟨rfl,c.2 _ _ _⟩
    . have g:=aH.o;simp only[Uy]at g;cases g;simp only[Bool.not_true];go_wp2_with fail;refine PG (hU rJ rfl (w+1) rfl [gk,gn,ga] (hQ.kX (c.1.QL _ _ _).1) rfl) rfl ?_;exact⟨rfl,c.2 _ _ _⟩
 . have g:=z.o;rw[T9 X]at g;cases g;have bJ:(rc !=1)=true:=by simpa using X
   clear X;have c:=Zy (ae w2 Kp.rr);obtain⟨gz,g0,g1,g2,-⟩:=c.1.ca;obtain⟨f0,f1,f2,-⟩:=c.1.fz;go_upto_region 3 with(fail);rw[<-aK.o];go_wp2_with fail;refine PG (hU rJ rfl (w+1) rfl [Tj,"",Tj] (hQ.kX (c.1.QL _ _ _).1) rfl) rfl ?_;exact⟨rfl,c.2 _ _ _⟩
theorem hQ.five{b a:Nat}{d e f g h:Value}(c:hQ w b a [d,e,f,g,h]):w.cell? (b,a)=some d/\w.cell? (b,a+1)=some e/\w.cell? (b,a+2)=some f/\w.cell? (b,a+3)=some g/\w.cell? (b,a+4)=some h:=
 ⟨by simpa using c 0 _ rfl,c 1 _ rfl,c 2 _ rfl,c 3 _ rfl,c 4 _ rfl⟩
theorem Mm{l:List α}{k:Nat}{x:α}{q:α->Bool}(b:l[k]?=some x)(a:q x=true):(l.take (k+1)).countP q=(l.take k).countP q+1:=by
 rw[Td,b,List.countP_append];simp[a]
theorem IY{l:List α}{k:Nat}{x:α}{q:α->Bool}(b:l[k]?=some x)(a:q x=false):(l.take (k+1)).countP q=(l.take k).countP q:=by
 rw[Td,b,List.countP_append];simp[a]
theorem ND(w:World)(I:Nat->Prop){v:Value}(p:jl)(C:SliceOf 2 jo w I v p)(J:Nat->Prop)(vl:Value)(b:List oO)(u:SliceOf 5 xY w J vl b)(i:Nat)(f:oO)(z:b[i]?=some f)(e:Class)(hc:cls? p f.of=some e)(W:M.Field)(A:e.fields[(b.take i).countP (fun c=>decide (c.of=f.of))]?=some W):Calls prog 232 #[.agg #[v],vl,i] w fun R w'=>R=.returned W.name/\Ext w w':=by
 obtain⟨P,Q,rfl,hn,aQ⟩:=C.form;obtain⟨la,lc,rfl,B,aR⟩:=u.form;obtain⟨aG,aC,Z⟩:=oW w I _ p C f.of e hc;obtain⟨vf,vm,rfl,hF,hM⟩:=aC;obtain⟨fa,V,rfl,-,aT⟩:=hF.form;obtain⟨ma,mc,rfl,-,aY⟩:=hM.form;obtain⟨w0,ai,q,ae⟩:=nu w #[.slice P p.length Q] 25;have⟨aj,K,ax,N⟩:=kD ae q ai (u.ext xY.stays q);have aV:i<b.length:=(Tt.1 z).1;obtain⟨s,x⟩:∃s,(b.take i).countP (fun c=>decide (c.of=f.of))=s:=⟨_,rfl⟩;rw[x]at A;have⟨HN,L,av,ak,HF⟩:=nC x A hF (fun k (az:Ext w0 k)=>Z k (q.trans az)) z;obtain⟨⟨t,o⟩,aM,aO,aP⟩:=f;clear ai q ae C u Z x A z hF hM hc;go_enter func232,ntmps232;go_wp2_with fail;rw[<-ax.o];go_loopw [7,8] (fun s7 E wr=>∃a d:Nat,a<=i/\d<=a/\s7=.int .i64 d/\E=.int .i64 a/\Ext w0 wr/\Zz ((b.take a).countP (fun c=>decide (c.of=⟨t,o⟩))=d)) (fun _ E _=>i - (intOf E).toNat)
 case atStart=>exact⟨0,0,Tz _,Tu _,rfl,rfl,Kp.rr,Zy Zl⟩
 case round=>
  obtain⟨a,d,hk,aS,rfl,rfl,g,n⟩:=hrel;have l:=Zy g;obtain⟨b1,o1,aH,rfl,-,rfl,-,y⟩:=(N.ext xY.stays g).get HF;obtain⟨H,y1,y2,y3,y4⟩:=y.five;have yz:=jv H;by_cases aX:a<i
  . have dk:(a:Int)<i:=Zm
    have aL:(0:Int)<=(a:Int):=Zm
    have dl:(a:Int)<b.length:=Zm
    have di:(i:Int)<b.length:=Zm
    obtain⟨F,D⟩:∃F,b[a]?=some F:=⟨b[a]'Zm,CU Zm⟩;obtain⟨b2,o2,aI,e2,-,rfl,-,af⟩:=(N.ext xY.stays g).get D;cases e2;obtain⟨x0,x1,x2,x3,x4⟩:=af.five;have xz:=jv x0;have r:=Zy D;obtain⟨⟨G,xn⟩,bg,bn,bq⟩:=F;clear D y af g;rcases Ak G t xn o with⟨rfl,rfl⟩|⟨rfl,aZ,B⟩|⟨aW,ah⟩
    . have m:=Zy (Mm (q:=fun c:oO=>decide (c.of=⟨G,xn⟩)) r Zl);go_wp2_with fail;go_quiet (fail);go_wp2;go_round
      case rel=>exact⟨a+1,d+1,Zm,Zm,Zk,Zk,l.o.trans (Kp.rr.drewN _),Zy (by rw[m.o,n.o])⟩
      case measure=>exact Zj
    . have m:=Zy (IY (q:=fun c:oO=>decide (c.of=⟨G,o⟩)) r (by simpa using B));clear B;go_wp2_with fail;go_quiet (fail);go_wp2;go_round
      case rel=>exact⟨a+1,d,Zm,Zm,rfl,Zk,l.o.trans (Kp.rr.drewN _),Zy (by rw[m.o,n.o])⟩
      case measure=>exact Zj
    . have m:=Zy (IY (q:=fun c:oO=>decide (c.of=⟨t,o⟩)) r (by simp[ah]));clear ah;go_wp2_with fail;go_quiet (fail);go_wp2;go_round
      case rel=>exact⟨a+1,d,Zm,Zm,rfl,Zk,l.o.trans (Kp.rr.drewN _),Zy (by rw[m.o,n.o])⟩
      case measure=>exact Zj
  . have dk:¬(a:Int)<i:=Zm
    have dl:(i:Int)<b.length:=Zm
    have aK:(0:Int)<=(i:Int):=Zm
    have aD:a=i:=Zm
    subst aD;have aB:d=s:=by rw[<-HN.o,<-n.o]
    subst aB;obtain⟨X,Y,aN,rfl,-,rfl,-,ag⟩:=((av.ext lI.stays K).ext lI.stays g).get L;obtain⟨U,f1,f2⟩:=ag.three;have dN:(d:Int)<e.fields.length:=Te ((Tt.1 L).1)
    have aJ:(0:Int)<=(d:Int):=Zm
    obtain⟨aF,fW,bf,j⟩:=lL wr;have p0:=fun h=>(aj.ext (g.trans (j.jC h))).c 0 (.slice P p.length Q) rfl;have s0:=fun h=>(j.jC h).jm H;have s1:=fun h=>(j.jC h).jm y1;have t0:=fun h=>(j.jC h).jm U;have aU:∀k,(Instr.field 38 (.agg #[e.name,e.jE,.slice (some ⟨X,Y,none⟩) e.fields.length V,.slice ma e.methods.length mc]) 2).run prog k=.ok (.slice (some ⟨X,Y,none⟩) e.fields.length V) k:=(fun k=>by kernel_rfl);have O:=Zy j;clear g y ag U f1 f2 H y1 y2 y3 y4 j;go_wp2_with fail;refine lq O 12 [([0,1,2,3,4,5,8],6)] [7,9,10,11] ?_ ?_
    . exact jA
    refine nE ?_;intro K2 aa;have T:Ext wr wr.drew:=jA;go_wp2_with fail;refine(ak _ (l.trans T)).mono ?_;rintro R w4 ⟨rfl,aA⟩;have S:=T.trans aA;have au:=Zy S;go_wp2_with fail;refine kk O aa S ?_;clear aa K2;refine qX [_,_,_,_] rfl fun ay hK=>?_;(repeat (go_big_quiet_step (fail)));refine qn hK ?_;clear hK ay;go_wp2;go_ret;exact⟨rfl,K.trans (l.trans au)⟩
theorem Mw{m:ByteArray}{f:oO}(a:fieldName p r f=m):pO p k m r (f::l)=if agree p k f.of.keeper f.kind then(f,1)else(vZ,4):=by
 rw[pO,Ty a]
theorem KD{m:ByteArray}{f:oO}(a:fieldName p r f≠m):pO p k m r (f::l)=pO p k m r l:=by
 rw[pO,T9 a]
theorem MS{k:Nat}{f:oO}(e:(layout p r)[k]?=some f):∃a b,cls? p f.of=some a/\a.fields[((layout p r).take k).countP (fun g=>decide (g.of=f.of))]?=some b/\fieldName p r f=b.name/\has p f.of.keeper=true:=by
 obtain⟨h,j,l,n,b,d,i,-⟩:=sG e;obtain⟨a,c⟩:=M.mr (oG (Gd h j)).2;have m:=(Tt.1 d).1;rw[KP e i Zm];refine⟨a,b,c,by rw[<-uG c];exact d,AP d Zm,(sM (by unfold owned;rw[c];rfl)).1⟩
theorem PU(w:World)(I:Nat->Prop)(hI:∀l,I l->l<w.heap.size){v:Value}(p:jl)(hp:SliceOf 2 jo w I v p)(aa:kv p=true)(k:Int)(Z:has p k=true)(nm f:ByteArray)(n:jL nm=true)(bz:jL f=true):Calls prog 206 #[.agg #[v],k,nm,f] w fun t w'=>t=.returned (.tuple #[.agg #[.int .i64 (M.get p k nm f).1.of.keeper,.string (M.get p k nm f).1.of.name,.int .i64 (M.get p k nm f).1.at_,.int .i64 (M.get p k nm f).1.kind.kind,.string (M.get p k nm f).1.kind.name],.int .i64 (M.get p k nm f).2])/\Ext w w':=by
 obtain⟨R,S,rfl,hn,bE⟩:=hp.form;obtain⟨g,E⟩:=S9 ((w.alloc (.cells #[.slice R p.length S] 25)).alloc (.cells #[Tj,"",Tj,Tj,""] 173));have U:Ext w g:=by rw[E];exact Zx
 have aA:Zz (jq g w 25 #[.slice R p.length S]):=Zy (by rw[E];exact(jq.new _ _ _).ext Zx);have aY:Zz (jq g (w+1) 173 #[Tj,"",Tj,Tj,""]):=Zy (by rw[E];exact jq.after _ _ Zl);have W:∀a,Ext g a->∀l,I l->l<a.heap.size:=fun a c l hb=>Tf (hI l hb) ((U.trans c).size)
 have D:∀a,Ext g a->SliceOf 2 jo a I (.slice R p.length S) p:=fun a c=>(hp.ext jo.stays U).ext jo.stays c;have⟨L,aF,aH,az,bf,bq⟩:=pR (E9 g I (W g Kp.rr) p (D g Kp.rr) aa k Z nm) (fun a (c:Ext g a) r (ho:owned p r=true)=>JK a I (W a c) p (D a c) aa r ho) (fun a (c:Ext g a) aJ vl e (m:SliceOf 5 xY a aJ vl e) H aj hf cl hc C Y=>ND a I p (D a c) aJ vl e m H aj hf cl hc C Y) (fun a (c:Ext g a) (aX:Int) (hy:has p aX=true) (d:Kind)=>E8 a I (W a c) _ p (D a c) aa k aX Z hy d) U E;obtain⟨B,A,-⟩:=aA.ca;have Q:=Zy (fun c=>Gf (p:=p) (k:=k) (n:=nm) c);obtain⟨G,hG⟩:∃G,M.get p k nm f=G:=⟨_,rfl⟩;have z:Zz ((if(DZ p k nm).2=1 then pO p k f (DZ p k nm).1 (layout p (DZ p k nm).1)else(vZ,(DZ p k nm).2))=G):=Zy (by rw[<-hG];unfold M.get;rw[IX Z n bz]);rw[hG];obtain⟨ae,hF⟩:∃ae,DZ p k nm=ae:=⟨_,rfl⟩;rw[hF]at L Q z;clear hG hF U E hp aa hI Z D W;obtain⟨⟨u,x⟩,rc⟩:=ae;obtain⟨⟨⟨gk,gn⟩,ga,ak,au⟩,gc⟩:=G;simp only at L Q z |-;go_enter func206,ntmps206;go_upto_region 1 with(fail);rw[<-bq.o];go_wp2_with fail;refine L.mono ?_;rintro t w1 ⟨rfl,aK⟩;obtain⟨w2,aU,aL,b8⟩:=nu w1 #[u,x] 64;have V:=aK.trans aL;have⟨N,aB,ag,aZ,aI⟩:=nC V (aY.ext V) (aA.ext V) b8 aU;have af:Zz (∀a,Ext w2 a->jq a (w+1) 173 #[Tj,"",Tj,Tj,""]/\∀v0 v1 v2 v3 v4,Ext w (((((a.setCell ⟨w+1,0,none⟩ v0).setCell ⟨w+1,1,none⟩ v1).setCell ⟨w+1,2,none⟩ v2).setCell ⟨w+1,3,none⟩ v3).setCell ⟨w+1,4,none⟩ v4)):=
  Zy (fun a hW=>⟨aB.ext hW,fun v0 v1 v2 v3 v4=>((bf.trans N).trans hW).own ((aB.ext hW).Px v0 v1 v2 v3 v4).2 (fun l t=>Zm)⟩)
 clear aK aL V b8 aU A B L;by_cases X:rc=1
 . subst X;obtain⟨aR,aT,-⟩:=Q.o rfl;have b:=z.o;rw[Ty rfl]at b;have⟨ah,P⟩:=jw b (aF w2 N ⟨u,x⟩ aT);rw[He aR]at P;have ai:=Zy (fun k aj (c:(layout p ⟨u,x⟩)[k]?=some aj)=>MS c);obtain⟨e,m⟩:∃e,layout p ⟨u,x⟩=e:=⟨_,rfl⟩;rw[m]at P ai ah;clear b m aR aT Q z aF;obtain⟨B,A,-⟩:=ag.ca;obtain⟨rz,r0,r1,-⟩:=aZ.ca;go_upto_region 4 with(fail);rw[<-aI.o];go_wp2_with fail;refine P.mono ?_;rintro t w3 ⟨⟨vl,rfl,m⟩,aM⟩;obtain⟨la,lc,rfl,bH,bF⟩:=m.form;have⟨bg,HL⟩:=jw aM m;clear A B r0 r1 rz aM m P;go_wp2;go_loopw [13] (fun H wr=>∃d:Nat,d<=e.length/\H=.int .i64 d/\Ext w3 wr/\Zz (pO p k f ⟨u,x⟩ (e.drop d)=((⟨⟨gk,gn⟩,ga,⟨ak,au⟩⟩:oO),gc))) (fun H _=>e.length - (intOf H).toNat)
   case atStart=>exact⟨0,Tz _,rfl,Kp.rr,Zy (by simpa using ah.o)⟩
   case round=>
    obtain⟨d,hq,rfl,T,HA⟩:=hrel;have⟨HE,o⟩:=jw T (bg.trans T);have⟨i,aD⟩:=jw (af wr o) (HL.ext xY.stays T);clear T;by_cases aS:d<e.length
    . have dk:(d:Int)<e.length:=Zm
      have bD:(0:Int)<=(d:Int):=Zm
      obtain⟨J,F⟩:∃J,e[d]?=some J:=⟨e[d]'aS,CU aS⟩;obtain⟨cl,C,aO,Y,aP,aQ⟩:=ai.o d J F;have⟨aG,HD,HX,aC,bn⟩:=nC (aH wr (N.trans o) _ _ e aD d J F cl aO C Y) (mM F) F aP aQ;obtain⟨B,A,-⟩:=(ag.ext o).ca;clear F aO Y aP aQ;go_wp2_with fail;refine aG.mono ?_;rintro t w4 ⟨rfl,aN⟩;have y:=Zy aN;clear A B aN aG;by_cases n:C.name=f
      . have b:=HA.o;rw[HD.o,Mw (aC.o.trans n)]at b;have O:=Zy b;obtain⟨b1,o1,bC,rfl,-,rfl,-,ax⟩:=(aD.ext xY.stays y).get HX;obtain⟨x0,x1,x2,x3,x4⟩:=ax.five;have HY:=Zy ax;obtain⟨⟨xk,xn⟩,bK,⟨aV,aW⟩⟩:=J;have ay:=Zy (fun a (c:Ext w4 a)=>az.o a ((N.trans o).trans (y.trans c)) xk bn ⟨aV,aW⟩);obtain⟨K,hB⟩:∃K,agree p k xk ⟨aV,aW⟩=K:=⟨_,rfl⟩;simp only at O;rw[hB]at ay O;obtain⟨bB,fW,bJ,j⟩:=lL w4;have p0:=fun h=>(ag.ext ((o.trans y).trans (j.jC h))).c 0 (.slice R p.length S) rfl;have s0:=fun h=>(j.jC h).jm x0;have s1:=fun h=>(j.jC h).jm x1;have s2:=fun h=>(j.jC h).jm x2;have s3:=fun h=>(j.jC h).jm x3;have s4:=fun h=>(j.jC h).jm x4;have s:=Zy j;clear b hB x0 x1 x2 x3 x4 ax j ah ai aH az;rw[n];go_upto_region 9 with(fail);go_cut [54] (fun bA wx=>bA=.bool !K/\Ext w4 wx)
        case first=>
         refine zJ s ?_ ?_;rotate_left;(repeat (go_big_quiet_step (first|(go_at_call 227;refine(ay _ (s.jC _)).mono ?_;rintro t w6 ⟨rfl,bu⟩;exact⟨rfl,s.o.o w6 ((s.jC _).trans bu)⟩))));refine TP ?_;(rintro _ ⟨sW,rfl⟩);rotate_left
         . exact jA
         go_wp2;go_meet;exact⟨rfl,s.jC sW⟩
        obtain⟨rfl,av⟩:=hcut;obtain⟨w9,rfl⟩:∃w9,w9=wc:=⟨_,rfl⟩;have q:=Zy (af w9 ((o.trans y).trans av));obtain⟨y0,y1,y2,y3,y4⟩:=(HY.ext av).five;have yz:=jv y0;obtain⟨gz,g0,g1,g2,g3,g4,-⟩:=q.1.ca;obtain⟨f0,f1,f2,f3,f4,-⟩:=q.1.fz;clear av s p0 s0 s1 s2 s3 s4;cases K
        . have b:=O.o;simp only[U3,Uq]at b;cases b;simp only[Bool.not_false];go_wp2_with fail;refine PG (hU rH rfl (w+1) rfl [Tj,"",Tj,Tj,""] (hQ.kX (q.1.Px _ _ _ _ _).1) rfl) rfl ?_;exact⟨rfl,q.2 _ _ _ _ _⟩
        . have b:=O.o;simp only[Uy]at b;cases b;simp only[Bool.not_true];go_wp2_with fail;refine PG (hU rH rfl (w+1) rfl [gk,gn,ga,ak,au] (hQ.kX (q.1.Px _ _ _ _ _).1) rfl) rfl ?_;exact⟨rfl,q.2 _ _ _ _ _⟩
      . have HN:Zz (pO p k f ⟨u,x⟩ (e.drop (d+1))=((⟨⟨gk,gn⟩,ga,⟨ak,au⟩⟩:oO),gc)):=Zy (by rw[<-HA.o,HD.o,KD (by rw[aC.o];exact n)]);have bI:(C.name.toList==f.toList)=false:=by rw[uB];exact SS n
        clear n;go_wp2;go_round
        case rel=>exact⟨d+1,Zm,Zk,HE.o.trans y.o,HN⟩
        case measure=>exact Zj
    . have dk:¬(d:Int)<e.length:=Zm
      have b:=HA.o;rw[U6 Zm]at b;unfold pO at b;cases b;obtain⟨gz,g0,g1,g2,g3,g4,-⟩:=i.1.ca;obtain⟨f0,f1,f2,f3,f4,-⟩:=i.1.fz;go_wp2_with fail;refine PG (hU rH rfl (w+1) rfl [Tj,"",Tj,Tj,""] (hQ.kX (i.1.Px _ _ _ _ _).1) rfl) rfl ?_;exact⟨rfl,i.2 _ _ _ _ _⟩
 . have b:=z.o;rw[T9 X]at b;cases b;have bG:(rc !=1)=true:=by simpa using X
   clear X;have i:=Zy (af w2 Kp.rr);obtain⟨gz,g0,g1,g2,g3,g4,-⟩:=i.1.ca;obtain⟨f0,f1,f2,f3,f4,-⟩:=i.1.fz;go_upto_region 3 with(fail);rw[<-aI.o];go_wp2_with fail;refine PG (hU rH rfl (w+1) rfl [Tj,"",Tj,Tj,""] (hQ.kX (i.1.Px _ _ _ _ _).1) rfl) rfl ?_;exact⟨rfl,i.2 _ _ _ _ _⟩
structure nA(B:Nat)(w:World)(I:Nat->Prop)(v:Value)(p:jl):Prop where
 sl:SliceOf 2 jo w I v p
 lt:∀b,I b->b<B
 le:B<=w.heap.size
 ok:kv p=true
theorem nA.kp{e: World}(a:nA c w I v p)(d:Kp D w e)(f:∀b,D b->c<=b):nA c e I v p:=
 ⟨a.sl.keep jo.stays (d.same fun b g h=>Tf (a.lt b g) (f b h)) (fun _ a=>a),a.lt,TV a.le d.size,a.ok⟩
theorem nA.ext{a:Nat}{b: World}(c:nA a w I v p)(d:Ext w b):nA a b I v p:=c.kp d (fun _ e=>e.elim)
theorem nA.blk(b:nA c w I v p):∀a,I a->a<w.heap.size:=fun a d=>Ta (b.lt a d) b.le
theorem IJ:zQ 236 2:=⟨_,underlying236,Zo⟩
theorem yZ(w:World)(k:Kind):Calls prog 159 #[.agg #[k.kind,k.name]] w fun h A=>h=.returned (.agg #[.int .i64 (kH k).kind,.string (kH k).name])/\Ext w A:=by
 obtain⟨kk,a⟩:=k;obtain⟨b,c⟩:=S9 ((w.alloc (.cells #[kk,a] 109)).alloc (.cells #[Tj,""] 236));have s:Ext w b:=by rw[c];exact Zx
 have o:Zz (jq b w 109 #[kk,a]):=Zy (by rw[c];exact(jq.new _ _ _).ext Zx);have v:Zz (jq b (w+1) 236 #[Tj,""]):=Zy (by rw[c];exact jq.after _ _ Zl);have g:=Zy (zL kk a b);obtain⟨d,i⟩:∃d,mg ⟨kk,a⟩=d:=⟨_,rfl⟩;have t:kH ⟨kk,a⟩=if d=true then⟨kk,a⟩else wU:=by unfold kH;rw[i]
 rw[t];rw[i]at g;obtain⟨r,p,q,-⟩:=o.ca;have⟨x,z⟩:=jw s c;clear s c i t;go_enter func159,ntmps159;go_upto_region 1 with(fail);rw[<-z.o];go_wp2_with fail;refine g.mono ?_;rintro h B ⟨rfl,e⟩;have y:=Zy e;have f:=v.ext e;have u:=o.ext e;obtain⟨H,F,G,-⟩:=f.ca;obtain⟨D,E,-⟩:=f.fz;have n:=Zy f;clear p q r;obtain⟨r,p,q,-⟩:=u.ca;clear e f u g;have m:Zz (∀j l,Ext w ((B.setCell ⟨w+1,0,none⟩ j).setCell ⟨w+1,1,none⟩ l)):=Zy (fun j l=>(x.trans y).own (Kp.duo (D:=(·=w+1)) rfl j l) (fun C h=>Zm));cases d
 . go_wp2_with fail;refine PG (jM IJ rfl (w+1) rfl [Tj,""] (hQ.kX (n.duo _ _)) rfl) rfl ?_;exact⟨rfl,m _ _⟩
 . go_wp2_with fail;refine PG (jM IJ rfl (w+1) rfl [kk,a] (hQ.kX (n.duo _ _)) rfl) rfl ?_;exact⟨rfl,m _ _⟩
theorem JM(aI:Nat)(w:World)(I:Nat->Prop){v:Value}(p:jl)(l:nA aI w I v p)(k:Int)(hk:has p k=true)(a b:Tag):Calls prog 201 #[.agg #[v],k,.agg #[a.kind,a.name],.agg #[b.kind,b.name]] w fun F w'=>F=.returned (.bool (may p k a b))/\Ext w w':=by
 obtain⟨z,A,rfl,hn,aT⟩:=l.sl.form;obtain⟨e,f⟩:=a;obtain⟨g,h⟩:=b;obtain⟨i,s⟩:=S9 (((w.alloc (.cells #[.slice z p.length A] 25)).alloc (.cells #[e,f] 236)).alloc (.cells #[g,h] 236));have r:Ext w i:=by rw[s];exact Zx
 have B:Zz (jq i w 25 #[.slice z p.length A]):=Zy (by rw[s];exact(jq.new _ _ _).ext Zx);have ag:Zz (jq i (w+1) 236 #[e,f]):=Zy (by rw[s];exact(jq.after (W:=w.alloc (.cells #[.slice z p.length A] 25)) _ _ Zl).ext Zx);have Q:Zz (jq i (w+2) 236 #[g,h]):=Zy (by rw[s];exact jq.after _ _ Zl);have⟨T,HU,j,m⟩:=kD (fun W (d:Ext i W) nm=>zM W I (l.ext (r.trans d)).blk _ p (l.ext (r.trans d)).sl l.ok k hk nm) (fun W (d:Ext i W) af top hl=>Ll W I (l.ext (r.trans d)).blk p (l.ext (r.trans d)).sl l.ok af top hl) r s;have E:=B.c 0 (.slice z p.length A) rfl;obtain⟨-,c1,c2,-⟩:=ag.ca;obtain⟨-,c3,Z,-⟩:=Q.ca;have N:=B.lt;have z2:=ag.lt;have O:=Q.lt;obtain⟨n,hR⟩:∃n,may p k ⟨e,f⟩ ⟨g,h⟩=n:=⟨_,rfl⟩;rw[hR];have C:=Zy hR;clear r s l hk hR;by_cases H:g=0
 . subst H;have c:n=true:=by rw[<-C.o];unfold may;rw[Ty (.inl rfl)]
   subst c;go_enter func201,ntmps201;go_wp2_with fail;rw[<-m.o];go_ret;exact⟨rfl,j⟩
 have aP:(g==0)=false:=by simpa using H
 have ah:=Zy H;clear H;rcases Ak e g f h with⟨rfl,rfl⟩|ae
 . have c:n=true:=by rw[<-C.o];unfold may;rw[Ty (.inr rfl)]
   subst c;go_enter func201,ntmps201;go_wp2_with fail;rw[<-m.o];go_ret;exact⟨rfl,j⟩
 have aF:¬(g=0\/(⟨e,f⟩:Tag)=⟨g,h⟩):=by
  rintro(d|d)
  . exact ah d
  . cases d;rcases ae with⟨-,-,d⟩|⟨-,d⟩
    . exact d rfl
    . exact d rfl
 have Y:Zz ((if g≠2 then false else if e=3 then true else if e≠2 then false else decide ((find p k f).2=1)&&decide ((find p k h).2=1)&&under p (find p k f).1 (find p k h).1)=n):=Zy (by rw[<-C.o];unfold may;rw[T9 aF]);have o:((e==g)=false\/(e=g/\(f.toList==h.toList)=false)):=by
  rcases ae with⟨h1,h2,-⟩|⟨h1,-⟩
  . exact .inr ⟨h1,h2⟩
  . exact .inl h1
 clear aF ae C;go_enter func201,ntmps201;by_cases J:g=2;rotate_left
 . have c:=Y.o;rw[Ty J]at c;subst c;have aS:(g !=2)=true:=by simpa using J
   clear J;rcases o with o|⟨rfl,o⟩
   . go_wp2_with fail;rw[<-m.o];go_ret;exact⟨rfl,j⟩
   . go_wp2_with fail;rw[<-m.o];go_ret;exact⟨rfl,j⟩
 subst J;have c:=Y.o;rw[T9 Zn]at c;by_cases G:e=3
 . subst G;rw[Ty rfl]at c;subst c;go_wp2_with fail;rw[<-m.o];go_ret;exact⟨rfl,j⟩
 rw[T9 G]at c;have aO:(e==3)=false:=by simpa using G
 clear G;by_cases y:e=2;rotate_left
 . rw[Ty y]at c;subst c;have aQ:(e !=2)=true:=by simpa using y
   have aR:(e==2)=false:=by simpa using y
   clear y o;go_wp2_with fail;rw[<-m.o];go_ret;exact⟨rfl,j⟩
 subst y;rw[T9 Zn]at c;have o:(f.toList==h.toList)=false:=by simpa using o
 have⟨X,R,U,V⟩:=kD (fun d=>Ae (p:=p) (k:=k) (n:=f) d) (fun d=>(BG (p:=p) (k:=k) (n:=f) d).2) (T i Kp.rr f) (fun W (d:Ext i W)=>T.o W d h);obtain⟨FA,aC⟩:∃P,find p k f=P:=⟨_,rfl⟩;obtain⟨FB,aD⟩:∃P,find p k h=P:=⟨_,rfl⟩;rw[aC]at c X R U;rw[aD]at c V;have D:=Zy c;obtain⟨⟨xk,xn⟩,xc⟩:=FA;obtain⟨⟨yk,yn⟩,yc⟩:=FB;clear c aC aD T aO aP ah Y;simp only at D X R U V;go_upto_region 9 with(fail);rw[<-m.o];clear o;go_wp2_with fail;refine U.mono ?_;rintro F w1 ⟨rfl,ax⟩;obtain⟨w2,aG,ay,b9⟩:=nu w1 #[xk,xn] 64;have u:=ax.trans ay;have⟨t,aL,aJ,aM⟩:=kD u (V w2 u) b9 aG;have q:=B.ext u;have aa:=Q.ext u;clear E c1 c2 c3 Z N z2 O ax ay aG u b9;have E:=q.c 0 (.slice z p.length A) rfl;have Z:=aa.c 1 h rfl;have N:=q.lt;have O:=aa.lt;clear q aa;go_upto_region 10 with(fail);rw[<-aM.o];go_wp2_with fail;refine aL.mono ?_;rintro F w3 ⟨rfl,az⟩;obtain⟨w4,aH,aA,au⟩:=nu w3 #[yk,yn] 64;have x:=az.trans aA;have⟨S,aN⟩:=jw x aH;have q:=B.ext (t.trans x);have av:=aJ.ext x;clear E Z N O az aA aH;obtain⟨N,E,-⟩:=q.ca;obtain⟨z2,r0,r1,-⟩:=av.ca;obtain⟨O,q0,q1,-⟩:=au.ca;have ai:=Zy (fun af top hl=>HU.o w4 (t.trans x) af top hl);clear q av au x HU;go_upto_region 11 with(fail);rw[<-aN.o];by_cases K:xc=1
 . subst K;by_cases L:yc=1
   . subst L;have aj:=Zy (ai ⟨xk,xn⟩ ⟨yk,yn⟩ (X rfl));have c:=D.o;unfold under at c;rw[R.o rfl]at c;simp only[decide_true,TJ]at c;rw[c]at aj;clear c ai;go_wp2_with fail;refine aj.mono ?_;rintro F w5 ⟨rfl,aB⟩;have aK:=Zy aB;clear aB;go_wp2;go_ret;exact⟨rfl,j.trans ((t.trans S).trans aK)⟩
   . have c:n=false:=by rw[<-D.o];simp[L]
     subst c;have aV:(yc==1)=false:=by simpa using L
     clear L;go_wp2;go_ret;exact⟨rfl,j.trans (t.trans S)⟩
 . have c:n=false:=by rw[<-D.o];simp[K]
   subst c;have aU:(xc==1)=false:=by simpa using K
   clear K;go_wp2;go_ret;exact⟨rfl,j.trans (t.trans S)⟩
theorem GN(F:Nat)(w:World)(I:Nat->Prop){v:Value}(p:jl)(A:nA F w I v p)(k:Int)(R:has p k=true)(J K:Nat->Prop){Y Z:Value}{b lb:List Tag}(B:SliceOf 2 jZ w J Y b)(j:SliceOf 2 jZ w K Z lb):Calls prog 160 #[.agg #[v],k,Y,Z] w fun P w'=>P=.returned (.bool (Cv p k b lb))/\Ext w w':=by
 obtain⟨V,W,rfl,hn,ay⟩:=A.sl.form;obtain⟨aa,ac,rfl,aB,az⟩:=B.form;obtain⟨ba,bc,rfl,aC,aA⟩:=j.form;obtain⟨w0,U,q,z⟩:=nu w #[.slice V p.length W] 25;have⟨HM,HA,HB,ae,x,L⟩:=pR (fun n (s:Ext w0 n) ah o=>JM F n I p (A.ext (q.trans s)) k R ah o) (B.ext jZ.stays q) (j.ext jZ.stays q) z q U;obtain⟨f,t⟩:∃f,Cv p k b lb=f:=⟨_,rfl⟩;rw[t];unfold Cv at t;have H:=Zy t;clear q U A R t B j z;go_enter func160,ntmps160;by_cases g:b.length=lb.length;rotate_left
 . have c:false=f:=by rw[<-H.o,SS g,TB]
   have S:((b.length:Int) !=(lb.length:Int))=true:=by simpa using(fun s:(b.length:Int)=lb.length=>g Zm)
   clear g;subst c;go_wp2_with fail;rw[<-L.o];go_ret;exact⟨rfl,x⟩
 have c:=H.o;rw[Tw g,TJ]at c;have ag:=Zy c;have S:((b.length:Int) !=(lb.length:Int))=false:=by rw[g];simp
 have af:=Zy g;clear c g;go_wp2_with fail;rw[<-L.o];clear S;go_loopw [9] (fun E wr=>∃a:Nat,a<=b.length/\E=.int .i64 a/\Ext w0 wr/\Zz (mU p k (b.drop a) (lb.drop a)=f)) (fun E _=>b.length - (intOf E).toNat)
 case atStart=>exact⟨0,Tz _,rfl,Kp.rr,Zy (by simpa using ag.o)⟩
 case round=>
  obtain⟨a,hq,rfl,i,y⟩:=hrel;have r:=Zy i;by_cases T:a<b.length
  . have dk:(a:Int)<b.length:=Zm
    have dl:(a:Int)<lb.length:=Te af.o
    have av:(0:Int)<=(a:Int):=Zm
    obtain⟨l,C⟩:∃l,b[a]?=some l:=⟨b[a]'T,CU T⟩;obtain⟨m,D⟩:∃m,lb[a]?=some m:=⟨lb[a]'Zm,CU Zm⟩;obtain⟨z,o1,ak,rfl,-,rfl,-,N⟩:=(HA.ext jZ.stays i).get C;obtain⟨b2,o2,au,rfl,-,rfl,-,O⟩:=(HB.ext jZ.stays i).get D;obtain⟨x0,x1⟩:=N.two;obtain⟨y0,y1⟩:=O.two;have Q:mU p k (b.drop a) (lb.drop a)=(may p k l m&&mU p k (b.drop (a+1)) (lb.drop (a+1))):=by rw[mM C,mM D];rfl
    have⟨u,G⟩:=jw Q (fun n (s:Ext wr n)=>HM.o n (r.trans s) l m);obtain⟨o,j⟩:∃o,may p k l m=o:=⟨_,rfl⟩;rw[j]at G u;obtain⟨xk,xn⟩:=l;obtain⟨yk,yn⟩:=m;obtain⟨aj,ax,aD,e⟩:=lL wr;have p0:=fun d=>(ae.ext (i.trans (e.jC d))).c 0 (.slice V p.length W) rfl;have s0:=fun d=>(e.jC d).jm x0;have s1:=fun d=>(e.jC d).jm x1;have t0:=fun d=>(e.jC d).jm y0;have t1:=fun d=>(e.jC d).jm y1;have h:=Zy e;clear C D N O x0 x1 y0 y1 j i e Q;go_wp2_with fail;refine zJ h ?_ ?_;rotate_left;(repeat (go_big_quiet_step (first|(go_at_call 201;refine(G _ (h.jC _)).mono ?_;rintro P w6 ⟨rfl,ai⟩;exact⟨rfl,h.o.o w6 ((h.jC _).trans ai)⟩))));refine TP ?_;(rintro _ ⟨X,rfl⟩);rotate_left
    . exact jA
    cases o
    . have c:false=f:=by rw[<-y.o,u.o,TB]
      subst c;go_wp2;go_ret;exact⟨rfl,(x.trans r).trans (h.jC X)⟩
    . have HN:Zz (mU p k (b.drop (a+1)) (lb.drop (a+1))=f):=Zy (by rw[<-y.o,u.o,TJ]);go_wp2;go_round
      case rel=>exact⟨a+1,Zm,Zk,r.o.trans (h.o.jC X),HN⟩
      case measure=>exact Zj
  . have dk:¬(a:Int)<b.length:=Zm
    have c:true=f:=by rw[<-y.o,U6 Zm];unfold mU;rfl
    subst c;clear i;go_wp2;go_ret;exact⟨rfl,x.trans r⟩
theorem Fb(n:Nat)(w:World)(I:Nat->Prop){v:Value}(p:jl)(m:nA n w I v p)(k:Int)(z:has p k=true)(J K:Nat->Prop)(T vs:Value)(f:lU)(hl:SliceOf 2 jZ w J T f.locals)(A:SliceOf 2 jZ w J vs f.stack)(x:SMap)(cs:List Value)(hx:mI w K x cs):Calls prog 124 #[.agg #[v],k,.agg #[T,vs],.agg cs.toArray] w fun s w'=>s=.returned (.bool (yE p k f x))/\Ext w w':=by
 obtain⟨g,h,rfl,hn,aa⟩:=m.sl.form;obtain⟨xl,xs,rfl,B,C⟩:=hx;obtain⟨D,E,rfl,-,-⟩:=hl.form;obtain⟨F,G,rfl,-,-⟩:=A.form;obtain⟨H,L,rfl,-,-⟩:=B.form;obtain⟨N,O,rfl,-,-⟩:=C.form;obtain⟨c,e⟩:=S9 (((w.alloc (.cells #[.slice g p.length h] 25)).alloc (.cells #[.slice D f.locals.length E,.slice F f.stack.length G] 195)).alloc (.cells #[x.at_,.slice H x.locals.length L,.slice N x.stack.length O] 198));have a:Ext w c:=by rw[e];exact Zx
 have i:Zz (jq c w 25 #[.slice g p.length h]):=Zy (by rw[e];exact(jq.new _ _ _).ext Zx);have j:Zz (jq c (w+1) 195 #[.slice D f.locals.length E,.slice F f.stack.length G]):=Zy (by rw[e];exact(jq.after (W:=w.alloc (.cells #[.slice g p.length h] 25)) _ _ Zl).ext Zx);have l:Zz (jq c (w+2) 198 #[x.at_,.slice H x.locals.length L,.slice N x.stack.length O]):=Zy (by rw[e];exact jq.after _ _ Zl);have⟨o,P,Q,X⟩:=kD (GN n c I p (m.ext a) k z J K (hl.ext jZ.stays a) (B.ext jZ.stays a)) (fun W (t:Ext c W)=>GN n W I p (m.ext (a.trans t)) k z J K ((A.ext jZ.stays a).ext jZ.stays t) ((C.ext jZ.stays a).ext jZ.stays t)) a e;have Z:=i.c 0 (.slice g p.length h) rfl;have c1:=j.c 0 (.slice D f.locals.length E) rfl;have c2:=l.c 1 (.slice H x.locals.length L) rfl;have z1:=i.lt;have z2:=j.lt;have z3:=l.lt;obtain⟨R,d⟩:∃R,yE p k f x=R:=⟨_,rfl⟩;rw[d];unfold yE at d;obtain⟨Y,u⟩:∃r,Cv p k f.locals x.locals=r:=⟨_,rfl⟩;obtain⟨b2,y⟩:∃r,Cv p k f.stack x.stack=r:=⟨_,rfl⟩;rw[u,y]at d;rw[u]at o;rw[y]at P;clear a e m z hl A B C u y;go_enter func124,ntmps124;go_upto_region 1 with(fail);rw[<-X.o];go_wp2_with fail;refine o.mono ?_;rintro s w1 ⟨rfl,b⟩;have q:=Zy b;have c3:=(i.ext b).c 0 (.slice g p.length h) rfl;have c4:=(j.ext b).c 1 (.slice F f.stack.length G) rfl;have c5:=(l.ext b).c 2 (.slice N x.stack.length O) rfl;have z4:=(i.ext b).lt;have z5:=(j.ext b).lt;have z6:=(l.ext b).lt;clear Z c1 c2 z1 z2 z3 b o;cases Y
 . subst d;go_wp2;go_ret;exact⟨rfl,Q.trans q⟩
 . have U:=Zy (P w1 q);rw[TJ]at d;subst d;go_wp2_with fail;refine U.mono ?_;rintro s w2 ⟨rfl,S⟩;have V:=Zy S;clear S;go_wp2;go_ret;exact⟨rfl,Q.trans (q.trans V)⟩
def Sd(w':World)(I:Nat->Prop)(o:Option SMap)(e:Ending):Prop:=∃cs,e=.returned (.tuple #[.agg cs.toArray,.bool o.isSome])/\mI w' I (o.getD ⟨0,[],[]⟩) cs
theorem IG:zQ 198 3:=⟨_,underlying198,Zo⟩
theorem JL(w:World)(I:Nat->Prop)(hI:∀f,I f->f<w.heap.size){cs:List Value}(m:M.Method)(hm:jy w I m cs)(c:Int):Calls prog 123 #[.agg cs.toArray,c] w fun k S=>Sd S I (qW m c) k/\Ext w S:=by
 obtain⟨Q,R,vm,rfl,-,-,b⟩:=hm;obtain⟨L,N,rfl,hn,ag⟩:=b.form;obtain⟨i,j⟩:=S9 ((w.alloc (.cells #[m.name,Q,m.ret.kind,m.ret.name,m.locals,m.stack,R,.slice L m.maps.length N] 113)).alloc (.cells #[Tj,(),()] 198));have s:Ext w i:=by rw[j];exact Zx
 have V:Zz (jq i w 113 #[m.name,Q,m.ret.kind,m.ret.name,m.locals,m.stack,R,.slice L m.maps.length N]):=Zy (by rw[j];exact(jq.new _ _ _).ext Zx);have W:Zz (jq i (w+1) 198 #[Tj,(),()]):=Zy (by rw[j];exact jq.after _ _ Zl);have⟨z,Z,U⟩:=jI s j (b.ext mI.stays s);obtain⟨e,l⟩:∃e,qW m c=e:=⟨_,rfl⟩;rw[l];unfold qW at l;have Y:=Zy l;clear s j b l;go_enter func123,ntmps123;go_wp2_with fail;rw[<-Z.o];go_loopw [6] (fun v wr=>∃a:Nat,a<=m.maps.length/\v=.int .i64 a/\Ext i wr/\Zz ((m.maps.drop a).find? (fun q=>q.at_=c)=e)) (fun v _=>m.maps.length - (intOf v).toNat)
 case atStart=>exact⟨0,Tz _,rfl,Kp.rr,Zy (by simpa using Y.o)⟩
 case round=>
  obtain⟨a,hq,rfl,g,p⟩:=hrel;have o:=Zy g;have D:=V.ext g;obtain⟨cz,-,-,-,-,-,-,-,c7,-⟩:=D.ca;have n:=W.ext g;have x:=Zy n;obtain⟨gz,g0,g1,g2,-⟩:=n.ca;obtain⟨f0,f1,f2,-⟩:=n.fz;clear D n;by_cases E:a<m.maps.length
  . have dk:(a:Int)<m.maps.length:=Zm
    have ae:(0:Int)<=(a:Int):=Zm
    obtain⟨d,u⟩:∃d,m.maps[a]?=some d:=⟨m.maps[a]'E,CU E⟩;obtain⟨b1,o1,aa,rfl,-,⟨xl,xs,rfl,G,H⟩,-,C⟩:=(U.ext mI.stays g).get u;obtain⟨T,x1,x2⟩:=C.three;have xz:=jv T;have⟨y,A,B⟩:=jI (mM u) G H;clear C u G H g;by_cases h:d.at_=c
    . have t:some d=e:=by rw[<-p.o,y.o,List.find?_cons,Tw h]
      subst t;rw[h]at T;obtain⟨J,K,rfl,-,-⟩:=A.form;obtain⟨O,P,rfl,-,-⟩:=B.form;go_wp2_with fail;have b:=x.QL c (.slice J d.locals.length K) (.slice O d.stack.length P);refine PG (hU IG rfl (w+1) rfl [c,.slice J d.locals.length K,.slice O d.stack.length P] (hQ.kX b.1) rfl) rfl ?_;have F:=b.2.same (I:=I) (fun f hb k=>Te (hI f hb));exact⟨⟨_,rfl,_,_,by rw[<-h];rfl,A.keep jZ.stays F (fun _ r=>r),B.keep jZ.stays F (fun _ r=>r)⟩,(z.trans o).own b.2 (fun f k=>Zm)⟩
    . have af:(d.at_==c)=false:=by simpa using h
      have X:Zz ((m.maps.drop (a+1)).find? (fun q=>q.at_=c)=e):=Zy (by rw[<-p.o,y.o,List.find?_cons,SS h]);clear h;go_wp2;go_round
      case rel=>exact⟨a+1,Zm,Zk,o.o,X⟩
      case measure=>exact Zj
  . have dk:¬(a:Int)<m.maps.length:=Zm
    have t:none=e:=by rw[<-p.o,U6 Zm];rfl
    subst t;clear g;go_wp2_with fail;have b:=x.QL Tj () ();refine PG (hU IG rfl (w+1) rfl [Tj,(),()] (hQ.kX b.1) rfl) rfl ?_;exact⟨⟨_,rfl,_,_,rfl,SliceOf.nil _ _ _ _,SliceOf.nil _ _ _ _⟩,(z.trans o).own b.2 (fun f k=>Zm)⟩
theorem Sw(w:World)(b:Array Value)(c:TypeId)(c1:Array Value)(d:TypeId):∃a,a=((w.alloc (.cells b c)).alloc (.cells c1 d))/\Ext w a/\a.heap.size=w+2/\jq a (w) c b/\jq a (w+1) d c1:=by
 obtain⟨i,g,l,k⟩:=nu w b c;obtain⟨j,h,f,e⟩:=nu i c1 d;have m:(i:Nat)=w+1:=by rw[g];simp
 have n:(j:Nat)=w+2:=by rw[h];simp;omega
 rw[m]at e;exact⟨j,by rw[h,g],(l.trans f),n,(k.ext f),e⟩
theorem SL(w:World)(b:Array Value)(d:TypeId)(c1:Array Value)(e:TypeId)(c2:Array Value)(f:TypeId):∃a,a=(((w.alloc (.cells b d)).alloc (.cells c1 e)).alloc (.cells c2 f))/\Ext w a/\a.heap.size=w+3/\jq a (w) d b/\jq a (w+1) e c1/\jq a (w+2) f c2:=by
 obtain⟨m,j,q,p⟩:=nu w b d;obtain⟨n,k,i,g⟩:=nu m c1 e;obtain⟨o,l,c,h⟩:=nu n c2 f;have r:(m:Nat)=w+1:=by rw[j];simp
 have s:(n:Nat)=w+2:=by rw[k];simp;omega
 have t:(o:Nat)=w+3:=by rw[l];simp;omega
 rw[r]at g;rw[s]at h;exact⟨o,by rw[l,k,j],((q.trans i).trans c),t,((p.ext i).ext c),(g.ext c),h⟩
theorem SE(w:World)(c:Array Value)(e:TypeId)(c1:Array Value)(f:TypeId)(c2:Array Value)(g:TypeId)(c3:Array Value)(h:TypeId):∃a,a=((((w.alloc (.cells c e)).alloc (.cells c1 f)).alloc (.cells c2 g)).alloc (.cells c3 h))/\Ext w a/\a.heap.size=w+4/\jq a (w) e c/\jq a (w+1) f c1/\jq a (w+2) g c2/\jq a (w+3) h c3:=by
 obtain⟨q,m,v,u⟩:=nu w c e;obtain⟨r,n,l,i⟩:=nu q c1 f;obtain⟨s,o,d,j⟩:=nu r c2 g;obtain⟨t,p,b,k⟩:=nu s c3 h;have x:(q:Nat)=w+1:=by rw[m];simp
 have y:(r:Nat)=w+2:=by rw[n];simp;omega
 have z:(s:Nat)=w+3:=by rw[o];simp;omega
 have A:(t:Nat)=w+4:=by rw[p];simp;omega
 rw[x]at i;rw[y]at j;rw[z]at k;exact⟨t,by rw[p,o,n,m],(((v.trans l).trans d).trans b),A,(((u.ext l).ext d).ext b),((i.ext d).ext b),(j.ext b),k⟩
theorem SF(w:World)(d:Array Value)(f:TypeId)(c1:Array Value)(g:TypeId)(c2:Array Value)(h:TypeId)(c3:Array Value)(i:TypeId)(c4:Array Value)(j:TypeId):∃a,a=(((((w.alloc (.cells d f)).alloc (.cells c1 g)).alloc (.cells c2 h)).alloc (.cells c3 i)).alloc (.cells c4 j))/\Ext w a/\a.heap.size=w+5/\jq a (w) f d/\jq a (w+1) g c1/\jq a (w+2) h c2/\jq a (w+3) i c3/\jq a (w+4) j c4:=by
 obtain⟨u,p,B,A⟩:=nu w d f;obtain⟨v,q,o,k⟩:=nu u c1 g;obtain⟨x,r,e,l⟩:=nu v c2 h;obtain⟨y,s,c,m⟩:=nu x c3 i;obtain⟨z,t,b,n⟩:=nu y c4 j;have C:(u:Nat)=w+1:=by rw[p];simp
 have D:(v:Nat)=w+2:=by rw[q];simp;omega
 have E:(x:Nat)=w+3:=by rw[r];simp;omega
 have F:(y:Nat)=w+4:=by rw[s];simp;omega
 have G:(z:Nat)=w+5:=by rw[t];simp;omega
 rw[C]at k;rw[D]at l;rw[E]at m;rw[F]at n;exact⟨z,by rw[t,s,r,q,p],((((B.trans o).trans e).trans c).trans b),G,((((A.ext o).ext e).ext c).ext b),(((k.ext e).ext c).ext b),((l.ext c).ext b),(m.ext b),n⟩
theorem SN(w:World)(e:Array Value)(h:TypeId)(c1:Array Value)(i:TypeId)(c2:Array Value)(j:TypeId)(c3:Array Value)(k:TypeId)(c4:Array Value)(l:TypeId)(f:Array Value)(m:TypeId):∃a,a=((((((w.alloc (.cells e h)).alloc (.cells c1 i)).alloc (.cells c2 j)).alloc (.cells c3 k)).alloc (.cells c4 l)).alloc (.cells f m))/\Ext w a/\a.heap.size=w+6/\jq a (w) h e/\jq a (w+1) i c1/\jq a (w+2) j c2/\jq a (w+3) k c3/\jq a (w+4) l c4/\jq a (w+5) m f:=by
 obtain⟨A,t,H,G⟩:=nu w e h;obtain⟨B,u,s,n⟩:=nu A c1 i;obtain⟨C,v,g,o⟩:=nu B c2 j;obtain⟨D,x,d,p⟩:=nu C c3 k;obtain⟨E,y,c,q⟩:=nu D c4 l;obtain⟨F,z,b,r⟩:=nu E f m;have I:(A:Nat)=w+1:=by rw[t];simp
 have J:(B:Nat)=w+2:=by rw[u];simp;omega
 have K:(C:Nat)=w+3:=by rw[v];simp;omega
 have L:(D:Nat)=w+4:=by rw[x];simp;omega
 have M:(E:Nat)=w+5:=by rw[y];simp;omega
 have N:(F:Nat)=w+6:=by rw[z];simp;omega
 rw[I]at n;rw[J]at o;rw[K]at p;rw[L]at q;rw[M]at r;exact⟨F,by rw[z,y,x,v,u,t],(((((H.trans s).trans g).trans d).trans c).trans b),N,(((((G.ext s).ext g).ext d).ext c).ext b),((((n.ext g).ext d).ext c).ext b),(((o.ext d).ext c).ext b),((p.ext c).ext b),(q.ext b),r⟩
theorem kF:zQ 195 2:=⟨_,underlying195,Zo⟩
def Ob(lv sv:Value)(b:Nat):Prop:=lv.ownBlock=some b\/sv.ownBlock=some b
structure kS(B:Nat)(w:World)(lv sv:Value)(f:lU):Prop where
 le:B<=w.heap.size
 l:w.ownsRow B 236 2 lv f.locals.length (f.locals.flatMap kG)
 s:w.ownsRow B 236 2 sv f.stack.length (f.stack.flatMap kG)
 ne:∀g,lv.ownBlock=some g->sv.ownBlock=some g->False
 ll:f.locals.length<=1000
 sl:f.stack.length<=1000
theorem kS.lt{e g:Value}(d:kS c w e g f):∀a,Ob e g a->c<=a/\a<w.heap.size:=fun a h=>h.elim (fun b=>oJ d.l b) (fun b=>oJ d.s b)
theorem kS.kp{h:Nat}{k: World}{e g:Value}(a:kS h w e g f)(d:Kp D w k)(j:∀i,Ob e g i->¬D i):kS h k e g f:=
 ⟨TV a.le d.size,jr a.l d fun b c _=>j b (.inl c),jr a.s d fun b c _=>j b (.inr c),a.ne,a.ll,a.sl⟩
theorem kS.ext{a:Nat}{d: World}{b c:Value}(e:kS a w b c f)(g:Ext w d):kS a d b c f:=e.kp g fun _ _ h=>h
theorem kS.locals{b g:Value}(d:kS c w b g f):SliceOf 2 jZ w (Ob b g) b f.locals:=by
 have e:=SliceOf.mD (R:=jZ) (I:=fun a=>c<=a) kG d.l rfl rfl (fun _ _=>rfl) (fun _ _=>rfl) (fun a n _=>n) (Te d.ll);obtain⟨h,i,rfl,k,l⟩:=e.form;refine⟨h,i,rfl,k,l,fun r s o=>?_⟩;obtain⟨a,p,j,rfl,q,m⟩:=e.get o;exact⟨a,p,j,rfl,.inl rfl,m⟩
theorem kS.stack{g b:Value}(d:kS c w g b f):SliceOf 2 jZ w (Ob g b) b f.stack:=by
 have e:=SliceOf.mD (R:=jZ) (I:=fun a=>c<=a) kG d.s rfl rfl (fun _ _=>rfl) (fun _ _=>rfl) (fun a n _=>n) (Te d.sl);obtain⟨h,i,rfl,k,l⟩:=e.form;refine⟨h,i,rfl,k,l,fun r s o=>?_⟩;obtain⟨a,p,j,rfl,q,m⟩:=e.get o;exact⟨a,p,j,rfl,.inr rfl,m⟩
theorem kS.DC{j: World}{c i e:Value}(b:kS g w c i f)(o:Kp D w j)(q:∀a,c.ownBlock=some a->¬D a){n:Nat}(t:n=xs.length)(u:j.ownsRow g 236 2 e n (xs.flatMap kG))(m:∀a,e.ownBlock=some a->i.ownBlock=some a\/w.heap.size<=a)(hl:xs.length<=1000):kS g j c e ⟨f.locals,xs⟩/\∀a,Ob c e a->Ob c i a\/w.heap.size<=a:=by
 subst t;refine⟨⟨TV b.le o.size,jr b.l o fun d s _=>q d s,u,fun d k p=>?_,b.ll,hl⟩,fun a r=>r.elim (fun h=>.inl (.inl h)) (fun h=>(m a h).imp .inr id)⟩;rcases m d p with l|l
 . exact b.ne d k l
 . have:=(oJ b.l k).2;omega
def ny(B:Nat)(w w':World)(lv sv:Value)(o:Option lU)(e:Ending):Prop:=
 ∃a n c a' n' c',e=.returned (.tuple #[.agg #[.slice a n c,.slice a' n' c'],.bool o.isSome])/\(∀g,o=some g->kS B w' (.slice a n c) (.slice a' n' c') g/\∀b,Ob (.slice a n c) (.slice a' n' c') b->Ob lv sv b\/w.heap.size<=b)/\Kp (Ob lv sv) w w'
theorem ny.no{i: World}{e h:Value}{g:Option lU}{n f: Nat}(m:g=none)(l:Kp (Ob e h) w i):ny j w i e h g (.returned (.tuple #[.agg #[.slice a n c,.slice b f d],.bool false])):=by
 subst m;exact⟨a,n,c,b,f,d,rfl,fun o k=>by(cases k),l⟩
theorem ny.yes{k:Nat}{j: World}{h i:Value}{n e: Nat}{l:Option lU}{g:lU}(r:l=some g)(m:kS k j (.slice a n c) (.slice b e d) g)(p:∀f,Ob (.slice a n c) (.slice b e d) f->Ob h i f\/w.heap.size<=f)(q:Kp (Ob h i) w j):ny k w j h i l (.returned (.tuple #[.agg #[.slice a n c,.slice b e d],.bool true])):=by
 subst r;exact⟨a,n,c,b,e,d,rfl,fun g o=>by(cases o;exact⟨m,p⟩),q⟩
theorem ny.fin{s:Nat}{i r y: World}{f h lk o:Value}{j: Option Addr}{n m k: Nat}(E:∀b,Ob f h b->b<w.heap.size)(h0:Kp (Ob f h) w i)(v:∀b,Ob lk o b->Ob f h b\/(w.heap.size<=b/\b≠g))(G:g<i)(F:w<=g)(B:∀l,q=some l->kS s r (.slice a n c) (.slice j m k) l/\∀b,Ob (.slice a n c) (.slice j m k) b->Ob lk o b\/i.heap.size<=b)(D:Kp (Ob lk o) i r)(x:Kp (·=g) r y):ny s w y f h q (.returned (.tuple #[.agg #[.slice a n c,.slice j m k],.bool q.isSome])):=by
 have H:=h0.size;have u:∀b,(Ob lk o b\/i.heap.size<=b)->(Ob f h b\/w.heap.size<=b)/\b≠g:=by
  rintro b (d|d)
  . rcases v b d with d|d
    . exact⟨.inl d,fun p=>Te (E b d)⟩
    . exact⟨.inr d.1,d.2⟩
  . exact⟨.inr Zm,Zm⟩
 refine⟨a,n,c,j,m,k,rfl,fun l C=>?_,?_⟩
 . obtain⟨z,t⟩:=B l C;exact⟨z.kp x fun b e p=>(u b (t b e)).2 p,fun b e=>(u b (t b e)).1⟩
 . exact(h0.mix D fun b A e=>(v b e).elim id fun d=>Zm).mix x fun b A p=>Zm
theorem ny.zI{i p: World}{k: Option Addr}{n l: Nat}{h:Value}{t:Option lU}{g: lU}{o u:Nat}(y:kS j w (.slice b d c) h f)(h0:Ext w i)(z:Kp (fun a=>h.ownBlock=some a\/a=u) i p)(E:w<=u)(B:w<=o)(C:o<i)(v:kS j p (.slice b d c) (.slice k n l) g)(r:∀a,Ob (.slice b d c) (.slice k n l) a->Ob (.slice b d c) h a\/i.heap.size<=a)(s:Kp (·=o) p W)(A:t=some g):ny j w W (.slice b d c) h t (.returned (.tuple #[.agg #[.slice b d c,.slice k n l],.bool true])):=by
 have D:=h0.size;refine ny.yes A (v.kp s fun a m q=>?_) (fun a m=>(r a m).imp id fun e=>Zm) ((h0.any.mix z fun a x e=>e.elim .inr fun q=>Zm).mix s fun a x q=>Zm);rcases r a m with e|e
 . have:=(y.lt a e).2;omega
 . omega
def Ct(m:M.Method)(cs:List Value):Prop:=∃a1 n1 c1 a2 n2 c2 a3 n3 c3,cs=[.string m.name,.slice a1 n1 c1,.int .i64 m.ret.kind,.string m.ret.name,.int .i64 m.locals,.int .i64 m.stack,.slice a2 n2 c2,.slice a3 n3 c3]
theorem jy.cs{cs:List Value}(a:jy w I m cs):Ct m cs:=by
 obtain⟨b,e,c,f,d,g,rfl⟩:=a.form;exact⟨_,_,_,_,_,_,_,_,_,rfl⟩
theorem Fe(y:Nat)(w:World)(cs:List Value)(m:M.Method)(hm:Ct m cs)(aA:m.stack<=1000)(K E:Value)(f:lU)(x:kS y w K E f)(t:Tag):Calls prog 207 #[.agg cs.toArray,.agg #[K,E],.agg #[t.kind,t.name]] w fun b w'=>ny y w w' K E (lK m t f) b/\Kp (fun a=>E.ownBlock=some a) w w':=by
 obtain⟨a1,n1,q1,a2,n2,q2,a3,n3,q3,rfl⟩:=hm;obtain⟨h,i,rfl⟩:=jS x.l;obtain⟨d,e,rfl⟩:=jS x.s;obtain⟨j,aa,I,ae,V,W,X,n⟩:=SE w #[m.name,.slice a1 n1 q1,m.ret.kind,m.ret.name,m.locals,m.stack,.slice a2 n2 q2,.slice a3 n3 q3] 113 #[.slice h f.locals.length i,.slice d f.stack.length e] 195 #[t.kind,t.name] 236 #[(),()] 195;obtain⟨N,z,af,A⟩:=kD V W X n;have⟨l,O,B,Q,av⟩:=nC x (x.ext I) I ae aa;have c0:=N.c 5 m.stack rfl;obtain⟨-,c1,c2,-⟩:=z.ca;have cf:=z.frozen 1;have z1:=N.lt;have z2:=z.lt;obtain⟨R,p⟩:∃R,lK m t f=R:=⟨_,rfl⟩;rw[p];unfold lK at p;clear I aa x ae V W X n;go_enter func207,ntmps207;go_upto_region 1 with(fail);rw[<-av.o];by_cases J:m.stack<=(f.stack.length:Int)
 . rw[Ty J]at p;subst p;obtain⟨gz,g0,g1,-⟩:=A.ca;obtain⟨f0,f1,-⟩:=A.fz;go_wp2_with fail;refine PG (hU kF rfl (w+3) rfl [.slice h f.locals.length i,.slice d f.stack.length e] (hQ.kX (A.duo _ _)) rfl) rfl ?_;exact⟨ny.no rfl (B.any.mix (Kp.duo (D:=(·=w+3)) rfl _ _) fun a k b=>Zm),B.o.any.mix (Kp.duo (D:=(·=w+3)) rfl _ _) fun a k b=>Zm⟩
 . rw[T9 J]at p;subst p;have au:Zz ((f.stack++[t]).length<=1000):=Zy (by rw[TK,Ud];omega);obtain⟨z3,c3,c4,-⟩:=af.ca;go_upto_region 3 with(fail);clear J;go_cut [] (fun L=>∃u g,kS y L (.slice h f.locals.length i) (.slice u (f.stack.length+1) g) ⟨f.locals,f.stack++[t]⟩/\(∀a,Ob (.slice h f.locals.length i) (.slice u (f.stack.length+1) g) a->Ob (.slice h f.locals.length i) (.slice d f.stack.length e) a\/j.heap.size<=a)/\
    jq L (w+1) 195 #[.slice h f.locals.length i,.slice u (f.stack.length+1) g]/\Kp (fun a=>(Value.slice d f.stack.length e).ownBlock=some a\/a=w.heap.size+1) j L)
   case first=>
    obtain⟨F,D⟩:=S9 (j.alloc (.cells #[t.kind,t.name] 236));have G:Zz (Ext j F):=Zy (by rw[D];exact jJ _);have ai:Zz (hQ F j 0 [t.kind,t.name]):=Zy (by rw[D];exact hQ.oI _ _ rfl);have⟨P,ax⟩:=jw (O.ext G) D;clear D;go_wp2_with (rw[<-ax.o];refine jF nH rfl (.tmp 16) (.tmp 18) rfl y (.slice d f.stack.length e) f.stack.length (f.stack.flatMap kG) rfl P.s j 1 [t.kind,t.name] rfl rfl ai Zt (Te l.sl) P.o.le ?_;intro C g r v o Z;have s:Zz (Kp (fun a=>(Value.slice d f.stack.length e).ownBlock=some a) j r):=Zy (G.any.trans o);have H:=Zy v;have ak:=Zy Z;have q:=z.kp s (fun b=>Te (l.lt _ (.inr b)));have x0:=q.c 0 (.slice h f.locals.length i) rfl;have x1:=q.c 1 (.slice d f.stack.length e) rfl;have xf:=q.frozen 1;have xz:=q.lt;have ah:=Zy q;clear v o Z q);go_meet;have U:Kp (fun a=>(Value.slice d f.stack.length e).ownBlock=some a\/a=w.heap.size+1) j (r.setCell ⟨w+1,1,none⟩ (.slice (some ⟨C,0,none⟩) (f.stack.length+1) g)):=(s.weak fun _ _ c=>.inl c).trans (Kp.rr.setCell (p:=⟨w+1,1,none⟩) (fun _=>.inr rfl) _);have Y:∀a,(Value.slice (some ⟨C,0,none⟩) (f.stack.length+1) g).ownBlock=some a->(Value.slice d f.stack.length e).ownBlock=some a\/j.heap.size<=a:=fun a k=>by
     have b:C=a:=by simpa [Value.ownBlock]using k
     subst b;exact ak.imp id (fun c=>Te G.size)
    have ay:=jr H ((Kp.refl (·=w+1) r).setCell (p:=⟨w+1,1,none⟩) (fun _=>rfl) (.slice (some ⟨C,0,none⟩) (f.stack.length+1) g)) (fun az hq _ b=>by
     rcases Y az hq with c|c
     . have:=(l.lt _ (.inr c)).2;omega
     . have:=Q.o;omega)
    have hD:∀a,(Value.slice h f.locals.length i).ownBlock=some a->¬((Value.slice d f.stack.length e).ownBlock=some a\/a=w.heap.size+1):=by
     rintro a k (c|c)
     . exact l.ne a k c
     . have:=(l.lt a (.inl k)).2;omega
    obtain⟨h1,h2⟩:=O.DC (xs:=f.stack++[t]) (n:=f.stack.length+1) U hD Zl (by simpa [kG]using ay) Y au.o;exact⟨_,_,h1,h2,ah.jR 1 _,U⟩
   obtain⟨u,g,T,v,S,o⟩:=hcut;obtain⟨r,rfl⟩:∃r,r=wc:=⟨_,rfl⟩;have n:=A.kp o (fun c=>c.elim (fun b=>Te (l.lt _ (.inr b))) (fun b=>Zm));obtain⟨gz,g0,g1,-⟩:=n.ca;obtain⟨f0,f1,-⟩:=n.fz;obtain⟨xz,x0,x1,-⟩:=S.ca;have⟨aj,H,s,ag⟩:=kD T v o n;clear T v S o n c0 c1 c2 c3 c4 cf z1 z2 z3;go_wp2_with fail;refine PG (hU kF rfl (w+3) rfl [.slice h f.locals.length i,.slice u (f.stack.length+1) g] (hQ.kX (ag.duo _ _)) rfl) rfl ?_;exact⟨ny.zI l B s Zm Zm (Te Q.o) aj.o H.o (Kp.duo (D:=(·=w+3)) rfl _ _) rfl,(B.o.any.mix s.o fun a k c=>c.elim id fun b=>Zm).mix (Kp.duo (D:=(·=w+3)) rfl _ _) fun a k b=>Zm⟩
theorem GQ(c:Nat)(w:World){cs:List Value}(m:M.Method)(h:Ct m cs)(i:m.stack<=1000)(a b:Value)(f:lU)(g:kS c w a b f)(t:Tag):Calls prog 207 #[.agg cs.toArray,.agg #[a,b],.agg #[t.kind,t.name]] w fun d j=>ny c w j a b (lK m t f) d:=(Fe c w cs m h i a b f g t).mono fun _ _ e=>e.1
theorem ui{b a k n: Nat}{xs:List Value}(f:b<=c)(d:w.ownsRow c a k v n xs):w.ownsRow b a k v n xs:=
 ⟨d.1,d.2.imp id fun⟨e,cap,cur,a,hg,r⟩=>⟨e,cap,cur,a,TV f hg,r⟩⟩
theorem kS.form{i:Nat}{g h:Value}(e:kS i w g h f):∃a b c d,g=.slice a f.locals.length b/\h=.slice c f.stack.length d:=by
 obtain⟨a,b,rfl⟩:=jS e.l;obtain⟨c,d,rfl⟩:=jS e.s;exact⟨a,b,c,d,rfl,rfl⟩
theorem yJ(a xs:List Tag)(t:Tag):nZ ⟨a,xs++[t]⟩=some (t,⟨a,xs⟩):=by
 unfold nZ;simp
theorem kS.most{f n: Nat}{a: List Tag}{t:Tag}(i:kS g w (.slice e a.length f) (.slice b n c) ⟨a,xs++[t]⟩):SliceOf 2 jZ w (Ob (.slice e a.length f) (.slice b n c)) (.slice b xs.length c) xs:=by
 have d:=i.stack;obtain⟨j,k,h,l,m⟩:=d.form;cases h;have:=d.take (i:=xs.length) Zl;simpa using this
theorem JO(P:Nat)(w:World)(lv sv:Value)(f:lU)(y:kS P w lv sv f):Calls prog 208 #[.agg #[lv,sv]] w fun r w'=>ny P w w' lv sv (qA f) r:=by
 obtain⟨g,h,sa,e,rfl,rfl⟩:=y.form;obtain⟨c,av⟩:=f;simp only at y |-;obtain⟨b,ah,I,ai,T,U⟩:=Sw w #[.slice g c.length h,.slice sa av.length e] 195 #[(),()] 195;have⟨v,C,Q,R,aj⟩:=nC y (y.ext I) I ai ah;rcases TT av with rfl|⟨xs,ax,rfl⟩
 . simp only[U8]at*;have⟨A,s⟩:=jw T U;obtain⟨z1,c0,c1,-⟩:=A.ca;obtain⟨gz,g0,g1,-⟩:=s.ca;obtain⟨f0,f1,-⟩:=s.fz;clear y ah I ai T U;go_enter func208,ntmps208;go_upto_region 1 with(fail);rw[<-aj.o];go_wp2_with fail;refine PG (hU kF rfl (w+1) rfl [.slice g c.length h,.slice sa 0 e] (hQ.kX (s.duo _ _)) rfl) rfl ?_;exact ny.no rfl (Q.any.mix (Kp.duo (D:=(·=w+1)) rfl _ _) fun a k r=>Zm)
 . rw[TS]at*;simp only[TK,Ud]at*;have⟨A,s,ak⟩:=jI T U (y.most.ext jZ.stays I);have G:Zz (xs.length<=1000):=Zy (by have:=y.sl;simp at this;omega);obtain⟨l,n,aA,e1,-,rfl,-,d1⟩:=(C.stack).get (i:=xs.length) (x:=ax) Zl;obtain⟨O,V⟩:=d1.two;have W:=jv O;obtain⟨N,tn⟩:=ax;have c0:=A.c 0 (.slice g c.length h) rfl;cases e1;obtain⟨z1,-,c1,-⟩:=A.ca;have cf:=A.frozen 1;have aD:wrap64 (xs.length:Int)=xs.length:=by have:=G.o;unfold wrap64;omega
   have aF:(xs.length:Int)<=e:=by
    obtain⟨a',c',e',ay,-⟩:=C.stack.form;have e2:e=c':=(Value.slice.inj e').2.2;simp only[TK,Ud]at ay;omega
   have aG:((xs.length:Int)+1==0)=false:=by rw[SK];omega
   obtain⟨au,D⟩:∃au,qA ⟨c,xs++[⟨N,tn⟩]⟩=au:=⟨_,rfl⟩;rw[D];unfold qA at D;rw[yJ,Tn]at D;simp only at D;have HO:=Zy D;clear y ah I ai T U d1 D;go_enter func208,ntmps208;go_upto_region 1 with(fail);rw[<-aj.o];by_cases x:N=2
   . subst x;have F:=Zy (HO.symm.trans (Ty (.inl rfl)));go_upto_region 4 with(fail);go_cut [] (fun B=>∃i j,kS P B (.slice g c.length h) (.slice i xs.length j) ⟨c,xs⟩/\(∀a,Ob (.slice g c.length h) (.slice i xs.length j) a->Ob (.slice g c.length h) (.slice (some ⟨l,n,none⟩) (xs.length+1) e) a\/b.heap.size<=a)/\
      jq B (w) 195 #[.slice g c.length h,.slice i xs.length j]/\Kp (fun a=>(Value.slice (some ⟨l,n,none⟩) (xs.length+1) e).ownBlock=some a\/a=w.heap.size) b B)
     case first=>
      have z:Zz (Ext b (b.alloc (.cells #[] 236))):=Zy (jJ _);have af:Zz ((b.alloc (.cells #[] 236)).ownsRow b 236 2 (.slice (some ⟨b,0,none⟩) 0 0) 0 []):=Zy (kV b _ _ _ (Tu _) rfl);have aa:Zz (Flat (b.alloc (.cells #[] 236)) 2 (.slice (some ⟨l,n,none⟩) xs.length e) xs.length (xs.flatMap kG)):=Zy ((ak.ext jZ.stays z).toFlat (enc:=kG) (fun _ _ _ _ d=>d) (fun _=>rfl) rY);go_wp2_with (refine kM nH _ rfl (.tmp 31) (.tmp 36) rfl b (.slice (some ⟨b,0,none⟩) 0 0) 0 [] rfl af (some ⟨l,n,none⟩) xs.length e (xs.flatMap kG) rfl aa (Te G.o) z.o.size ?_;intro v9 q m o;rw[Tk,TZ]at m;obtain⟨i,j,rfl⟩:=jS m;have E:Zz (Ext b q):=Zy (z.own o (fun a k=>by simp[Value.ownBlock]at k;omega));have t:=Zy m;have p:=A.ext E;have O:=p.c 0 (.slice g c.length h) rfl;have V:=p.c 1 (.slice (some ⟨l,n,none⟩) (xs.length+1) e) rfl;have xf:=p.frozen 1;have W:=p.lt;have Y:=Zy p;clear m o p);go_meet;have L:=(Kp.refl (·=w) q).setCell (p:=⟨w,1,none⟩) (fun _=>rfl) (.slice i xs.length j);have K:Kp (fun a=>(Value.slice (some ⟨l,n,none⟩) (xs.length+1) e).ownBlock=some a\/a=w.heap.size) b (q.setCell (w,1) (.slice i xs.length j)):=E.any.trans (L.weak fun _ _ d=>.inr d);have hD:∀a,(Value.slice g c.length h).ownBlock=some a->¬((Value.slice (some ⟨l,n,none⟩) (xs.length+1) e).ownBlock=some a\/a=w.heap.size):=by
       rintro a k (d|d)
       . exact v.ne a k d
       . have:=(v.lt a (.inl k)).2;omega
      have ag:=ui C.le (jr t L (fun az hq k r=>Te R.o));obtain⟨h1,x⟩:=C.DC (xs:=xs) (n:=xs.length) K hD rfl ag (fun a k=>.inr (oJ t k).1) G;exact⟨_,_,h1,x,Y.jR 1 _,K⟩
     obtain⟨i,j,J,m,H,o⟩:=hcut;obtain⟨q,rfl⟩:∃q,q=wc:=⟨_,rfl⟩;have u:=s.kp o (fun d=>d.elim (fun r=>Te (v.lt _ (.inr r))) (fun r=>Zm));obtain⟨gz,g0,g1,-⟩:=u.ca;obtain⟨f0,f1,-⟩:=u.fz;obtain⟨W,O,V,-⟩:=H.ca;have⟨Z,t,ae,X⟩:=kD J m o u;clear J m H o u c0 c1 cf z1;go_wp2_with fail;refine PG (hU kF rfl (w+1) rfl [.slice g c.length h,.slice i xs.length j] (hQ.kX (X.duo _ _)) rfl) rfl ?_;exact ny.zI v Q ae Zm Zm (Te R.o) Z.o t.o (Kp.duo (D:=(·=w+1)) rfl _ _) F.o
   by_cases S:N=3
   . subst S;have F:=Zy (HO.symm.trans (Ty (.inr rfl)));go_upto_region 4 with(fail);go_cut [] (fun B=>∃i j,kS P B (.slice g c.length h) (.slice i xs.length j) ⟨c,xs⟩/\(∀a,Ob (.slice g c.length h) (.slice i xs.length j) a->Ob (.slice g c.length h) (.slice (some ⟨l,n,none⟩) (xs.length+1) e) a\/b.heap.size<=a)/\
      jq B (w) 195 #[.slice g c.length h,.slice i xs.length j]/\Kp (fun a=>(Value.slice (some ⟨l,n,none⟩) (xs.length+1) e).ownBlock=some a\/a=w.heap.size) b B)
     case first=>
      have z:Zz (Ext b (b.alloc (.cells #[] 236))):=Zy (jJ _);have af:Zz ((b.alloc (.cells #[] 236)).ownsRow b 236 2 (.slice (some ⟨b,0,none⟩) 0 0) 0 []):=Zy (kV b _ _ _ (Tu _) rfl);have aa:Zz (Flat (b.alloc (.cells #[] 236)) 2 (.slice (some ⟨l,n,none⟩) xs.length e) xs.length (xs.flatMap kG)):=Zy ((ak.ext jZ.stays z).toFlat (enc:=kG) (fun _ _ _ _ d=>d) (fun _=>rfl) rY);go_wp2_with (refine kM nH _ rfl (.tmp 31) (.tmp 36) rfl b (.slice (some ⟨b,0,none⟩) 0 0) 0 [] rfl af (some ⟨l,n,none⟩) xs.length e (xs.flatMap kG) rfl aa (Te G.o) z.o.size ?_;intro v9 q m o;rw[Tk,TZ]at m;obtain⟨i,j,rfl⟩:=jS m;have E:Zz (Ext b q):=Zy (z.own o (fun a k=>by simp[Value.ownBlock]at k;omega));have t:=Zy m;have p:=A.ext E;have O:=p.c 0 (.slice g c.length h) rfl;have V:=p.c 1 (.slice (some ⟨l,n,none⟩) (xs.length+1) e) rfl;have xf:=p.frozen 1;have W:=p.lt;have Y:=Zy p;clear m o p);go_meet;have L:=(Kp.refl (·=w) q).setCell (p:=⟨w,1,none⟩) (fun _=>rfl) (.slice i xs.length j);have K:Kp (fun a=>(Value.slice (some ⟨l,n,none⟩) (xs.length+1) e).ownBlock=some a\/a=w.heap.size) b (q.setCell (w,1) (.slice i xs.length j)):=E.any.trans (L.weak fun _ _ d=>.inr d);have hD:∀a,(Value.slice g c.length h).ownBlock=some a->¬((Value.slice (some ⟨l,n,none⟩) (xs.length+1) e).ownBlock=some a\/a=w.heap.size):=by
       rintro a k (d|d)
       . exact v.ne a k d
       . have:=(v.lt a (.inl k)).2;omega
      have ag:=ui C.le (jr t L (fun az hq k r=>Te R.o));obtain⟨h1,x⟩:=C.DC (xs:=xs) (n:=xs.length) K hD rfl ag (fun a k=>.inr (oJ t k).1) G;exact⟨_,_,h1,x,Y.jR 1 _,K⟩
     obtain⟨i,j,J,m,H,o⟩:=hcut;obtain⟨q,rfl⟩:∃q,q=wc:=⟨_,rfl⟩;have u:=s.kp o (fun d=>d.elim (fun r=>Te (v.lt _ (.inr r))) (fun r=>Zm));obtain⟨gz,g0,g1,-⟩:=u.ca;obtain⟨f0,f1,-⟩:=u.fz;obtain⟨W,O,V,-⟩:=H.ca;have⟨Z,t,ae,X⟩:=kD J m o u;clear J m H o u c0 c1 cf z1;go_wp2_with fail;refine PG (hU kF rfl (w+1) rfl [.slice g c.length h,.slice i xs.length j] (hQ.kX (X.duo _ _)) rfl) rfl ?_;exact ny.zI v Q ae Zm Zm (Te R.o) Z.o t.o (Kp.duo (D:=(·=w+1)) rfl _ _) F.o
   . have F:=Zy (HO.symm.trans (T9 (fun d=>d.elim x S)));have aB:(N !=2)=true:=by simpa using x
     have aC:(N !=3)=true:=by simpa using S
     clear x S;obtain⟨gz,g0,g1,-⟩:=s.ca;obtain⟨f0,f1,-⟩:=s.fz;go_wp2_with fail;refine PG (hU kF rfl (w+1) rfl [.slice g c.length h,.slice (some ⟨l,n,none⟩) (xs.length+1) e] (hQ.kX (s.duo _ _)) rfl) rfl ?_;exact ny.no F (Q.any.mix (Kp.duo (D:=(·=w+1)) rfl _ _) fun a k r=>Zm)
theorem za(G:Nat)(w:World)(I:Nat->Prop){v:Value}(p:jl)(S:nA G w I v p)(k:Int)(hk:has p k=true)(lv sv:Value)(f:lU)(x:kS G w lv sv f)(y:Tag):Calls prog 162 #[.agg #[v],k,.agg #[lv,sv],.agg #[y.kind,y.name]] w fun u w'=>ny G w w' lv sv (lX p k y f) u:=by
 obtain⟨pa,pc,rfl,hn,aX⟩:=S.sl.form;obtain⟨j,l,sa,d,rfl,rfl⟩:=x.form;obtain⟨e,aB⟩:=f;obtain⟨Y,Z⟩:=y;simp only at x |-;obtain⟨V,ai,C,aj,aG,B,aH,T⟩:=SE w #[.slice pa p.length pc] 25 #[.slice j e.length l,.slice sa aB.length d] 195 #[Y,Z] 236 #[(),()] 195;have⟨HM,Q,af,ak,aS,ay⟩:=pR (fun J (g:Ext V J) aU a=>JM G J I p (S.ext (C.trans g)) k hk aU a) x (x.ext C) C aj ai;rcases TT aB with rfl|⟨xs,aI,rfl⟩
 . simp only[U8]at*;have⟨H,ae⟩:=jw B T;obtain⟨aT,fW,aZ,i⟩:=lL V;obtain⟨O,-,K,-⟩:=B.ca;have m:=Zy i;clear x ai C aj B T i S;go_enter func162,ntmps162;go_upto_region 2 with(fail);rw[<-ay.o];refine zJ m ?_ ?_;rotate_left;(repeat (go_big_quiet_step ((fail))));refine TP ?_;(rintro _ ⟨N,rfl⟩);rotate_left
   . exact jA
   have c:=m.jC N;obtain⟨b,L⟩:∃b,b=fW N:=⟨_,rfl⟩;rw[<-L]at c |-;have⟨r,P⟩:=jw (ae.ext c) (ak.trans c);obtain⟨O,c0,K,-⟩:=(H.ext c).ca;clear L c;obtain⟨gz,g0,g1,-⟩:=r.ca;obtain⟨f0,f1,-⟩:=r.fz;go_wp2_with fail;refine PG (hU kF rfl (w+3) rfl [.slice j e.length l,.slice sa 0 d] (hQ.kX (r.duo _ _)) rfl) rfl ?_;exact ny.no rfl (P.any.mix (Kp.duo (D:=(·=w+3)) rfl _ _) fun a h u=>Zm)
 . rw[TS]at*;simp only[TK,Ud]at*;have⟨aL,ae,aR⟩:=jI B T (x.most.ext jZ.stays C);have ah:Zz (xs.length<=1000):=Zy (by have:=x.sl;simp at this;omega);obtain⟨n,o,bf,e1,-,rfl,-,d1⟩:=(af.stack).get (i:=xs.length) (x:=aI) Zl;obtain⟨W,X⟩:=d1.two;obtain⟨tk,tn⟩:=aI;cases e1;have bg:wrap64 (xs.length:Int)=xs.length:=by have:=ah.o;unfold wrap64;omega
   have aX:(xs.length:Int)<=d:=by
    obtain⟨a',c',e',aY,-⟩:=af.stack.form;have e2:d=c':=(Value.slice.inj e').2.2;simp only[TK,Ud]at aY;omega
   have bn:((xs.length:Int)+1==0)=false:=by rw[SK];omega
   obtain⟨aA,z⟩:∃aA,lX p k ⟨Y,Z⟩ ⟨e,xs++[⟨tk,tn⟩]⟩=aA:=⟨_,rfl⟩;rw[z];unfold lX at z;rw[yJ,Tn]at z;simp only at z;have ax:=Zy (fun J (g:Ext V J)=>HM.o J g ⟨tk,tn⟩ ⟨Y,Z⟩);obtain⟨a,h⟩:∃a,may p k ⟨tk,tn⟩ ⟨Y,Z⟩=a:=⟨_,rfl⟩;rw[h]at ax z;have HO:=Zy z;obtain⟨aT,fW,aZ,i⟩:=lL V;have p0:=fun q=>(aG.ext (i.jC q)).c 0 (.slice pa p.length pc) rfl;have q1:=fun q=>(B.ext (i.jC q)).c 1 (.slice (some ⟨n,o,none⟩) (xs.length+1) d) rfl;obtain⟨-,y0,y1,-⟩:=jq.pq fun q=>(aH.ext (i.jC q));have s0:=fun q=>(i.jC q).jm W;have s1:=fun q=>(i.jC q).jm X;obtain⟨O,-,K,-⟩:=B.ca;have m:=Zy i;clear x ai C aj aG B T aH d1 z i W X S h HM;go_enter func162,ntmps162;go_upto_region 2 with(fail);rw[<-ay.o];refine zJ m ?_ ?_;rotate_left;(repeat (go_big_quiet_step (first|(go_at_call 201;refine(ax _ (m.jC _)).mono ?_;rintro u w6 ⟨rfl,aV⟩;exact⟨rfl,m.o.o w6 ((m.jC _).trans aV)⟩))));refine TP ?_;(rintro _ ⟨N,rfl⟩);rotate_left
   . exact jA
   have c:=m.jC N;obtain⟨b,L⟩:∃b,b=fW N:=⟨_,rfl⟩;rw[<-L]at c |-;have⟨H,r,P,av,aQ⟩:=nC (aL.ext c) (ae.ext c) (ak.trans c) (af.ext c) (aR.ext jZ.stays c);have az:Zz (w.heap.size+4<=(b:Nat)):=Zy (Tf c.size aS.o);clear p0 q1 y0 y1 s0 s1 m K O L c;obtain⟨O,c0,K,-⟩:=H.ca;have cf:=H.frozen 1;cases a
   . have ag:=Zy (HO.symm.trans (T9 Bool.false_ne_true));obtain⟨gz,g0,g1,-⟩:=r.ca;obtain⟨f0,f1,-⟩:=r.fz;go_wp2_with fail;refine PG (hU kF rfl (w+3) rfl [.slice j e.length l,.slice (some ⟨n,o,none⟩) (xs.length+1) d] (hQ.kX (r.duo _ _)) rfl) rfl ?_;exact ny.no ag (P.any.mix (Kp.duo (D:=(·=w+3)) rfl _ _) fun a h u=>Zm)
   . have ag:=Zy (HO.symm.trans (Ty rfl));go_upto_region 4 with(fail);go_cut [] (fun wx=>∃s t,kS G wx (.slice j e.length l) (.slice s xs.length t) ⟨e,xs⟩/\(∀a,Ob (.slice j e.length l) (.slice s xs.length t) a->Ob (.slice j e.length l) (.slice (some ⟨n,o,none⟩) (xs.length+1) d) a\/b.heap.size<=a)/\
      jq wx (w+1) 195 #[.slice j e.length l,.slice s xs.length t]/\Kp (fun a=>(Value.slice (some ⟨n,o,none⟩) (xs.length+1) d).ownBlock=some a\/a=w.heap.size+1) b wx)
     case first=>
      have aa:Zz (Ext b (b.alloc (.cells #[] 236))):=Zy (jJ _);have aP:Zz ((b.alloc (.cells #[] 236)).ownsRow b 236 2 (.slice (some ⟨b,0,none⟩) 0 0) 0 []):=Zy (kV b _ _ _ (Tu _) rfl);have aN:Zz (Flat (b.alloc (.cells #[] 236)) 2 (.slice (some ⟨n,o,none⟩) xs.length d) xs.length (xs.flatMap kG)):=Zy ((aQ.ext jZ.stays aa).toFlat (enc:=kG) (fun _ _ _ _ g=>g) (fun _=>rfl) rY);go_wp2_with (refine kM nH _ rfl (.tmp 30) (.tmp 35) rfl b (.slice (some ⟨b,0,none⟩) 0 0) 0 [] rfl aP (some ⟨n,o,none⟩) xs.length d (xs.flatMap kG) rfl aN (Te ah.o) aa.o.size ?_;intro v9 F A D;rw[Tk,TZ]at A;obtain⟨s,t,rfl⟩:=jS A;have au:Zz (Ext b F):=Zy (aa.own D (fun a h=>by simp[Value.ownBlock]at h;omega));have R:=Zy A;have E:=H.ext au;have W:=E.c 0 (.slice j e.length l) rfl;have X:=E.c 1 (.slice (some ⟨n,o,none⟩) (xs.length+1) d) rfl;have xf:=E.frozen 1;have xz:=E.lt;have aK:=Zy E;clear A D E);go_meet;have hS:=(Kp.refl (·=w+1) F).setCell (p:=⟨w+1,1,none⟩) (fun _=>rfl) (.slice s xs.length t);have aF:Kp (fun a=>(Value.slice (some ⟨n,o,none⟩) (xs.length+1) d).ownBlock=some a\/a=w.heap.size+1) b (F.setCell ⟨w+1,1,none⟩ (.slice s xs.length t)):=au.any.trans (hS.weak fun _ _ g=>.inr g);have hD:∀a,(Value.slice j e.length l).ownBlock=some a->¬((Value.slice (some ⟨n,o,none⟩) (xs.length+1) d).ownBlock=some a\/a=w.heap.size+1):=by
       rintro a h (g|g)
       . exact Q.ne a h g
       . have:=(Q.lt a (.inl h)).2;omega
      have aW:=ui av.le (jr R hS (fun bq hq h u=>Te az.o));obtain⟨h1,h2⟩:=av.DC (xs:=xs) (n:=xs.length) aF hD rfl aW (fun a h=>.inr (oJ R h).1) ah;exact⟨_,_,h1,h2,aK.jR 1 _,aF⟩
     obtain⟨s,t,aD,A,aC,D⟩:=hcut;obtain⟨F,rfl⟩:∃F,F=wc:=⟨_,rfl⟩;have U:=r.kp D (fun g=>g.elim (fun u=>Te (Q.lt _ (.inr u))) (fun u=>Zm));obtain⟨gz,g0,g1,-⟩:=U.ca;obtain⟨f0,f1,-⟩:=U.fz;obtain⟨xz,W,X,-⟩:=aC.ca;have⟨aM,R,aO,aJ⟩:=kD aD A D U;clear aD A aC D U c0 K cf O;go_wp2_with fail;refine PG (hU kF rfl (w+3) rfl [.slice j e.length l,.slice s xs.length t] (hQ.kX (aJ.duo _ _)) rfl) rfl ?_;exact ny.zI Q P aO Zm Zm (Te az.o) aM.o R.o (Kp.duo (D:=(·=w+3)) rfl _ _) ag.o
theorem GR(d:Nat)(w:World)(I:Nat->Prop){v:Value}(p:jl)(F:nA d w I v p)(k:Int)(hk:has p k=true){cs:List Value}(m:M.Method)(hm:Ct m cs)(aP:m.stack<=1000)(l q:Value)(f:lU)(C:kS d w l q f)(x y:Tag):Calls prog 205 #[.agg #[v],k,.agg cs.toArray,.agg #[l,q],.agg #[x.kind,x.name],.agg #[y.kind,y.name]] w fun g w'=>ny d w w' l q ((lX p k x f).bind (lK m y)) g:=by
 obtain⟨pa,pc,rfl,hn,aQ⟩:=F.sl.form;obtain⟨i,j,n,o,rfl,rfl⟩:=C.form;obtain⟨a1,n1,q1,a2,n2,q2,a3,n3,q3,rfl⟩:=hm;obtain⟨N,O⟩:=x;obtain⟨P,Q⟩:=y;simp only;obtain⟨w0,ax,z,az,af,ag,ah,c,ai,aj⟩:=SN w #[.slice pa p.length pc] 25 #[m.name,.slice a1 n1 q1,m.ret.kind,m.ret.name,m.locals,m.stack,.slice a2 n2 q2,.slice a3 n3 q3] 113 #[.slice i f.locals.length j,.slice n f.stack.length o] 195 #[N,O] 236 #[P,Q] 236 #[(),()] 195;have⟨U,aN⟩:=jw (za d w0 I p (F.ext z) k hk _ _ f (C.ext z) ⟨N,O⟩) (fun aa l q r (b:kS d aa l q r)=>GQ d aa m ⟨a1,n1,q1,a2,n2,q2,a3,n3,q3,rfl⟩ aP l q r b ⟨P,Q⟩);obtain⟨aB,aD,R,D,aH,aJ⟩:=pR af ag ah c ai aj;have⟨E,aK,Y,aO⟩:=kD C z az ax;obtain⟨cz,c0,-⟩:=aB.ca;obtain⟨dz,d0,d1,-⟩:=R.ca;obtain⟨xz,x0,x1,-⟩:=D.ca;obtain⟨u,hO⟩:∃u,lX p k ⟨N,O⟩ f=u:=⟨_,rfl⟩;rw[hO]at U |-;obtain⟨Z,G⟩:∃Z,u.bind (lK m ⟨P,Q⟩)=Z:=⟨_,rfl⟩;rw[G];have W:=Zy G;clear G z ax C az af ag ah c ai aj hO F;go_enter func205,ntmps205;go_upto_region 1 with(fail);rw[<-aO.o];go_wp2_with fail;refine U.mono ?_;rintro g w1 ⟨a4,n4,q4,a5,n5,q5,rfl,H,J⟩;obtain⟨L,ay,A,ae⟩:=nu w1 #[.slice a4 n4 q4,.slice a5 n5 q5] 195;have X:=Zy ay;have e:Zz (Kp (Ob (.slice i f.locals.length j) (.slice n f.stack.length o)) w0 L):=Zy (J.mix A fun _ _ b=>b.elim);have t:Zz (∀aA,¬Ob (.slice i f.locals.length j) (.slice n f.stack.length o) (w.heap.size+aA)):=Zy (fun aA b=>Te ((E.lt _ b).2));have⟨aF,aG,aI,s⟩:=kD (aD.kp e (t 1)) (R.kp e (t 2)) (aH.kp e (t 4)) (aJ.kp e (t 5));have S:Zz (Kp (Ob (.slice i f.locals.length j) (.slice n f.stack.length o)) w L):=Zy (aK.any.trans e);have aC:=Zy ae;clear c0 cz d0 d1 dz x0 x1 xz ay ae;cases u with
 |none=>
  have h:=W.o;rw[Option.bind_none]at h;subst h;clear H J A;go_upto_region 3 with(fail);rw[<-X.o];obtain⟨dz,d0,d1,-⟩:=aG.ca;obtain⟨gz,g0,g1,-⟩:=s.ca;obtain⟨f0,f1,-⟩:=s.fz;go_wp2_with fail;refine PG (hU kF rfl (w+5) rfl [.slice i f.locals.length j,.slice n f.stack.length o] (hQ.kX (s.duo _ _)) rfl) rfl ?_;exact ny.no rfl (Kp.mix S (Kp.duo (D:=(·=w+5)) rfl _ _) fun a B g=>Zm)
 |some r=>
  obtain⟨ak,au⟩:=H r rfl;have V:=Zy (aN L _ _ r (ak.ext A));have T:Zz (∀a,Ob (.slice a4 n4 q4) (.slice a5 n5 q5) a->Ob (.slice i f.locals.length j) (.slice n f.stack.length o) a\/(w.heap.size<=a/\a≠w.heap.size+5)):=Zy (fun a B=>(au a B).imp id fun b=>Te Y.o);clear H J ak au A;have h:=W.o;rw[Tn]at h;rw[h]at V;clear h;go_upto_region 4 with(fail);rw[<-X.o];obtain⟨mz,m0,m1,m2,m3,m4,m5,m6,m7,-⟩:=aF.ca;obtain⟨gz,g0,g1,-⟩:=aC.ca;obtain⟨yz,y0,y1,-⟩:=aI.ca;go_wp2_with fail;refine V.mono ?_;rintro g w9 ⟨a9,n9,c9,a8,n8,c8,rfl,av,K⟩;have⟨aL,aM⟩:=jw av K;have c:=s.kp K (fun g=>(T _ g).elim (fun b=>Te ((E.lt _ b).2)) (fun b=>Zm));have D:=Zy c;obtain⟨gz,g0,g1,-⟩:=c.ca;obtain⟨f0,f1,-⟩:=c.fz;clear av K c;go_wp2_with fail;refine PG (hU kF rfl (w+5) rfl [.slice a9 n9 c9,.slice a8 n8 c8] (hQ.kX (D.duo _ _)) rfl) rfl ?_;exact ny.fin (fun a B=>(E.lt a B).2) S T (Tf Y.o e.size) Zm aL.o aM.o (Kp.duo (D:=(·=w+5)) rfl _ _)
def tL(B:Nat)(W WS:World)(lv sv:Value)(O:Option lU)(b:Nat)(a:Option Addr)(n c:Nat)(a':Option Addr)(n' c':Nat):Prop:=
 jq WS b 195 #[.slice a n c,.slice a' n' c']/\(∀g,O=some g->kS B WS (.slice a n c) (.slice a' n' c') g/\∀x,Ob (.slice a n c) (.slice a' n' c') x->Ob lv sv x\/(W.heap.size<=x/\x≠b))/\Kp (Ob lv sv) W WS/\W.heap.size<=b
theorem tL.late{p:Nat}{o b h: World}{l m:Value}{n f: Nat}(t:Ext W o)(z:∀i,q=some i->kS p b (.slice a n c) (.slice e g f) i/\∀d,Ob (.slice a n c) (.slice e g f) d->Ob l m d\/o.heap.size<=d)(w:Kp (Ob l m) o b)(u:Ext b h)(v:jq h b 195 #[(),()]):tL p W ((h.setCell b (.slice a n c)).setCell (b,1) (.slice e g f)) l m q b a n c e g f:=by
 have x:Kp (·=b) h ((h.setCell b (.slice a n c)).setCell (b,1) (.slice e g f)):=Kp.duo (D:=(·=b)) rfl _ _;have C:=t.size;have D:=w.size;refine⟨v.duo _ _,fun i A=>?_,((t.any.trans w).mix u fun _ _ s=>s.elim).mix x fun B v r=>Zm,Zm⟩;obtain⟨k,y⟩:=z i A;refine⟨(k.ext u).kp x fun d j r=>Te ((k.lt d j).2),fun d j=>(y d j).imp id fun s=>⟨Zm,fun r=>Te ((k.lt d j).2)⟩⟩
theorem tL.soon{s:Nat}{d r q k: World}{i j:Value}{t:Option lU}{n f: Nat}(E:∀b,Ob i j b->b<W.heap.size)(h0:Ext W d)(w:Ext d r)(p:jq r d 195 #[(),()])(m:Ext r q)(C:∀l,t=some l->kS s k (.slice a n c) (.slice e g f) l/\∀b,Ob (.slice a n c) (.slice e g f) b->Ob i j b\/q.heap.size<=b)(x:Kp (Ob i j) q k):tL s W ((k.setCell d (.slice a n c)).setCell (d,1) (.slice e g f)) i j t d a n c e g f:=by
 have A:Kp (·=d) k ((k.setCell d (.slice a n c)).setCell (d,1) (.slice e g f)):=Kp.duo (D:=(·=d)) rfl _ _;have F:=h0.size;have H:=(p.ext m).lt;have z:¬Ob i j d.heap.size:=fun h=>Te (E _ h)
 refine⟨((p.ext m).kp x z).duo _ _,fun l D=>?_,((((h0.trans w).trans m).any.trans x).mix A fun G p u=>Zm),F⟩;obtain⟨B,v⟩:=C l D;have y:∀b,Ob (.slice a n c) (.slice e g f) b->b≠d.heap.size:=fun b o u=>by
  rcases v b o with h|h
  . exact z (u▸h)
  . omega
 have I:=((h0.trans w).trans m).size;exact⟨B.kp A y,fun b o=>(v b o).imp id fun h=>⟨Zm,y b o⟩⟩
theorem PY{l:List α}{q:Nat}{x:α}(a:l[q]?=some x):(l.take (q+1)).reverse=x::(l.take q).reverse:=by
 rw[Td,a];simp
theorem NI(s:Nat)(w:World)(I:Nat->Prop){v:Value}(p:jl)(hP:nA s w I v p)(k:Int)(hk:has p k=true)(lv sv:Value)(f:lU)(hf:kS s w lv sv f)(J:Nat->Prop)(vk:Value)(E:List Kind)(aI:SliceOf 2 mV w J vk E)(hJ:∀b,J b->b<s):Calls prog 204 #[.agg #[v],k,.agg #[lv,sv],vk] w fun e w'=>ny s w w' lv sv (lW p k E.reverse f) e:=by
 obtain⟨pa,pc,rfl,hn,bU⟩:=hP.sl.form;obtain⟨la,lc,sa,sc,rfl,rfl⟩:=hf.form;obtain⟨ka,kc,rfl,bW,bV⟩:=aI.form;obtain⟨Y,bq,au,bu,aV,aW,aX⟩:=SL w #[.slice pa p.length pc] 25 #[.slice la f.locals.length lc,.slice sa f.stack.length sc] 195 #[(),()] 195;have⟨bK,bI⟩:=jw (fun u (a:Kp (fun b=>s<=b) Y u) lv sv L (hg:kS s u lv sv L) y=>za s u I p ((hP.ext au).kp a fun _ a=>a) k hk lv sv L hg y) (fun u (a:Kp (fun b=>s<=b) Y u)=>(aI.ext mV.stays au).keep mV.stays (a.same fun b h hd=>Te (hJ b h)) (fun _ a=>a));obtain⟨bB,bD,bE⟩:=jI aV aW aX;have⟨HF,bF,aL,aC,bL⟩:=nC hf (hf.ext au) au bu bq;have HN:Zz (∀X,¬Ob (.slice la f.locals.length lc) (.slice sa f.stack.length sc) (w.heap.size+X)):=Zy (fun X a=>Te ((HF.lt _ a).2));obtain⟨aH,hR⟩:∃aH,lW p k E.reverse f=aH:=⟨_,rfl⟩;rw[hR];have HR:=Zy hR;clear au bq hf bu aV aW aX hP aI hR;go_enter func204,ntmps204;go_wp2_with fail;rw[<-bL.o];go_loopw [10] (fun aK wr=>∃r j o m l q n L,r<=E.length/\aK=.int .i64 ((r:Int) - 1)/\jq wr (w+1) 195 #[.slice j o m,.slice l q n]/\kS s wr (.slice j o m) (.slice l q n) L/\(∀b,Ob (.slice j o m) (.slice l q n) b->Ob (.slice la f.locals.length lc) (.slice sa f.stack.length sc) b\/Y.heap.size<=b)/\
  Kp (fun b=>Ob (.slice la f.locals.length lc) (.slice sa f.stack.length sc) b\/b=w.heap.size+1) Y wr/\Zz (lW p k (E.take r).reverse L=aH)) (fun aK _=>(intOf aK+1).toNat)
 case atStart=>exact⟨E.length,_,_,_,_,_,_,f,Tu _,rfl,bD,bF,fun b a=>.inl a,Kp.rr,Zy (by rw[TA];exact HR)⟩
 case round=>
  obtain⟨r,j,o,m,l,q,n,L,hq,rfl,aQ,aR,aT,D,HA⟩:=hrel;have⟨aF,ax,az,HK⟩:=kD aQ aR aT D;have aN:Zz (Kp (fun b=>s<=b) Y wr):=Zy (D.weak fun b _ a=>a.elim (fun a=>(HF.lt b a).1) (fun a=>Te HF.le));have aj:Zz (∀X,X<3->¬Ob (.slice j o m) (.slice l q n) (w.heap.size+X)):=Zy (fun X hj a=>(az _ a).elim (fun a=>HN.o X a) (fun a=>Te aC.o));have⟨bC,av⟩:=jw (bB.kp D (fun a=>a.elim (HN 0) (fun e=>Zm))) (bE.o.kp D (fun a=>a.elim (HN.o 2) (fun e=>Zm)));have bP:Zz ((w:Nat)+3<=(wr:Nat)):=Zy (Tf D.size aC.o);clear aQ aR aT D;obtain⟨dz,d0,d1,-⟩:=aF.ca;cases r with
  |zero=>
   have g:=HA.o;simp only[UO,List.reverse_nil,lW]at g;have aB:=Zy g;clear g;obtain⟨gz,g0,g1,-⟩:=av.ca;obtain⟨f0,f1,-⟩:=av.fz;go_wp2_with fail;refine PG (hU kF rfl (w+2) rfl [.slice j o m,.slice l q n] (hQ.kX (av.duo _ _)) rfl) rfl ?_;have W:Kp (·=w+2) wr ((wr.setCell ⟨w+2,0,none⟩ (.slice j o m)).setCell ⟨w+2,1,none⟩ (.slice l q n)):=Kp.duo (D:=(·=w+2)) rfl _ _;exact ny.yes aB.symm (ax.kp W fun b h e=>aj.o 2 Zm (e▸h)) (fun b h=>(az b h).imp id fun a=>Te aC.o) ((aL.o.any.mix HK.o fun b h a=>a.elim id fun e=>Zm).mix W fun b h e=>Zm)
  | succ r =>
   have dq:(r:Int)<E.length:=Zm
   have bn:((r+1:Nat):Int) - 1=r:=Zm
   rw[bn];obtain⟨R,hx⟩:∃R,E[r]?=some R:=⟨E[r]'Zm,CU Zm⟩;obtain⟨g1,o1,bR,rfl,aS,rfl,-,aP⟩:=(bI wr aN).get hx;obtain⟨s0,s1⟩:=aP.two;obtain⟨xk,xn⟩:=R;have⟨HX,aO,aA⟩:=jI hx (fun u (_:Ext wr u)=>yZ u ⟨xk,xn⟩) (fun u (a:Ext wr u)=>bK.o u (aN.mix a fun _ _ a=>a.elim) _ _ L (ax.ext a) (kH ⟨xk,xn⟩));have g:=HA.o;rw[PY HX.o,lW]at g;obtain⟨ak,hO⟩:∃ak,lX p k (kH ⟨xk,xn⟩) L=ak:=⟨_,rfl⟩;rw[hO]at aA g;have aB:=Zy g;obtain⟨bQ,fW,bX,HT⟩:=tN.ex (fun W'=>Kp (Ob (.slice j o m) (.slice l q n)) wr W') wr Kp.rr;have p0:=fun aa=>(bC.kp (HT.jC aa) (aj 0 Zm)).c 0 (.slice pa p.length pc) rfl;obtain⟨-,r0,r1,-⟩:=jq.pq fun aa=>(aF.kp (HT.jC aa) (aj 1 Zm));have aJ:¬Ob (.slice j o m) (.slice l q n) g1:=fun a=>Tf ((ax.lt _ a).1) (hJ _ aS)
   have t0:=fun aa=>(HT.jC aa).mJ s0 aJ;have t1:=fun aa=>(HT.jC aa).mJ s1 aJ;have ay:Zz (∀R,Ob (.slice j o m) (.slice l q n) R->R<wr.heap.size):=Zy (fun R hx=>(ax.lt R hx).2);have i:=Zy HT;clear hx aP s0 s1 g hO HT aJ d0 d1 dz aS bn;go_upto_region 4 with(fail);go_cut [11,12] (fun bN bO wx=>∃b G Q K F P H,bN=.pointer (some ⟨b,0,none⟩)/\bO=.bool ak.isSome/\tL s wr wx (.slice j o m) (.slice l q n) ak b G Q K F P H)
   case first=>
    refine rQ i 14 (.two [0,1,2,3,4,5,6] 7 12 (.two [] 8 12 (.one [9,10,11] 12 (.one [] 13 (.fin []))) (.one [] 8 (.one [9,10,11] 13 (.fin [])))) (.one [] 7 (.one [] 8 (.one [9,10,11] 13 (.fin []))))) ?_ ?_
    . exact jA
    refine two [_,_,_,_,_,_,_] rfl rfl rfl fun bM D=>?_;(repeat (go_big_quiet_step (fail)));((refine EP D (fun d c=>?_) fun d c=>?_)<;>clear D bM)
    . have T:Ext wr wr.drew:=jA;generalize wr.drew=wd at T |-;go_wp2_with fail;refine(aO wd T).mono ?_;rintro e w7 ⟨rfl,af⟩;have x:=T.trans af;clear af;go_wp2_with fail;refine kk i c x.any ?_;clear c d;refine Ck rfl rfl (fun d c=>?_) fun d c=>?_
      . go_wp2_with fail;refine(aA w7 x).mono ?_;rintro e w8 ⟨G,Q,K,F,P,H,rfl,N,A⟩;have⟨ai,B,ae⟩:=jI N A (x.any.trans A);clear N A;go_wp2_with fail;refine kk i c ae ?_;clear c d;refine Ac ?_;intro d c;go_wp2_with fail;obtain⟨wy,O,z,C⟩:=nu w8 #[(),()] 195;rw[<-O];have⟨ah,S,bJ⟩:=jI z C (ae.mix z fun _ _ a=>a.elim);obtain⟨zz,z0,z1,-⟩:=C.ca;obtain⟨bz,bA,-⟩:=C.fz;clear O z C;refine kk i c bJ ?_;clear c d;refine j3 rfl fun d c=>?_;go_wp2_with fail;have t:=Zy (tL.late x ai B ah S);refine kk i c t.2.2.1 ?_;clear c d;refine kQ ?_;go_wp2;go_meet;exact⟨_,_,_,_,_,_,_,rfl,rfl,t⟩
      . go_wp2_with fail;obtain⟨wy,O,z,C⟩:=nu w7 #[(),()] 195;rw[<-O];have⟨ah,S⟩:=jw z C;have U:=x.trans z;clear O z C;refine kk i c U.any ?_;clear c d;refine j3 rfl fun d c=>?_;go_wp2_with fail;refine(aA wy U).mono ?_;rintro e w8 ⟨G,Q,K,F,P,H,rfl,N,A⟩;have⟨ai,B,ae⟩:=jI N A (U.any.trans A);clear N A;have V:=S.kp B (fun a=>Tf (ay.o _ a) x.size);obtain⟨zz,z0,z1,-⟩:=V.ca;obtain⟨bz,bA,-⟩:=V.fz;clear V;go_wp2_with fail;refine kk i c ae ?_;clear c d;refine Ac ?_;intro d c;go_wp2_with fail;have t:=Zy (tL.soon ay x ah S Kp.rr ai B);refine kk i c t.2.2.1 ?_;clear c d;refine kQ ?_;go_wp2;go_meet;exact⟨_,_,_,_,_,_,_,rfl,rfl,t⟩
    . have T:Ext wr wr.drew:=jA;generalize wr.drew=wd at T |-;go_wp2_with fail;obtain⟨wy,O,z,C⟩:=nu wd #[(),()] 195;rw[<-O];have⟨ah,S,aM⟩:=jI z C T;have U:=T.trans z;clear O z C;refine kk i c U.any ?_;clear c d;refine j3 rfl fun d c=>?_;go_wp2_with fail;refine(aO wy U).mono ?_;rintro e w7 ⟨rfl,af⟩;have x:=U.trans af;have aU:=af;clear af;go_wp2_with fail;refine kk i c x.any ?_;clear c d;refine j3 rfl fun d c=>?_;go_wp2_with fail;refine(aA w7 x).mono ?_;rintro e w8 ⟨G,Q,K,F,P,H,rfl,N,A⟩;have⟨ai,B,ae⟩:=jI N A (x.any.trans A);clear N A;have V:=(S.ext aU).kp B (fun a=>Tf (ay.o _ a) aM.size);obtain⟨zz,z0,z1,-⟩:=V.ca;obtain⟨bz,bA,-⟩:=V.fz;clear V;go_wp2_with fail;refine kk i c ae ?_;clear c d;refine Ac ?_;intro d c;go_wp2_with fail;have t:=Zy (tL.soon ay aM ah S aU ai B);refine kk i c t.2.2.1 ?_;clear c d;refine kQ ?_;go_wp2;go_meet;exact⟨_,_,_,_,_,_,_,rfl,rfl,t⟩
   obtain⟨bg,G,Q,K,F,P,H,rfl,rfl,hH⟩:=hcut;obtain⟨Z,rfl⟩:∃Z,Z=wc:=⟨_,rfl⟩;have t:=Zy hH;have B:Zz (Kp (fun b=>Ob (.slice la f.locals.length lc) (.slice sa f.stack.length sc) b\/b=w.heap.size+1) Y Z):=Zy (HK.mix hH.2.2.1 fun b h a=>(az b a).elim .inl (fun a=>Zm));have⟨ag,aD⟩:=jw (aF.kp hH.2.2.1 (aj 1 Zm)) (av.kp hH.2.2.1 (aj 2 Zm));clear hH i p0 r0 r1 t0 t1;cases ak with
   |none=>
    have g:=aB.o;rw[Option.bind_none]at g;obtain⟨dz,d0,d1,-⟩:=ag.ca;obtain⟨gz,g0,g1,-⟩:=aD.ca;obtain⟨f0,f1,-⟩:=aD.fz;have aG:=Zy g;clear g;go_wp2_with fail;refine PG (hU kF rfl (w+2) rfl [.slice j o m,.slice l q n] (hQ.kX (aD.duo _ _)) rfl) rfl ?_;have W:Kp (·=w+2) Z ((Z.setCell ⟨w+2,0,none⟩ (.slice j o m)).setCell ⟨w+2,1,none⟩ (.slice l q n)):=Kp.duo (D:=(·=w+2)) rfl _ _;exact ny.no aG.symm ((aL.any.mix B fun b h a=>a.elim id fun e=>Zm).mix W fun b h e=>Zm)
   | some g2 =>
    obtain⟨aY,aZ⟩:=t.2.1 g2 rfl;have⟨bG,bH⟩:=jw aY aZ;have g:=aB.o;rw[Tn]at g;have aG:=Zy g;obtain⟨dz,d0,d1,-⟩:=ag.ca;obtain⟨gz,g0,g1,-⟩:=t.1.ca;have bS:=ag.frozen 0;have bT:=ag.frozen 1;clear g aY aZ;go_wp2;go_round
    case rel=>
     have W:Kp (·=w+1) Z ((Z.setCell ⟨w+1,0,none⟩ (.slice G Q K)).setCell ⟨w+1,1,none⟩ (.slice F P H)):=Kp.duo (D:=(·=w+1)) rfl _ _;have bf:∀b,Ob (.slice G Q K) (.slice F P H) b->Ob (.slice la f.locals.length lc) (.slice sa f.stack.length sc) b\/Y.heap.size<=b:=fun b h=>(bH b h).elim (fun a=>az.o b a) (fun a=>.inr (Te HK.size));exact⟨r,G,Q,K,F,P,H,g2,Zm,Zk,ag.o.duo _ _,bG.o.kp W fun b h e=>(bf b h).elim (fun a=>HN.o 1 (e▸a)) (fun a=>Te aC.o),bf,B.o.trans (W.weak fun _ _ a=>.inr a),aG⟩
    case measure=>simp[intOf]
theorem Qt(a:i.op=7):jQ p k m i s=if(M.get p k i.name i.member).2=1 then(lX p k (kP i.name) s).bind (lK m (kH (M.get p k i.name i.member).1.kind))else none:=by
 unfold jQ;iterate 6 rw[T9 Zm]
 rw[Ty a]
theorem Qu(a:i.op=8):jQ p k m i s=if(M.get p k i.name i.member).2=1 then(lX p k (kH (M.get p k i.name i.member).1.kind) s).bind (lX p k (kP i.name))else none:=by
 unfold jQ;iterate 7 rw[T9 Zm]
 rw[Ty a]
theorem Qv(a:i.op=9):jQ p k m i s=if(call p k i.name i.member).2=1 then (lW p k (M.method p (call p k i.name i.member).1).args.reverse s).bind fun b=>(lX p k (kP i.name) b).bind (lK m (kH (M.method p (call p k i.name i.member).1).ret))else none:=by
 unfold jQ;iterate 8 rw[T9 Zm]
 rw[Ty a]
theorem IU{m: ByteArray}(a:(call p k n m).2=1):∃(j:Nat)(c:Class),cls? p (call p k n m).1.of=some c/\(call p k n m).1.at_=j/\c.methods[j]?=some (M.method p (call p k n m).1):=by
 obtain⟨i,g⟩:=su a;obtain⟨-,-,j,c,h,b,d,e,-,f⟩:=pM g;exact⟨j,c,d,b,by unfold M.method;rw[f];exact e⟩
theorem jy.parts{cs:List Value}(g:jy w I m cs):∃a q1 b q2 c q3,cs=[.string m.name,.slice a m.args.length q1,.int .i64 m.ret.kind,.string m.ret.name,.int .i64 m.locals,.int .i64 m.stack,.slice b m.code.length q2,.slice c m.maps.length q3]/\SliceOf 2 mV w I (.slice a m.args.length q1) m.args/\SliceOf 4 zO w I (.slice b m.code.length q2) m.code/\SliceOf 3 mI w I (.slice c m.maps.length q3) m.maps:=by
 obtain⟨h,i,j,rfl,d,e,f⟩:=g;obtain⟨a,q1,rfl,-,-⟩:=d.form;obtain⟨b,q2,rfl,-,-⟩:=e.form;obtain⟨c,q3,rfl,-,-⟩:=f.form;exact⟨_,_,_,_,_,_,rfl,d,e,f⟩
theorem JN(E:Nat)(w:World)(I:Nat->Prop){v:Value}(p:jl)(hP:nA E w I v p)(k:Int)(hk:has p k=true){cs:List Value}(m:M.Method)(hm:Ct m cs)(fO:m.stack<=1000){Q R:Value}(f:lU)(hf:kS E w Q R f)(i:Ins)(ek:i.op=7\/i.op=8\/i.op=9)(dZ:jL i.name=true)(dW:jL i.member=true):Calls prog 161 #[.agg #[v],k,.agg cs.toArray,.agg #[Q,R],.agg #[i.op,i.a,i.name,i.member]] w fun h w'=>ny E w w' Q R (jQ p k m i f) h:=by
 obtain⟨pa,pc,rfl,hn,fZ⟩:=hP.sl.form;obtain⟨t,u,x,z,rfl,rfl⟩:=hf.form;obtain⟨a1,n1,q1,a2,n2,q2,a3,n3,q3,rfl⟩:=hm;obtain⟨w0,eu,dK,eH,dO,dP,dQ,A,dR⟩:=SF w #[.slice pa p.length pc] 25 #[m.name,.slice a1 n1 q1,m.ret.kind,m.ret.name,m.locals,m.stack,.slice a2 n2 q2,.slice a3 n3 q3] 113 #[.slice t f.locals.length u,.slice x f.stack.length z] 195 #[i.op,i.a,i.name,i.member] 134 #[(),()] 195;obtain⟨w1,eB,ax,bO⟩:=nu w0 #[.int .i64 2,i.name] 236;have bD:=dK.trans ax;have⟨av,dC,dA,df,fA,fB,bL⟩:=tq (hP.ext bD) (fun e (O:nA E e I (.slice pa p.length pc) p) Q R K (hg:kS E e Q R K) X y=>GR E e I p O k hk m ⟨a1,n1,q1,a2,n2,q2,a3,n3,q3,rfl⟩ fO Q R K hg X y) (fun e (O:nA E e I (.slice pa p.length pc) p) Q R K (hg:kS E e Q R K) y=>za E e I p O k hk Q R K hg y) (fun e (O:nA E e I (.slice pa p.length pc) p) Q R K (hg:kS E e Q R K) J vk ks (fM:SliceOf 2 mV e J vk ks) hJ=>NI E e I p O k hk Q R K hg J vk ks fM hJ) (fun e (O:nA E e I (.slice pa p.length pc) p)=>NC e I O.blk p O.sl O.ok k hk i.name i.member dZ dW) (fun e (O:nA E e I (.slice pa p.length pc) p)=>PU e I O.blk p O.sl O.ok k hk i.name i.member dZ dW) eH;have bM:Zz ((w:Nat)+6<=(w1:Nat)):=Zy (Te bO.lt);obtain⟨aC,bV,aI,ah,ai⟩:=nC (dO.ext ax) (dP.ext ax) (dQ.ext ax) (A.ext ax) (dR.ext ax);have⟨bX,Y,cB,bn,fF,fG⟩:=pR bO hf (hf.ext bD) bD eu eB;have N:Zz (∀ag,¬Ob (.slice t f.locals.length u) (.slice x f.stack.length z) (w.heap.size+ag)):=Zy (fun ag a=>Te ((Y.lt _ a).2));have aL:Zz (∀X,Ob (.slice t f.locals.length u) (.slice x f.stack.length z) X->X<w.heap.size):=Zy (fun X hx=>(Y.lt X hx).2);obtain⟨bC,hR⟩:∃bC,jQ p k m i f=bC:=⟨_,rfl⟩;rw[hR];have HR:=Zy hR;obtain⟨iz,i0,i1,i2,i3,-⟩:=A.ca;clear dK eu hf eH dO dP dQ A dR bO hP hR eB ax bD;go_enter func161,ntmps161;go_upto_region 1 with(fail);rw[<-fF.o];go_upto_region 2 with(fail);rw[<-fG.o];clear i0 i1 i2 i3 iz;obtain⟨iz,i0,i1,i2,i3,-⟩:=ah.ca;by_cases h9:i.op=9
 . have c:=HR.o;rw[Qv h9]at c;rw[h9]at i0;have⟨aZ,bf⟩:=jw (fA w1 av) (IU (p:=p) (k:=k) (n:=i.name) (m:=i.member));obtain⟨ak,hF⟩:∃ak,call p k i.name i.member=ak:=⟨_,rfl⟩;rw[hF]at c aZ bf;have bA:=Zy c;obtain⟨⟨⟨xk,xn⟩,xa⟩,xc⟩:=ak;simp only at bA aZ bf;clear c hF h9;obtain⟨cz,c0,-⟩:=aC.ca;go_upto_region 3 with(fail);go_wp2_with fail;refine aZ.mono ?_;rintro h w2 ⟨rfl,aF⟩;obtain⟨q,aT,aR,dG⟩:=nu w2 #[xk,xn,xa] 66;have⟨n,aH,aD⟩:=jI (aF.trans aR) dG aT;clear c0 cz i0 i1 i2 i3 iz aF aR aT dG aZ;by_cases hc:xc=1
   . subst hc;obtain⟨ag,cl,dS,eG,dU⟩:=bf.o rfl;have c:=bA.o;rw[Ty rfl]at c;obtain⟨ms,bR,dV⟩:=xS q I p (av.ext n).sl ⟨⟨xk,xn⟩,xa⟩ cl ag _ dS eG dU;obtain⟨H,dX⟩:∃H,M.method p ⟨⟨xk,xn⟩,xa⟩=H:=⟨_,rfl⟩;rw[dX]at c bR;have aN:=Zy c;obtain⟨a4,q4,a5,q5,a6,q6,rfl,dN,-,-⟩:=bR.parts;have⟨di,bT⟩:=jw (dV q Kp.rr) dN;clear c bR dV dS eG dU dX dN bf bA;obtain⟨cz,c0,-⟩:=(aC.ext n).ca;obtain⟨xz,x0,x1,x2,-⟩:=aH.ca;go_upto_region 6 with(fail);rw[<-aD.o];go_wp2_with fail;refine di.mono ?_;rintro h w4 ⟨rfl,D⟩;obtain⟨w5,eD,dL,dH⟩:=nu w4 #[.string H.name,.slice a4 H.args.length q4,.int .i64 H.ret.kind,.string H.ret.name,.int .i64 H.locals,.int .i64 H.stack,.slice a5 H.code.length q5,.slice a6 H.maps.length q6] 113;have bZ:=Zy (D.trans dL);have⟨P,bF,fH⟩:=jI (n.trans bZ) dH eD;have dE:Zz ((w:Nat)<=w4):=Zy (Tg bn.size n.size D.size);have eQ:=Zy (bT.ext mV.stays bZ);have dh:=Zy (df w5 (av.ext P) _ _ f (cB.ext P) I _ H.args eQ av.lt);obtain⟨aa,hO⟩:∃aa,lW p k H.args.reverse f=aa:=⟨_,rfl⟩;rw[hO]at dh;have dB:Zz ((aa.bind fun s1=>(lX p k (kP i.name) s1).bind (lK m (kH H.ret)))=bC):=Zy (by rw[<-hO];exact aN);clear D dL dH eD hO c0 cz x0 x1 x2 xz di bT df aN;obtain⟨cz,c0,-⟩:=(aC.ext P).ca;obtain⟨dz,d0,d1,-⟩:=(aI.ext P).ca;obtain⟨mz,-,m1,-⟩:=bF.ca;go_upto_region 7 with(fail);rw[<-fH.o];go_wp2_with fail;refine dh.mono ?_;rintro h w6 ⟨b1,aA,e1,b2,aB,e2,rfl,bP,bQ⟩;obtain⟨B,eF,bE,dI⟩:=nu w6 #[.slice b1 aA e1,.slice b2 aB e2] 195;have af:Zz (Kp (Ob (.slice t f.locals.length u) (.slice x f.stack.length z)) w5 B):=Zy (bQ.mix bE fun _ _ a=>a.elim);have⟨eU,dD⟩:=jw dI eF;have cO:Zz (Kp (Ob (.slice t f.locals.length u) (.slice x f.stack.length z)) w B):=Zy ((bn.trans P).any.trans af);have⟨eX,fe,fo,aX,fu,eT⟩:=pR ((aC.ext P).kp af (N 0)) ((bV.ext P).kp af (N 1)) ((aI.ext P).kp af (N 2)) ((ai.ext P).kp af (N 4)) ((bX.ext P).kp af (fun a=>Tf (aL.o _ a) bL.o)) (bF.o.kp af.o (fun a=>Tf (aL.o _ a) dE.o));have bB:Zz ((w4:Nat)<w5/\(w:Nat)+6<=(w5:Nat)):=Zy (Tg bF.lt P.size bM.o);clear c0 cz d0 d1 dz m1 mz eF dI;cases aa with
     |none=>
      have c:=dB.o;rw[Option.bind_none]at c;subst c;clear bP bQ bE;go_upto_region 9 with(fail);rw[<-dD.o];obtain⟨dz,d0,d1,-⟩:=fo.ca;obtain⟨gz,U,V,-⟩:=aX.ca;obtain⟨f0,f1,-⟩:=aX.fz;go_wp2_with fail;refine PG (hU kF rfl (w+4) rfl [.slice t f.locals.length u,.slice x f.stack.length z] (hQ.kX (aX.duo _ _)) rfl) rfl ?_;exact ny.no rfl (Kp.mix cO (Kp.duo (D:=(·=w+4)) rfl _ _) fun d G h=>Zm)
     |some K=>
      obtain⟨aG,az⟩:=bP K rfl;have c:=dB.o;rw[Tn]at c;have fD:=Zy ((av.ext P).kp af (fun d a=>(Y.lt d a).1));have aO:=Zy (fun e (a:Ext B e)=>dC.o e (fD.ext a) _ _ K (aG.ext (bE.trans a)) (kP i.name) (kH H.ret));rw[c]at aO;have aP:=Zy (fun e (_:Ext B e)=>yZ e H.ret);have aM:Zz (∀d,Ob (.slice b1 aA e1) (.slice b2 aB e2) d->Ob (.slice t f.locals.length u) (.slice x f.stack.length z) d\/(w.heap.size<=d/\d≠w.heap.size+4)):=Zy (fun d G=>(az d G).imp id fun a=>Te bB.o);have bJ:Zz (∀ag,ag<6->¬Ob (.slice b1 aA e1) (.slice b2 aB e2) (w.heap.size+ag)):=Zy (fun ag hj a=>(az _ a).elim (fun a=>N.o ag a) (fun a=>Te bB.o));have aS:¬Ob (.slice b1 aA e1) (.slice b2 aB e2) w0.heap.size:=fun a=>by rw[bL.o]at a;exact bJ 5 Zm a
      have fQ:¬Ob (.slice b1 aA e1) (.slice b2 aB e2) w6.heap.size:=fun a=>Te ((aG.lt _ a).2)
      have fP:¬Ob (.slice b1 aA e1) (.slice b2 aB e2) w4.heap.size:=fun a=>(az _ a).elim (fun a=>Tf (aL.o _ a) dE.o) (fun a=>Te bB.o);obtain⟨dF,fW,dY,r⟩:=tN.ex (fun W'=>Kp (Ob (.slice b1 aA e1) (.slice b2 aB e2)) B W') B Kp.rr;have p0:=fun l=>(eX.kp (r.jC l) (bJ 0 Zm)).c 0 (.slice pa p.length pc) rfl;obtain⟨-,m0,m1,m2,m3,m4,m5,m6,m7,-⟩:=jq.pq fun l=>(fe.kp (r.jC l) (bJ 1 Zm));obtain⟨-,U,V,-⟩:=jq.pq fun l=>(eU.kp (r.jC l) fQ);obtain⟨-,s0,s1,-⟩:=jq.pq fun l=>(fu.kp (r.jC l) aS);obtain⟨-,-,-,r2,r3,-⟩:=jq.pq fun l=>(eT.kp (r.jC l) fP);have s:=Zy r;clear bP bQ bE aG az c r;go_upto_region 10 with(fail);rw[<-dD.o];refine lq s 11 [([0,1,2,3,4,5,6],7),([],8)] [9,10] ?_ ?_
      . exact jA
      refine nE ?_;intro g b;have F:Ext B B.drew:=jA;generalize B.drew=wd at F |-;go_wp2_with fail;refine(aP wd F).mono ?_;rintro h B ⟨rfl,D⟩;have o:=F.trans D;clear D;go_wp2_with fail;refine kk s b o.any ?_;clear b g;refine mF rfl fun g b=>?_;go_wp2_with fail;refine(aO B o).mono ?_;rintro h w8 ⟨a9,n9,c9,a8,n8,c8,rfl,C,j⟩;have⟨S,L,Z,aJ⟩:=kD C j (o.any.trans j) o;have A:=(aX.ext o).kp j (fun h=>(aM _ h).elim (fun a=>Te ((Y.lt _ a).2)) (fun a=>Zm));have ah:=Zy A;clear C j;go_wp2_with fail;refine kk s b Z ?_;clear b g;refine qX [_,_] rfl fun aQ hK=>?_;(repeat (go_big_quiet_step (fail)));refine qn hK ?_;clear hK aQ;obtain⟨gz,U,V,-⟩:=A.ca;obtain⟨f0,f1,-⟩:=A.fz;clear A;go_wp2_with fail;refine PG (hU kF rfl (w+4) rfl [.slice a9 n9 c9,.slice a8 n8 c8] (hQ.kX (ah.duo _ _)) rfl) rfl ?_;exact ny.fin (fun d G=>(Y.lt d G).2) (Kp.mix cO aJ (fun _ _ a=>a.elim)) aM (Ta (Tf bB.o af.size) aJ.o.size) Zm S.o L.o (Kp.duo (D:=(·=w+4)) rfl _ _)
   . have c:=bA.o;rw[T9 hc]at c;subst c;have fK:(xc !=1)=true:=by simpa using hc
     clear hc;go_upto_region 5 with(fail);rw[<-aD.o];obtain⟨dz,d0,d1,-⟩:=(aI.ext n).ca;obtain⟨gz,U,V,-⟩:=(ai.ext n).ca;obtain⟨f0,f1,-⟩:=(ai.ext n).fz;go_wp2_with fail;refine PG (hU kF rfl (w+4) rfl [.slice t f.locals.length u,.slice x f.stack.length z] (hQ.kX ((ai.ext n).duo _ _)) rfl) rfl ?_;exact ny.no rfl (Kp.mix (bn.trans n).any (Kp.duo (D:=(·=w+4)) rfl _ _) fun d G h=>Zm)
 . have fV:(i.op==9)=false:=by simpa using h9
   have bq:=Zy (fB w1 av);obtain⟨ak,hF⟩:∃ak,M.get p k i.name i.member=ak:=⟨_,rfl⟩;have⟨H7,H8⟩:=jw (fun a:i.op=7=>(Qt (p:=p) (k:=k) (m:=m) (s:=f) a).symm.trans HR) (fun a:i.op=8=>(Qu (p:=p) (k:=k) (m:=m) (s:=f) a).symm.trans HR);rw[hF]at bq H7 H8;obtain⟨⟨⟨xk,xn⟩,xa,⟨aU,aV⟩⟩,xc⟩:=ak;simp only at bq H7 H8;have⟨dn,H9⟩:=jw ek h9;clear hF h9 ek;obtain⟨cz,c0,-⟩:=aC.ca;go_upto_region 11 with(fail);go_wp2_with fail;refine bq.mono ?_;rintro h w2 ⟨rfl,aF⟩;obtain⟨q,aT,aR,dJ⟩:=nu w2 #[xk,xn,xa,aU,aV] 173;have⟨n,bU,aD⟩:=jI (aF.trans aR) dJ aT;have fI:Zz ((w:Nat)+6<=(w2:Nat)):=Zy (Tf bM.o aF.size);have bI:Zz (Kp (Ob (.slice t f.locals.length u) (.slice x f.stack.length z)) w q):=Zy (bn.trans n).any;clear c0 cz i0 i1 i2 i3 iz aF aR aT dJ bq;by_cases hc:xc=1
   . subst hc;have⟨bK,bH,aP⟩:=jI (av.ext n) (cB.ext n) (fun e (_:Ext q e)=>yZ e ⟨aU,aV⟩);have aM:Zz (∀d,Ob (.slice t f.locals.length u) (.slice x f.stack.length z) d->Ob (.slice t f.locals.length u) (.slice x f.stack.length z) d\/(w.heap.size<=d/\d≠w.heap.size+4)):=Zy (fun d G=>.inl G);have bu:Zz (∀X,Ob (.slice t f.locals.length u) (.slice x f.stack.length z) X->X<q.heap.size):=Zy (fun X hx=>(bH.lt X hx).2);have⟨aH,eZ,bG,aW,bW,bY⟩:=pR (aC.ext n) (bV.ext n) (aI.ext n) (ah.ext n) (ai.ext n) (bX.ext n);have bN:Zz ((w:Nat)+6<=(q:Nat)):=Zy (Tf bM.o n.size);have aS:¬Ob (.slice t f.locals.length u) (.slice x f.stack.length z) w0.heap.size:=fun a=>Tf (aL.o _ a) bL.o
     have bS:¬Ob (.slice t f.locals.length u) (.slice x f.stack.length z) w2.heap.size:=fun a=>Tf (aL.o _ a) fI.o
     by_cases h7:i.op=7
     . have c:=H7.o h7;rw[Ty rfl]at c;have aO:=Zy (fun e (a:Ext q e)=>dC.o e (bK.ext a) _ _ f (bH.ext a) (kP i.name) (kH ⟨aU,aV⟩));rw[c]at aO;have i0:=aW.c 0 i.op rfl;rw[h7]at i0;have iz:=aW.lt;obtain⟨dF,fW,dY,r⟩:=tN.ex (fun W'=>Kp (Ob (.slice t f.locals.length u) (.slice x f.stack.length z)) q W') q Kp.rr;have p0:=fun l=>(aH.kp (r.jC l) (N 0)).c 0 (.slice pa p.length pc) rfl;obtain⟨-,m0,m1,m2,m3,m4,m5,m6,m7,-⟩:=jq.pq fun l=>(eZ.kp (r.jC l) (N 1));obtain⟨-,U,V,-⟩:=jq.pq fun l=>(bG.kp (r.jC l) (N 2));obtain⟨-,s0,s1,-⟩:=jq.pq fun l=>(bY.kp (r.jC l) aS);obtain⟨-,-,-,-,r3,r4,-⟩:=jq.pq fun l=>(bU.kp (r.jC l) bS);have s:=Zy r;clear c r h7;go_upto_region 14 with(fail);rw[<-aD.o];go_upto_region 15 with(fail);refine lq s 11 [([0,1,2,3,4,5,6],7),([],8)] [9,10] ?_ ?_
       . exact jA
       refine nE ?_;intro g b;have F:Ext q q.drew:=jA;generalize q.drew=wd at F |-;go_wp2_with fail;refine(aP wd F).mono ?_;rintro h B ⟨rfl,D⟩;have o:=F.trans D;clear D;go_wp2_with fail;refine kk s b o.any ?_;clear b g;refine mF rfl fun g b=>?_;go_wp2_with fail;refine(aO B o).mono ?_;rintro h w8 ⟨a9,n9,c9,a8,n8,c8,rfl,C,j⟩;have⟨S,L,Z,aJ⟩:=kD C j (o.any.trans j) o;have A:=(bW.ext o).kp j (fun h=>(aM _ h).elim (fun a=>Te ((Y.lt _ a).2)) (fun a=>Zm));have ah:=Zy A;clear C j;go_wp2_with fail;refine kk s b Z ?_;clear b g;refine qX [_,_] rfl fun aQ hK=>?_;(repeat (go_big_quiet_step (fail)));refine qn hK ?_;clear hK aQ;obtain⟨gz,U,V,-⟩:=A.ca;obtain⟨f0,f1,-⟩:=A.fz;clear A;go_wp2_with fail;refine PG (hU kF rfl (w+4) rfl [.slice a9 n9 c9,.slice a8 n8 c8] (hQ.kX (ah.duo _ _)) rfl) rfl ?_;exact ny.fin (fun d G=>(Y.lt d G).2) (Kp.mix bI aJ (fun _ _ a=>a.elim)) aM (Ta (Te bN.o) aJ.o.size) Zm S.o L.o (Kp.duo (D:=(·=w+4)) rfl _ _)
     . have h8:i.op=8:=Tf dn.o H9.o
       have c:=H8.o h8;rw[Ty rfl]at c;have bz:=Zy (fun e (a:Ext q e)=>dA.o e (bK.ext a) _ _ f (bH.ext a) (kH ⟨aU,aV⟩));obtain⟨aa,hO⟩:∃aa,lX p k (kH ⟨aU,aV⟩) f=aa:=⟨_,rfl⟩;rw[hO]at bz c;have aN:=Zy c;have i0:=aW.c 0 i.op rfl;rw[h8]at i0;have iz:=aW.lt;obtain⟨dF,fW,dY,r⟩:=tN.ex (fun W'=>Kp (Ob (.slice t f.locals.length u) (.slice x f.stack.length z)) q W') q Kp.rr;have p0:=fun l=>(aH.kp (r.jC l) (N 0)).c 0 (.slice pa p.length pc) rfl;obtain⟨-,U,V,-⟩:=jq.pq fun l=>(bG.kp (r.jC l) (N 2));obtain⟨-,-,-,-,r3,r4,-⟩:=jq.pq fun l=>(bU.kp (r.jC l) bS);have s:=Zy r;clear c r h7 h8 hO;go_upto_region 14 with(fail);rw[<-aD.o];go_upto_region 16 with(fail);go_cut [20,21] (fun fT fU wx=>∃d a9 n9 c9 a8 n8 c8,fT=.pointer (some ⟨d,0,none⟩)/\fU=.bool aa.isSome/\tL E q wx (.slice t f.locals.length u) (.slice x f.stack.length z) aa d a9 n9 c9 a8 n8 c8)
       case first=>
        refine rQ s 12 (.two [0,1,2,3,4] 5 10 (.two [] 6 10 (.one [7,8,9] 10 (.one [] 11 (.fin []))) (.one [] 6 (.one [7,8,9] 11 (.fin [])))) (.one [] 5 (.one [] 6 (.one [7,8,9] 11 (.fin []))))) ?_ ?_
        . exact jA
        refine two [_,_,_,_,_] rfl rfl rfl fun aQ hK=>?_;(repeat (go_big_quiet_step (fail)));((refine EP hK (fun g b=>?_) fun g b=>?_)<;>clear hK aQ)
        . have F:Ext q q.drew:=jA;generalize q.drew=wd at F |-;go_wp2_with fail;refine(aP wd F).mono ?_;rintro h B ⟨rfl,D⟩;have o:=F.trans D;clear D;go_wp2_with fail;refine kk s b o.any ?_;clear b g;refine Ck rfl rfl (fun g b=>?_) fun g b=>?_
          . go_wp2_with fail;refine(bz B o).mono ?_;rintro h w8 ⟨a9,n9,c9,a8,n8,c8,rfl,C,j⟩;have⟨S,L,Z⟩:=jI C j (o.any.trans j);clear C j;go_wp2_with fail;refine kk s b Z ?_;clear b g;refine Ac ?_;intro g b;go_wp2_with fail;obtain⟨wy,aj,W,ae⟩:=nu w8 #[(),()] 195;rw[<-aj];have⟨aK,au,fC⟩:=jI W ae (Z.mix W fun _ _ a=>a.elim);obtain⟨zz,z0,z1,-⟩:=ae.ca;obtain⟨eO,eP,-⟩:=ae.fz;clear aj W ae;refine kk s b fC ?_;clear b g;refine j3 rfl fun g b=>?_;go_wp2_with fail;have T:=Zy (tL.late o S L aK au);refine kk s b T.2.2.1 ?_;clear b g;refine kQ ?_;go_wp2;go_meet;exact⟨_,_,_,_,_,_,_,rfl,rfl,T⟩
          . go_wp2_with fail;obtain⟨wy,aj,W,ae⟩:=nu B #[(),()] 195;rw[<-aj];have⟨aK,au⟩:=jw W ae;have ey:=o.trans W;clear aj W ae;refine kk s b ey.any ?_;clear b g;refine j3 rfl fun g b=>?_;go_wp2_with fail;refine(bz wy ey).mono ?_;rintro h w8 ⟨a9,n9,c9,a8,n8,c8,rfl,C,j⟩;have⟨S,L,Z⟩:=jI C j (ey.any.trans j);clear C j;have ay:=au.kp L (fun a=>Tf (bu.o _ a) o.size);obtain⟨zz,z0,z1,-⟩:=ay.ca;obtain⟨eO,eP,-⟩:=ay.fz;clear ay;go_wp2_with fail;refine kk s b Z ?_;clear b g;refine Ac ?_;intro g b;go_wp2_with fail;have T:=Zy (tL.soon bu o aK au Kp.rr S L);refine kk s b T.2.2.1 ?_;clear b g;refine kQ ?_;go_wp2;go_meet;exact⟨_,_,_,_,_,_,_,rfl,rfl,T⟩
        . have F:Ext q q.drew:=jA;generalize q.drew=wd at F |-;go_wp2_with fail;obtain⟨wy,aj,W,ae⟩:=nu wd #[(),()] 195;rw[<-aj];have⟨aK,au,cu⟩:=jI W ae F;have ey:=F.trans W;clear aj W ae;refine kk s b ey.any ?_;clear b g;refine j3 rfl fun g b=>?_;go_wp2_with fail;refine(aP wy ey).mono ?_;rintro h B ⟨rfl,D⟩;have o:=ey.trans D;have dM:=D;clear D;go_wp2_with fail;refine kk s b o.any ?_;clear b g;refine j3 rfl fun g b=>?_;go_wp2_with fail;refine(bz B o).mono ?_;rintro h w8 ⟨a9,n9,c9,a8,n8,c8,rfl,C,j⟩;have⟨S,L,Z⟩:=jI C j (o.any.trans j);clear C j;have ay:=(au.ext dM).kp L (fun a=>Tf (bu.o _ a) cu.size);obtain⟨zz,z0,z1,-⟩:=ay.ca;obtain⟨eO,eP,-⟩:=ay.fz;clear ay;go_wp2_with fail;refine kk s b Z ?_;clear b g;refine Ac ?_;intro g b;go_wp2_with fail;have T:=Zy (tL.soon bu cu aK au dM S L);refine kk s b T.2.2.1 ?_;clear b g;refine kQ ?_;go_wp2;go_meet;exact⟨_,_,_,_,_,_,_,rfl,rfl,T⟩
       obtain⟨bg,a9,n9,c9,a8,n8,c8,rfl,rfl,hH⟩:=hcut;obtain⟨w9,rfl⟩:∃w9,w9=wc:=⟨_,rfl⟩;have T:=Zy hH;have cZ:Zz (Kp (Ob (.slice t f.locals.length u) (.slice x f.stack.length z)) w w9):=Zy (bI.trans hH.2.2.1);have⟨eY,fq,aY,fw,fE⟩:=nC (aH.kp hH.2.2.1 (N 0)) (bG.kp hH.2.2.1 (N 2)) (bW.kp hH.2.2.1 (N 4)) (bY.kp hH.2.2.1 aS) (bK.kp hH.2.2.1 (fun d a=>(Y.lt d a).1));have fJ:Zz (w.heap.size+6<=(w9:Nat)):=Zy (Tf bN.o hH.2.2.1.size);clear hH s p0 U V r3 r4 aS bS i0 iz;cases aa with
       |none=>
        have c:=aN.o;rw[Option.bind_none]at c;subst c;obtain⟨dz,d0,d1,-⟩:=fq.ca;obtain⟨gz,U,V,-⟩:=aY.ca;obtain⟨f0,f1,-⟩:=aY.fz;go_wp2_with fail;refine PG (hU kF rfl (w+4) rfl [.slice t f.locals.length u,.slice x f.stack.length z] (hQ.kX (aY.duo _ _)) rfl) rfl ?_;exact ny.no rfl (Kp.mix cZ (Kp.duo (D:=(·=w+4)) rfl _ _) fun d G h=>Zm)
       |some K=>
        obtain⟨aG,az⟩:=T.2.1 K rfl;have c:=aN.o;rw[Tn]at c;have dx:=Zy (dA w9 fE _ _ K aG (kP i.name));rw[c]at dx;have dm:Zz (∀d,Ob (.slice a9 n9 c9) (.slice a8 n8 c8) d->Ob (.slice t f.locals.length u) (.slice x f.stack.length z) d\/(w.heap.size<=d/\d≠w.heap.size+4)):=Zy (fun d G=>(az d G).imp id fun a=>Te bN.o);clear aG az c;obtain⟨cz,c0,-⟩:=eY.ca;obtain⟨gz,U,V,-⟩:=T.1.ca;obtain⟨sz,s0,s1,-⟩:=fw.ca;go_wp2_with fail;refine dx.mono ?_;rintro h w9 ⟨x9,y9,z9,x8,y8,z8,rfl,C,j⟩;have⟨S,L⟩:=jw C j;have A:=aY.kp j (fun h=>(dm _ h).elim (fun a=>Te ((Y.lt _ a).2)) (fun a=>Zm));have ah:=Zy A;obtain⟨gz,U,V,-⟩:=A.ca;obtain⟨f0,f1,-⟩:=A.fz;clear C j A;go_wp2_with fail;refine PG (hU kF rfl (w+4) rfl [.slice x9 y9 z9,.slice x8 y8 z8] (hQ.kX (ah.duo _ _)) rfl) rfl ?_;exact ny.fin (fun d G=>(Y.lt d G).2) cZ dm (Te fJ.o) Zm S.o L.o (Kp.duo (D:=(·=w+4)) rfl _ _)
   . have dw:=dn.o;have cK:=H9.o;have c:none=bC:=by
      rcases dw with a|a|a
      . exact(T9 hc).symm.trans (H7 a)
      . exact(T9 hc).symm.trans (H8 a)
      . exact absurd a cK
     subst c;have fK:(xc !=1)=true:=by simpa using hc
     clear hc dw cK;go_upto_region 13 with(fail);rw[<-aD.o];obtain⟨dz,d0,d1,-⟩:=(aI.ext n).ca;obtain⟨gz,U,V,-⟩:=(ai.ext n).ca;obtain⟨f0,f1,-⟩:=(ai.ext n).fz;go_wp2_with fail;refine PG (hU kF rfl (w+4) rfl [.slice t f.locals.length u,.slice x f.stack.length z] (hQ.kX ((ai.ext n).duo _ _)) rfl) rfl ?_;exact ny.no rfl (Kp.mix bI (Kp.duo (D:=(·=w+4)) rfl _ _) fun d G h=>Zm)
end Go.Proofs.YtenhnldnpdlniaaGreat
