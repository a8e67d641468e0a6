/- Walks. -/
import Derived.Test.YtlhlnddgfcmfkaaGreatRsCoreH
import Derived.Test.YtlhlnddgfcmfkaaGreatRsCoreLza
set_option maxRecDepth 100000
set_option maxHeartbeats 4000000
set_option linter.all false
namespace Go.Proofs.YtlhlnddgfcmfkaaGreat
open Go Go.RowKit Tryz M
theorem q9 (r : Rc) (s : Rs) (w : World) (d : kK r s w) (k : Int) (n : ByteArray) :Calls prog 18 #[some r.R,k,n] w fun t w'=>t=.returned (.tuple #[])/\kK r s w':=by
 obtain⟨-,c0,-⟩:=d.xG.ca;have ae:=Zy d;clear d;go_enter func18,ntmps18;go_wp2_with fail;refine(ng _ _ _ ae.ku k n).mono ?_;rintro t w1 ⟨rfl,Y⟩;by_cases hc:(find r.p k n).2=1;rotate_left
 . have cB:((find r.p k n).2 !=1)=true:=by simp[hc]
   have bH:=Zy Y;clear Y;generalize (find r.p k n).2=code at*;go_wp2_with fail;refine RA ?_;exact⟨rfl,ae.ext (bH.trans kx)⟩
 rw[hc];generalize (find r.p k n).1=q;obtain⟨w2,bg,aK,b2⟩:=nu w1 #[q.keeper,q.name] 63;obtain⟨s1,rfl,ha,J,up,-⟩:=ae.qi (Y.trans aK);have⟨bQ,HA,H1,UP,az⟩:=mr bg ha J up b2;obtain⟨-,d0,-⟩:=J.xG.ca;clear Y bg aK hc c0 b2 ha J up;go_upto_region 2 with(fail);rw[<-bQ.o];go_wp2_with fail;refine(BX r s1 H1 k n).mono ?_;rintro t E ⟨rfl,aa⟩;have ag:=Zy aa;obtain⟨aD,aJ,aZ,e⟩:=kY E;obtain⟨-,R,-⟩:=hV.lL fun l=>aa.xG.ext (e.jm l);obtain⟨-,H,I,-⟩:=hV.lL fun l=>(aa.blk HA az).ext (e.jm l);have f:=Zy e;clear aa e d0;go_wp2_with fail;refine kD f 6 [([0,1,2,3,4],5)] [] ?_ ?_
 . exact jf
 refine lS ?_;intro A m;go_wp2_with fail;refine(qV (ag.ku.ext jf) q).mono ?_;rintro t w4 ⟨⟨dw,rfl,hs⟩,aL⟩;obtain⟨bT,X,rfl,hn,dm⟩:=hs.form;have Z:=((Kp.refl _ E).drew:Ext E _).trans aL;obtain⟨s2,rfl,aS,h2,bz,bu⟩:=ag.qi Z;have HS:=Zy (hs.keep (J:=fun u=>u<r.l.O\/E<=u) xu.stays (fun _ _ _ _ d=>d) fun _ d=>.inr d);have af:Zz (∀c∈chain r.p q,∃bU,cls? r.p c=some bU):=Zy fun c o=>M.mR o;have⟨bI,bA,H2,aF,aC⟩:=mr Z aS h2 bz bu;have bE:=Zy ((ag.blk HA az).ext Z);have bK:Zz (kg r.p q=true->mq r.p (chain r.p q)=true):=Zy fun d=>by
  unfold kg at d;simp only[Sc]at d;exact d.2
 clear hs aL Z aS h2 bz bu;generalize chain r.p q=b at*;go_wp2_with fail;refine kk f m bI ?_;clear m A;clear f R H I;refine kC ?_;go_wp2_with fail;go_loopw [40] (fun i wr=>∃a:Nat,a<=b.length/\i=.int .i64 a/\kK r s2 wr) (fun i _=>b.length - (intOf i).toNat)
 case atStart=>exact⟨0,R4 _,rfl,H2⟩
 case round =>
  obtain⟨a,hq,rfl,g⟩:=hrel;have F:=Zy g;by_cases au:a<b.length
  . obtain⟨c,o⟩:=get_some au;obtain⟨aj,av,cs,rfl,hI,rfl,-,N⟩:=(HS.keep xu.stays (aC _ g) fun _ d=>d).get o;obtain⟨Q,j1⟩:=N.two;have jz:=iY Q;obtain⟨j,C⟩:=af.o c (R3 o);obtain⟨w5,P,K,ak⟩:=nu wr #[.int .i64 c.keeper,.string c.name] 63;obtain⟨v,rfl,L,x,S,-⟩:=g.qi K;obtain⟨cz,aX,aV⟩:=pK v.w r.l r.p x.ku c.keeper c.name j C;obtain⟨u1,v1,u2,v2,rfl⟩:=aX.form;have cO:∀h,(Instr.field 95 (.agg #[j.name,j.jl,.slice u1 j.fields.length v1,.slice u2 j.methods.length v2]) 1).run prog h=.ok j.jl h:=(fun h=>by kernel_rfl);obtain⟨aD,aJ,aZ,e⟩:=kY v.w;obtain⟨-,R,-⟩:=hV.lL fun l=>x.xG.ext (e.jm l);obtain⟨-,H,I,-⟩:=hV.lL fun l=>ak.ext (e.jm l);have⟨f,ai,ay,T,G,bC,bF⟩:=qh e P L x S ak aV;clear g N hI o C P K L x S ak aX aV e;go_upto_region 7 with(fail);rw[<-ai.o];clear Q j1 jz;refine kD f 7 [([0,1,2,3,4],5)] [6] ?_ ?_
    . exact jf
    refine lS ?_;intro A m;go_wp2_with fail;refine(bF _ jf.any).mono ?_;rintro t w6 ⟨rfl,aM⟩;have aA:=Zy (((Kp.refl _ v.w).drew:Ext v.w _).trans aM);have ah:=Zy (T.ext aA);clear aM;go_wp2_with fail;refine kk f m aA ?_;clear m A;clear f R H I;refine sP [_] rfl fun bS hK=>?_;(repeat (go_big_quiet_step (fail)));refine qn hK ?_;clear hK bS;cases dn:(j.jl.toList==[])
    . obtain⟨-,k0,-⟩:=(ah.blk ay bC).ca;go_wp2_with fail;refine(BX r v ah c.keeper j.jl).mono ?_;rintro t w7 ⟨rfl,aQ⟩;have V:=Zy aQ;clear aQ k0;go_wp2_with fail;exact⟨⟨a+1,Zm,by go_num,G.o _ V.o⟩,by simp[intOf];omega⟩
    . go_wp2_with fail;exact⟨⟨a+1,Zm,by go_num,G.o _ ah.o⟩,by simp[intOf];omega⟩
  . have bX : a = b.length := by omega
    obtain⟨aD,aJ,aZ,e⟩:=rA.ex (fun W'=>kK r s2 W') _ g;obtain⟨-,R,-⟩:=hV.lL fun l=>(e.jm l).xG;obtain⟨-,H,I,-⟩:=hV.lL fun l=>(e.jm l).blk bA bE;have f:=Zy e;clear g e;go_wp2_with fail;refine kD f 7 [([0,1,2,3,4],5)] [6] ?_ ?_
    . exact F.ext jf
    refine lS ?_;intro A m;go_wp2_with fail;refine(mJ (F.ext jf).ku q).mono ?_;rintro t w5 ⟨rfl,aP,aO⟩;have U:=Zy ((F.ext jf).oJ aO aP);clear aP aO;cases aW:kg r.p q
    . go_wp2_with fail;refine kk f m U ?_;clear m A;refine sK ?_;go_wp2_with fail;refine RA ?_;exact⟨rfl,UP _ (aF _ U)⟩
    go_wp2_with fail;refine kk f m U ?_;clear m A;clear f R H I;refine sK ?_;have bL:=Zy (bK aW);clear aW;go_wp2_with fail;obtain⟨v,rfl,L,x,S,bZ⟩:=U.qi Kp.rr;have⟨ay,T,G⟩:=jy L x S;have aB:Zz (∀h,kK r v h->SliceOf 2 xu h (fun u=>u<r.l.O\/E<=u) (.slice bT b.length X) b):=Zy fun h hW=>HS.keep xu.stays (aC _ (G _ hW)) fun _ d=>d;clear L x S bZ;go_loopw [68] (fun i wr=>∃a:Nat,a<=b.length/\i=.int .i64 a/\kK r v wr) (fun i _=>b.length - (intOf i).toNat)
    case atStart=>exact⟨0,R4 _,rfl,T⟩
    case round =>
     obtain⟨a,hq,rfl,g⟩:=hrel;have F:=Zy g;by_cases au:a<b.length
     . obtain⟨c,o⟩:=get_some au;have bf:=aB.o _ g;obtain⟨aj,av,cs,rfl,hI,rfl,-,N⟩:=bf.get o;obtain⟨Q,j1⟩:=N.two;have jz:=iY Q;have df:(0:Int)<=(a:Int)+1:=Zm
       have dh:(a:Int)+1<=b.length:=Zm
       have di:(b.length:Int)<=X:=Zm
       obtain⟨j,C⟩:=af.o c (R3 o);obtain⟨w5,P,K,aH⟩:=nu wr #[.int .i64 c.keeper,.string c.name] 63;obtain⟨s4,rfl,aT,h4,ax,-⟩:=g.qi K;have bP:Zz (∀h,kK r s4 h->SliceOf 2 xu h (fun u=>u<r.l.O\/E<=u) (.slice (some ⟨aj,av,none⟩) b.length X) b):=Zy fun h hW=>aB.o _ (ax _ hW);have bN:Zz (∀p∈b.drop (a+1),∃B,cls? r.p p=some B/\∀bq∈j.methods,(og B bq.name).isSome=true->sG r.p c.keeper p.keeper bq):=Zy fun p D=>by
        obtain⟨B,O⟩:=af.o p (List.mem_of_mem_drop D);have h0:=bL.o;rw[<-Tx (a+1) b]at h0;have J:=(tN h0).2 c (R3 (i:=a) (by rw[List.getElem?_take,RV Zm];exact o)) p D;exact⟨B,O,KU T.ku.ok C O J⟩
       have⟨bG,ai,bB,H4,aG,bD⟩:=nZ C P aT h4 ax aH;clear g bf N hI o C P K aT h4 ax aH;go_upto_region 15 with(fail);rw[<-ai.o];clear Q j1 jz;by_cases cK:X=a+1
       . have hz:b.length - (a+1)=0:=Zm
         go_wp2_with fail;go_loopw [78] (fun i wr=>i=.int .i64 0/\kK r s4 wr) (fun i _=>0)
         case atStart=>exact⟨rfl,H4⟩
         case round=>
          obtain⟨rfl,y⟩:=hrel;have W:=Zy y;clear y;go_wp2_with fail;exact⟨⟨a+1,Zm,by go_num,aG.o _ W.o⟩,by simp[intOf];omega⟩
       . have aY:(b.drop (a+1)).length=b.length - (a+1):=Tw;have bM:=Zy aY;clear aY;go_wp2_with fail;go_loopw [78] (fun i wr=>∃z:Nat,z<=b.length - (a+1)/\i=.int .i64 z/\kK r s4 wr) (fun i _=>b.length - (a+1) - (intOf i).toNat)
         case atStart=>exact⟨0,R4 _,rfl,H4⟩
         case round=>
          obtain⟨z,hj,rfl,y⟩:=hrel;have W:=Zy y;by_cases bW:z<b.length - (a+1)
          . obtain⟨p,D⟩:=get_some (l:=b.drop (a+1)) (k:=z) (by rw[bM.o];exact bW);obtain⟨b',bY,cu,he,bV,rfl,-,aU⟩:=((bP _ y).drop (i:=a+1) Zm).get D;obtain⟨rfl,rfl⟩:b'=aj/\bY=av+(a+1)*2:=by simp only[Tz,Addr.mk.injEq,SQ]at he;exact⟨he.1.symm,he.2.symm⟩
            obtain⟨p0,p1⟩:=aU.two;have pz:=iY p0;obtain⟨B,O,hf⟩:=bN.o p (R3 D);obtain⟨w7,bn,aN,aI⟩:=nu wr #[.int .i64 p.keeper,.string p.name] 63;have⟨bR,V⟩:=je bn (W.ext aN);obtain⟨-,e0,e1,-⟩:=(V.blk bB bD).ca;obtain⟨-,e2,e3,-⟩:=aI.ca;have⟨HD,bJ⟩:=je O hf;clear y he bV aU D O hf bn aN aI;go_upto_region 18 with(fail);rw[<-bR.o];clear p0 p1 pz;go_wp2_with fail;refine(Hv r s4 V c p j B bG HD bJ).mono ?_;rintro t w8 ⟨rfl,aR⟩;have bO:=Zy aR;clear aR e0 e1 e2 e3;go_wp2_with fail;exact⟨⟨z+1,Zm,by go_num,bO.o⟩,by simp[intOf];omega⟩
          . have cZ:z=b.length - (a+1):=Zm
            clear y;go_wp2_with fail;exact⟨⟨a+1,Zm,by go_num,aG.o _ W.o⟩,by simp[intOf];omega⟩
     . have bX:a=b.length:=Zm
       clear g;go_wp2_with fail;refine RA ?_;exact⟨rfl,UP _ (aF _ (G _ F))⟩
theorem xV(r:Rc)(s:Rs){w:World}(o:kK r s w)(b c:Int)(k:Kind)(v:ql r.p b c k):Calls prog 110 #[some r.R,b,c,.agg #[k.kind,k.name]] w fun a F=>a=.returned (.tuple #[])/\kK r s F:=by
 obtain⟨H,x,q,d⟩:=nu w #[k.kind,k.name] 137;obtain⟨i,rfl,u,p,y,-⟩:=o.qi q;obtain⟨-,e,f,-⟩:=d.ca;have⟨D,l,j,m,n,z⟩:=nZ x u p d y v;clear o y x q v u p d;go_enter func110,ntmps110;go_upto_region 1 with(fail);rw[<-D.o];cases G:(k.kind==1);rotate_left
 . go_wp2_with fail;refine RA ?_;exact⟨rfl,n _ j⟩
 go_wp2_with fail;refine(q9 r i _ j b k.name).mono ?_;rintro a I ⟨rfl,g⟩;have A:=Zy g;obtain⟨-,-,E,-⟩:=(g.blk l m).ca;clear g e f;go_wp2_with fail;refine(q9 r i _ A c k.name).mono ?_;rintro a J ⟨rfl,h⟩;have B:=Zy h;obtain⟨-,e,f,-⟩:=(h.blk l m).ca;clear h E;go_wp2_with fail;refine(xU r i B b c k z).mono ?_;rintro a K ⟨rfl,t⟩;have C:=Zy t;clear t e f;go_wp2_with fail;refine RA ?_;exact⟨rfl,n _ C⟩
theorem Ai(r:Rc)(s:Rs){w:World}(b:kK r s w)(e f:Int)(m:M.Method){cs:List Value}(k:jd w (· <r.l.O) m cs)(C:sG r.p e f m):Calls prog 55 #[some r.R,e,f,.agg cs.toArray] w fun a w'=>a=.returned (.tuple #[])/\kK r s w':=by
 obtain⟨S,V,T,W,U,X,rfl⟩:=k.form;obtain⟨w0,D,i,h⟩:=nu w #[m.name,.slice S m.args.length V,m.ret.kind,m.ret.name,m.locals,m.stack,.slice T m.code.length W,.slice U m.maps.length X] 141;obtain⟨o,rfl,A,x,G,-⟩:=b.qi i;obtain⟨-,-,-,e2,e3,-⟩:=h.ca;have q:=Zy (by
  obtain⟨va,vc,vm,a,hs,-,-⟩:=k;simp only[RG,SQ,SG]at a;obtain⟨rfl,-,-⟩:=a;exact hs.ext l7.stays i)
 have⟨P,p,H,I,R,t⟩:=nZ D A x h G C;have af:m.args.length<=4294967296:=by obtain⟨_,_,_,_,b⟩:=q.form;exact b
 clear b G D i C A x h k;go_enter func55,ntmps55;go_upto_region 1 with(fail);rw[<-P.o];go_wp2_with fail;refine(xV r o H e f m.ret t.1).mono ?_;rintro a w2 ⟨rfl,j⟩;have L:=Zy j;obtain⟨-,-,v,-⟩:=(j.blk p I).ca;clear j e2 e3;go_wp2_with fail;go_loopw [19] (fun n wr=>∃c:Nat,c<=m.args.length/\n=.int .i64 c/\kK r o wr) (fun n _=>m.args.length - (intOf n).toNat)
 case atStart=>exact⟨0,R4 _,rfl,L⟩
 case round=>
  obtain⟨c,hq,rfl,d⟩:=hrel;have K:=Zy d;by_cases aa:c<m.args.length
  . obtain⟨g,l⟩:=get_some aa;obtain⟨ae,ah,cs,rfl,hI,rfl,-,B⟩:=(q.keep l7.stays (d.same p) fun _ b=>b).get l;obtain⟨F,j1⟩:=B.two;have jz:=iY F;obtain⟨w5,E,y,u⟩:=nu wr #[g.kind,g.name] 137;have⟨Q,N,J⟩:=jy E (d.ext y) (t.2 g (R3 l));obtain⟨-,Y,Z,-⟩:=u.ca;clear d B hI l E y u v;go_upto_region 5 with(fail);rw[<-Q.o];clear F j1 jz;go_wp2_with fail;refine(xV r o N e f g J).mono ?_;rintro a w6 ⟨rfl,z⟩;have O:=Zy z;clear z Y Z;go_wp2_with fail;exact⟨⟨c+1,Zm,by go_num,O.o⟩,by simp[intOf];omega⟩
  . have ag:c=m.args.length:=Zm
    clear d v;go_wp2_with fail;refine RA ?_;exact⟨rfl,R _ K⟩
theorem BZ(r:Rc)(s:Rs){w:World}(d:kK r s w)(k:Int){v:Value}{c:List Tag}(f:SliceOf 2 kE w (· <r.l.O) v c):Calls prog 56 #[some r.R,k,v] w fun j N=>j=.returned (.tuple #[])/\kK r s N:=by
 obtain⟨O,Q,rfl,T,S⟩:=f.form;obtain⟨x,rfl,o,l,y,-⟩:=d.qi Kp.rr;have⟨A,z,F,D⟩:=jV o l y f;clear d y o l f;go_enter func56,ntmps56;go_wp2_with fail;go_loopw [10] (fun g wr=>∃a:Nat,a<=c.length/\g=.int .i64 a/\kK r x wr) (fun g _=>c.length - (intOf g).toNat)
 case atStart=>exact⟨0,R4 _,rfl,z⟩
 case round=>
  obtain⟨a,U,rfl,b⟩:=hrel;have B:=Zy b;by_cases J:a<c.length
  . obtain⟨e,t⟩:=get_some J;obtain⟨P,X,R,rfl,I,rfl,-,p⟩:=(D.keep kE.stays (b.same A) fun _ d=>d).get t;obtain⟨u,K⟩:=p.two;have L:=iY u;obtain⟨Y,q,m,i⟩:=nu wr #[e.kind,e.name] 211;have⟨E,h⟩:=je q (b.ext m);obtain⟨-,G,H,-⟩:=i.ca;clear b p I t q m i;go_upto_region 3 with(fail);rw[<-E.o];clear u K L;cases W:(e.kind==2)
    . go_wp2_with fail;exact⟨⟨a+1,Zm,by go_num,h.o⟩,by simp[intOf];omega⟩
    go_wp2_with fail;refine(q9 r x _ h k e.name).mono ?_;rintro j Z ⟨rfl,n⟩;have C:=Zy n;clear n G H;go_wp2_with fail;exact⟨⟨a+1,Zm,by go_num,C.o⟩,by simp[intOf];omega⟩
  . have V:a=c.length:=Zm
    clear b;go_wp2_with fail;refine RA ?_;exact⟨rfl,F _ B⟩
end Go.Proofs.YtlhlnddgfcmfkaaGreat
