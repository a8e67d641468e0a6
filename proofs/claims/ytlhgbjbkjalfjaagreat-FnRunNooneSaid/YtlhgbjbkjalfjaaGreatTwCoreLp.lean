/- Walks. -/
import Derived.Test.YtlhgbjbkjalfjaaGreatTwCoreLn
set_option maxRecDepth 100000
set_option maxHeartbeats 4000000
set_option linter.all false
namespace Go.Proofs.YtlhgbjbkjalfjaaGreat
open Go Go.RowKit Tryz M
variable {b: Book}{m: List (Key×Int)}{base n: Nat}{α: Type}{v: Value}{W w: World}{p: iZ}
def M.Dy(p:iZ)(a:uB):Bool:=has p a.one&&has p a.two&&jJ a.name&&agree p a.one a.two ⟨2,a.name⟩
theorem Dz{a:uB}:Dy p a=true↔keeps p a:=by
 unfold Dy keeps;simp[Ty,and_assoc]
theorem xy(w:World)(l:jk)(p:iZ)(s:ji w l p)(a:uB):Calls prog 77 #[some l.L,.agg #[a.one,a.two,a.name]] w fun b y=>b=.returned (.bool (Dy p a))/\Ext w y:=by
 obtain⟨C,t,j,r⟩:=nu w #[a.one,a.two,a.name] 112;obtain⟨-,z,A,B,-⟩:=r.ca;have⟨v,g,e⟩:=jB t j (s.ext j);have f:Zz (Dy p a=(has p a.one&&has p a.two&&jJ a.name&&agree p a.one a.two ⟨2,a.name⟩)):=Zy rfl;clear s t j r;go_enter func77,ntmps77;go_upto_region 1 with(fail);rw[<-v.o];obtain⟨q1,k⟩:∃c,has p a.one=c:=⟨_,rfl⟩;obtain⟨q2,m⟩:∃c,has p a.two=c:=⟨_,rfl⟩;obtain⟨q3,n⟩:∃c,jJ a.name=c:=⟨_,rfl⟩;obtain⟨q4,o⟩:∃c,agree p a.one a.two ⟨2,a.name⟩=c:=⟨_,rfl⟩;rw[k,m,n,o]at f;have⟨h,i,q,u⟩:=jU k m n o;clear k m n o;cases q1
 . go_wp2_with (go_at_call 41;refine(oU e _).mono ?_;rintro b d ⟨rfl,rfl⟩;rw[h.o]);go_ret;exact⟨hQ f.symm,g⟩
 cases q2
 . go_wp2_with (go_at_call 41;refine(oU e _).mono ?_;rintro b d ⟨rfl,rfl⟩;simp only[h.o,i.o]);go_ret;exact⟨hQ f.symm,g⟩
 cases q3
 . go_wp2_with (first|(go_at_call 41;refine(oU e _).mono ?_;rintro b d ⟨rfl,rfl⟩;simp only[h.o,i.o])|(go_at_call 24;refine(mf _ _).mono ?_;rintro b d ⟨rfl,rfl⟩;rw[q.o]));go_ret;exact⟨hQ f.symm,g⟩
 go_wp2_with (first|(go_at_call 41;refine(oU e _).mono ?_;rintro b d ⟨rfl,rfl⟩;simp only[h.o,i.o])|(go_at_call 24;refine(mf _ _).mono ?_;rintro b d ⟨rfl,rfl⟩;rw[q.o])|(go_at_call 127;refine(uU e a.one a.two ⟨2,a.name⟩).mono ?_;rintro b d ⟨rfl,x⟩;rw[u.o]));go_ret;exact⟨hQ (by rw[f.o];rfl),g.trans x⟩
theorem Iy:Calls prog 44 #[.func (.func 45) #[] #[]] w fun c b=>c=.returned (.pointer (some ⟨w+1,0,none⟩))/\Ext w b/\kE b w []/\hZ b (w+1) 153 #[(),.map (some w.heap.size),.func (.func 45) #[] #[]]:=by
 have e:∀a:World,(Instr.makeMap 116 none).run prog a=.ok (.map (some a.heap.size)) (a.alloc (.map #[] 0)):=fun a=>by kernel_rfl
 go_enter func44,ntmps44;go_wp2;go_ret;exact⟨rfl,kx,(kE.new w).kp (D:=fun _=>False) kx (fun d=>d),hZ.newAt _ _ Zl⟩
theorem Iz:Calls prog 46 #[.func (.func 47) #[] #[]] w fun c b=>c=.returned (.pointer (some ⟨w+1,0,none⟩))/\Ext w b/\PM.kE b w []/\hZ b (w+1) 157 #[(),.map (some w.heap.size),.func (.func 47) #[] #[]]:=by
 have e:∀a:World,(Instr.makeMap 155 none).run prog a=.ok (.map (some a.heap.size)) (a.alloc (.map #[] 0)):=fun a=>by kernel_rfl
 go_enter func46,ntmps46;go_wp2;go_ret;exact⟨rfl,kx,(PM.kE.new w).kp (D:=fun _=>False) kx (fun d=>d),hZ.newAt _ _ Zl⟩
theorem AO(w:World)(l:jk)(p:iZ)(m:ji w l p):Calls prog 18 #[some l.L] w fun f u=>∃b:Rc,b.l=l/\b.p=p/\w<=b.B/\f=.returned (some b.R)/\Ext w u/\kS u b () () ⟨[],[]⟩:=by
 have i:=Zy m;clear m;go_enter func18,ntmps18;go_wp2_with fail;refine(Iy).mono ?_;rintro f g ⟨rfl,n,s,q⟩;have⟨e,v,j⟩:=jB n s q;clear n s q;go_wp2_with fail;refine(Iz).mono ?_;rintro f h ⟨rfl,o,t,r⟩;have⟨d,x,k⟩:=jB o t r;clear o t r;go_wp2;go_ret;have a:Ext h (h.alloc (.cells #[some l.L,.pointer (some ⟨w+1,0,none⟩),.pointer (some ⟨g+1,0,none⟩)] 115)):=kx;have A:=j.lt;have B:=k.lt;have z:=e.size;have y:=i.lt;exact⟨⟨l,p,w.heap.size,h.heap.size,w.heap.size+1,g.heap.size+1,w.heap.size,g.heap.size⟩,rfl,rfl,T9 _,rfl,(e.trans d).trans a,
  ((i.ext e).ext d).ext a,y,⟨by simp only;omega,by simp only;omega,by simp only;omega,by simp,by simp only;omega⟩,hZ.new _ _ _,(j.o.ext d.o).ext a,k.o.ext a,
  ⟨[],(v.kp d (fun c=>c)).kp a fun c=>c,rfl⟩,⟨[],x.kp a fun c=>c,rfl⟩,Tf _ _ _ _,Tf _ _ _ _,by simp only;omega,
  ⟨by simp,by simp,by simp,by simp,by simp,by simp⟩⟩
theorem Kp.Ri{D D':Nat->Prop}{a b: World}(d:Kp D w a)(e:Kp D' a b)(i:∀c,D' c->D c\/w.heap.size<=c):Kp D w b:=
 ⟨e.os.trans d.os,e.tape.trans d.tape,e.output.trans d.output,TL d.size e.size,
  fun c g f=>(e.block c (Tx g d.size) (fun j=>by
   rcases i c j with h|h
   . exact f h
   . omega)).trans (d.block c g f)⟩
theorem Ee{e: Type}{f:α->e}{l:List α}(a:(l.map f).Nodup){q:Nat}{x:α}(d:l[q]?=some x):f x ∉ (l.take q).map f:=by
 have b:l=l.take q++x::l.drop (q+1):=by rw[<-oM d,V9]
 rw[b,TB,VM]at a;intro c;exact a.2.2 _ c _ Zl rfl
theorem zi{l:List α}{q:Nat}{x:α}(a:l[q]?=some x):l.take q++[x]=l.take (q+1):=by
 rw[TQ,a];rfl
theorem Mh(c:nJ p b){q:Nat}{x:FB}(a:b.jI[q]?=some x):MH ⟨b.jI.take q,[]⟩ x=false/\Fj ⟨b.jI.take q,[]⟩ x=⟨b.jI.take (q+1),[]⟩:=by
 have f:=Ee c.Pj a;have d:MH ⟨b.jI.take q,[]⟩ x=false:=by
  unfold MH;rw[UK];intro h e g;rw[<-Uo g]at e;exact f e
 refine⟨d,?_⟩;unfold Fj;have:=(Tw.1 a).1;have:=c.Ld;rw[Tt (by rw[d];simp[Tj];omega),zi a]
theorem Mi(c:nJ p b){q:Nat}{x:uB}(a:b.jq[q]?=some x):MI ⟨b.jI,b.jq.take q⟩ x=false/\Fp ⟨b.jI,b.jq.take q⟩ x=⟨b.jI,b.jq.take (q+1)⟩:=by
 have f:=Ee c.PR a;have d:MI ⟨b.jI,b.jq.take q⟩ x=false:=by
  unfold MI;rw[UK];intro h e g;rw[<-Uo g]at e;exact f e
 refine⟨d,?_⟩;unfold Fp;have:=(Tw.1 a).1;have:=c.Mg;rw[Tt (by rw[d];simp[Tj];omega),zi a]
theorem xH.low{r:Rc}{d: World}{a c:Value}{e: Book}(h:Kp (·=r.l.D) d w)(i:kS w r a c b)(k:xH r ⟨w,a,c,b⟩ e W)(o:d<=r.B):(∃a c,kS W r a c e)/\Kp (·=r.l.D) d W:=by
 obtain⟨f,l,m,-,g⟩:=k;exact⟨⟨l,m,g⟩,h.Ri f fun p j=>(i.BH j).imp id fun n=>Zm⟩
theorem yZ(w:World)(l:jk)(p:iZ)(z:ji w l p)(I:Nat->Prop)(hI:∀r,I r->r<w.heap.size/\r≠l.D){f g:Value}(b:Book)(he:SliceOf 4 nG w I f b.jI)(hp:SliceOf 3 lq w I g b.jq)(Y:nJ p b):Calls prog 31 #[some l.L,.agg #[f,g]] w fun n w'=>∃c aT aU,c.l=l/\c.p=p/\w.heap.size<=c.B/\n=.returned (.pointer (some ⟨c.R,0,none⟩))/\Kp (·=l.D) w w'/\kS w' c aT aU b:=by
 obtain⟨a1,c1,rfl,bn,bf⟩:=he.form;obtain⟨a2,c2,rfl,bq,bg⟩:=hp.form;obtain⟨w0,aF,av,b3⟩:=nu w #[.slice a1 b.jI.length c1,.slice a2 b.jq.length c2] 33;obtain⟨-,e0,e1,-⟩:=b3.ca;have aY:=Y.Ld;have aZ:=Y.Mg;have aV:¬(200:Int)<(b.jI.length:Int):=Zm
 have aX:¬(200:Int)<(b.jq.length:Int):=Zm
 have aR:w≠l.D:=SX z.ET
 have⟨aO,D,aK,HI,HE,HP,F,aa⟩:=wL aF av (z.ext av) hI he hp Y b3;clear z aF av b3 hI he hp Y;go_enter func31,ntmps31;go_upto_region 1 with(fail);rw[<-aO.o];go_wp2_with fail;refine(AO _ _ _ aK).mono ?_;rintro n w1 ⟨c,rfl,rfl,hB,rfl,ax,aD⟩;have⟨aM,aH⟩:=jf aD ax;have O:=aa.ext ax;obtain⟨-,d0,-⟩:=O.ca;have bu:w.heap.size<c.B:=SX aa.lt
 clear e0 e1 aD ax O;go_wp2_with fail;clear d0;go_loopw [27] (fun C wr=>∃e:Nat,e<=b.jI.length/\C=.int .i64 e/\(∃f g,kS wr c f g ⟨b.jI.take e,[]⟩)/\Kp (·=c.l.D) w0 wr) (fun C _=>b.jI.length - (intOf C).toNat)
 case atStart=>exact⟨0,SV _,rfl,⟨_,_,by simpa using aM.o⟩,aH.o.any⟩
 case round=>
  obtain⟨e,hq,rfl,⟨f,g,m⟩,k⟩:=hrel;have⟨E,V⟩:=jf k m;by_cases az:e<b.jI.length
  . obtain⟨a,o⟩:=get_some az;obtain⟨r,aS,cs,rfl,ay,rfl,-,Q⟩:=(HE.keep nG.stays (Kp.same (D.any.trans k) fun r hg=>(HI r hg).2) fun _ z=>z).get o;obtain⟨S,j1,j2,j3⟩:=Q.four;have jz:=jc S;obtain⟨Z,R,A,y⟩:=nu wr #[a.keeper,a.name,a.ref.keeper,a.ref.name] 107;have⟨aj,ae,x,af⟩:=jU R y (m.ext A) A;have aJ:Zz (find c.p a.keeper a.name=(a.ref,1)):=Zy (F.Qk a (RA o));have⟨v,HX⟩:=jf (Mh F o) o;obtain⟨-,e0,e1,-⟩:=y.ca;clear m k Q ay o R A y;go_upto_region 7 with(fail);rw[<-aj.o];clear S j1 j2 j3 jz;go_wp2_with fail;refine(mJ _ _ _ x.kr a.keeper a.name).mono ?_;rintro n w6 ⟨rfl,W⟩;rw[aJ.o];obtain⟨w7,aG,X,b8⟩:=nu w6 #[a.ref.keeper,a.ref.name] 60;have⟨aP,ah⟩:=jf aG (x.ext (W.trans X));have aB:=Zy (ae.ext (W.trans X));have aI:=Zy (af.trans (W.trans X));obtain⟨ak,au,aA,d⟩:=ll w7;obtain⟨-,-,r1,-⟩:=hZ.lC fun h=>ah.blk.ext (d.jv h);obtain⟨-,H,J,K,g3,-⟩:=hZ.lC fun h=>aB.ext (d.jv h);obtain⟨-,k0,k1,-⟩:=hZ.lC fun h=>b8.ext (d.jv h);have i:=Zy d;clear W aG X b8 d e0 e1;go_upto_region 8 with(fail);rw[<-aP.o];refine jW i 16 [([0,1,2,3,4],5)] [6,7,8,9,10,11,12,13,14,15] ?_ ?_
    . exact jg
    refine lJ ?_;intro q j;go_wp2_with fail;refine(IP (ah.ext jg) a).mono ?_;rintro n w8 ⟨rfl,L⟩;rw[v.o.1];have t:=Zy (((Kp.refl _ w7).drew:Ext w7 _).trans L);clear L;go_wp2_with fail;refine kk i j t ?_;clear j q;refine AJ [_,_,_,_,_,_,_,_,_,_] rfl rfl fun aQ k=>?_;(repeat (go_big_quiet_step (fail)));refine qn k ?_;clear k aQ;have B:=ah.ext t;have P:=aB.ext t;have u:=Zy B;have T:¬RD c f g wr.heap.size:=fun n=>SX (V.Ov n)
    obtain⟨ak,au,aA,d⟩:=qC.ex (fun W'=>kK c ⟨w8,f,g,⟨b.jI.take e,[]⟩⟩ W') _ B.begin;obtain⟨-,-,q1,-⟩:=hZ.lC fun h=>(d.jv h).xQ;obtain⟨-,H,J,K,g3,-⟩:=hZ.lC fun h=>P.kp (d.jv h).1 T;clear i r1 k0 k1;have i:=Zy d;clear B P T d;go_wp2_with fail;refine jW i 6 [([0,1,2,3,4],5)] [] ?_ ?_
    . exact u.begin.ext jg
    refine lJ ?_;intro q j;go_wp2_with fail;refine(AV c ⟨w8.drew,f,g,⟨b.jI.take e,[]⟩⟩ (u.ext jg) a (F.Qk a (RA HX))).mono ?_;rintro n w9 ⟨rfl,N⟩;have s:=N.later (w:=w8) jg;rw[v.o.2]at s;have⟨ai,G⟩:=jf (s.is (by rw[<-v.o.2];exact KM)) (xH.low (E.trans (aI.trans t).any) u s (SX D.size));clear N s;go_wp2_with fail;refine kk i j ai ?_;clear j q;clear i q1 H J K g3;refine tH rfl ?_;go_wp2_with fail;exact⟨⟨e+1,Zm,by go_num,G.o.1,G.o.2⟩,by simp[intOf];omega⟩
  . obtain rfl:e=b.jI.length:=Zm
    have O:=aa.kp k aR;obtain⟨-,-,d1,-⟩:=O.ca;have aL:Zz (kS wr c f g ⟨b.jI,b.jq.take 0⟩):=Zy (by rw[TC]at m;simpa using m);clear m k O V;go_wp2_with fail;clear d1;obtain⟨wo,rfl⟩:∃wo:World,wo=wr:=⟨_,rfl⟩;go_loopw [66] (fun C wr=>∃e:Nat,e<=b.jq.length/\C=.int .i64 e/\(∃f g,kS wr c f g ⟨b.jI,b.jq.take e⟩)/\Kp (·=c.l.D) w0 wr) (fun C _=>b.jq.length - (intOf C).toNat)
    case atStart=>exact⟨0,SV _,rfl,⟨_,_,aL⟩,E⟩
    case round=>
     obtain⟨e,hq,rfl,⟨f,g,m⟩,k⟩:=hrel;have⟨E,V⟩:=jf k m;by_cases az:e<b.jq.length
     . obtain⟨a,o⟩:=get_some az;obtain⟨r,aS,cs,rfl,ay,rfl,-,Q⟩:=(HP.keep lq.stays (Kp.same (D.any.trans k) fun r hg=>(HI r hg).2) fun _ z=>z).get o;obtain⟨S,j1,j2⟩:=Q.three;have jz:=jc S;obtain⟨Z,R,A,y⟩:=nu wr #[a.one,a.two,a.name] 112;have⟨aj,ae,x,af,ag,v⟩:=nE R y (m.ext A) A (F.JY a (RA o)) (Mi F o);have aW:decide (a.two<=a.one)=false:=SL (SX ag.1);have HX:=Zy o;obtain⟨ak,au,aA,d⟩:=ll Z;obtain⟨-,-,-,r2,-⟩:=hZ.lC fun h=>x.blk.ext (d.jv h);obtain⟨-,H,J,K,-⟩:=hZ.lC fun h=>y.ext (d.jv h);have i:=Zy d;clear m k Q ay o R A y d;go_upto_region 15 with(fail);rw[<-aj.o];clear S j1 j2 jz;refine jW i 19 [([0,1,2,3,4],5),([6,7,8,9,10,11,12,13,14,15],16)] [17,18] ?_ ?_
       . exact jg
       refine lJ ?_;intro q j;go_wp2_with fail;refine(IQ (x.ext jg) a).mono ?_;rintro n w8 ⟨rfl,L⟩;rw[v.o.1];have t:=Zy (((Kp.refl _ Z).drew:Ext Z _).trans L);clear L;go_wp2_with fail;refine kk i j t ?_;clear j q;refine lJ ?_;intro q j;go_wp2_with fail;refine(xy _ _ _ (x.ext t).kr a).mono ?_;rintro n w9 ⟨rfl,aC⟩;rw[Dz.2 ag.o.2];have U:=Zy (t.trans aC);clear aC;go_wp2_with fail;refine kk i j U ?_;clear j q;refine rC ?_;have B:=x.ext U;have P:=ae.ext U;have u:=Zy B;have T:¬RD c f g wr.heap.size:=fun n=>SX (V.Ov n)
       obtain⟨ak,au,aA,d⟩:=qC.ex (fun W'=>kK c ⟨w9,f,g,⟨b.jI,b.jq.take e⟩⟩ W') _ B.begin;obtain⟨-,-,-,q2,-⟩:=hZ.lC fun h=>(d.jv h).xQ;obtain⟨-,H,J,K,-⟩:=hZ.lC fun h=>P.kp (d.jv h).1 T;clear i r2;have i:=Zy d;clear B P T d;go_wp2_with fail;refine jW i 6 [([0,1,2,3,4],5)] [] ?_ ?_
       . exact u.begin.ext jg
       refine lJ ?_;intro q j;go_wp2_with fail;refine(AX c ⟨w9.drew,f,g,⟨b.jI,b.jq.take e⟩⟩ (u.ext jg) a ag).mono ?_;rintro n bz ⟨rfl,N⟩;have s:=N.later (w:=w9) jg;rw[v.o.2]at s;have⟨ai,G⟩:=jf (s.is (by rw[<-v.o.2];exact KN)) (xH.low (E.trans (af.trans U).any) u s (SX D.size));clear N s;go_wp2_with fail;refine kk i j ai ?_;clear j q;clear i q2 H J K;refine tH rfl ?_;go_wp2_with fail;exact⟨⟨e+1,Zm,by go_num,G.o.1,G.o.2⟩,by simp[intOf];omega⟩
     . obtain rfl:e=b.jq.length:=Zm
       have aN:Zz (kS wr c f g b):=Zy (by rw[TC]at m;exact m);clear m k;go_wp2;go_ret;exact⟨c,f,g,rfl,rfl,Zm,rfl,D.o.any.trans E.o,aN.o⟩
theorem MU:yH 33 2:=⟨_,underlying33,by kernel_rfl⟩
theorem PL(x:FB):∀a∈zw x,a.oneCell'=true:=by simp[zw,Value.oneCell']
theorem Oa(x:uB):∀a∈vJ x,a.oneCell'=true:=by simp[vJ,Value.oneCell']
theorem Ob{xs:List FB}(b:w.ownsRow base 107 4 v n (xs.flatMap zw))(d:n=xs.length)(hl:n<=4294967296):SliceOf 4 nG w (fun a=>base<=a) v xs:=
 SliceOf.lS zw b d rfl (fun _ _=>rfl) (fun _ _=>rfl) (fun _ c _=>c) Zm
theorem L6{xs:List uB}(b:w.ownsRow base 112 3 v n (xs.flatMap vJ))(d:n=xs.length)(hl:n<=4294967296):SliceOf 3 lq w (fun a=>base<=a) v xs:=
 SliceOf.lS vJ b d rfl (fun _ _=>rfl) (fun _ _=>rfl) (fun _ c _=>c) Zm
theorem IM(w:World)(r:Rc)(Z vp:Value)(b:Book)(c:kS w r Z vp b):Calls prog 23 #[some r.R] w fun o A=>(∃y z,o=.returned (.agg #[y,z])/\SliceOf 4 nG A (fun a=>w.heap.size<=a) y b.jI/\SliceOf 3 lq A (fun a=>w.heap.size<=a) z b.jq)/\Ext w A:=by
 obtain⟨a1,c1,T⟩:=jA c.re;obtain⟨a2,c2,U⟩:=jA c.rp;subst T U;obtain⟨j,K,d,F⟩:=nu w #[(),()] 33;have ag:=c.ok.Ld;have ah:=c.ok.Mg;obtain⟨ae,af,ai,g⟩:=ll j;obtain⟨-,-,X,Y,-⟩:=hZ.lC fun k=>(c.blk.ext d).ext (g.jv k);obtain⟨-,V,-⟩:=hZ.lC fun k=>(c.be.ext d).ext (g.jv k);obtain⟨-,W,-⟩:=hZ.lC fun k=>(c.bp.ext d).ext (g.jv k);have⟨n,R,P,C,l⟩:=ni g K d (c.ext d) F;clear c K d F g;go_enter func23,ntmps23;go_upto_region 1 with(fail);rw[<-R.o];refine jW n 17 [([0,1,2,3,4,5,6,8,9,10,11,12,13,14],7),([],15)] [16] ?_ ?_
 . exact jg
 refine lJ ?_;intro u h;go_wp2_with fail;refine(QK ((qi C.re (oN PL _)).ext jg) Zm).mono ?_;rintro o w1 ⟨⟨y,rfl,I⟩,G⟩;have⟨m,Q⟩:=jf (((Kp.refl _ j).drew:Ext j _).trans G) I;clear G I;go_wp2_with fail;refine kk n h m ?_;clear h u;refine kN rfl fun u h=>?_;go_wp2_with fail;refine(O7 ((qi C.rp (oN Oa _)).ext m) Zm).mono ?_;rintro o B ⟨⟨z,rfl,J⟩,x⟩;have f:=Zy (m.trans x);have D:=Zy (jb Q x fun _ _ _ aa=>aa);have E:=Zy J;clear x J;obtain⟨p,s,rfl⟩:=jA D;obtain⟨q,t,rfl⟩:=jA E;go_wp2_with fail;refine kk n h f ?_;clear h u;clear n X Y V W;obtain⟨f0,f1,-⟩:=(l.ext f).fz;obtain⟨fz,q0,q1,-⟩:=(l.ext f).ca;refine r9 [_] rfl fun S H=>?_;(repeat (go_big_quiet_step (fail)));refine qn H ?_;clear H S;go_wp2_with fail;have L:(w:Nat)<j:=l.lt;have N:=m.size;have v:hZ ((B.setCell w (.slice p b.jI.length s)).setCell (w,1) (.slice q b.jq.length t)) w 33 #[.slice p b.jI.length s,.slice q b.jq.length t]:=((l.ext f).jy 0 _).jy 1 _;have i:Kp (·=w) B ((B.setCell w (.slice p b.jI.length s)).setCell (w,1) (.slice q b.jq.length t)):=nH;have⟨v,i⟩:=jf v i;refine Cv (jE MU rfl w rfl [.slice p b.jI.length s,.slice q b.jq.length t] (hH.l7 v) rfl) rfl ?_;have O:∀a,j.heap.size<=a->¬a=w.heap.size:=fun a e=>Zm
 refine⟨⟨_,_,rfl,?_,?_⟩,(P.trans f).own i fun a o=>Zm⟩
 . exact(Ob D rfl Zm).keep nG.stays (i.same O) fun a e=>TL (VL L) e
 . exact(L6 E rfl Zm).keep lq.stays (i.same fun a e=>O a (TL N e)) fun a e=>TL (VL L) (TL N e)
theorem kE.Rh{g:Nat}(a:kE w g m){c:Nat}{v:Value}(b:w.cell? (g,c)=some v):False:=by
 obtain⟨_,_,a,_⟩:=a;simp[World.cell?,a]at b
theorem ji.beside{g: World}{l:jk}{d:Nat}(a:ji w l p)(e:Kp (·=d) w g)(c:kE w d m)(r:d≠l.O/\d≠l.A/\d≠l.D/\d≠l.L):ji g l p:=by
 obtain⟨j,k,n,o⟩:=r;refine⟨a.ok,a.ord,?_,?_,?_,?_⟩
 . obtain⟨h,i,q,s⟩:=a.blk;exact⟨h,i,q.kp e (Ne.symm o),s.keep ja.stays (fun t u v _ f=>e.lL f (fun b=>by subst b;exact c.Rh f)) fun _ a=>a⟩
 . obtain⟨m,c,b⟩:=a.own;exact⟨m,c.kp e (Ne.symm j),b⟩
 . obtain⟨m,c,b⟩:=a.ask;exact⟨m,c.kp e (Ne.symm k),b⟩
 . obtain⟨m,c,b⟩:=a.laid;exact⟨m,c.kp e (Ne.symm n),b⟩
theorem M.FK{e:FB}(f:xR p e):∃c,cls? p e.ref=some c/\cls p e.ref=c:=by
 unfold xR at f;have a:(find p e.keeper e.name).2=1:=by rw[f]
 have b:(find p e.keeper e.name).1=e.ref:=by rw[f]
 unfold find at a b;by_cases d:(M.resolve p e.keeper e.name).2=1
 . rw[Tv d]at a b;split at a
   . rename_i h;rw[Tv h]at b;obtain⟨c,g⟩:=M.l8 d;have b:(M.resolve p e.keeper e.name).1=e.ref:=b;rw[b]at g;exact⟨c,g,by unfold cls;rw[g];rfl⟩
   . simp at a
 . rw[Tt d]at a;exact absurd a d
def M.qH(p q:iZ)(x:FB):Prop:=xR q x/\cls p x.ref=cls q x.ref
theorem Ik (w : World) (l Z : jk) (p q : iZ) (d : ji w l p) (E : ji w Z q) (I : Nat -> Prop) {ve vp: Value} (b : Book) (he : SliceOf 4 nG w I ve b.jI) (hp : SliceOf 3 lq w I vp b.jq) (aL : nJ p b) :Calls prog 32 #[some l.L,some Z.L,.agg #[ve,vp]] w fun s w'=>((s=.returned (.bool true)/\stays p q b)\/(s=.returned (.bool false)/\¬stays p q b))/\Ext w w':=by
 obtain⟨a1,c1,rfl,bF,bD⟩:=he.form;obtain⟨a2,c2,rfl,bG,bE⟩:=hp.form;obtain⟨w0,aM,aH,b3⟩:=nu w #[.slice a1 b.jI.length c1,.slice a2 b.jq.length c2] 33;obtain⟨-,U,t,-⟩:=b3.ca;have⟨bf,j,HL,af,HE,HP,aZ,aQ⟩:=wL aM aH d E he hp aL b3;clear d E aM aH b3 he hp aL;go_enter func32,ntmps32;go_upto_region 1 with(fail);rw[<-bf.o];go_wp2_with fail;clear U t;go_loopw [16] (fun x wr=>∃g:Nat,g<=b.jI.length/\x=.int .i64 g/\Ext w0 wr/\Zz (∀c∈b.jI.take g,qH p q c)) (fun x _=>b.jI.length - (intOf x).toNat)
 case atStart=>exact⟨0,SV _,rfl,Kp.rr,Zy Zl⟩
 case round =>
  obtain⟨g,hk,rfl,i,y⟩:=hrel;have z:=Zy (j.trans i);by_cases az:g<b.jI.length
  . obtain⟨c,m⟩:=get_some az;obtain⟨bq,bu,cs,rfl,aj,rfl,-,F⟩:=(HE.ext nG.stays z).get m;obtain⟨J,j1,j2,j3⟩:=F.four;have jz:=jc J;obtain⟨w5,G,v,A⟩:=nu wr #[.int .i64 c.keeper,.string c.name,.int .i64 c.ref.keeper,.string c.ref.name] 107;have⟨ag,aR,aa,R,aC⟩:=ni G A (i.trans v) m (mJ w5 Z q (af.ext (z.trans v)) c.keeper c.name);have aJ:¬qH p q c->¬stays p q b:=fun d hs=>d (hs.1 c (RA m));have L:=Zy aJ;have aK:qH p q c->∀K∈b.jI.take (g+1),qH p q K:=fun d K H=>by
     rw[<-zi m]at H;rcases TZ.1 H with h|h
     . exact y K h
     . simp at h;subst h;exact d
    have aW:=Zy aK;obtain⟨-,U,t,-⟩:=A.ca;clear i F aj m G v A aJ aK;go_upto_region 4 with(fail);rw[<-ag.o];clear J j1 j2 j3 jz;go_wp2_with fail;obtain⟨V,W,f3,hF⟩:∃V W f3,find q c.keeper c.name=(⟨V,W⟩,f3):=⟨_,_,_,rfl⟩;have P:=Zy hF;simp only[hF]at aC;clear hF;refine aC.mono ?_;rintro s w6 ⟨rfl,B⟩;obtain⟨w7,aN,ah,b8⟩:=nu w6 #[.int .i64 V,.string W] 60;have bg:=Zy aN;have aS:=Zy (aR.ext (B.trans ah));have r:=Zy (aa.trans (B.trans ah));obtain⟨bz,bC,bI,Q⟩:=ll w7;obtain⟨-,g0,g1,g2,g3,-⟩:=hZ.lC fun n=>aS.ext (Q.jv n);obtain⟨-,k0,k1,-⟩:=hZ.lC fun n=>b8.ext (Q.jv n);have f:=Zy Q;clear B aN ah b8 Q U t;go_upto_region 5 with(fail);rw[<-bg.o];by_cases Y:f3=1
    . subst Y;rcases wT V c.ref.keeper W c.ref.name with⟨h,E⟩|⟨h,E,aG⟩|⟨h,aF⟩
      . subst h E;have av:xR q c:=P.o;obtain⟨S,hc,ak⟩:=FK (aZ.Qk c (RA R));obtain⟨T,hd,au⟩:=FK av;have⟨aT,aV⟩:=jf hc hd;have aD:Zz (decide (S=T)=true↔qH p q c):=Zy ⟨fun d=>⟨av,by rw[ak,au];exact Uo d⟩,fun d=>Tz (by rw[<-ak,<-au];exact d.2)⟩;clear av hc ak hd au;refine jW f 20 [([0,1,2,3,4,5,6,7,8,9,10,11,13,14,15],12),([],16),([],17)] [18,19] ?_ ?_
        . exact jg
        refine lJ ?_;intro e a;go_wp2_with fail;have hD:Ext w7 w7.drew:=jg;refine(p9 _ _ (HL.ext ((j.trans r).trans hD)) _ _ S aT).mono ?_;rintro s w8 ⟨⟨bA,ax,rfl⟩,ai⟩;obtain⟨s1,s2,s3,s4,rfl⟩:=ax.form;have⟨ae,aY⟩:=jf (hD.trans ai) (jh.stays _ _ _ _ _ _ (Ext.same ai) (fun _ d=>d) ax);clear ai ax hD;go_wp2_with fail;refine kk f a ae ?_;clear a e;refine kN rfl fun e a=>?_;go_wp2_with fail;refine(p9 _ _ (af.ext ((j.trans r).trans ae)) _ _ T aV).mono ?_;rintro s w9 ⟨⟨bB,ay,rfl⟩,X⟩;obtain⟨r1,r2,r3,r4,rfl⟩:=ay.form;have⟨aB,aU⟩:=jf (ae.trans X) (Es w9 S T (jh.stays _ _ _ _ _ _ (Ext.same X) (fun _ d=>d) aY) (jh.stays _ _ _ _ _ _ (Ext.same X) (fun _ d=>d) ay));clear X ay;go_wp2_with fail;refine kk f a aB ?_;clear a e;refine kN rfl fun e a=>?_;go_wp2_with fail;refine aU.mono ?_;rintro s bJ ⟨rfl,aI⟩;have N:=Zy (aB.trans aI);clear aI;obtain⟨k,u⟩:∃k,k=decide (S=T):=⟨_,rfl⟩;have C:Zz (k=true↔qH p q c):=Zy (by rw[u];exact aD);rw[<-u];clear u aD;cases k
        . go_wp2_with fail;refine kk f a N ?_;clear a e;refine rC ?_;go_wp2;go_ret;exact⟨.inr ⟨rfl,L fun d=>by have:=C.2 d;cases this⟩,(j.o.trans r.o).trans N.o⟩
        . go_wp2_with fail;refine kk f a N ?_;clear a e;refine rC ?_;go_wp2_with fail;exact⟨⟨g+1,Zm,by go_num,r.o.trans N.o,Zy (aW.o (C.o.1 (by trivial)))⟩,by simp[intOf];omega⟩
      . have o:¬qH p q c:=fun d=>aG (congrArg (fun n=>n.1.name) (P.symm.trans d.1));have D:=Zy (L o);subst h;clear o aG;refine jW f 20 [([0,1,2,3,4,5,6,7,8,9,10,11,13,14,15],12),([],16),([],17)] [18,19] ?_ ?_
        . exact jg
        refine lJ ?_;intro e a;go_wp2_with fail;refine kk f a jg ?_;clear a e;refine kN rfl fun e a=>?_;go_wp2_with fail;refine kk f a jg ?_;clear a e;refine kN rfl fun e a=>?_;go_wp2_with fail;refine kk f a jg ?_;clear a e;refine rC ?_;go_wp2;go_ret;exact⟨.inr ⟨rfl,D⟩,(j.trans r).trans jg⟩
      . have o:¬qH p q c:=fun d=>aF (congrArg (fun n=>n.1.keeper) (P.symm.trans d.1));have D:=Zy (L o);clear o aF;refine jW f 20 [([0,1,2,3,4,5,6,7,8,9,10,11,13,14,15],12),([],16),([],17)] [18,19] ?_ ?_
        . exact jg
        refine lJ ?_;intro e a;go_wp2_with fail;refine kk f a jg ?_;clear a e;refine kN rfl fun e a=>?_;go_wp2_with fail;refine kk f a jg ?_;clear a e;refine kN rfl fun e a=>?_;go_wp2_with fail;refine kk f a jg ?_;clear a e;refine rC ?_;go_wp2;go_ret;exact⟨.inr ⟨rfl,D⟩,(j.trans r).trans jg⟩
    . have o:¬qH p q c:=fun d=>Y (congrArg (fun n=>n.2) (P.symm.trans d.1));have D:=Zy (L o);have bH:=TI.2 Y;clear o Y;refine jW f 20 [([0,1,2,3,4,5,6,7,8,9,10,11,13,14,15],12),([],16),([],17)] [18,19] ?_ ?_
      . exact jg
      refine lJ ?_;intro e a;go_wp2_with fail;refine kk f a jg ?_;clear a e;refine kN rfl fun e a=>?_;go_wp2_with fail;refine kk f a jg ?_;clear a e;refine kN rfl fun e a=>?_;go_wp2_with fail;refine kk f a jg ?_;clear a e;refine rC ?_;go_wp2;go_ret;exact⟨.inr ⟨rfl,D⟩,(j.trans r).trans jg⟩
  . obtain rfl:g=b.jI.length:=Zm
    have aP:Zz (∀c∈b.jI,qH p q c):=Zy (by have d:=y.o;rwa[TC]at d);obtain⟨-,-,t,-⟩:=(aQ.ext i).ca;have O:=Zy i;obtain⟨wo,aO⟩:∃wo,wo=wr:=⟨_,rfl⟩;rw[<-aO]at O t |-;clear i aO z y;go_wp2_with fail;clear t;go_loopw [53] (fun x wr=>∃g:Nat,g<=b.jq.length/\x=.int .i64 g/\Ext wo wr/\Zz (∀bn∈b.jq.take g,keeps q bn)) (fun x _=>b.jq.length - (intOf x).toNat)
    case atStart=>exact⟨0,SV _,rfl,Kp.rr,Zy Zl⟩
    case round=>
     obtain⟨g,hk,rfl,i,y⟩:=hrel;have z:=Zy ((j.trans O).trans i);by_cases az:g<b.jq.length
     . obtain⟨c,m⟩:=get_some az;obtain⟨bq,bu,cs,rfl,aj,rfl,-,F⟩:=(HP.ext lq.stays z).get m;obtain⟨J,j1,j2⟩:=F.three;have jz:=jc J;obtain⟨w5,G,v,A⟩:=nu wr #[.int .i64 c.one,.int .i64 c.two,.string c.name] 112;have⟨ag,aa,R,aX⟩:=jU G (i.trans v) m (xy w5 Z q (af.ext (z.trans v)) c);obtain⟨-,U,t,e2,-⟩:=A.ca;clear i F aj m G v A;go_upto_region 11 with(fail);rw[<-ag.o];clear J j1 j2 jz;go_wp2_with fail;refine aX.mono ?_;rintro s w6 ⟨rfl,B⟩;have aA:=Zy (aa.trans B);obtain⟨k,u⟩:∃k,k=Dy q c:=⟨_,rfl⟩;have C:Zz (k=true↔keeps q c):=Zy (by rw[u];exact Dz);rw[<-u];clear u B;cases k
       . go_wp2;go_ret;exact⟨.inr ⟨rfl,fun hs=>by have:=C.2 (hs.2 c (RA R));cases this⟩,(j.o.trans O.o).trans aA.o⟩
       . go_wp2_with fail;exact⟨⟨g+1,Zm,by go_num,aA.o,Zy fun K H=>by
          rw[<-zi R.o]at H;rcases TZ.1 H with h|h
          . exact y K h
          . simp at h;subst h;exact C.1 (by trivial)⟩,by simp[intOf];omega⟩
     . obtain rfl:g=b.jq.length:=Zm
       go_wp2;go_ret;exact⟨.inl ⟨rfl,aP,by have d:=y.o;rwa[TC]at d⟩,(j.o.trans O.o).trans i⟩
end Go.Proofs.YtlhgbjbkjalfjaaGreat
