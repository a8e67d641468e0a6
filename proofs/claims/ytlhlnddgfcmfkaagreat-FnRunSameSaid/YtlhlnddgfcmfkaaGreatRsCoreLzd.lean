/- Walks. -/
import Derived.Test.YtlhlnddgfcmfkaaGreatRsCoreH
import Derived.Test.YtlhlnddgfcmfkaaGreatRsCoreLzc
set_option maxRecDepth 100000
set_option maxHeartbeats 4000000
set_option linter.all false
namespace Go.Proofs.YtlhlnddgfcmfkaaGreat
open Go Go.RowKit Tryz M
theorem Kp.back{w b:World}{I:Nat->Prop}(c:Ext w b)(hI:∀a,I a->a<w.heap.size):Same I b w:=fun a g h d e=>by
 rw[<-c.cell (hI a d) (fun f=>f)];exact e
theorem Q7{w:World}{b:Nat}{t:TypeId}{u0 u1 u2 u3 u4 u5 u6 u7:Value}(j:hV w b t #[u0,u1,u2,u3,u4,u5,u6,u7]){a c d e f g h i:Value}:hV ((((((((w.setCell b a).setCell (b,1) c).setCell (b,2) d).setCell (b,3) e).setCell (b,4) f).setCell (b,5) g).setCell (b,6) h).setCell (b,7) i) b t #[a,c,d,e,f,g,h,i]:=by
 have k:hV (w.setCell b a) b t #[a,u1,u2,u3,u4,u5,u6,u7]:=j.jk 0 a;have l:hV ((w.setCell b a).setCell (b,1) c) b t #[a,c,u2,u3,u4,u5,u6,u7]:=k.jk 1 c;have m:hV (((w.setCell b a).setCell (b,1) c).setCell (b,2) d) b t #[a,c,d,u3,u4,u5,u6,u7]:=l.jk 2 d;have n:hV ((((w.setCell b a).setCell (b,1) c).setCell (b,2) d).setCell (b,3) e) b t #[a,c,d,e,u4,u5,u6,u7]:=m.jk 3 e;have o:hV (((((w.setCell b a).setCell (b,1) c).setCell (b,2) d).setCell (b,3) e).setCell (b,4) f) b t #[a,c,d,e,f,u5,u6,u7]:=n.jk 4 f;have p:hV ((((((w.setCell b a).setCell (b,1) c).setCell (b,2) d).setCell (b,3) e).setCell (b,4) f).setCell (b,5) g) b t #[a,c,d,e,f,g,u6,u7]:=o.jk 5 g;have q:hV (((((((w.setCell b a).setCell (b,1) c).setCell (b,2) d).setCell (b,3) e).setCell (b,4) f).setCell (b,5) g).setCell (b,6) h) b t #[a,c,d,e,f,g,h,u7]:=p.jk 6 h;exact q.jk 7 i
theorem Q8{D:Nat->Prop}{w:World}{b:Nat}(a:D b)(c d e f g h i j:Value):Kp D w ((((((((w.setCell b c).setCell (b,1) d).setCell (b,2) e).setCell (b,3) f).setCell (b,4) g).setCell (b,5) h).setCell (b,6) i).setCell (b,7) j):=
 ((((Nt a c d e f).setCell (p:=⟨b,4,none⟩) (fun _=>a) g).setCell (p:=⟨b,5,none⟩) (fun _=>a) h).setCell (p:=⟨b,6,none⟩) (fun _=>a) i).setCell (p:=⟨b,7,none⟩) (fun _=>a) j
theorem zb(r:Rc)(s:Rs)(w:World)(b:kK r s w)(x:rE)(hx:ky r.p x=true):Calls prog 19 #[some r.R,.agg #[x.of.keeper,x.of.name,x.at_]] w fun e w'=>e=.returned (.tuple #[])/\kK r s w':=by
 obtain⟨C,ay,S,G⟩:=nu w #[x.of.keeper,x.of.name,x.at_] 65;have t:=b.ext S;obtain⟨-,Q,-⟩:=G.ca;obtain⟨aZ,aV,bz,F⟩:=kY C;obtain⟨-,r0,-⟩:=hV.lL fun z=>t.xG.ext (F.jm z);obtain⟨-,g0,g1,g2,-⟩:=hV.lL fun z=>G.ext (F.jm z);obtain⟨a,hm⟩:∃a,M.method r.p x=a:=⟨_,rfl⟩;have bn:r.l.O<C:=Z4 t.ku.ord t.ku.lt
 have⟨g,aR,aH,aA,H0,HM,HX,aB⟩:=xJ F ay S b t hm hx G;clear F ay S b t hm hx G;go_enter func19,ntmps19;go_upto_region 1 with(fail);rw[<-aR.o];go_upto_region 2 with(fail);clear Q;refine qA g 7 (.two [0,1,2,3,4] 5 6 (.one [] 6 (.fin [])) (.one [] 5 (.fin []))) ?_ ?_
 . exact jf
 refine two [_,_,_,_,_] rfl rfl rfl fun aS hK=>?_;(repeat (go_big_quiet_step (fail)));refine Rh hK (Ra (e:=5) (d:=18) (n:=C.heap.size) (v:=fun l=>.agg (mg a l).toArray) (V:=fun l=>jd C (· <r.l.O) a (mg a l)) (z:=#["",(),.int .i64 0, "",.int .i64 0,.int .i64 0,(),()]) (t:=141) ⟨rfl,?_,?_,?_⟩ Zn (g.o.o _ jf) (R5 _) ?_ rfl rfl)<;>clear hK aS
 . rintro bB _ ⟨D,rfl⟩ hn K2 I;simp (decide:=true)only[Act.put,Rx,RU,RN]at I |-;go_wp2_with fail;refine(lq _ _ _ (H0.ku.ext (g.jm _)) x HX).mono ?_;rintro e w8 ⟨⟨cs,j,rfl⟩,aj⟩;rw[HM.o]at j;obtain⟨l,rfl⟩:=nI j;have hE:=(g.jm D).trans aj;go_wp2_with fail;exact I l w8 (jd.stays _ _ _ _ _ _ (hE.back fun ag hb=>Zm) (fun _ b=>b) j) (g.o.o _ hE) (II.of aj fun _ _ e=>e)
 . intro a' bf K2 I;go_wp2_with fail;exact I
 . rintro _ ⟨D,rfl⟩;exact g.o.o _ ((g.jm _).alloc _)
 . rintro f l _ j ⟨D,rfl⟩ ax H;have ai:=g.jm D;generalize aV D=w1 at*;obtain⟨a1,c1,a2,c2,a3,c3⟩:=l;simp only[mg]at j |-;obtain⟨f0,f1,f2,f3,f4,f5,f6,f7,-⟩:=H.fz;obtain⟨aU,q0,q1,q2,q3,q4,q5,q6,q7,-⟩:=H.ca;have⟨aI,aC,aF,ae⟩:=jV ai H ax j;clear g r0 g0 g1 g2 ai H ax j;go_simp;go_upto_region 3 with(fail);obtain⟨L,K⟩:=Ry (((((((((w1.setCell f (.string a.name)).setCell (f,1) (.slice a1 a.args.length c1)).setCell (f,2) (.int .i64 a.ret.kind)).setCell (f,3) (.string a.ret.name)).setCell (f,4) (.int .i64 a.locals)).setCell (f,5) (.int .i64 a.stack)).setCell (f,6) (.slice a2 a.code.length c2)).setCell (f,7) (.slice a3 a.maps.length c3)));have ah:hV L f 141 #[.string a.name,.slice a1 a.args.length c1,.int .i64 a.ret.kind,.string a.ret.name,.int .i64 a.locals,.int .i64 a.stack,.slice a2 a.code.length c2,.slice a3 a.maps.length c3]:=by rw[K];exact Q7 aC
   have o:Ext C L:=aI.own (D':=(·=f)) (by rw[K];exact Q8 (D:=(·=f)) rfl _ _ _ _ _ _ _ _) fun bg e=>Z0 aF.o
   rw[<-K];obtain⟨B,rfl,ha,h1,up,-⟩:=aA.qi (aH.trans o);have U:=aB.ext o;obtain⟨-,-,q,-⟩:=U.ca;have aY:=Zy U;have N:=Zy ah;have⟨m,H1,UP⟩:=jy ha h1 up;obtain⟨va,vc,vm,e,aW,W,Y⟩:=ae.o;simp only[RG,SQ,SG]at e;obtain⟨rfl,rfl,rfl⟩:=e;have⟨aL,aG,aJ⟩:=jy (jL.ext jd.stays o ae) (W.ext uE.stays o) (Y.ext kX.stays o);have bq:a.code.length<=4294967296:=by obtain⟨_,_,_,_,b⟩:=W.form;exact b
   have bu:a.maps.length<=4294967296:=by obtain⟨_,_,_,_,b⟩:=Y.form;exact b
   clear f0 f1 f2 f3 f4 f5 f6 f7 aU q0 q1 q2 q3 q4 q5 q6 q7 K ah o ha h1 up U aW W Y;go_wp2_with fail;refine(q9 r B _ H1 x.of.keeper x.of.name).mono ?_;rintro e w3 ⟨rfl,J⟩;have aM:=Zy J;obtain⟨-,q0,q1,q2,q3,q4,q5,q6,q7,-⟩:=(J.blk m N).ca;have aK:=Zy (jd.stays _ _ _ _ _ _ (J.same m) (fun _ b=>b) aL);clear J q;go_wp2_with fail;refine(Ai r B aM x.of.keeper x.of.keeper a aK .self).mono ?_;rintro e w4 ⟨rfl,ak⟩;have af:=Zy ak;clear ak q0 q1 q2 q3 q4 q5 q6 q7;obtain⟨-,-,-,-,-,-,-,-,q7,-⟩:=(af.blk m N).ca;go_wp2_with fail;clear q7;go_loopw [33] (fun k wr=>∃c:Nat,c<=a.maps.length/\k=.int .i64 c/\kK r B wr) (fun k _=>a.maps.length - (intOf k).toNat)
   case atStart=>exact⟨0,R4 _,rfl,af⟩
   case round=>
    obtain⟨c,hq,rfl,d⟩:=hrel;have O:=Zy d;by_cases V:c<a.maps.length
    . obtain⟨h,y⟩:=get_some V;obtain⟨ag,aX,cs,rfl,T,⟨vl,vs,rfl,X,Z⟩,-,u⟩:=(aJ.keep kX.stays (d.same m) fun _ b=>b).get y;obtain⟨A,j1,j2⟩:=u.three;have jz:=iY A;obtain⟨p1,p2,rfl,-,-⟩:=X.form;obtain⟨p3,p4,rfl,-,-⟩:=Z.form;obtain⟨w5,v,i,n⟩:=nu wr #[h.at_,.slice p1 h.locals.length p2,.slice p3 h.stack.length p4] 146;obtain⟨s2,rfl,av,h2,az,-⟩:=d.qi i;obtain⟨-,-,q,-⟩:=n.ca;have⟨P,aD,aa,H2,aT,aP,aQ⟩:=qh v n av h2 az (X.ext kE.stays i) (Z.ext kE.stays i);clear d u T y v i n av h2 az X Z;go_upto_region 8 with(fail);rw[<-P.o];clear A j1 j2 jz;go_wp2_with fail;refine(BZ r s2 H2 x.of.keeper aP).mono ?_;rintro e w6 ⟨rfl,p⟩;have E:=Zy p;obtain⟨-,-,-,R,-⟩:=(p.blk aa aD).ca;clear p q;go_wp2_with fail;refine(BZ r s2 E x.of.keeper (aQ.keep kE.stays (E.same aa) fun _ b=>b)).mono ?_;rintro e w7 ⟨rfl,au⟩;have aO:=Zy au;clear au R;go_wp2_with fail;exact⟨⟨c+1,Zm,by go_num,aT.o _ aO.o⟩,by simp[intOf];omega⟩
    . obtain rfl:c=a.maps.length:=Zm
      obtain⟨-,-,-,-,-,-,-,q6,-⟩:=(d.blk m N).ca;clear d;go_wp2_with fail;clear q6;go_loopw [51] (fun k wr=>∃c:Nat,c<=a.code.length/\k=.int .i64 c/\kK r B wr) (fun k _=>a.code.length - (intOf k).toNat)
      case atStart=>exact⟨0,R4 _,rfl,O⟩
      case round=>
       obtain⟨c,hq,rfl,d⟩:=hrel;have O:=Zy d;by_cases V:c<a.code.length
       . obtain⟨h,y⟩:=get_some V;obtain⟨ag,aX,cs,rfl,T,rfl,-,u⟩:=(aG.keep uE.stays (d.same m) fun _ b=>b).get y;obtain⟨A,j1,j2,j3⟩:=u.four;have jz:=iY A;obtain⟨w5,v,i,n⟩:=nu wr #[h.op,h.a,h.name,h.member] 149;have⟨P,aN⟩:=je v (d.ext i);obtain⟨-,Q,q,R,e3,-⟩:=n.ca;clear d u T y v i n;go_upto_region 14 with(fail);rw[<-P.o];clear A j1 j2 j3 jz;go_wp2_with fail;refine(DX r B aN x.of.keeper h).mono ?_;rintro e w6 ⟨rfl,p⟩;have E:=Zy p;clear p Q q R e3;go_wp2_with fail;exact⟨⟨c+1,Zm,by go_num,E.o⟩,by simp[intOf];omega⟩
       . have bA:c=a.code.length:=Zm
         clear d;go_wp2_with fail;refine RA ?_;exact⟨rfl,UP _ O⟩
def M.FQ(p:hZ)(a:uj):Bool:=has p a.one&&has p a.two&&jC a.name&&agree p a.one a.two ⟨2,a.name⟩
theorem I8{p:hZ}{a:uj}:FQ p a=true↔keeps p a:=by
 unfold FQ keeps;simp[Sc,and_assoc]
theorem Ck{w:World}{l:jh}{p:hZ}(s:jg w l p)(a:uj):Calls prog 117 #[some l.L,.agg #[a.one,a.two,a.name]] w fun b y=>b=.returned (.bool (FQ p a))/\Ext w y:=by
 obtain⟨C,t,j,r⟩:=nu w #[a.one,a.two,a.name] 121;obtain⟨-,z,A,B,-⟩:=r.ca;have⟨v,g,e⟩:=jy t j (s.ext j);have f:Zz (FQ p a=(has p a.one&&has p a.two&&jC a.name&&agree p a.one a.two ⟨2,a.name⟩)):=Zy rfl;clear s t j r;go_enter func117,ntmps117;go_upto_region 1 with(fail);rw[<-v.o];obtain⟨q1,k⟩:∃c,has p a.one=c:=⟨_,rfl⟩;obtain⟨q2,m⟩:∃c,has p a.two=c:=⟨_,rfl⟩;obtain⟨q3,n⟩:∃c,jC a.name=c:=⟨_,rfl⟩;obtain⟨q4,o⟩:∃c,agree p a.one a.two ⟨2,a.name⟩=c:=⟨_,rfl⟩;rw[k,m,n,o]at f;have⟨h,i,q,u⟩:=jV k m n o;clear k m n o;cases q1
 . go_wp2_with (go_at_call 40;refine(oK e _).mono ?_;rintro b d ⟨rfl,rfl⟩;rw[h.o]);go_ret;exact⟨hQ f.symm,g⟩
 cases q2
 . go_wp2_with (go_at_call 40;refine(oK e _).mono ?_;rintro b d ⟨rfl,rfl⟩;simp only[h.o,i.o]);go_ret;exact⟨hQ f.symm,g⟩
 cases q3
 . go_wp2_with (first|(go_at_call 40;refine(oK e _).mono ?_;rintro b d ⟨rfl,rfl⟩;simp only[h.o,i.o])|(go_at_call 22;refine(mE _ _).mono ?_;rintro b d ⟨rfl,rfl⟩;rw[q.o]));go_ret;exact⟨hQ f.symm,g⟩
 go_wp2_with (first|(go_at_call 40;refine(oK e _).mono ?_;rintro b d ⟨rfl,rfl⟩;simp only[h.o,i.o])|(go_at_call 22;refine(mE _ _).mono ?_;rintro b d ⟨rfl,rfl⟩;rw[q.o])|(go_at_call 156;refine(uL e a.one a.two ⟨2,a.name⟩).mono ?_;rintro b d ⟨rfl,x⟩;rw[u.o]));go_ret;exact⟨hQ (by rw[f.o];rfl),g.trans x⟩
theorem Ho{w:World}:Calls prog 43 #[.func (.func 44) #[] #[]] w fun c b=>c=.returned (.pointer (some ⟨w+1,0,none⟩))/\Ext w b/\kH b w []/\hV b (w+1) 156 #[(),.map (some w.heap.size),.func (.func 44) #[] #[]]:=by
 have e:∀a:World,(Instr.makeMap 125 none).run prog a=.ok (.map (some a.heap.size)) (a.alloc (.map #[] 0)):=fun a=>by kernel_rfl
 go_enter func43,ntmps43;go_wp2_with fail;go_ret;exact⟨rfl,kx,(kH.new w).kp (D:=fun _=>False) kx (fun d=>d),hV.newAt _ _ Zl⟩
theorem Hp{w:World}:Calls prog 45 #[.func (.func 46) #[] #[]] w fun c b=>c=.returned (.pointer (some ⟨w+1,0,none⟩))/\Ext w b/\PM.kH b w []/\hV b (w+1) 160 #[(),.map (some w.heap.size),.func (.func 46) #[] #[]]:=by
 have e:∀a:World,(Instr.makeMap 158 none).run prog a=.ok (.map (some a.heap.size)) (a.alloc (.map #[] 0)):=fun a=>by kernel_rfl
 go_enter func45,ntmps45;go_wp2_with fail;go_ret;exact⟨rfl,kx,(PM.kH.new w).kp (D:=fun _=>False) kx (fun d=>d),hV.newAt _ _ Zl⟩
theorem Ae(w:World)(l:jh)(p:hZ)(m:jg w l p):Calls prog 16 #[some l.L] w fun f u=>∃b:Rc,b.l=l/\b.p=p/\w<=b.B/\f=.returned (some b.R)/\Ext w u/\kT u b () () ⟨[],[]⟩:=by
 have i:=Zy m;clear m;go_enter func16,ntmps16;go_wp2_with fail;refine(Ho).mono ?_;rintro f g ⟨rfl,n,s,q⟩;have⟨e,v,j⟩:=jy n s q;clear n s q;go_wp2_with fail;refine(Hp).mono ?_;rintro f h ⟨rfl,o,t,r⟩;have⟨d,x,k⟩:=jy o t r;clear o t r;go_wp2_with fail;go_ret;have a:Ext h (h.alloc (.cells #[some l.L,.pointer (some ⟨w+1,0,none⟩),.pointer (some ⟨g+1,0,none⟩)] 124)):=kx;have A:=j.lt;have B:=k.lt;have z:=e.size;have y:=i.lt;exact⟨⟨l,p,w.heap.size,h.heap.size,w.heap.size+1,g.heap.size+1,w.heap.size,g.heap.size⟩,rfl,rfl,R5 _,rfl,(e.trans d).trans a,
  ((i.ext e).ext d).ext a,y,⟨by simp only;omega,by simp only;omega,by simp only;omega,by simp,by simp only;omega⟩,hV.new _ _ _,(j.o.ext d.o).ext a,k.o.ext a,
  ⟨[],(v.kp d (fun c=>c)).kp a fun c=>c,rfl⟩,⟨[],x.kp a fun c=>c,rfl⟩,Rt _ _ _ _,Rt _ _ _ _,by simp only;omega,
  ⟨by simp,by simp,by simp,by simp,by simp,by simp⟩⟩
theorem Kp.Rp{D D':Nat->Prop}{w a b:World}(d:Kp D w a)(e:Kp D' a b)(i:∀c,D' c->D c\/w.heap.size<=c):Kp D w b:=
 ⟨e.os.trans d.os,e.tape.trans d.tape,e.output.trans d.output,RP d.size e.size,
  fun c g f=>(e.block c (Nv g d.size) (fun j=>by
   rcases i c j with h|h
   . exact f h
   . omega)).trans (d.block c g f)⟩
theorem DI{α e:Type}{f:α->e}{l:List α}(a:(l.map f).Nodup){q:Nat}{x:α}(d:l[q]?=some x):f x ∉ (l.take q).map f:=by
 have b:l=l.take q++x::l.drop (q+1):=by rw[<-oG d,Tx]
 rw[b,RI,List.nodup_append]at a;intro c;exact a.2.2 _ c _ Zl rfl
theorem Fu{α:Type}{l:List α}{q:Nat}{x:α}(a:l[q]?=some x):l.take q++[x]=l.take (q+1):=by
 rw[RL,a];rfl
theorem K6{p:hZ}{b:Book}(c:rC p b){q:Nat}{x:Gy}(a:b.jR[q]?=some x):Lv ⟨b.jR.take q,[]⟩ x=false/\EA ⟨b.jR.take q,[]⟩ x=⟨b.jR.take (q+1),[]⟩:=by
 have f:=DI c.P6 a;have d:Lv ⟨b.jR.take q,[]⟩ x=false:=by
  unfold Lv;rw[Sg];intro h e g;rw[<-Sq g]at e;exact f e
 refine⟨d,?_⟩;unfold EA;have:=(RZ.1 a).1;have:=c.Mh;rw[RX (by rw[d];simp[Su];omega),Fu a]
theorem K7{p:hZ}{b:Book}(c:rC p b){q:Nat}{x:uj}(a:b.jH[q]?=some x):Lx ⟨b.jR,b.jH.take q⟩ x=false/\EB ⟨b.jR,b.jH.take q⟩ x=⟨b.jR,b.jH.take (q+1)⟩:=by
 have f:=DI c.Ql a;have d:Lx ⟨b.jR,b.jH.take q⟩ x=false:=by
  unfold Lx;rw[Sg];intro h e g;rw[<-Sq g]at e;exact f e
 refine⟨d,?_⟩;unfold EB;have:=(RZ.1 a).1;have:=c.Np;rw[RX (by rw[d];simp[Su];omega),Fu a]
theorem xq.low{r:Rc}{d w:World}{a c:Value}{b e:Book}{W:World}(h:Kp (·=r.l.D) d w)(i:kT w r a c b)(k:xq r ⟨w,a,c,b⟩ e W)(o:d<=r.B):(∃a c,kT W r a c e)/\Kp (·=r.l.D) d W:=by
 obtain⟨f,l,m,-,g⟩:=k;exact⟨⟨l,m,g⟩,h.Rp f fun p j=>(i.Be j).imp id fun n=>Zm⟩
theorem Fh(w:World)(l:jh)(p:hZ)(z:jg w l p)(I:Nat->Prop)(hI:∀r,I r->r<w.heap.size/\r≠l.D){f g:Value}(b:Book)(he:SliceOf 4 xg w I f b.jR)(hp:SliceOf 3 rX w I g b.jH)(Y:rC p b):Calls prog 64 #[some l.L,.agg #[f,g]] w fun n w'=>∃c aT aU,c.l=l/\c.p=p/\w.heap.size<=c.B/\n=.returned (.pointer (some ⟨c.R,0,none⟩))/\Kp (·=l.D) w w'/\kT w' c aT aU b:=by
 obtain⟨a1,c1,rfl,bn,bf⟩:=he.form;obtain⟨a2,c2,rfl,bq,bg⟩:=hp.form;obtain⟨w0,aF,av,b3⟩:=nu w #[.slice a1 b.jR.length c1,.slice a2 b.jH.length c2] 33;obtain⟨-,e0,e1,-⟩:=b3.ca;have aY:=Y.Mh;have aZ:=Y.Np;have aV:¬(200:Int)<(b.jR.length:Int):=Zm
 have aX:¬(200:Int)<(b.jH.length:Int):=Zm
 have aR:w≠l.D:=Z0 z.Ev
 have⟨aO,D,aK,HI,HE,HP,F,aa⟩:=xJ aF av (z.ext av) hI he hp Y b3;clear z aF av b3 hI he hp Y;go_enter func64,ntmps64;go_upto_region 1 with(fail);rw[<-aO.o];go_wp2_with fail;refine(Ae _ _ _ aK).mono ?_;rintro n w1 ⟨c,rfl,rfl,hB,rfl,ax,aD⟩;have⟨aM,aH⟩:=je aD ax;have O:=aa.ext ax;obtain⟨-,d0,-⟩:=O.ca;have bu:w.heap.size<c.B:=Z0 aa.lt
 clear e0 e1 aD ax O;go_wp2_with fail;clear d0;go_loopw [27] (fun C wr=>∃e:Nat,e<=b.jR.length/\C=.int .i64 e/\(∃f g,kT wr c f g ⟨b.jR.take e,[]⟩)/\Kp (·=c.l.D) w0 wr) (fun C _=>b.jR.length - (intOf C).toNat)
 case atStart=>exact⟨0,R4 _,rfl,⟨_,_,by simpa using aM.o⟩,aH.o.any⟩
 case round=>
  obtain⟨e,hq,rfl,⟨f,g,m⟩,k⟩:=hrel;have⟨E,V⟩:=je k m;by_cases az:e<b.jR.length
  . obtain⟨a,o⟩:=get_some az;obtain⟨r,aS,cs,rfl,ay,rfl,-,Q⟩:=(HE.keep xg.stays (Kp.same (D.any.trans k) fun r hg=>(HI r hg).2) fun _ z=>z).get o;obtain⟨S,j1,j2,j3⟩:=Q.four;have jz:=iY S;obtain⟨Z,R,A,y⟩:=nu wr #[a.keeper,a.name,a.ref.keeper,a.ref.name] 116;have⟨aj,ae,x,af⟩:=jV R y (m.ext A) A;have aJ:Zz (find c.p a.keeper a.name=(a.ref,1)):=Zy (F.QA a (R3 o));have⟨v,HX⟩:=je (K6 F o) o;obtain⟨-,e0,e1,-⟩:=y.ca;clear m k Q ay o R A y;go_upto_region 7 with(fail);rw[<-aj.o];clear S j1 j2 j3 jz;go_wp2_with fail;refine(ng _ _ _ x.ku a.keeper a.name).mono ?_;rintro n w6 ⟨rfl,W⟩;rw[aJ.o];obtain⟨w7,aG,X,b8⟩:=nu w6 #[a.ref.keeper,a.ref.name] 63;have⟨aP,ah⟩:=je aG (x.ext (W.trans X));have aB:=Zy (ae.ext (W.trans X));have aI:=Zy (af.trans (W.trans X));obtain⟨ak,au,aA,d⟩:=kY w7;obtain⟨-,-,r1,-⟩:=hV.lL fun h=>ah.blk.ext (d.jm h);obtain⟨-,H,J,K,g3,-⟩:=hV.lL fun h=>aB.ext (d.jm h);obtain⟨-,k0,k1,-⟩:=hV.lL fun h=>b8.ext (d.jm h);have i:=Zy d;clear W aG X b8 d e0 e1;go_upto_region 8 with(fail);rw[<-aP.o];refine kD i 16 [([0,1,2,3,4],5)] [6,7,8,9,10,11,12,13,14,15] ?_ ?_
    . exact jf
    refine lS ?_;intro q j;go_wp2_with fail;refine(Hx (ah.ext jf) a).mono ?_;rintro n w8 ⟨rfl,L⟩;rw[v.o.1];have t:=Zy (((Kp.refl _ w7).drew:Ext w7 _).trans L);clear L;go_wp2_with fail;refine kk i j t ?_;clear j q;refine BR [_,_,_,_,_,_,_,_,_,_] rfl rfl fun aQ k=>?_;(repeat (go_big_quiet_step (fail)));refine qn k ?_;clear k aQ;have B:=ah.ext t;have P:=aB.ext t;have u:=Zy B;have T:¬RD c f g wr.heap.size:=fun n=>Z0 (V.Nw n)
    obtain⟨ak,au,aA,d⟩:=rA.ex (fun W'=>kK c ⟨w8,f,g,⟨b.jR.take e,[]⟩⟩ W') _ B.begin;obtain⟨-,-,q1,-⟩:=hV.lL fun h=>(d.jm h).xG;obtain⟨-,H,J,K,g3,-⟩:=hV.lL fun h=>P.kp (d.jm h).1 T;clear i r1 k0 k1;have i:=Zy d;clear B P T d;go_wp2_with fail;refine kD i 6 [([0,1,2,3,4],5)] [] ?_ ?_
    . exact u.begin.ext jf
    refine lS ?_;intro q j;go_wp2_with fail;refine(Aj c ⟨w8.drew,f,g,⟨b.jR.take e,[]⟩⟩ (u.ext jf) a (F.QA a (R3 HX))).mono ?_;rintro n w9 ⟨rfl,N⟩;have s:=N.later (w:=w8) jf;rw[v.o.2]at s;have⟨ai,G⟩:=je (s.is (by rw[<-v.o.2];exact JU)) (xq.low (E.trans (aI.trans t).any) u s (Z0 D.size));clear N s;go_wp2_with fail;refine kk i j ai ?_;clear j q;clear i q1 H J K g3;refine wG rfl ?_;go_wp2_with fail;exact⟨⟨e+1,Zm,by go_num,G.o.1,G.o.2⟩,by simp[intOf];omega⟩
  . obtain rfl:e=b.jR.length:=Zm
    have O:=aa.kp k aR;obtain⟨-,-,d1,-⟩:=O.ca;have aL:Zz (kT wr c f g ⟨b.jR,b.jH.take 0⟩):=Zy (by rw[RH]at m;simpa using m);clear m k O V;go_wp2_with fail;clear d1;obtain⟨wo,rfl⟩:∃wo:World,wo=wr:=⟨_,rfl⟩;go_loopw [66] (fun C wr=>∃e:Nat,e<=b.jH.length/\C=.int .i64 e/\(∃f g,kT wr c f g ⟨b.jR,b.jH.take e⟩)/\Kp (·=c.l.D) w0 wr) (fun C _=>b.jH.length - (intOf C).toNat)
    case atStart=>exact⟨0,R4 _,rfl,⟨_,_,aL⟩,E⟩
    case round=>
     obtain⟨e,hq,rfl,⟨f,g,m⟩,k⟩:=hrel;have⟨E,V⟩:=je k m;by_cases az:e<b.jH.length
     . obtain⟨a,o⟩:=get_some az;obtain⟨r,aS,cs,rfl,ay,rfl,-,Q⟩:=(HP.keep rX.stays (Kp.same (D.any.trans k) fun r hg=>(HI r hg).2) fun _ z=>z).get o;obtain⟨S,j1,j2⟩:=Q.three;have jz:=iY S;obtain⟨Z,R,A,y⟩:=nu wr #[a.one,a.two,a.name] 121;have⟨aj,ae,x,af,ag,v⟩:=nZ R y (m.ext A) A (F.Nj a (R3 o)) (K7 F o);have aW:decide (a.two<=a.one)=false:=R7 (Z0 ag.1);have HX:=Zy o;obtain⟨ak,au,aA,d⟩:=kY Z;obtain⟨-,-,-,r2,-⟩:=hV.lL fun h=>x.blk.ext (d.jm h);obtain⟨-,H,J,K,-⟩:=hV.lL fun h=>y.ext (d.jm h);have i:=Zy d;clear m k Q ay o R A y d;go_upto_region 15 with(fail);rw[<-aj.o];clear S j1 j2 jz;refine kD i 19 [([0,1,2,3,4],5),([6,7,8,9,10,11,12,13,14,15],16)] [17,18] ?_ ?_
       . exact jf
       refine lS ?_;intro q j;go_wp2_with fail;refine(Hy (x.ext jf) a).mono ?_;rintro n w8 ⟨rfl,L⟩;rw[v.o.1];have t:=Zy (((Kp.refl _ Z).drew:Ext Z _).trans L);clear L;go_wp2_with fail;refine kk i j t ?_;clear j q;refine lS ?_;intro q j;go_wp2_with fail;refine(Ck (x.ext t).ku a).mono ?_;rintro n w9 ⟨rfl,aC⟩;rw[I8.2 ag.o.2];have U:=Zy (t.trans aC);clear aC;go_wp2_with fail;refine kk i j U ?_;clear j q;refine sK ?_;have B:=x.ext U;have P:=ae.ext U;have u:=Zy B;have T:¬RD c f g wr.heap.size:=fun n=>Z0 (V.Nw n)
       obtain⟨ak,au,aA,d⟩:=rA.ex (fun W'=>kK c ⟨w9,f,g,⟨b.jR,b.jH.take e⟩⟩ W') _ B.begin;obtain⟨-,-,-,q2,-⟩:=hV.lL fun h=>(d.jm h).xG;obtain⟨-,H,J,K,-⟩:=hV.lL fun h=>P.kp (d.jm h).1 T;clear i r2;have i:=Zy d;clear B P T d;go_wp2_with fail;refine kD i 6 [([0,1,2,3,4],5)] [] ?_ ?_
       . exact u.begin.ext jf
       refine lS ?_;intro q j;go_wp2_with fail;refine(Ak c ⟨w9.drew,f,g,⟨b.jR,b.jH.take e⟩⟩ (u.ext jf) a ag).mono ?_;rintro n bz ⟨rfl,N⟩;have s:=N.later (w:=w9) jf;rw[v.o.2]at s;have⟨ai,G⟩:=je (s.is (by rw[<-v.o.2];exact JV)) (xq.low (E.trans (af.trans U).any) u s (Z0 D.size));clear N s;go_wp2_with fail;refine kk i j ai ?_;clear j q;clear i q2 H J K;refine wG rfl ?_;go_wp2_with fail;exact⟨⟨e+1,Zm,by go_num,G.o.1,G.o.2⟩,by simp[intOf];omega⟩
     . obtain rfl:e=b.jH.length:=Zm
       have aN:Zz (kT wr c f g b):=Zy (by rw[RH]at m;exact m);clear m k;go_wp2_with fail;go_ret;exact⟨c,f,g,rfl,rfl,Zm,rfl,D.o.any.trans E.o,aN.o⟩
theorem LU:ym 33 2:=⟨_,underlying33,by kernel_rfl⟩
theorem OG(x:Gy):∀a∈yX x,a.oneCell'=true:=by simp[yX,Value.oneCell']
theorem Nb(x:uj):∀a∈uY x,a.oneCell'=true:=by simp[uY,Value.oneCell']
theorem Nc{w:World}{base n:Nat}{v:Value}{xs:List Gy}(b:w.ownsRow base 116 4 v n (xs.flatMap yX))(d:n=xs.length)(hl:n<=4294967296):SliceOf 4 xg w (fun a=>base<=a) v xs:=
 SliceOf.lJ yX b d rfl (fun _ _=>rfl) (fun _ _=>rfl) (fun _ c _=>c) Zm
theorem KT{w:World}{base n:Nat}{v:Value}{xs:List uj}(b:w.ownsRow base 121 3 v n (xs.flatMap uY))(d:n=xs.length)(hl:n<=4294967296):SliceOf 3 rX w (fun a=>base<=a) v xs:=
 SliceOf.lJ uY b d rfl (fun _ _=>rfl) (fun _ _=>rfl) (fun _ c _=>c) Zm
theorem Hw(w:World)(r:Rc)(Z vp:Value)(b:Book)(c:kT w r Z vp b):Calls prog 21 #[some r.R] w fun o B=>(∃z A,o=.returned (.agg #[z,A])/\SliceOf 4 xg B (fun a=>w.heap.size<=a) z b.jR/\SliceOf 3 rX B (fun a=>w.heap.size<=a) A b.jH)/\Ext w B:=by
 obtain⟨a1,c1,T⟩:=jB c.re;obtain⟨a2,c2,U⟩:=jB c.rp;subst T U;obtain⟨j,K,d,F⟩:=nu w #[(),()] 33;have ag:=c.ok.Mh;have ah:=c.ok.Np;obtain⟨ae,af,ai,g⟩:=kY j;obtain⟨-,-,X,Y,-⟩:=hV.lL fun k=>(c.blk.ext d).ext (g.jm k);obtain⟨-,V,-⟩:=hV.lL fun k=>(c.be.ext d).ext (g.jm k);obtain⟨-,W,-⟩:=hV.lL fun k=>(c.bp.ext d).ext (g.jm k);have⟨n,R,P,C,l⟩:=mr g K d (c.ext d) F;clear c K d F g;go_enter func21,ntmps21;go_upto_region 1 with(fail);rw[<-R.o];refine kD n 17 [([0,1,2,3,4,5,6,8,9,10,11,12,13,14],7),([],15)] [16] ?_ ?_
 . exact jf
 refine lS ?_;intro v h;go_wp2_with fail;refine(PI ((pX C.re (oH OG _)).ext jf) Zm).mono ?_;rintro o w1 ⟨⟨z,rfl,I⟩,G⟩;have⟨m,Q⟩:=je (((Kp.refl _ j).drew:Ext j _).trans G) I;clear G I;go_wp2_with fail;refine kk n h m ?_;clear h v;refine lF rfl fun v h=>?_;go_wp2_with fail;refine(N9 ((pX C.rp (oH Nb _)).ext m) Zm).mono ?_;rintro o p ⟨⟨A,rfl,J⟩,y⟩;have f:=Zy (m.trans y);have D:=Zy (iZ Q y fun _ _ _ aa=>aa);have E:=Zy J;clear y J;obtain⟨q,t,rfl⟩:=jB D;obtain⟨s,u,rfl⟩:=jB E;go_wp2_with fail;refine kk n h f ?_;clear h v;clear n X Y V W;obtain⟨f0,f1,-⟩:=(l.ext f).fz;obtain⟨fz,q0,q1,-⟩:=(l.ext f).ca;refine sP [_] rfl fun S H=>?_;(repeat (go_big_quiet_step (fail)));refine qn H ?_;clear H S;go_wp2_with fail;have L:(w:Nat)<j:=l.lt;have N:=m.size;have x:hV ((p.setCell w (.slice q b.jR.length t)).setCell (w,1) (.slice s b.jH.length u)) w 33 #[.slice q b.jR.length t,.slice s b.jH.length u]:=((l.ext f).jk 0 _).jk 1 _;have i:Kp (·=w) p ((p.setCell w (.slice q b.jR.length t)).setCell (w,1) (.slice s b.jH.length u)):=((Kp.refl (·=w) p).setCell (p:=⟨w,0,none⟩) (fun _=>rfl) _).setCell (p:=⟨w,1,none⟩) (fun _=>rfl) _;have⟨x,i⟩:=je x i;refine DV (jw LU rfl w rfl [.slice q b.jR.length t,.slice s b.jH.length u] (hH.lV x) rfl) rfl ?_;have O:∀a,j.heap.size<=a->¬a=w.heap.size:=fun a e=>Zm
 refine⟨⟨_,_,rfl,?_,?_⟩,(P.trans f).own i fun a o=>Zm⟩
 . exact(Nc D rfl Zm).keep xg.stays (i.same O) fun a e=>RP (Nat.le_of_lt L) e
 . exact(KT E rfl Zm).keep rX.stays (i.same fun a e=>O a (RP N e)) fun a e=>RP (Nat.le_of_lt L) (RP N e)
theorem Cs:ym 41 9:=⟨_,underlying41,by kernel_rfl⟩
theorem Ls(w:World){I:Nat->Prop}(C:Nat)(x:RW)(cs:List Value)(N:hV w C 165 cs.toArray)(n:CO w I x cs):Calls prog 26 #[some C] w fun J O=>(∃H,J=.returned (.agg H.toArray)/\rY O I x H)/\Ext w O:=by
 obtain⟨vp,ve,vq,cv,rfl,y,v,z,A⟩:=n;obtain⟨k,h,l,i,m,j,rfl,-⟩:=A.form;obtain⟨b,e,rfl,-,-⟩:=y.form;obtain⟨c,f,rfl,-,-⟩:=v.form;obtain⟨d,g,rfl,-,-⟩:=z.form;obtain⟨a,p⟩:=Ry (w.alloc (.cells #[(),(),(),.int .i64 0,(),(),(),.int .i64 0,.int .i64 0] 41));have s:Ext w a:=by rw[p];exact kx
 have G:hV a w 41 #[(),(),(),.int .i64 0,(),(),(),.int .i64 0,.int .i64 0]:=by rw[p];exact hV.new _ _ _
 obtain⟨ae,ag,ah,r⟩:=kY a;have t:=N.ext s;obtain⟨bz,-⟩:=t.ca;obtain⟨-,V,W,X,Y,Z,r5,r6,r7,r8,-⟩:=hV.lL fun aa=>t.ext (r.jm aa);have⟨F,R,D,P⟩:=jV r p G s;have Q:Zz (rY w I x [.slice b x.p.length e,.slice c x.b.jR.length f,.slice d x.b.jH.length g,x.s.status,.slice k x.s.frames.length h,.slice l x.s.heap.length i,.slice m x.s.outs.length j,x.s.back.kind,x.s.back.n]):=Zy ⟨_,_,_,_,rfl,y,v,z,A⟩;clear p G s r y v z A N t;go_enter func26,ntmps26;go_upto_region 1 with(fail);rw[<-R.o];refine kD F 13 [] [0,1,2,3,4,5,6,7,8,9,10,11,12] ?_ ?_
 . exact jf
 have o:Ext a a.drew:=jf;generalize a.drew=wd at o |-;have u:=D.ext o;obtain⟨g0,g1,g2,g3,g4,g5,g6,g7,g8,-⟩:=u.fz;obtain⟨gz,h0,h1,h2,h3,h4,h5,h6,h7,h8,-⟩:=u.ca;have E:=Zy o;clear o u;refine sP [_,_,_,_,_,_,_,_,_,_,_,_,_] rfl fun S L=>?_;(repeat (go_big_quiet_step (fail)));refine qn L ?_;clear L S;clear F V W X Y Z r5 r6 r7 r8;go_wp2_with fail;obtain⟨q,B⟩:=Ry (((((((((wd.setCell w (.slice b x.p.length e)).setCell (w,1) (.slice c x.b.jR.length f)).setCell (w,2) (.slice d x.b.jH.length g)).setCell (w,3) x.s.status).setCell (w,4) (.slice k x.s.frames.length h)).setCell (w,5) (.slice l x.s.heap.length i)).setCell (w,6) (.slice m x.s.outs.length j)).setCell (w,7) x.s.back.kind).setCell (w,8) x.s.back.n);have U:Kp (·=w) wd q:=by rw[B];exact((((((((((Kp.refl (·=w) wd).setCell (p:=⟨w,0,none⟩) (fun _=>rfl) _).setCell (p:=⟨w,1,none⟩) (fun _=>rfl) _).setCell (p:=⟨w,2,none⟩) (fun _=>rfl) _).setCell (p:=⟨w,3,none⟩) (fun _=>rfl) _).setCell (p:=⟨w,4,none⟩) (fun _=>rfl) _).setCell (p:=⟨w,5,none⟩) (fun _=>rfl) _).setCell (p:=⟨w,6,none⟩) (fun _=>rfl) _).setCell (p:=⟨w,7,none⟩) (fun _=>rfl) _).setCell (p:=⟨w,8,none⟩) (fun _=>rfl) _)
 have T:hV q w 41 #[.slice b x.p.length e,.slice c x.b.jR.length f,.slice d x.b.jH.length g,x.s.status,.slice k x.s.frames.length h,.slice l x.s.heap.length i,.slice m x.s.outs.length j,x.s.back.kind,x.s.back.n]:=by rw[B];have n:=((((((((((D.ext E).jk 0 (.slice b x.p.length e)).jk 1 (.slice c x.b.jR.length f)).jk 2 (.slice d x.b.jH.length g)).jk 3 x.s.status).jk 4 (.slice k x.s.frames.length h)).jk 5 (.slice l x.s.heap.length i)).jk 6 (.slice m x.s.outs.length j)).jk 7 x.s.back.kind).jk 8 x.s.back.n);simpa using n
 rw[<-B];have K:=(P.trans E).own U fun af J=>Zm
 refine DV (jw Cs rfl w rfl [.slice b x.p.length e,.slice c x.b.jR.length f,.slice d x.b.jH.length g,x.s.status,.slice k x.s.frames.length h,.slice l x.s.heap.length i,.slice m x.s.outs.length j,x.s.back.kind,x.s.back.n] (hH.lV T) rfl) rfl ?_;exact⟨⟨_,rfl,rY.stays _ _ _ _ _ _ (Ext.same K) (fun _ n=>n) Q⟩,K⟩
structure M.J3(x:RW):Prop where
 ku:kU x.p=true
 vm:Cq x.p x.s=true
 book:rC x.p x.b
theorem Qp(w:World)(I:Nat->Prop)(hI:∀a,I a->a<w.heap.size)(x:RW){cs:List Value}(d:rY w I x cs)(F:J3 x):Calls prog 23 #[.agg cs.toArray] w fun c w'=>c=.returned (.bool true)/\Ext w w':=by
 obtain⟨vp,ve,vq,cv,rfl,r,q,s,t⟩:=d;obtain⟨f1,d1,f2,d2,f3,d3,rfl,-⟩:=t.form;obtain⟨W,Z,rfl,-,ag⟩:=r.form;obtain⟨X,c2,rfl,-,af⟩:=q.form;obtain⟨Y,c3,rfl,-,ah⟩:=s.form;obtain⟨w0,E,i,m⟩:=nu w #[.slice W x.p.length Z,.slice X x.b.jR.length c2,.slice Y x.b.jH.length c3,x.s.status,.slice f1 x.s.frames.length d1,.slice f2 x.s.heap.length d2,.slice f3 x.s.outs.length d3,x.s.back.kind,x.s.back.n] 41;obtain⟨-,e0,-⟩:=m.ca;have⟨Q,V,k,L,S,T,h,f,l⟩:=vL (vR w0 I _ x.p (r.ext jc.stays i) fun a b=>Nv (hI a b) i.size) E m q s t hI i F;clear E m i r q s t hI F;go_enter func23,ntmps23;go_upto_region 1 with(fail);rw[<-V.o];go_wp2_with fail;refine Q.mono ?_;rintro c G ⟨j,aa⟩;rcases aa with⟨b,-⟩|⟨-,y,rfl,p,B⟩
 . rw[l.o.ku]at b;cases b
 obtain⟨-,-,r1,r2,r3,r4,r5,r6,r7,r8,-⟩:=(k.ext j).ca;have o:=f.trans j;have J:=Zy (k.ext j);have ai:=f.size;have v:=Dr G y x.p p x.s (jQ.stays _ _ _ _ _ _ (Ext.same o) (fun a b=>Z0 (h.o a b)) T.o);rw[l.o.vm]at v;have⟨U,P,g,R⟩:=jV v p o B;clear p j o v B e0;go_wp2_with fail;refine U.mono ?_;rintro c H ⟨rfl,n⟩;have e:Kp (·=y.D) G H:=n.kp;have z0:=R.o;have z1:=P.ord;have u:=Kp.same e fun a b c=>Z0 (h.o a b)
 have C:=Fh H y x.p n.at_ I (fun z D=>⟨Z5 (h.o z D) g.size e.size,Z0 (h.o z D)⟩) x.b ((L.o.ext xg.stays g.o).keep xg.stays u fun _ d=>d) ((S.o.ext rX.stays g.o).keep rX.stays u fun _ d=>d) l.o.book;have K:=Zy C;have ae:=k.lt;obtain⟨-,-,s1,s2,-⟩:=(J.kp e Zm).ca;have N:=Zy e;clear n e u C r1 r2 r3 r4 r5 r6 r7 r8 ae;go_wp2_with fail;refine K.mono ?_;rintro c w4 ⟨aj,ak,au,-,-,-,rfl,A,-⟩;have O:=Zy A;clear A s1 s2;go_wp2_with fail;go_ret;exact⟨rfl,(g.own N fun a c=>Z0 f.size).own O.o fun a c=>Z0 f.o.size⟩
end Go.Proofs.YtlhlnddgfcmfkaaGreat
