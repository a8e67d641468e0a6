/- FnVmOther: for every input the program returns true, and the input reads as it did. No condition. -/
import Derived.Test.YtenhnldnpdlniaaGreatOtCoreLm
import Derived.Test.YtenhnldnpdlniaaGreatOtCoreLs
import Derived.Test.YtenhnldnpdlniaaGreatRows
import Derived.ProofKit
import Derived.Carry
set_option maxRecDepth 100000
set_option maxHeartbeats 4000000
set_option linter.all false
namespace Go.Proofs.YtenhnldnpdlniaaGreat
open Go Go.RowKit M
variable {css i: List (List Value)}{a p: List MemPlace}{I: Nat->Prop}{f α: Type}{v: Value}{W w: World}{l: kC}
theorem Ga{R:mH α}{c:List Value}{b:α}(a:R w I b c):∀{xs:List α} {css:List (List Value)} {q:Nat},jR R w I xs css->jR R w I (xs.set q b) (css.set q c)
 |[],[],_,_=>trivial
 |_::_,_::_,0,h=>⟨a,h.2⟩
 |_::_,_::_,_+1,h=>⟨h.1,Ga a h.2⟩
 |[],_::_,_,h=>h.elim
 |_::_,[],_,h=>h.elim
abbrev M.mh:ByteArray:=⟨#[111,116,104,101,114]⟩
theorem Ep{base g b n j:Nat}{p:hZ}(c:tX 32 2 iX w I base (g,n,b) css p)(hl:p[j]?=some l):∃e,w.cell? (g,j*2)=some e/\g<w:=by
 obtain⟨h,-,-,d,a⟩:=c.get hl;obtain⟨f,i,rfl,-,-⟩:=d;exact⟨f,a.two.1,iV a.two.1⟩
theorem Er{c d: World}{g q f e j:Nat}{p:hZ}(hl:p[j]?=some l)(L:c.heap.size<=g)(N:g<d.heap.size)(hR:tX 32 2 iX d (fun a=>a<c.heap.size) c.heap.size (.slice (some ⟨g,0,none⟩) p.length q) css p) (n:Ext d W)(r:W.ownsRow d.heap.size 38 4 (.slice (some ⟨f,0,none⟩) (l.owns.length+1) e) (l.owns.length+1) (i.flatten++[.string mh,.string none_,.slice none 0 0,.slice none 0 0])) (D:∀o∈i,o.length=4) (C:jR jB d (fun a=>a<c.heap.size) l.owns i) (Q:p.length<=3) (K:l.owns.length<5):SliceOf 2 iX (W.setCell ⟨g,j*2,none⟩ (.slice (some ⟨f,0,none⟩) (l.owns.length+1) e)) (fun a=>a<(W.setCell ⟨g,j*2,none⟩ (.slice (some ⟨f,0,none⟩) (l.owns.length+1) e)).heap.size) (.slice (some ⟨g,0,none⟩) p.length q) (p.set j ⟨l.owns++[bare mh],l.asks⟩)/\Kp (·=g) d (W.setCell ⟨g,j*2,none⟩ (.slice (some ⟨f,0,none⟩) (l.owns.length+1) e)):=by
 have I:c.heap.size<=d.heap.size:=by omega
 have J:=n.size;have m:Kp (·=g) W (W.setCell ⟨g,j*2,none⟩ (.slice (some ⟨f,0,none⟩) (l.owns.length+1) e)):=qA;have O:=m.size;have k:=hR.ext iX.stays n;obtain⟨o,x,-,⟨H,G,rfl,P,v⟩,-⟩:=k.get hl;have u:i.flatten++([.string mh,.string none_,.slice none 0 0,.slice none 0 0]:List Value)=(i++[([.string mh,.string none_,.slice none 0 0,.slice none 0 0]:List Value)]).flatten:=by simp
 rw[u]at r;have F:jB W (fun a=>a<c.heap.size) (bare mh) [.string mh,.string none_,.slice none 0 0,.slice none 0 0]:=⟨_,_,rfl,SliceOf.nil _ _ _ _,SliceOf.nil _ _ _ _⟩;have B:jR jB W (fun a=>a<c.heap.size) (l.owns++[bare mh]) (i++[[.string mh,.string none_,.slice none 0 0,.slice none 0 0]]):=jR.snoc (C.keep jB.stays (Ext.same n) fun _ b=>b) F;have E:SliceOf 4 jB W (fun a=>a<c.heap.size\/d.heap.size<=a) (.slice (some ⟨f,0,none⟩) (l.owns.length+1) e) (l.owns++[bare mh]):=
  SliceOf.owned r (fun t y=>(Ty.1 y).elim (D t) fun b=>by simp at b;rw[b];rfl) Zn (B.keep (J:=fun a=>a<c.heap.size\/d.heap.size<=a) jB.stays (Ext.same Kp.rr) fun _ b=>.inl b) (fun a h _=>.inr h) Zr
 have z:∀a,(a<c.heap.size\/d.heap.size<=a)->a≠g:=fun a h=>by omega
 have A:iX (W.setCell ⟨g,j*2,none⟩ (.slice (some ⟨f,0,none⟩) (l.owns.length+1) e)) (fun a=>a<c.heap.size\/c.heap.size<=a) (⟨l.owns++[bare mh],l.asks⟩:kC) ([H,G].set 0 (.slice (some ⟨f,0,none⟩) (l.owns.length+1) e)):=
  ⟨_,_,rfl,E.keep jB.stays (m.same z) fun _ b=>b.imp id fun b=>by omega,v.keep uT.stays (m.same fun a (h:a<c.heap.size)=>by omega) fun _ b=>.inl b⟩
 have s:=AZ k.own k.len x (r:=0) Zn (.slice (some ⟨f,0,none⟩) (l.owns.length+1) e);rw[Uh]at s;have w:=Ga (q:=j) A (k.all.keep (J:=fun a=>a<c.heap.size\/c.heap.size<=a) iX.stays (m.same fun a (h:a<c.heap.size)=>by omega) fun _ b=>.inl b);refine⟨(SliceOf.owned s (AP k.len rfl) Zn w (fun a h _=>.inr h) (by rw[VJ];omega)).inside (fun _ _ _ _ b=>iX.inside b) Zm |>.keep iX.stays (fun _ _ _ _ b=>b) fun a h=>h.2,n.any.trans m⟩
theorem MM:RZ 3:=by
 intro ek fe zs i;by_cases S:zs.length<=1048576;rotate_left
 . obtain⟨va,vc,rfl⟩:=i.form;have fG:decide ((1048576:Int)<zs.length)=true:=SY Zm;have eH:(1048576:Int)<zs.length:=Zm
   clear i S;go_enter Tryz.func3,Tryz.ntmps3;go_wp2;go_ret;exact⟨rfl,Kp.rr⟩
 have HD:=Zy (KR ek fe zs i);obtain⟨va,vc,rfl⟩:=i.form;have eH:((1048576:Int)<zs.length)=False:=Wv Zm;clear i S;go_enter Tryz.func3,Tryz.ntmps3;go_wp2_with fail;refine HD.mono ?_;rintro n w1 ⟨⟨c,pa,pc,Q,L,ga,gc,D,rfl,hp,ha,Z⟩,bW⟩;obtain⟨w2,dn,aj,b2⟩:=nu w1 #[.slice pa c.length pc] 25;have ai:Zz (∀g,Ext w2 g->SliceOf 2 iX g (fun b=>b<g) (.slice pa c.length pc) c):=Zy fun g v=>((hp.ext iX.stays aj).ext iX.stays v).keep iX.stays (fun _ _ _ _ h=>h) (fun b i=>SN i.2 aj.size v.size);have dF:Zz (∀g,Ext w2 g->SliceOf 1 pR g (fun b=>b<g) (.slice ga D.length gc) D):=Zy fun g v=>(((ha.ext pR.stays aj).ext pR.stays v).inside (fun _ _ _ _ h=>h) Zm).keep pR.stays (fun _ _ _ _ h=>h) (fun b i=>i.2);have bI:Zz (∀(g:World) (y:Value) (p:hZ),SliceOf 2 iX g (fun b=>b<g) y p->Ext w2 g->Calls Tryz.prog 8 #[.agg #[y],.bool true,SS,Q,L,.slice ga D.length gc] g fun n w'=>(∃X,n=.returned (.agg X.toArray)/\kP w' (fun b=>g.heap.size<=b) (nY p true 0 Q L D) X)/\Ext g w'):=Zy fun g y p P v=>
  RG g (fun b=>b<g) y p P (fun _ h=>h) true 0 Q L D ga gc (dF g v)
 have bM:Zz (SliceOf 2 iX w2 (fun b=>b<w2) (.slice pa c.length pc) c):=Zy (ai w2 Kp.rr);have⟨aJ,dX,az⟩:=jr b2 dn (bW.trans aj);have eO:1<=c.length:=by
  unfold jY at Z;simp only[S9,SF]at Z;exact Z.1.1
 have dN:=Zy Z;obtain⟨o,hj⟩:∃o,c.length=o+1:=⟨c.length - 1,Zm⟩;obtain⟨l,S⟩:∃l,c[o]?=some l:=⟨c[o]'Zm,Dj Zm⟩;obtain⟨bk,bq,X,eU,eG,⟨vo,fP,rfl,ho,bf⟩,-,O⟩:=bM.get S;cases eU;obtain⟨o1,o2,rfl,-,fH⟩:=ho.form;obtain⟨a1,a2,rfl,-,fD⟩:=bf.form;have aB:Zz (c=c.take o++[l]):=Zy (by
  have:=Tm (l:=c) (i:=o);rw[S,Tu Zm]at this;exact this)
 have dM:Zz (M.RY c l):=Zy ((M.zo Z).2 l (Sy S));have fI:((c.length:Nat):Int) - 1=(o:Int):=Zm
 have eT:c.length<=3:=(M.zo Z).1;have fJ:IntKind.i64.wrap (((c.length:Nat):Int) - 1)=(o:Int):=by rw[Tg _ Zm];omega
 have fE:(0:Int)<=(o:Int):=Zm
 have fF:(o:Int)<c.length:=Zm
 have⟨HJ,HL,dI,dP⟩:=kQ hj S O ho;have fB:=Zy bf;have bO:=Zy (Qm w2 c (fun _ h=>h) bM mh Zn Zn);obtain⟨yz,y0,-⟩:=b2.ca;obtain⟨g0,g1⟩:=O.two;have gz:=iV g0;clear hp ha bW dn aj b2 hj S ho bf O Z eO eG;go_upto_region 4 with(fail);rw[<-dX.o];by_cases h5:l.owns.length=5
 . have eD:((l.owns.length:Int)==5)=true:=Ub.2 Zm;clear h5;go_wp2_with (first|(go_at_call 7;refine(LV).mono ?_;rintro n w8 ⟨rfl,rfl⟩)|fail);go_ret;exact⟨rfl,az⟩
 have eD:((l.owns.length:Int)==5)=false:=SI.2 Zm;have B:Zz (l.owns.length<5):=Zy (SK dM.os);clear h5;go_wp2_with fail;refine bO.mono ?_;rintro n F ⟨⟨dE,rfl,hB⟩,cu⟩;have⟨HB,G⟩:=jc hB cu;clear hB cu bO;cases dE;rotate_left
 . go_wp2_with (first|(go_at_call 7;refine(LV).mono ?_;rintro n w8 ⟨rfl,rfl⟩)|fail);go_ret;exact⟨rfl,az.trans G⟩
 cases P:(Q.toList==[111,116,104,101,114]);rotate_left
 . go_wp2_with (first|(go_at_call 7;refine(LV).mono ?_;rintro n w8 ⟨rfl,rfl⟩)|fail);go_ret;exact⟨rfl,az.trans G⟩
 have bJ:=Zy (kr (b:=mh) P (by decide+kernel));have dU:Zz (yC c mh):=Zy (NG dN Zn (HB rfl));have bL:Zz ((F.alloc (.cells #[] 32)).ownsRow F 32 2 (.slice (some ⟨F,0,none⟩) 0 0) 0 []):=Zy (lh F _ _ _ (Tz _) rfl);obtain⟨bU,O,ak,au⟩:=SliceOf.cells One.keep Zn (ai F G);have⟨dJ,dK,dL⟩:=jr O ak au;have fu:=G.iW y0;have fw:=(aJ.ext G).lt;clear y0 yz O ak au g0 g1 gz HB;have eQ:0<c.length:=Zm
 go_wp2_with (first|(refine jJ qC _ rfl (.tmp 42) (.tmp 44) rfl F (.slice (some ⟨F,0,none⟩) 0 0) 0 [] rfl bL (some ⟨bk,bq,none⟩) c.length pc bU.flatten rfl (dL.ext (jh _)) Zm Zl ?_;intro v5 w5 aF cZ;rw[Tq,Ti]at aF;obtain⟨N,af,eX,hg,df,-⟩:=jP aF eQ;subst eX;have cz:=(jh _:Ext F _).own cZ (fun b i=>(bL.lt b i).1);have dO:=Zy aF;have bF:=Zy cz;have HG:=Zy hg;have bH:=Zy df;clear aF cz cZ hg df)|fail);obtain⟨j,dw,aD,b6⟩:=nu w5 #[(N,c.length,af)] 25;have⟨bR,aA,bB⟩:=jr dw (bF.trans aD) b6;have ae:Zz (tX 32 2 iX j (fun b=>b<F) F (N,c.length,af) bU c):=Zy (tX.ext ⟨dO,dJ,dK.keep iX.stays (Ext.same bF) fun _ h=>h⟩ iX.stays aD);have W:Zz (F<=N/\N<j):=Zy ⟨HG,SL bH.o aD.size⟩;have dQ:=Zy ((dP.ext jB.stays G).ext jB.stays aA);obtain⟨Y,O,ak,au⟩:=SliceOf.cells One.cls Zn dQ;have aN:=Zy O;have aM:Zz (jR jB j (fun b=>b<F) l.owns Y):=Zy (ak.keep jB.stays (Ext.same Kp.rr) fun b i=>Tp i G.size);have⟨aL,aO⟩:=jc au eT;clear dw aD b6 O ak au fu fw;go_upto_region 8 with(fail);rw[<-bR.o];obtain⟨ed,f,eP,C⟩:=mJ j;have r0:=fun z=>((aJ.ext G).ext (aA.trans (C.jv z))).c 0 (.slice (some ⟨bk,bq,none⟩) c.length pc) rfl;have r1:=fun z=>(bB.ext (C.jv z)).c 0 (N,c.length,af) rfl;have r2:=fun z=>(((dI.ext G).ext aA).ext (C.jv z)).two.1;have m:=Zy C;have dx:(w5:Nat)+1=(j:Nat):=by rw[bR.o];simp
 have fC:=Zy dx;clear C dx;go_cut [] (fun wx=>SliceOf 2 iX wx (fun b=>b<wx) (N,c.length,af) (c.set o ⟨l.owns++[bare mh],l.asks⟩)/\Kp (·=N) j wx)
 case first =>
  refine ve m 14 (.two [0,1,2,4,5,6,7,8,9,11] 3 12 (.two [] 10 12 (.one [] 12 (.one [] 13 (.fin []))) (.one [] 10 (.one [] 13 (.fin [])))) (.one [] 3 (.one [] 10 (.one [] 13 (.fin []))))) ?_ ?_
  . exact jg
  refine two [_,_,_,_,_,_,_,_,_,_] rfl rfl rfl fun aQ hK=>?_;(repeat (go_big_quiet_step (fail)));((refine JE hK (fun d a=>?_) fun d a=>?_)<;>clear hK aQ)
  . have I:Ext j j.drew:=jg;generalize j.drew=wd at I |-;go_wp2_with fail;obtain⟨k,w⟩:∃R,R=wd.alloc (.cells #[] 38):=⟨_,rfl⟩;have u:Ext j k:=I.trans (by rw[w];exact jh _);have eu:Ext wd k:=by rw[w];exact jh _
    have E:k.ownsRow j 38 4 (.slice (some ⟨wd,0,none⟩) 0 0) 0 []:=by rw[w];exact lh wd _ _ _ I.size rfl
    have bz:Zz ((k:Nat)=wd+1):=Zy (by rw[w];simp);rw[<-w];clear w;refine kk m a u ?_;clear a d;refine FJ rfl rfl (fun d a=>?_) fun d a=>?_
    . skip;refine jJ oU _ rfl (.tmp 50) (.tmp 56) rfl j (.slice (some ⟨wd,0,none⟩) 0 0) 0 [] rfl E o1 l.owns.length o2 Y.flatten rfl (aL.ext u) (SK B.o) u.size ?_;intro v9 q r eZ;rw[Tq,Ti]at r;have s:=u.own eZ (fun b i=>(E.lt b i).1);change d _ _;refine kk m a s ?_;clear a d;refine jX rfl fun d a=>?_;go_wp2_with fail;obtain⟨wc,ag⟩:∃R,R=q.alloc (.cells #[mh,none_,(),()] 38):=⟨_,rfl⟩;have H:Ext j wc:=s.trans (by rw[ag];exact jh _);have eB:Ext q wc:=by rw[ag];exact jh _
      have t:hH wc q 0 [mh,none_,(),()]:=by rw[ag];exact hH.nC _ _ rfl
      have fQ:Zz ((wc:Nat)=q+1):=Zy (by rw[ag];simp);rw[<-ag];clear ag;refine kk m a H ?_;clear a d;have r:=iY (D:=fun _=>False) r eB fun _ _ _ y=>y;refine jX rfl fun d a=>?_;refine ji oU rfl (.tmp 57) (.tmp 59) rfl j v9 l.owns.length Y.flatten rfl r q 1 [mh,none_,(),()] rfl rfl t Zt (SK B.o) H.size ?_;intro g9 c9 wf U ax _;have J:=H.own ax (fun b i=>(r.lt b i).1);change d _ _;refine kk m a J ?_;clear a d;refine kJ ?_;have K:=ae.ext iX.stays J;obtain⟨dC,dA,dD⟩:=Ep K HL;have dB:=K.own.frozenAt (o*2);have ah:=Er HL W.1 W.2 ae J U aN aM aO B;clear t E r U m K;go_wp2;go_meet;exact ah
    . skip;go_wp2_with fail;obtain⟨q,x⟩:∃R,R=k.alloc (.cells #[mh,none_,(),()] 38):=⟨_,rfl⟩;have s:Ext j q:=u.trans (by rw[x];exact jh _);have aU:Ext k q:=by rw[x];exact jh _
      have t:hH q k 0 [mh,none_,(),()]:=by rw[x];exact hH.nC _ _ rfl
      have fA:Zz ((q:Nat)=k+1):=Zy (by rw[x];simp);rw[<-x];clear x;refine kk m a s ?_;clear a d;have E:=iY (D:=fun _=>False) E aU fun _ _ _ y=>y;refine jX rfl fun d a=>?_;refine jJ oU _ rfl (.tmp 50) (.tmp 56) rfl j (.slice (some ⟨wd,0,none⟩) 0 0) 0 [] rfl E o1 l.owns.length o2 Y.flatten rfl (aL.ext s) (SK B.o) s.size ?_;intro v9 wc r av;rw[Tq,Ti]at r;have H:=s.own av (fun b i=>(E.lt b i).1);change d _ _;have t:=t.kp av (fun n=>by simp[Value.ownBlock]at n;have:=bz.o;omega);refine kk m a H ?_;clear a d;refine jX rfl fun d a=>?_;refine ji oU rfl (.tmp 57) (.tmp 59) rfl j v9 l.owns.length Y.flatten rfl r k 1 [mh,none_,(),()] rfl rfl t Zt (SK B.o) H.size ?_;intro g9 c9 wf U ax _;have J:=H.own ax (fun b i=>(r.lt b i).1);change d _ _;refine kk m a J ?_;clear a d;refine kJ ?_;have K:=ae.ext iX.stays J;obtain⟨dC,dA,dD⟩:=Ep K HL;have dB:=K.own.frozenAt (o*2);have ah:=Er HL W.1 W.2 ae J U aN aM aO B;clear t E r U m K;go_wp2;go_meet;exact ah
  . have I:Ext j j.drew:=jg;generalize j.drew=wd at I |-;go_wp2_with fail;obtain⟨k,w⟩:∃R,R=wd.alloc (.cells #[mh,none_,(),()] 38):=⟨_,rfl⟩;have u:Ext j k:=I.trans (by rw[w];exact jh _);have eu:Ext wd k:=by rw[w];exact jh _
    have t:hH k wd 0 [mh,none_,(),()]:=by rw[w];exact hH.nC _ _ rfl
    have bz:Zz ((k:Nat)=wd+1):=Zy (by rw[w];simp);rw[<-w];clear w;refine kk m a u ?_;clear a d;refine jX rfl fun d a=>?_;go_wp2_with fail;obtain⟨q,x⟩:∃R,R=k.alloc (.cells #[] 38):=⟨_,rfl⟩;have s:Ext j q:=u.trans (by rw[x];exact jh _);have aU:Ext k q:=by rw[x];exact jh _
    have E:q.ownsRow j 38 4 (.slice (some ⟨k,0,none⟩) 0 0) 0 []:=by rw[x];exact lh k _ _ _ u.size rfl
    have fA:Zz ((q:Nat)=k+1):=Zy (by rw[x];simp);rw[<-x];clear x;refine kk m a s ?_;clear a d;have t:=t.ext aU;refine jX rfl fun d a=>?_;refine jJ oU _ rfl (.tmp 50) (.tmp 56) rfl j (.slice (some ⟨k,0,none⟩) 0 0) 0 [] rfl E o1 l.owns.length o2 Y.flatten rfl (aL.ext s) (SK B.o) s.size ?_;intro v9 wc r av;rw[Tq,Ti]at r;have H:=s.own av (fun b i=>(E.lt b i).1);change d _ _;have t:=t.kp av (fun n=>by simp[Value.ownBlock]at n;have:=bz.o;omega);refine kk m a H ?_;clear a d;refine jX rfl fun d a=>?_;refine ji oU rfl (.tmp 57) (.tmp 59) rfl j v9 l.owns.length Y.flatten rfl r wd 1 [mh,none_,(),()] rfl rfl t Zt (SK B.o) H.size ?_;intro g9 c9 wf U ax _;have J:=H.own ax (fun b i=>(r.lt b i).1);change d _ _;refine kk m a J ?_;clear a d;refine kJ ?_;have K:=ae.ext iX.stays J;obtain⟨dC,dA,dD⟩:=Ep K HL;have dB:=K.own.frozenAt (o*2);have ah:=Er HL W.1 W.2 ae J U aN aM aO B;clear t E r U m K;go_wp2;go_meet;exact ah
 obtain⟨aG,aZ⟩:=hcut;have aR:=aA.own aZ (fun b n=>SK W.1);have⟨aa,bC,bD⟩:=jr (G.trans aR) ((aJ.ext G).ext aR) (bB.kp aZ (SK bH.o));have dh:c.set o ⟨l.owns++[bare mh],l.asks⟩=nD (c.take o) l mh:=by
  have:=HJ.o;rw[List.set_eq_take_append_cons_drop,SV Zm,TW Zm];rfl
 rw[dh]at aG;obtain⟨p,P⟩:∃p,nD (c.take o) l mh=p:=⟨_,rfl⟩;rw[P]at aG;have hu:yC (c.take o++[l]) mh:=by rw[<-aB.o];exact dU
 have T:jf mh=true:=by decide+kernel
 have bK:Zz (nY p true 0 Q L D=nY c true 0 Q L D):=Zy (by
  have:=zK hu T B true bJ L D;rwa[P,<-aB.o]at this)
 have dS:Zz (sN p true (nY p true 0 Q L D) 400=sN c true (nY c true 0 Q L D) 400):=Zy (by
  have:=NI hu T B true bJ L D (f:=400) (Tz _);rwa[P,<-aB.o]at this)
 have dR:Zz (l9 p=l9 c):=Zy (by
  have:=JW hu T B;rwa[P,<-aB.o]at this)
 have aP:Zz (∀g,Ext wc g->SliceOf 2 iX g (fun b=>b<g) (N,c.length,af) p):=Zy fun g v=>(aG.ext iX.stays v).keep iX.stays (fun _ _ _ _ h=>h) (fun b i=>Tp i v.size);obtain⟨yz,y0,-⟩:=bC.ca;clear aG aZ aR dh P hu T r0 r1 r2 m;go_wp2_with fail;refine(bI wc _ c (ai wc aa) aa).mono ?_;rintro n fo ⟨⟨X,rfl,hs⟩,bX⟩;obtain⟨e,bg⟩:∃e,nY c true 0 Q L D=e:=⟨_,rfl⟩;rw[bg]at hs;obtain⟨i1,c1,i2,c2,i3,c3,rfl,-,-,-⟩:=hs.form;obtain⟨bu,di,aW,bS⟩:=nu fo #[.int .i64 e.status,.slice i1 e.frames.length c1,.slice i2 e.heap.length c2,.slice i3 e.outs.length c3,.int .i64 e.back.kind,.int .i64 e.back.n] 44;have bP:=Zy bg;have bN:Zz (∀g,Ext bu g->kP g (fun b=>b<g) e [.int .i64 e.status,.slice i1 e.frames.length c1,.slice i2 e.heap.length c2,.slice i3 e.outs.length c3,.int .i64 e.back.kind,.int .i64 e.back.n]):=Zy fun g v=>kP.inside (kP.stays _ _ _ _ _ _ (Ext.same (aW.trans v)) (fun _ h=>h) hs);have⟨dH,ay,dV⟩:=jr bS (bX.trans aW) di;clear hs bg bX aW di bS y0 yz;obtain⟨yz,y0,-⟩:=(bD.ext ay).ca;go_upto_region 10 with(fail);rw[<-dV.o];go_wp2_with fail;refine(bI bu _ p (aP bu ay) (aa.trans ay)).mono ?_;rintro n fq ⟨⟨X,rfl,ht⟩,bY⟩;rw[bK.o,bP.o]at ht;obtain⟨e1,h1,e2,h2,e3,h3,rfl,-,-,-⟩:=ht.form;obtain⟨aH,dm,aX,bT⟩:=nu fq #[.int .i64 e.status,.slice e1 e.frames.length h1,.slice e2 e.heap.length h2,.slice e3 e.outs.length h3,.int .i64 e.back.kind,.int .i64 e.back.n] 44;have aC:=bY.trans aX;have bQ:Zz (∀g,Ext aH g->kP g (fun b=>b<g) e [.int .i64 e.status,.slice e1 e.frames.length h1,.slice e2 e.heap.length h2,.slice e3 e.outs.length h3,.int .i64 e.back.kind,.int .i64 e.back.n]):=Zy fun g v=>kP.inside (kP.stays _ _ _ _ _ _ (Ext.same (aX.trans v)) (fun _ h=>h) ht);have⟨bA,aK,bE,V,dW⟩:=qR bT (dH.ext aC) aC (ay.trans aC) dm;clear ht bY aX aC dm bT y0 yz;obtain⟨sz,s0,s1,s2,s3,s4,s5,-⟩:=(aK).ca;obtain⟨tz,t0,t1,t2,t3,t4,t5,-⟩:=(bA).ca;go_upto_region 11 with(fail);rw[<-dW.o];go_wp2_with fail;refine(OX aH e (bN aH bE) (bQ aH Kp.rr)).mono ?_;rintro n aI ⟨rfl,bZ⟩;have A:=Zy bZ;clear bZ s0 s1 s2 s3 s4 s5 sz t0 t1 t2 t3 t4 t5 tz;have bG:=Zy (az.trans (aa.trans (V.trans A)));obtain⟨sz,s0,-⟩:=(aK.ext A).ca;by_cases h0:e.status=0
 . have eY:(e.status==0)=true:=Ub.2 h0;clear h0;go_wp2_with (first|(go_at_call 7;refine(LV).mono ?_;rintro n w8 ⟨rfl,rfl⟩)|fail);go_ret;exact⟨rfl,bG⟩
 have eY:(e.status==0)=false:=SI.2 h0;clear h0;go_upto_region 15 with(fail);clear s0 sz;obtain⟨ed,f,eP,C⟩:=mJ aI;have p0:=fun z=>(bC.ext (V.trans (A.trans (C.jv z)))).c 0 (.slice (some ⟨bk,bq,none⟩) c.length pc) rfl;have q0:=fun z=>(bD.ext (V.trans (A.trans (C.jv z)))).c 0 (N,c.length,af) rfl;obtain⟨-,s0,s1,s2,s3,s4,s5,-⟩:=h9.qW fun z=>(aK.ext (A.trans (C.jv z)));obtain⟨-,t0,t1,t2,t3,t4,t5,-⟩:=h9.qW fun z=>(bA.ext (A.trans (C.jv z)));have m:=Zy C;clear C;refine kT m 14 [([0,1,3,4],2),([],5),([],6),([7,8,10],9),([],11)] [12,13] ?_ ?_
 . exact jg
 have I:Ext aI aI.drew:=jg;generalize aI.drew=wd at I |-;refine mP ?_;intro d a;go_wp2_with fail;refine(PR wd (fun b=>b<wd) (ai wd (aa.trans (V.trans (A.trans I)))) (fun _ h=>h) true e (bN wd (bE.trans (A.trans I))) 400).mono ?_;rintro n k ⟨⟨X,rfl,T⟩,cB⟩;obtain⟨y,bn⟩:∃y,sN c true e 400=y:=⟨_,rfl⟩;rw[bn]at T;have⟨dZ,HX⟩:=jc bn T;have u:=I.trans cB;clear T bn cB;obtain⟨b1,d1,b2,d2,b3,d3,rfl,-,-,-⟩:=HX.form;go_wp2_with fail;refine kk m a u ?_;clear a d;refine lK rfl fun d a=>?_;go_wp2_with fail;refine(PR k (fun b=>b<k) (aP k (V.trans (A.trans u))) (fun _ h=>h) true e (bQ k (A.trans u)) 400).mono ?_;rintro n q ⟨⟨X,rfl,hy⟩,aY⟩;have dz:sN p true e ((400:Nat):Int)=y:=by
  have:=dS.o;rw[bK.o,bP.o]at this;exact this.trans dZ
 rw[show(400:Int)=((400:Nat):Int)from rfl,dz]at hy;have⟨HY,dY⟩:=jc hy (kP.stays _ _ _ _ _ _ (Ext.same aY) (fun _ h=>h) HX);have s:=u.trans aY;clear hy dz aY;obtain⟨u1,fK,u2,fM,u3,fO,rfl,-,-,-⟩:=HY.form;go_wp2_with fail;refine kk m a s ?_;clear a d;refine lK rfl fun d a=>?_;go_wp2_with fail;refine(OX q y dY HY).mono ?_;rintro n we ⟨rfl,cK⟩;have aS:=s.trans cK;clear cK;go_wp2_with fail;refine kk m a aS ?_;clear a d;refine mP ?_;intro d a;go_wp2_with fail;refine(Ew we c (ai we (aa.trans (V.trans (A.trans aS)))) (fun _ h=>h)).mono ?_;rintro n wg ⟨rfl,cO⟩;obtain⟨B1,aV⟩:∃p,l9 c=p:=⟨_,rfl⟩;have dG:=Zy aV;rw[aV];clear aV;have aT:=aS.trans cO;clear cO;go_wp2_with fail;refine kk m a aT ?_;clear a d;refine lK rfl fun d a=>?_;go_wp2_with fail;refine(Ew wg p (aP wg (V.trans (A.trans aT))) (fun _ h=>h)).mono ?_;rintro n wh ⟨rfl,eF⟩;rw[dR.o,dG.o];have bV:=aT.trans eF;go_wp2_with fail;refine kk m a bV ?_;clear a d;refine wG [_,_] rfl fun aQ hK=>?_;(repeat (go_big_quiet_step (fail)));refine qn hK ?_;clear hK aQ;go_wp2;go_ret;exact⟨rfl,bG.trans bV⟩
open Go Go.ChangeShapes Go.WideShapes Go.ChangeAt Go.RowKit M
theorem Tryz.own:ownKnob Tryz.prog.godebug=none:=by kernel_rfl
theorem Tryz.laidOut:laidOutB Tryz.prog=true:=by kernel_rfl
theorem Km:Tryz.prog.cellsOf 5=1:=by kernel_rfl
theorem bytes_at{enc:TypeId×Value->f}{g:DataW f}(l:∃b d c,v=.slice b d c)(h0:DataW.Trod enc Tryz.prog W 0 (fun _=>true) true 22 v g p):∃e,BytesAt W v e:=by
 obtain⟨s,d,c,rfl⟩:=l;obtain⟨u,i⟩:=h0;rcases open_ints Tryz.underlying22 Tryz.underlying5 Km i with⟨a,n⟩|⟨b,y,t,e,a,_,w,x,o,n,h,m⟩
 . simp[Value.cells]at a;obtain⟨rfl,rfl,rfl⟩:=a;exact⟨[],.inl ⟨rfl,rfl⟩⟩
 . simp[Value.cells]at a;obtain⟨rfl,rfl,rfl⟩:=a;simp only[UC]at o;refine⟨e.take d,.inr ⟨b,c,by rw[Tf,Ue Zm],by rw[Tf];omega,fun q j=>?_,fun r k=>?_⟩⟩
   . rw[Tf]at j;have:=h q Zm;rw[this];congr 2;simp only[List.getD,Uv];rw[SV Zm]
   . have:=m r (U2 k);simp[Lit.wf,IntKind.min,IntKind.max,IntKind.bits,IntKind.signed]at this;omega
theorem OT{c:Type}{enc:TypeId×Value->c}{fn:Func}{s:ChangeSpec}{f: World}{b:DataW c}(l:fn.params=#[22])(m:fn.resultTypes=#[4])(n:s.vars=[])
    (d:s.fn c ([b]++[])={results:=[.lit (.bool true)],args:=[b]}) (h:DataW.Whole enc Tryz.prog fn.params.toList s.vars false W [v] [b] [] a)
    (h0:DataW.Trod enc Tryz.prog W 0 (fun _=>true) true 22 v b a) (j:Ext W f):s.post enc Tryz.prog fn false true false false W #[v] (.bool true) f:=by
 have k:∀e∈a,e.block<W:=fun e o=>by simpa using h.lt e o
 have g:=Ext.PM j;refine⟨[b],[],a,[],a,[],h,?_,?_,?_,g.frame _,fun i=>by cases i⟩
 . rw[d,m];exact trodAll_mk1 (shut_bool Tryz.underlying4 true)
 . rw[d,l];exact trodAll_mk1 (Below.trod Tryz.laidOut Zo (TE Zo) h0 g k)
 . rw[d,n];exact(rfl:([]:List MemPlace)=[])
end Go.Proofs.YtenhnldnpdlniaaGreat
namespace Go.Proofs.YtenhnldnpdlniaaGreat
open Go Go.ChangeShapes Go.WideShapes Go.ChangeAt Go.RowKit M
theorem Bv(i:Os)(v:i.Started)(m:Type)(enc:TypeId×Value->m):ReturnsInHanded {} Tryz.checked i 3 .any (Rows.fnVmOtherSpec.pre6 enc Tryz.prog Tryz.f3 Rows.fnVmOtherRow.domain false) (Rows.fnVmOtherSpec.post enc Tryz.prog Tryz.f3 false true false false):=by
 refine returnsInHanded_of_change (C:=Tryz.checked) Tryz.own v Zo Tryz.func3
  (ChangeSpec.witness6 (enc:=enc) (C:=Tryz.checked) false ⟨#[],#[()],[]⟩ 8 Zo Zo Zo Zo) ?_
 intro a n b o B y t e C _;have g:∀(h:Nat) j k,Tryz.f3.params[h]?=some j->b[h]?=some k->Value.okWide Tryz.prog a .any n j k:=t;have f:=e;obtain⟨u,F,p,q,rfl,D,E⟩:=e;have d:DataW.TrodAll enc Tryz.prog a 0 (fun _=>true) true Tryz.f3.params.toList b.toList o u:=p;rw[Tryz.params3]at d g;obtain⟨l,z,rfl,rfl,c⟩:=trodAll_one d;obtain⟨rfl,rfl⟩:=trodVars_none q;simp only[List.append_nil]at f;obtain⟨w,r⟩:=bytes_at (okWide_slice Tryz.underlying22 (g 0 22 l rfl rfl)) c;refine(MM a l w r).mono fun A x ⟨s,hE⟩=>?_;subst s;exact⟨_,rfl,OT (fn:=Tryz.f3) Tryz.params3 rfl rfl rfl f c hE⟩
theorem GJ:Tryz.prog.inPlace 3=Rows.fnVmOtherRow.inPlace:=by kernel_rfl
theorem AB:Tryz.prog.unfollowed 3=true:=by kernel_rfl
theorem GK:Tryz.prog.varsNamed 3=Rows.fnVmOtherRow.named:=by kernel_rfl
theorem GL:Tryz.prog.recurses 3=true:=by unfold Program.recurses;rw[AB];rfl
theorem GM:joinedFacts Tryz.prog 3 Tryz.f3 Rows.fnVmOtherSpec Rows.fnVmOtherRow=true:=by
 unfold joinedFacts;rw[GJ,AB,GK,GL];kernel_rfl
theorem fnVmOther_holds:Rows.FnVmOtherSaid:=
 OpenClaim.holds_of_wide 3 Tryz.f3 rfl rfl rfl rfl rfl rfl rfl ⟨rfl,rfl,rfl,rfl,rfl⟩ rfl rfl rfl rfl rfl Zo Tryz.func3 GM
  (TE Zo) (by unfold Func.isWrapper;rw[SX (by decide+kernel)];exact⟨rfl,rfl⟩)
  (fun c d a b _=>Bv c d a b)
#print axioms fnVmOther_holds
end Go.Proofs.YtenhnldnpdlniaaGreat
