/- FnRunSame: for every input the program returns true, and the input reads as it did. No condition. -/
import Derived.Test.YtlhlnddgfcmfkaaGreatRsCoreH
import Derived.Test.YtlhlnddgfcmfkaaGreatRows
import Derived.ProofKit
import Derived.Carry
import Derived.Test.YtlhlnddgfcmfkaaGreatRsCoreLm
import Derived.Test.YtlhlnddgfcmfkaaGreatRsCoreLzf
import Derived.Test.YtlhlnddgfcmfkaaGreatRsCoreLzg
import Derived.Test.YtlhlnddgfcmfkaaGreatRsCoreLzh
set_option maxRecDepth 100000
set_option maxHeartbeats 4000000
set_option linter.all false
namespace Go.Proofs.YtlhlnddgfcmfkaaGreat
open Go Go.ChangeShapes Go.WideShapes Go.ChangeAt Go.RowKit M
theorem Tryz.own:ownKnob Tryz.prog.godebug=none:=by kernel_rfl
theorem Tryz.laidOut:laidOutB Tryz.prog=true:=by kernel_rfl
theorem IU:Tryz.prog.cellsOf 5=1:=by kernel_rfl
theorem bytes_at{g:Type}{enc:TypeId×Value->g}{W:World}{v:Value}{d:DataW g}{p:List MemPlace}(l:∃b e c,v=.slice b e c)(h0:DataW.Trod enc Tryz.prog W 0 (fun _=>true) true 22 v d p):∃f,BytesAt W v f:=by
 obtain⟨s,e,c,rfl⟩:=l;obtain⟨u,i⟩:=h0;rcases open_ints Tryz.underlying22 Tryz.underlying5 IU i with⟨a,n⟩|⟨b,y,t,f,a,_,w,x,o,n,h,m⟩
 . simp[Value.cells]at a;obtain⟨rfl,rfl,rfl⟩:=a;exact⟨[],.inl ⟨rfl,rfl⟩⟩
 . simp[Value.cells]at a;obtain⟨rfl,rfl,rfl⟩:=a;simp only[if_true]at o;refine⟨f.take e,.inr ⟨b,c,by rw[Su,SX Zm],by rw[Su];omega,fun q j=>?_,fun r k=>?_⟩⟩
   . rw[Su]at j;have:=h q Zm;rw[this];congr 2;simp only[List.getD,List.getElem?_take];rw[RV Zm]
   . have:=m r (List.mem_of_mem_take k);simp[Lit.wf,IntKind.min,IntKind.max,IntKind.bits,IntKind.signed]at this;omega
theorem MK{b:Type}{enc:TypeId×Value->b}{fn:Func}{s:ChangeSpec}{W f:World}{v:Value}{d:DataW b}{a:List MemPlace}(l:fn.params=#[22])(m:fn.resultTypes=#[4])(n:s.vars=[])
    (c:s.fn b ([d]++[])={results:=[.lit (.bool true)],args:=[d]}) (h:DataW.Whole enc Tryz.prog fn.params.toList s.vars false W [v] [d] [] a)
    (h0:DataW.Trod enc Tryz.prog W 0 (fun _=>true) true 22 v d a) (j:Ext W f):s.post enc Tryz.prog fn false true false false W #[v] (.bool true) f:=by
 have k:∀e∈a,e.block<W:=fun e o=>by simpa using h.lt e o
 have g:=Ext.NL j;refine⟨[d],[],a,[],a,[],h,?_,?_,?_,g.frame _,fun i=>by cases i⟩
 . rw[c,m];exact trodAll_mk1 (shut_bool Tryz.underlying4 true)
 . rw[c,l];exact trodAll_mk1 (Below.trod Tryz.laidOut Zo (Sq Zo) h0 g k)
 . rw[c,n];exact(rfl:([]:List MemPlace)=[])
end Go.Proofs.YtlhlnddgfcmfkaaGreat
namespace Go.Proofs.YtlhlnddgfcmfkaaGreat
open Go Go.RowKit M
theorem M.zC(p:hZ)(lk:Bool)(n:Nat)(s:St):steps p lk (n+1) s=steps p lk n (M.step p lk s):=by
 by_cases a:s.status=1
 . show(if s.status=1 then _ else _)=_
   rw[RV a]
 . rw[Bp a,show M.step p lk s=s by unfold M.step;rw[RX a],Bp a]
theorem M.D8(p:hZ)(lk:Bool):∀(n:Nat) (s:St),M.step p lk (steps p lk n s)=steps p lk (n+1) s
 |0,s=>by rw[zC];rfl
 |n+1,s=>by rw[zC,D8 p lk n,<-zC]
theorem rY.inside{w:World}{I:Nat->Prop}{x:RW}{cs:List Value}(a:rY w I x cs):rY w (fun b=>I b/\b<w) x cs:=by
 obtain⟨j,i,k,c,d,e,f,g,h⟩:=a;exact⟨j,i,k,c,d,e.inside (fun _ _ _ _ a=>jc.inside a) Zn,f.inside (fun _ _ _ _ a=>a) Zn,g.inside (fun _ _ _ _ a=>a) Zn,h.zY⟩
theorem rY.form{w:World}{I:Nat->Prop}{x:RW}{cs:List Value}(m:rY w I x cs):∃g a h b i c j d k e l f,cs=[.slice g x.p.length a,.slice h x.b.jR.length b,.slice i x.b.jH.length c,.int .i64 x.s.status,.slice j x.s.frames.length d,.slice k x.s.heap.length e,.slice l x.s.outs.length f,.int .i64 x.s.back.kind,.int .i64 x.s.back.n]:=by
 obtain⟨t,s,u,r,rfl,n,o,p,q⟩:=m;obtain⟨_,_,_,_,_,_,rfl,-⟩:=q.form;obtain⟨_,_,rfl,-⟩:=n.form;obtain⟨_,_,rfl,-⟩:=o.form;obtain⟨_,_,rfl,-⟩:=p.form;exact⟨_,_,_,_,_,_,_,_,_,_,_,_,rfl⟩
theorem G7 : QL 3 := by
 intro ay bH S d;by_cases hl:S.length<=1048576;rotate_left
 . obtain⟨va,vc,rfl⟩:=d.form;have bB:(1048576:Int)<S.length:=Zm
   clear d hl;go_enter Tryz.func3,Tryz.ntmps3;go_wp2_with fail;go_ret;exact⟨rfl,Kp.rr⟩
 have HD:=Zy (Gn ay bH S d);obtain⟨va,vc,rfl⟩:=d.form;have bB:((1048576:Int)<S.length)=False:=Tq Zm;clear d hl;go_enter Tryz.func3,Tryz.ntmps3;go_wp2_with fail;refine HD.mono ?_;rintro h w1 ⟨⟨k,pa,pc,bF,bE,bq,bz,bu,bM,G,bK,rfl,hp,ha,bN⟩,az⟩;obtain⟨w2,aI,p,T⟩:=nu w1 #[.slice pa k.length pc] 25;obtain⟨-,e0,-⟩:=T.ca;have⟨aV,aY,au,aj,aT⟩:=mr (OT w2 (fun e=>ay<=e/\e<w1) (fun e d=>Nv d.2 p.size) k (hp.ext jc.stays p) bF bE bu bq bz ((ha.inside (fun _ _ _ _ f=>f) Zn).ext oQ.stays p)) aI (az.trans p) T (hp.ext jc.stays p);clear aI az p T hp ha HD;go_upto_region 4 with(fail);rw[<-aY.o];go_wp2_with fail;refine aV.mono ?_;rintro h w3 ⟨⟨b,cs,rfl,hx,aD⟩,aA⟩;have bD:=hx.form;obtain⟨f0,c0,f1,c1,f2,c2,Z,V,f4,W,f5,X,rfl⟩:=bD;obtain⟨c,aJ,aa,U⟩:=nu w3 #[.slice f0 b.p.length c0,.slice f1 b.b.jR.length c1,.slice f2 b.b.jH.length c2,b.s.status,.slice Z b.s.frames.length V,.slice f4 b.s.heap.length W,.slice f5 b.s.outs.length X,b.s.back.kind,b.s.back.n] 41;obtain⟨-,-,-,-,H,-⟩:=U.ca;have⟨HX,aS,aZ,ak,t⟩:=mr (rY.stays _ _ _ _ _ _ (Ext.same aa) (fun _ f=>f) hx) aD aJ U (aA.trans aa);clear hx aD aJ U aA aa e0;go_upto_region 5 with(fail);rw[<-aZ.o];by_cases A:b.s.status=0
 . have bC:=Tp.2 A;clear A;go_wp2_with fail;refine(QV).mono ?_;rintro h w5 ⟨rfl,rfl⟩;go_wp2_with fail;go_ret;exact⟨rfl,au.trans t⟩
 . have bC : ((b.s.status : Int) == 0) = false := by simpa using A
   have hv:=aS.resolve_left A;have w:=Zy hv;clear hv A;obtain⟨w5,aK,D,b5⟩:=nu c #[.slice f0 b.p.length c0,.slice f1 b.b.jR.length c1,.slice f2 b.b.jH.length c2,b.s.status,.slice Z b.s.frames.length V,.slice f4 b.s.heap.length W,.slice f5 b.s.outs.length X,b.s.back.kind,b.s.back.n] 41;obtain⟨-,bG,I,J,K,L,N,O,P,Q,-⟩:=ak.ca;have aG:rY w5 (fun e=>e≠c/\e<w5) b _:=(rY.stays _ _ _ _ _ _ (Ext.same D) (fun e d=>⟨Z0 d.2,Nv d.2 D.size⟩) (rY.inside HX.o));have aU:=Zy aG;clear aG;have⟨bf,aP,aR⟩:=jy aK b5 D;clear aK b5 D;go_upto_region 9 with(fail);rw[<-bf.o];clear H bG I J K L N O P Q;go_wp2_with fail;go_loopw [11] (fun ai wr=>∃(j:Nat) (g:RW) (Y:List Value),j<=G/\ai=.int .i64 j/\Ext c wr/\hV wr c 41 Y.toArray/\rY wr (fun e=>e≠c/\e<wr) g Y/\g.p=k/\J3 g/\g.s=steps k true j b.s) (fun ai _=>G - (intOf ai).toNat)
   case atStart=>exact⟨0,b,_,R4 _,rfl,aR,aP,aU,w.1,w.2,rfl⟩
   case round =>
    obtain⟨j,g,Y,hk,rfl,l,d,z,m,ag,n⟩:=hrel;obtain⟨g0,d0,g1,d1,g2,d2,g3,d3,g4,d4,g5,d5,rfl⟩:=rY.form z;obtain⟨sz,H,I,J,K,L,N,O,P,Q,-⟩:=d.ca;by_cases bO:j<G
    . have aW:=Zy (Nz wr (fun e d=>d.2) g z ag);have⟨s,HB,o⟩:=jy l d (RJ m n);clear l d z m ag n;go_wp2_with fail;refine aW.mono ?_;rintro h r ⟨⟨a,cz,rfl,aM,aN,aO,ah⟩,q⟩;obtain⟨p0,q0,p1,q1,p2,q2,p3,q3,p4,q4,p5,q5,rfl⟩:=rY.form ah;have E:=HB.ext q;obtain⟨k0,k1,k2,k3,k4,k5,k6,k7,k8,-⟩:=E.fz;obtain⟨kz,m0,m1,m2,m3,m4,m5,m6,m7,m8,-⟩:=E.ca;have⟨aQ,HZ,bg,u⟩:=jV E (RJ aM (RJ aN aO)) (rY.inside ah) q;clear aM aN aO ah E q H I J K L N O P Q;go_wp2_with fail;obtain⟨R,af⟩:=Ry (((((((((r.setCell c (.slice p0 a.p.length q0)).setCell (c,1) (.slice p1 a.b.jR.length q1)).setCell (c,2) (.slice p2 a.b.jH.length q2)).setCell (c,3) a.s.status).setCell (c,4) (.slice p3 a.s.frames.length q3)).setCell (c,5) (.slice p4 a.s.heap.length q4)).setCell (c,6) (.slice p5 a.s.outs.length q5)).setCell (c,7) a.s.back.kind).setCell (c,8) a.s.back.n);have ae:Kp (·=c) r R:=by rw[af];exact((((((((((Kp.refl (·=c) r).setCell (p:=⟨c,0,none⟩) (fun _=>rfl) _).setCell (p:=⟨c,1,none⟩) (fun _=>rfl) _).setCell (p:=⟨c,2,none⟩) (fun _=>rfl) _).setCell (p:=⟨c,3,none⟩) (fun _=>rfl) _).setCell (p:=⟨c,4,none⟩) (fun _=>rfl) _).setCell (p:=⟨c,5,none⟩) (fun _=>rfl) _).setCell (p:=⟨c,6,none⟩) (fun _=>rfl) _).setCell (p:=⟨c,7,none⟩) (fun _=>rfl) _).setCell (p:=⟨c,8,none⟩) (fun _=>rfl) _)
      have bA:hV R c 41 #[.slice p0 a.p.length q0,.slice p1 a.b.jR.length q1,.slice p2 a.b.jH.length q2,a.s.status,.slice p3 a.s.frames.length q3,.slice p4 a.s.heap.length q4,.slice p5 a.s.outs.length q5,a.s.back.kind,a.s.back.n]:=by rw[af];have f:=(((((((((aQ.jk 0 (.slice p0 a.p.length q0)).jk 1 (.slice p1 a.b.jR.length q1)).jk 2 (.slice p2 a.b.jH.length q2)).jk 3 a.s.status).jk 4 (.slice p3 a.s.frames.length q3)).jk 5 (.slice p4 a.s.heap.length q4)).jk 6 (.slice p5 a.s.outs.length q5)).jk 7 a.s.back.kind).jk 8 a.s.back.n);simpa using f
      rw[<-af];obtain⟨z1,z2,z3⟩:=HZ.o;have zz:=ae.size;have zr:=HB.lt;refine⟨⟨j+1,a,[_,_,_,_,_,_,_,_,_],Zm,by go_num,(s.o.trans u.o).own ae fun e h=>Zm,bA,rY.stays _ _ _ _ _ _ (Kp.same ae fun e d h=>?_) (fun e d=>?_) bg.o,by rw[z1];exact o.1,z3,by rw[z2,o.o.1,o.o.2];exact D8 _ _ _ _⟩,by simp[intOf];omega⟩
      . rcases d.1 with f|f
        . exact f.1 h
        . omega
      . refine⟨?_,Zm⟩;rcases d.1 with f|f
        . exact f.1
        . omega
    . obtain rfl:j=G:=Zm
      obtain⟨bI,bL,bP,v⟩:=kY wr;obtain⟨-,y0,-,-,y3,y4,y5,y6,y7,y8,-⟩:=hV.lL fun a=>d.ext (v.jm a);obtain⟨-,-,-,-,x3,x4,x5,x6,x7,x8,-⟩:=hV.lL fun a=>(ak.ext l).ext (v.jm a);obtain⟨-,v0,-⟩:=hV.lL fun a=>((aj.ext t).ext l).ext (v.jm a);have aF:=(((aT.ext jc.stays t).ext jc.stays l).keep jc.stays (fun _ _ _ _ f=>f) fun e d=>Nv d.2 (RP (Nat.le_of_lt aj.lt) t.size));have⟨ax,HR,s,C,o⟩:=mr aF z l v (RJ m n);clear v d z l m ag n aF H I J K L N O P Q;go_upto_region 13 with(fail);refine kD C 14 [([0,1,2,3,4,5],6),([],7),([8,9,10,11],12)] [13] ?_ ?_
      . exact jf
      refine lS ?_;intro x i;go_wp2_with fail;have aL:jQ wr (fun e=>e<c) b.s [b.s.status,.slice Z b.s.frames.length V,.slice f4 b.s.heap.length W,.slice f5 b.s.outs.length X,b.s.back.kind,b.s.back.n]:=by
       obtain⟨_,_,_,_,h,-,-,-,h4⟩:=HX.o;cases h;exact jQ.stays _ _ _ _ _ _ (Ext.same s) (fun e d=>d.2) h4.zY
      have y:Ext wr wr.drew:=jf;refine(Qx (fun e=>e<c) k (ax.ext jc.stays y) (fun e d=>Nv d (s.trans y).size) true b.s (jQ.stays _ _ _ _ _ _ (Ext.same y) (fun _ f=>f) aL)).mono ?_;rintro h r ⟨⟨bJ,rfl,F⟩,q⟩;have aH:yh k true b.s (j:Int)=g.s:=by
       unfold yh;rw[o.o.2,R6 Zm,<-w.o.1,w.o.2.ku,w.o.2.vm];rfl
      rw[aH]at F;have u:=Zy (y.trans q);have aX:=Zy F;obtain⟨l1,o1,l2,o2,l3,o3,rfl,-⟩:=F.form;clear q F aH aL y;go_wp2_with fail;refine kk C i u ?_;clear i x;refine lF rfl fun x i=>?_;go_wp2_with fail;have n:jQ r (fun e=>e≠c/\e<wr) g.s [g.s.status,.slice g3 g.s.frames.length d3,.slice g4 g.s.heap.length d4,.slice g5 g.s.outs.length d5,g.s.back.kind,g.s.back.n]:=by
       obtain⟨_,_,_,_,h,-,-,-,h4⟩:=HR.o;cases h;exact jQ.stays _ _ _ _ _ _ (Ext.same u) (fun _ f=>f) h4
      refine(Qh r g.s n aX).mono ?_;rintro h w7 ⟨rfl,aB⟩;have B:=Zy (u.trans aB);clear aB n;go_wp2_with fail;refine kk C i B ?_;clear i x;refine lS ?_;intro x i;go_wp2_with fail;have m:SliceOf 2 jc w7 (fun e=>e≠c/\e<wr) (.slice g0 g.p.length d0) k:=by
       obtain⟨_,_,_,_,h,h1,-,-,-⟩:=HR.o;cases h;have f:=h1.ext jc.stays B;rwa[o.o.1]at f |-
      refine(OB w7 k m (ax.ext jc.stays B)).mono ?_;rintro h w8 ⟨rfl,aC⟩;have av:=Zy (B.trans aC);clear aC m;go_wp2_with fail;refine kk C i av ?_;clear i x;refine sP [_] rfl fun bn hK=>?_;(repeat (go_big_quiet_step (fail)));refine qn hK ?_;clear hK bn;go_wp2_with fail;go_ret;exact⟨rfl,(au.trans t).trans (s.trans av)⟩
open Go Go.ChangeShapes Go.WideShapes Go.ChangeAt Go.RowKit M
theorem AQ(i:Os)(v:i.Started)(m:Type)(enc:TypeId×Value->m):ReturnsInHanded {} Tryz.checked i 3 .any (Rows.fnRunSameSpec.pre6 enc Tryz.prog Tryz.f3 Rows.fnRunSameRow.domain false) (Rows.fnRunSameSpec.post enc Tryz.prog Tryz.f3 false true false false):=by
 refine returnsInHanded_of_change (C:=Tryz.checked) Tryz.own v Zo Tryz.func3
  (ChangeSpec.witness6 (enc:=enc) (C:=Tryz.checked) false ⟨#[],#[()],[]⟩ 8 Zo Zo Zo Zo) ?_
 intro a n b o B y t e C _;have g:∀(h:Nat) j k,Tryz.f3.params[h]?=some j->b[h]?=some k->Value.okWide Tryz.prog a .any n j k:=t;have f:=e;obtain⟨u,F,p,q,rfl,D,E⟩:=e;have d:DataW.TrodAll enc Tryz.prog a 0 (fun _=>true) true Tryz.f3.params.toList b.toList o u:=p;rw[Tryz.params3]at d g;obtain⟨l,z,rfl,rfl,c⟩:=trodAll_one d;obtain⟨rfl,rfl⟩:=trodVars_none q;simp only[List.append_nil]at f;obtain⟨w,r⟩:=bytes_at (okWide_slice Tryz.underlying22 (g 0 22 l rfl rfl)) c;refine(G7 a l w r).mono fun A x ⟨s,hE⟩=>?_;subst s;exact⟨_,rfl,MK (fn:=Tryz.f3) Tryz.params3 rfl rfl rfl f c hE⟩
theorem FK:Tryz.prog.inPlace 3=Rows.fnRunSameRow.inPlace:=by kernel_rfl
theorem zU:Tryz.prog.unfollowed 3=true:=by kernel_rfl
theorem FL:Tryz.prog.varsNamed 3=Rows.fnRunSameRow.named:=by kernel_rfl
theorem FM:Tryz.prog.recurses 3=true:=by unfold Program.recurses;rw[zU];rfl
theorem FN:joinedFacts Tryz.prog 3 Tryz.f3 Rows.fnRunSameSpec Rows.fnRunSameRow=true:=by
 unfold joinedFacts;rw[FK,zU,FL,FM];kernel_rfl
theorem fnRunSame_holds:Rows.FnRunSameSaid:=
 OpenClaim.holds_of_wide 3 Tryz.f3 rfl rfl rfl rfl rfl rfl rfl ⟨rfl,rfl,rfl,rfl,rfl⟩ rfl rfl rfl rfl rfl Zo Tryz.func3 FN
  (Sq Zo) (by unfold Func.isWrapper;rw[RX (by decide+kernel)];exact⟨rfl,rfl⟩)
  (fun c d a b _=>AQ c d a b)
#print axioms fnRunSame_holds
end Go.Proofs.YtlhlnddgfcmfkaaGreat
