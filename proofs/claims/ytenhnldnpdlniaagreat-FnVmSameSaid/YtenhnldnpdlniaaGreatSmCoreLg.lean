/- Walks. -/
import Derived.Test.YtenhnldnpdlniaaGreatSmCoreLd
import Derived.Test.YtenhnldnpdlniaaGreatSmCoreLb
set_option maxRecDepth 100000
set_option maxHeartbeats 4000000
set_option linter.all false
namespace Go.Proofs.YtenhnldnpdlniaaGreat
open Go Go.RowKit Tryz M
variable {cs: List Value}{m: M.Method}{k: Nat}{I: Nat->Prop}{α: Type}{w: World}
theorem all_succ{p:α->Bool}{l:List α}{x:α}(a:(l.take k).all p=true)(c:l[k]?=some x)(b:p x=true):(l.take (k+1)).all p=true:=by
 rw[Td,c,VZ,a];simp[b]
theorem sj{p:α->Bool}{l:List α}{x:α}(b:l[k]?=some x)(a:p x=false):l.all p=false:=
 VX.2 ⟨x,Tx b,by simp[a]⟩
theorem qG{p:α->Bool}{l:List α}(a:(l.take k).all p=true)(b:l.length<=k):l.all p=true:=by
 rw[Tq b]at a;exact a
theorem get_some{l:List α}(a:k<l.length):∃b,l[k]?=some b:=⟨_,CU a⟩
theorem Iu{v:Value}{l:List Tag}(h:SliceOf 2 jZ w I v l):Calls prog 213 #[v] w fun g o=>g=.returned (.bool (wF l))/\Ext w o:=by
 obtain⟨p,r,rfl,B,z⟩:=h.form;go_enter func213,ntmps213;go_wp2;go_loopw [7] (fun d wr=>∃a:Nat,a<=l.length/\d=.int .i64 a/\Ext w wr/\Zz ((l.take a).all tH=true)) (fun d _=>l.length - (intOf d).toNat)
 case atStart=>exact⟨0,Tz _,rfl,Kp.rr,Zy Zl⟩
 case round=>
  obtain⟨a,A,rfl,m,e⟩:=hrel;by_cases n:a<l.length
  . obtain⟨k,c⟩:=get_some n;obtain⟨q,C,s,rfl,y,rfl,-,i⟩:=h.get c;obtain⟨t,u⟩:=(i.ext m).two;have f:=Zy c;clear c i;cases j:tH k
    all_goals
     have b:=Zy j;clear j;go_wp2_with (go_at_call 236;refine(RJ k).mono ?_;rintro g D ⟨rfl,x⟩;rw[b.o])
    . go_ret;exact⟨hV (sj f b).symm,Zv⟩
    . go_roundw
      case rel=>exact⟨a+1,Zm,Zk,Zv,Zy (all_succ e.o f.o b.o)⟩
      case measure=>exact Zj
  . go_wp2;go_ret;exact⟨hV (qG e Zm).symm,kx⟩
theorem Qf {I: Nat -> Prop}(x : jy w I m cs) :Calls prog 171 #[.agg cs.toArray] w fun i A=>i=.returned (.bool (codeOk m))/\Ext w A:=by
 obtain⟨n,W,o,rfl,H,r,J⟩:=x;obtain⟨g,h,rfl,S,N⟩:=r.form;by_cases Q:m.code.length<1
 . go_enter func171,ntmps171;go_wp2;go_ret;exact⟨hV (by unfold codeOk;rw[SS Zm];rfl),kx⟩
 by_cases R:16<m.code.length
 . go_enter func171,ntmps171;go_wp2;go_ret;exact⟨hV (by unfold codeOk;rw[SS (p:=m.code.length<=16) Zm];simp),kx⟩
 have e:Zz (codeOk m=m.code.all (oL m)):=Zy (by
  unfold codeOk;rw[Tw Zm,Tw Zm];rfl)
 go_enter func171,ntmps171;go_wp2;have y:Ext w (w.alloc (.cells #[m.name,n,m.ret.kind,m.ret.name,m.locals,m.stack,.slice g m.code.length h,o] 113)):=(jJ _);have v:=jq.new w 113 #[m.name,n,m.ret.kind,m.ret.name,m.locals,m.stack,.slice g m.code.length h,o];obtain⟨-,-,-,-,-,t,-,u,-⟩:=v.ca;go_loopw [18] (fun l wr=>∃b:Nat,b<=m.code.length/\l=.int .i64 b/\Ext (w.alloc (.cells #[m.name,n,m.ret.kind,m.ret.name,m.locals,m.stack,.slice g m.code.length h,o] 113)) wr/\Zz ((m.code.take b).all (oL m)=true)) (fun l _=>m.code.length - (intOf l).toNat)
 case atStart=>exact⟨0,Tz _,rfl,Kp.rr,Zy Zl⟩
 case round=>
  obtain⟨b,P,rfl,j,q⟩:=hrel;by_cases z:b<m.code.length
  . obtain ⟨p, k⟩ := get_some z; obtain ⟨C, T, cs, rfl, K, rfl,-, s⟩ := r.get k; obtain ⟨D, E, F, G⟩ := ((s.ext y).ext j).four; have q4 := j.jm t; have q6 := j.jm u; have f := Zy k; clear k s t u; cases d : mf p
    . have a:=Zy d;clear d;go_wp2_with (go_at_call 212;refine(OO p).mono ?_;rintro i B ⟨rfl,c⟩;rw[a.o]);go_ret;exact⟨hV (by rw[e.o];exact(sj f (by unfold oL;rw[a.o];rfl)).symm),Zv⟩
    . have a:=Zy d;clear d;go_wp2_with (go_at_call 212;refine(OO p).mono ?_;rintro i B ⟨rfl,c⟩;rw[a.o];have U:=c.LY q4;have V:=c.LY q6;obtain⟨L,O⟩:=IP c)
      all_goals first
       | (go_ret
          exact⟨hV (by
           rw[e.o];exact(sj f (by unfold oL;rw[a.o];(repeat' split)<;>simp<;>simp_all<;>omega)).symm),Zv⟩)
       | (go_roundw
          case rel=>
           exact⟨b+1,Zm,Zk,Zv,Zy (all_succ q.o f.o (by
            unfold oL;rw[a.o];(repeat' split)<;>simp<;>simp_all<;>omega))⟩
          case measure=>simp[intOf];omega)
  . go_wp2;go_ret;exact⟨hV (by rw[e.o];exact(qG q Zm).symm),Zv⟩
theorem drop_at{l:List α}{x:α}(b:l[k]?=some x):l.drop k=x::l.drop (k+1):=by
 obtain⟨c,a⟩:=Tt.1 b;rw[Vq c,a]
theorem FX{last:Int}{x:SMap}(a:m.maps[k]?=some x):lC m last (m.maps.drop k)=(decide (last<x.at_)&&tC m x&&lC m x.at_ (m.maps.drop (k+1))):=by
 rw[drop_at a];rfl
theorem A9(m:M.Method)(f:SMap):tC m f=(decide (f.at_ <m.code.length)&&decide ((f.locals.length:Int)=m.locals)&&decide ((f.stack.length:Int)<=m.stack)&&wF f.locals&&wF f.stack):=rfl
theorem Qz(L:jy w I m cs):Calls prog 172 #[.agg cs.toArray] w fun i R=>i=.returned (.bool (sw m))/\Ext w R:=by
 obtain⟨y,vc,vm,rfl,h1,N,A⟩:=L;obtain⟨n,p,rfl,hn,af⟩:=A.form;obtain⟨o,q,rfl,au,ag⟩:=N.form;by_cases ak:5<m.maps.length
 . go_enter func172,ntmps172;go_wp2;go_ret;exact⟨hV (by unfold sw;rw[SS Zm];rfl),kx⟩
 have d:Zz (sw m=lC m 0 m.maps):=Zy (by
  unfold sw;rw[Tw Zm];rfl)
 go_enter func172,ntmps172;go_wp2;have K:=jq.new w 113 #[m.name,y,m.ret.kind,m.ret.name,m.locals,m.stack,.slice o m.code.length q,.slice n m.maps.length p];obtain⟨-,-,-,-,-,D,E,F,-⟩:=K.ca;have s:Ext w (w.alloc (.cells #[m.name,y,m.ret.kind,m.ret.name,m.locals,m.stack,.slice o m.code.length q,.slice n m.maps.length p] 113)):=(jJ _);generalize (w.alloc (.cells #[m.name,y,m.ret.kind,m.ret.name,m.locals,m.stack,.slice o m.code.length q,.slice n m.maps.length p] 113))=w0 at*;go_loopw [13,3] (fun u P wr=>∃g:Nat,∃last:Int,g<=m.maps.length/\u=.int .i64 g/\P=.int .i64 last/\Ext w0 wr/\Zz (lC m 0 m.maps=lC m last (m.maps.drop g))) (fun u _ _=>m.maps.length - (intOf u).toNat)
 case atStart=>exact⟨0,0,Tz _,rfl,rfl,Kp.rr,Zy Zl⟩
 case round=>
  obtain⟨g,last,hk,rfl,rfl,f,b⟩:=hrel;by_cases O:g<m.maps.length
  . obtain⟨a,t⟩:=get_some O;obtain⟨V,ay,cs,rfl,hI,⟨vl,vs,rfl,v,x⟩,-,B⟩:=A.get t;obtain⟨T,W,rfl,av,ah⟩:=v.form;obtain⟨U,X,rfl,ax,ai⟩:=x.form;obtain⟨Y,Z,g2⟩:=((B.ext s).ext f).three;have q4:=f.jm D;have q5:=f.jm E;have q6:=f.jm F;have hz:=jv q6;have⟨z,H,c⟩:=jI ((v.ext jZ.stays s).ext jZ.stays f) ((x.ext jZ.stays s).ext jZ.stays f) (FX (last:=last) t);clear t B D E F v x;by_cases t1:a.at_<=last
    . go_wp2;go_ret;exact⟨hV (by rw[d.o,b.o,c.o,SS Zm];rfl),Zv⟩
    by_cases t2:(m.code.length:Int)<=a.at_
    . go_wp2;go_ret;exact⟨hV (by rw[d.o,b.o,c.o,A9,SS (p:=a.at_ <m.code.length) Zm];simp),Zv⟩
    by_cases h:(a.locals.length:Int)=m.locals
    case neg=>
     have Q:=SK.2 h;go_wp2;go_ret;exact⟨hV (by rw[d.o,b.o,c.o,A9,SS (p:=(a.locals.length:Int)=m.locals) h];simp),Zv⟩
    have J:=Zy h;have Q:=Ue.2 h;clear h;by_cases t4:m.stack<(a.stack.length:Int)
    . go_wp2;go_ret;exact⟨hV (by rw[d.o,b.o,c.o,A9,SS (p:=(a.stack.length:Int)<=m.stack) Zm];simp),Zv⟩
    have k:Zz (tC m a=(wF a.locals&&wF a.stack)):=Zy (by
     rw[A9,Tw (p:=a.at_ <m.code.length) Zm,Tw (p:=(a.locals.length:Int)=m.locals) J.o,Tw (p:=(a.stack.length:Int)<=m.stack) Zm];rfl)
    have G:Zz (decide (last<a.at_)=true):=Zy (Tw Zm);cases j:wF a.locals
    . have e:=Zy j;clear j;go_wp2_with fail;refine(Iu (z.ext jZ.stays (jJ _))).mono ?_;rintro i S ⟨rfl,r⟩;rw[e.o];go_wp2;go_ret;exact⟨hV (by rw[d.o,b.o,c.o,k.o,e.o];simp),Zv⟩
    . have e:=Zy j;clear j;go_wp2_with fail;refine(Iu (z.ext jZ.stays (jJ _))).mono ?_;rintro i S ⟨rfl,r⟩;rw[e.o];obtain⟨ae,aj⟩:=IP r;cases C:wF a.stack
      all_goals
       have l:=Zy C;clear C;go_wp2_with fail;refine(Iu ((H.ext jZ.stays (jJ _)).ext jZ.stays r)).mono ?_;rintro i w2 ⟨rfl,aa⟩;rw[l.o];go_wp2
      . go_ret;exact⟨hV (by rw[d.o,b.o,c.o,k.o,e.o,l.o];simp),Zv⟩
      . go_roundw
        case rel=>exact⟨g+1,a.at_,Zm,Zk,rfl,Zv,Zy (by rw[b.o,c.o,k.o,G.o,e.o,l.o];rfl)⟩
        case measure=>exact Zj
  . go_wp2;go_ret;exact⟨hV (by rw[d.o,b.o,U6 Zm];rfl),Zv⟩
theorem Pn{l:List α}{q:α->Bool}:∀{d:Option Nat},l.findIdx? q=d->(match d with|none=>l.find? q=none|some a=>∃b,l[a]?=some b/\l.find? q=some b)
 |none,h=>by
  rw[List.findIdx?_eq_none_iff]at h;show _=_
  rw[List.find?_eq_none];intro b i;simpa using h b i
 |some a,h=>by
  obtain⟨c,e,f⟩:=TH.1 h;exact⟨l[a],CU c,by rw[List.find?_eq_some_iff_getElem];exact⟨e,a,c,rfl,fun j g=>by simpa using f j g⟩⟩
theorem M.uG{p:jl}{r:Ref}{c:Class}(a:cls? p r=some c):cls p r=c:=by unfold cls;rw[a];rfl
theorem NF(w:World)(I:Nat->Prop)(hI:∀k,I k->k<w.heap.size){v:Value}(p:jl)(hp:SliceOf 2 jo w I v p)(dA:kv p=true)(J:Nat->Prop)(vc:Value)(o:Ref)(r:List Ref)(hr:SliceOf 2 qN w J vc (o::r))(ho:∀x∈o::r,owned p x=true):Calls prog 158 #[.agg #[v],vc] w fun z w'=>z=.returned (.bool (r.all (mG p o)))/\Ext w w':=by
 obtain⟨aj,ak,rfl,hn,dQ⟩:=hp.form;obtain⟨ra,rc,rfl,dX,dm⟩:=hr.form;obtain⟨Z,hN⟩:∃Z,List.length (o::r)=Z:=⟨_,rfl⟩;rw[hN]at hr dm |-;have HN:Zz (r.length+1=Z):=Zy (by rw[<-hN];rfl);clear hN;obtain⟨dw,d,aZ⟩:=sM (ho o Zl);obtain⟨dE,dn,bM⟩:=oW w I _ p hp o d aZ;obtain⟨vf,vm,rfl,hF,hM⟩:=dn;obtain⟨fa,fc,rfl,-,dR⟩:=hF.form;obtain⟨ma,mc,rfl,-,dV⟩:=hM.form;obtain⟨ag,hB⟩:∃ag,r.all (mG p o)=ag:=⟨_,rfl⟩;rw[hB];obtain⟨G,bR,af,b2⟩:=nu w #[.slice aj p.length ak] 25;obtain⟨g0,q0,dF,rfl,dL,rfl,-,d0⟩:=(hr.ext qN.stays af).get (i:=0) (x:=o) rfl;obtain⟨l0,l1⟩:=d0.two;simp only[UM,UU]at l0 l1;have⟨bB,H,cK,HB,aN,HO,HP,HR,HF⟩:=AV b2 af bR hB aZ ho hp hr hF;have⟨HM,bZ⟩:=jw hM l0;have bC:=fun t (B:Ext G t)=>bM t (af.trans B);have cB:=fun t (j:Ext G t) (h:Int) (P:has p h=true) (cs:List Value) (u:M.Method) (hm:jy t I u cs)=>Fa t I (fun k hb=>Tf (hI k hb) ((af.trans j).size)) (.slice aj p.length ak) p ((hp.ext jo.stays af).ext jo.stays j) dA o.keeper h dw P cs u hm;obtain⟨aF,C,aJ,b⟩:=lL G;have p0:=fun a=>(b2.ext (b.jC a)).c 0 (.slice aj p.length ak) rfl;have r0:=fun a=>(b.jC a).jm l0;have r1:=fun a=>(b.jC a).jm l1;have c:=Zy b;have dN:(0:Int)<Z:=Te HN.o
 clear b2 af bR hB aZ ho hp hr hF hM d0 l0 l1 b bM hI;go_enter func158,ntmps158;go_upto_region 1 with(fail);rw[<-cK.o];go_cut [5] (fun s5 R=>∃k,s5=.pointer (some ⟨k,0,none⟩)/\jq R k 38 #[d.name,d.jE,.slice fa d.fields.length fc,.slice ma d.methods.length mc]/\Ext G R/\G.heap.size<=k)
 case first=>
  refine rQ c 6 (.two [0,1,2,3] 4 5 (.one [] 5 (.fin [])) (.one [] 4 (.fin []))) ?_ ?_
  . exact jA
  refine two [_,_,_,_] rfl rfl rfl fun aR hK=>?_;(repeat (go_big_quiet_step (fail)));((refine EP hK (fun n e=>?_) fun n e=>?_)<;>clear hK aR)
  . have m:Ext G G.drew:=jA;generalize G.drew=wd at m |-;go_wp2_with fail;refine(bC wd m).mono ?_;rintro z w4 ⟨rfl,D⟩;have e4:=m.trans D;go_wp2_with fail;refine kk c e e4 ?_;clear e n;refine j3 rfl fun n e=>?_;go_wp2_with fail;obtain⟨Q,F,s,q⟩:=nu w4 #["","",(),()] 38;rw[<-F];have W:=Zy e4;have A:=e4.trans s;have⟨bV,y⟩:=jw s q;clear F s;obtain⟨zz,z0,z1,z2,z3,-⟩:=q.ca;obtain⟨bn,bq,bu,bz,-⟩:=q.fz;have L:=Zy A;clear q;refine kk c e A ?_;clear e n;refine kQ ?_;go_wp2_with fail;have E:=y.KV d.name d.jE (.slice fa d.fields.length fc) (.slice ma d.methods.length mc);go_meet;exact⟨_,rfl,E.1,L.own E.2 (fun k z=>Te W.size),W.o.size⟩
  . have m:Ext G G.drew:=jA;generalize G.drew=wd at m |-;go_wp2_with fail;obtain⟨Q,F,s,q⟩:=nu wd #["","",(),()] 38;rw[<-F];have ah:=Zy m;have A:=m.trans s;clear F s;refine kk c e A ?_;clear e n;refine j3 rfl fun n e=>?_;go_wp2_with fail;refine(bC Q A).mono ?_;rintro z w4 ⟨rfl,D⟩;have N:=q.ext D;have W:=Zy D;have e6:=A.trans D;obtain⟨zz,z0,z1,z2,z3,-⟩:=N.ca;obtain⟨bn,bq,bu,bz,-⟩:=N.fz;have⟨y,L⟩:=jw N e6;clear q N;go_wp2_with fail;refine kk c e e6 ?_;clear e n;refine kQ ?_;go_wp2_with fail;have E:=y.KV d.name d.jE (.slice fa d.fields.length fc) (.slice ma d.methods.length mc);go_meet;exact⟨_,rfl,E.1,L.own E.2 (fun k z=>Te ah.size),ah.o.size⟩
 obtain⟨q,rfl,bK,s,dO⟩:=hcut;obtain⟨Q,rfl⟩:∃Q,Q=wc:=⟨_,rfl⟩;have⟨y,L⟩:=jw bK s;clear bK s c p0 r0 r1;go_wp2;go_loopw [6,7,8,9,10] (fun l _ _ _ _ wr=>∃u:Nat,u<=r.length/\l=.int .i64 ((u+1:Nat):Int)/\Ext Q wr/\Zz ((r.take u).all (mG p o)=true)) (fun l _ _ _ _ _=>Z - (intOf l).toNat)
 case atStart=>exact⟨0,Tz _,rfl,Kp.rr,Zy Zl⟩
 case round=>
  obtain⟨u,hm,rfl,j,HA⟩:=hrel;have⟨HE,ay⟩:=jw j (L.trans j);by_cases bP:u<r.length
  . have dk:((u+1:Nat):Int)<Z:=Te HN.o
    have dJ:(0:Int)<=((u+1:Nat):Int):=Zm
    obtain⟨x,hx⟩:∃x,r[u]?=some x:=⟨r[u]'bP,CU bP⟩;obtain⟨dx,g,bg⟩:=sM (HO x (by simp[Tx hx]));obtain⟨dZ,dB,bO⟩:=oW w I _ p HP x g bg;obtain⟨ek,eu,rfl,aS,aT⟩:=dB;obtain⟨aG,aH,rfl,-,dS⟩:=aS.form;obtain⟨aK,ax,rfl,-,dW⟩:=aT.form;obtain⟨g1,q1,dG,e1,dM,rfl,-,d1⟩:=((HR.ext qN.stays H).ext qN.stays ay).get (i:=u+1) (x:=x) (by simpa using hx);cases e1;obtain⟨x0,x1⟩:=d1.two;have⟨cO,HX,aD,bY,bH⟩:=nC x0 hx bg aS aT;have bJ:=fun t (B:Ext wr t)=>bO t ((H.trans ay).trans B);obtain⟨aF,C,aJ,b⟩:=lL wr;have p0:=fun a=>(bB.ext (ay.trans (b.jC a))).c 0 (.slice aj p.length ak) rfl;have r0:=fun a=>(b.jC a).jm x0;have r1:=fun a=>(b.jC a).jm x1;have c:=Zy b;clear hx bg aS aT d1 x0 x1 b j bO;go_upto_region 5 with(fail);go_cut [7] (fun s7 R=>∃k,s7=.pointer (some ⟨k,0,none⟩)/\jq R k 38 #[g.name,g.jE,.slice aG g.fields.length aH,.slice aK g.methods.length ax]/\Ext wr R/\wr.heap.size<=k)
    case first=>
     refine rQ c 7 (.two [0,1,2,3,4] 5 6 (.one [] 6 (.fin [])) (.one [] 5 (.fin []))) ?_ ?_
     . exact jA
     refine two [_,_,_,_,_] rfl rfl rfl fun aR hK=>?_;(repeat (go_big_quiet_step (fail)));((refine EP hK (fun n e=>?_) fun n e=>?_)<;>clear hK aR)
     . have m:Ext wr wr.drew:=jA;generalize wr.drew=wd at m |-;go_wp2_with fail;refine(bJ wd m).mono ?_;rintro z w4 ⟨rfl,D⟩;have e4:=m.trans D;go_wp2_with fail;refine kk c e e4 ?_;clear e n;refine j3 rfl fun n e=>?_;go_wp2_with fail;obtain⟨Q,F,s,q⟩:=nu w4 #["","",(),()] 38;rw[<-F];have W:=Zy e4;have A:=e4.trans s;have⟨bV,y⟩:=jw s q;clear F s;obtain⟨zz,z0,z1,z2,z3,-⟩:=q.ca;obtain⟨bn,bq,bu,bz,-⟩:=q.fz;have L:=Zy A;clear q;refine kk c e A ?_;clear e n;refine kQ ?_;go_wp2_with fail;have E:=y.KV g.name g.jE (.slice aG g.fields.length aH) (.slice aK g.methods.length ax);go_meet;exact⟨_,rfl,E.1,L.own E.2 (fun k z=>Te W.size),W.o.size⟩
     . have m:Ext wr wr.drew:=jA;generalize wr.drew=wd at m |-;go_wp2_with fail;obtain⟨Q,F,s,q⟩:=nu wd #["","",(),()] 38;rw[<-F];have ah:=Zy m;have A:=m.trans s;clear F s;refine kk c e A ?_;clear e n;refine j3 rfl fun n e=>?_;go_wp2_with fail;refine(bJ Q A).mono ?_;rintro z w4 ⟨rfl,D⟩;have N:=q.ext D;have W:=Zy D;have e6:=A.trans D;obtain⟨zz,z0,z1,z2,z3,-⟩:=N.ca;obtain⟨bn,bq,bu,bz,-⟩:=N.fz;have⟨y,L⟩:=jw N e6;clear q N;go_wp2_with fail;refine kk c e e6 ?_;clear e n;refine kQ ?_;go_wp2_with fail;have E:=y.KV g.name g.jE (.slice aG g.fields.length aH) (.slice aK g.methods.length ax);go_meet;exact⟨_,rfl,E.1,L.own E.2 (fun k z=>Te ah.size),ah.o.size⟩
    obtain⟨b7,rfl,bL,aI,dP⟩:=hcut;obtain⟨w7,rfl⟩:∃w7,w7=wc:=⟨_,rfl⟩;have⟨aM,bW,ae,K⟩:=kD bL aI (HE.trans aI) (ay.trans aI);clear bL aI c p0 r0 r1;go_wp2_with fail;obtain⟨wo,rfl⟩:∃wo:World,wo=wr:=⟨_,rfl⟩;go_loopw [8,9] (fun l _ wr=>∃f:Nat,f<=d.methods.length/\l=.int .i64 (f:Int)/\Ext w7 wr/\Zz ((d.methods.take f).all (lh p o x)=true)) (fun l _ _=>d.methods.length - (intOf l).toNat)
    case atStart=>exact⟨0,Tz _,rfl,Kp.rr,Zy Zl⟩
    case round=>
     obtain⟨f,hj,rfl,j,aL⟩:=hrel;have az:=Zy j;obtain⟨sz,-,-,s2,s3,-⟩:=(y.ext (ae.trans j)).ca;by_cases av:f<d.methods.length
     . have dj:(f:Int)<d.methods.length:=Zm
       obtain⟨h,P⟩:∃h,d.methods[f]?=some h:=⟨d.methods[f]'av,CU av⟩;obtain⟨g3,q3,cZ,rfl,dh,aU,-,d3⟩:=((HM.ext jy.stays H).ext jy.stays (K.trans j)).get P;obtain⟨m1,m2,m3,m4,m5,m6,rfl⟩:=aU.form;obtain⟨V,y1,y2,y3,y4,y5,y6,y7⟩:=d3.eight;obtain⟨aF,C,aJ,b⟩:=lL wr;have u3:=fun a=>(y.ext ((ae.trans j).trans (b.jC a))).c 3 (.slice (some ⟨g3,q3,none⟩) d.methods.length mc) rfl;have v3:=fun a=>(aM.ext (j.trans (b.jC a))).c 3 (.slice aK g.methods.length ax) rfl;have t0:=fun a=>(b.jC a).jm V;have t1:=fun a=>(b.jC a).jm y1;have t2:=fun a=>(b.jC a).jm y2;have t3:=fun a=>(b.jC a).jm y3;have t4:=fun a=>(b.jC a).jm y4;have t5:=fun a=>(b.jC a).jm y5;have t6:=fun a=>(b.jC a).jm y6;have t7:=fun a=>(b.jC a).jm y7;have⟨c,S,cu,bU⟩:=kD b P aU d3;obtain⟨U,aa⟩:∃U,(g.methods.findIdx? fun C=>decide (C.name=h.name))=U:=⟨_,rfl⟩;have⟨ai,bF⟩:=jw (Pn aa) (fun t (B:Ext wr t)=>GJ t I g.methods ((((bH.ext jy.stays H).ext jy.stays (K.trans j)).ext jy.stays B)) h.name);rw[aa]at bF;clear P aU b V y1 y2 y3 y4 y5 y6 y7 d3 aa j s2;have df:(0:Int)<=(f:Int):=Zm
       go_upto_region 9 with(fail);go_cut [9] (fun s9 R=>s9=.int .i64 (M.De U)/\Ext wr R)
       case first=>
        refine lq c 9 [([0,1,2,3,4,5,6,7],8)] [] ?_ ?_
        . exact jA
        refine nE ?_;intro n e;have m:Ext wr wr.drew:=jA;go_wp2_with fail;refine(bF _ m).mono ?_;rintro z w9 ⟨rfl,T⟩;have e9:=m.trans T;go_wp2_with fail;refine kk c e e9 ?_;clear e n;refine lD ?_;go_wp2;go_meet;exact⟨rfl,e9⟩
       obtain⟨rfl,T⟩:=hcut;obtain⟨w9,rfl⟩:∃w9,w9=wc:=⟨_,rfl⟩;have bE:=Zy T;clear c u3 v3 t0 t1 t2 t3 t4 t5 t6 t7 s3 sz;obtain⟨aF,C,aJ,b⟩:=lL w9;cases U with
       |none=>
        simp only[M.De];have hg:decide ((0:Int)<= -1)=false:=rfl;have c:=Zy b;have aO:Zz (lh p o x h=true):=Zy (by unfold lh;rw[uG aD.o,show(g.methods.find? fun l=>decide (l.name=h.name))=none from ai.o]);have Y:=Zy (wI S aO aL);clear b T;go_upto_region 10 with(fail);refine zJ c ?_ ?_;rotate_left;(repeat (go_big_quiet_step ((fail))));refine TP ?_;(rintro _ ⟨sW,rfl⟩);rotate_left
        . exact jA
        go_wp2;go_round
        case rel=>exact⟨f+1,Zm,Zk,(az.o.trans bE.o).trans (c.o.jC sW),Y⟩
        case measure=>exact Zj
       | some i =>
        simp only[M.De];obtain⟨l,bf,bQ⟩:=ai.o;have dz:i<g.methods.length:=(Tt.1 bf).1;have di:(i:Int)<g.methods.length:=Zm
        have hg:decide ((0:Int)<=(i:Int))=true:=Tw Zm;have dI:(0:Int)<=(i:Int):=Zm
        have O:=az.trans T;obtain⟨g4,q4,dH,rfl,dK,aV,-,d4⟩:=((bH.ext jy.stays H).ext jy.stays (K.trans O)).get bf;obtain⟨n1,n2,n3,n4,n5,n6,rfl⟩:=aV.form;obtain⟨z0,z1,z2,z3,z4,z5,z6,z7⟩:=d4.eight;obtain⟨V,y1,y2,y3,y4,y5,y6,y7⟩:=(hQ.keep bU (fun dY v B=>T.jm B)).eight;have p0:=fun a=>(bB.ext ((K.trans O).trans (b.jC a))).c 0 (.slice aj p.length ak) rfl;have u3:=fun a=>(y.ext ((ae.trans O).trans (b.jC a))).c 3 (.slice (some ⟨g3,q3,none⟩) d.methods.length mc) rfl;have v3:=fun a=>(aM.ext (O.trans (b.jC a))).c 3 (.slice (some ⟨g4,q4,none⟩) g.methods.length ax) rfl;have i0:=fun a=>((K.trans O).trans (b.jC a)).jm bZ;have i1:=fun a=>((bW.trans O).trans (b.jC a)).jm cO;have t0:=fun a=>(b.jC a).jm V;have t1:=fun a=>(b.jC a).jm y1;have t2:=fun a=>(b.jC a).jm y2;have t3:=fun a=>(b.jC a).jm y3;have t4:=fun a=>(b.jC a).jm y4;have t5:=fun a=>(b.jC a).jm y5;have t6:=fun a=>(b.jC a).jm y6;have t7:=fun a=>(b.jC a).jm y7;have s0:=fun a=>(b.jC a).jm z0;have s1:=fun a=>(b.jC a).jm z1;have s2:=fun a=>(b.jC a).jm z2;have s3:=fun a=>(b.jC a).jm z3;have s4:=fun a=>(b.jC a).jm z4;have s5:=fun a=>(b.jC a).jm z5;have s6:=fun a=>(b.jC a).jm z6;have s7:=fun a=>(b.jC a).jm z7;have bI:=fun a=>jy.stays _ _ _ _ _ _ (Ext.same (I:=I) (b.jC a)) (fun _ B=>B) aV;have aQ:=fun a=>jy.stays _ _ _ _ _ _ (Ext.same (I:=I) (T.trans (b.jC a))) (fun _ B=>B) cu;have aB:=fun a=>NG (C a) I h l (aQ a) (bI a);have aC:=fun a=>cB (C a) ((K.trans O).trans (b.jC a)) x.keeper dx _ h (aQ a);obtain⟨b1,aW⟩:∃k,(decide (h.ret=l.ret)&&decide (h.args=l.args))=k:=⟨_,rfl⟩;obtain⟨b2,aX⟩:∃k,jY p o.keeper x.keeper h=k:=⟨_,rfl⟩;have aO:Zz (lh p o x h=(b1&&b2)):=Zy (by unfold lh;rw[uG aD.o,show(g.methods.find? fun l=>decide (l.name=h.name))=some l from bQ];simp only;rw[aW,aX]);simp only[aW]at aB;simp only[aX]at aC;have⟨c,aB,aC,dD⟩:=kD b aB aC O;clear bI aQ aV b V y1 y2 y3 y4 y5 y6 y7 z0 z1 z2 z3 z4 z5 z6 z7 d4 T O aW aX bf bQ dz;go_upto_region 10 with(fail);go_cut [78] (fun dC R=>dC=.bool !(b1&&b2)/\Ext w9 R)
        case first=>
         cases b1
         all_goals
          refine zJ c ?_ ?_;rotate_left;(repeat (go_big_quiet_step (first|(go_at_call 199;refine(aB _).mono ?_;rintro z w6 ⟨rfl,au⟩;exact⟨rfl,c.o.o w6 ((c.jC _).trans au)⟩)|(go_at_call 200;refine(aC _).mono ?_;rintro z w6 ⟨rfl,au⟩;exact⟨rfl,c.o.o w6 ((c.jC _).trans au)⟩))));refine TP ?_;(rintro _ ⟨sW,rfl⟩);rotate_left
          . exact jA
          go_wp2;go_meet;exact⟨Zl,c.jC sW⟩
        obtain⟨rfl,bN⟩:=hcut;obtain⟨bS,rfl⟩:∃bS,bS=wc:=⟨_,rfl⟩;have bD:=Zy ((az.trans bE).trans bN);clear bN c p0 u3 v3 i0 i1 t0 t1 t2 t3 t4 t5 t6 t7 s0 s1 s2 s3 s4 s5 s6 s7;obtain⟨bb,aY⟩:∃bb,(b1&&b2)=bb:=⟨_,rfl⟩;have bG:Zz (lh p o x h=bb):=Zy (aO.trans aY);rw[aY];clear aY;cases bb
        . have aP:Zz (false=ag):=Zy (by rw[<-HB.o,Av HX.o];unfold mG;rw[uG aN.o,Av S.o bG.o,Vt]);simp only[Bool.not_false];go_wp2;go_ret;exact⟨by rw[<-aP.o];rfl,(H.trans K).trans bD⟩
        . have Y:=Zy (wI S bG aL);simp only[Bool.not_true];go_wp2;go_round
          case rel=>exact⟨f+1,Zm,Zk,bD.o,Y⟩
          case measure=>exact Zj
     . have dj:¬(f:Int)<d.methods.length:=Zm
       have bT:Zz (d.methods.all (lh p o x)=true):=Zy (by have:=aL.o;rwa[Tq Zm]at this);clear j s2;go_wp2_with fail;obtain⟨wm,rfl⟩:∃wm:World,wm=wr:=⟨_,rfl⟩;clear s3 sz;go_loopw [10] (fun l wr=>∃f:Nat,f<=d.fields.length/\l=.int .i64 (f:Int)/\Ext wm wr/\Zz ((d.fields.take f).all (fun C=>(uu (cls p x) C.name).isNone)=true)) (fun l _=>d.fields.length - (intOf l).toNat)
       case atStart=>exact⟨0,Tz _,rfl,Kp.rr,Zy Zl⟩
       case round=>
        obtain⟨f,hj,rfl,j,bA⟩:=hrel;have⟨bX,X⟩:=jw j (az.trans j);obtain⟨sz,-,-,s2,-⟩:=(y.ext (ae.trans X)).ca;by_cases av:f<d.fields.length
        . have dj:(f:Int)<d.fields.length:=Zm
          obtain⟨h,P⟩:∃h,d.fields[f]?=some h:=⟨d.fields[f]'av,CU av⟩;obtain⟨g3,q3,cZ,rfl,dh,rfl,-,d3⟩:=((HF.ext lI.stays H).ext lI.stays (K.trans X)).get P;obtain⟨V,y1,y2⟩:=d3.three;obtain⟨aF,C,aJ,b⟩:=lL wr;have u2:=fun a=>(y.ext ((ae.trans X).trans (b.jC a))).c 2 (.slice (some ⟨g3,q3,none⟩) d.fields.length fc) rfl;have v2:=fun a=>(aM.ext (X.trans (b.jC a))).c 2 (.slice aG g.fields.length aH) rfl;have t0:=fun a=>(b.jC a).jm V;have S:=Zy P;obtain⟨U,aa⟩:∃U,(g.fields.findIdx? fun C=>decide (C.name=h.name))=U:=⟨_,rfl⟩;have ai:=Zy aa;have aA:=fun t (B:Ext wr t)=>PK t I g.fields ((((bY.ext lI.stays H).ext lI.stays (K.trans X)).ext lI.stays B)) h.name;rw[aa]at aA;have⟨aA,c⟩:=jw aA b;have df:(0:Int)<=(f:Int):=Zm
          clear P b V y1 y2 d3 aa j;go_wp2_with fail;refine zJ c ?_ ?_;rotate_left;(repeat (go_big_quiet_step ((go_at_call 153;refine(aA _ (c.jC _)).mono ?_;rintro z w6 ⟨rfl,au⟩;exact⟨rfl,c.o.o w6 ((c.jC _).trans au)⟩))));refine TP ?_;(rintro _ ⟨sW,rfl⟩);rotate_left
          . exact jA
          cases U with
          |none=>
           have Y:=Zy (wI S (by rw[uG aD.o];unfold uu;rw[ai.o];rfl) bA);simp only[M.De];go_wp2;go_round
           case rel=>exact⟨f+1,Zm,Zk,bX.o.trans (c.o.jC sW),Y⟩
           case measure=>exact Zj
          |some i=>
           have aP:Zz (false=ag):=Zy (by rw[<-HB.o,Av HX.o];unfold mG;rw[uG aN.o,Av S.o (by rw[uG aD.o];unfold uu;rw[ai.o];rfl),TB]);have dU:(0:Int)<=(i:Int):=Zm
           simp only[M.De];go_wp2;go_ret;exact⟨by rw[<-aP.o];rfl,((H.trans K).trans X).trans (c.jC sW)⟩
        . have dj:¬(f:Int)<d.fields.length:=Zm
          have cz:Zz (mG p o x=true):=Zy (by
           have:=bA.o;rw[Tq Zm]at this;unfold mG;rw[uG aN.o,bT.o,this];rfl)
          have Y:=Zy (wI HX cz HA);clear j;go_wp2;go_round
          case rel=>exact⟨u+1,Zm,Zk,ae.o.trans X.o,Y⟩
          case measure=>exact Zj
  . have dk:¬((u+1:Nat):Int)<Z:=Te HN.o
    have S:Zz (true=ag):=Zy (by have:=HA.o;rw[Tq Zm]at this;rw[<-HB.o,this]);clear j;go_wp2;go_ret;exact⟨by rw[<-S.o];rfl,(H.trans L).trans HE⟩
end Go.Proofs.YtenhnldnpdlniaaGreat
