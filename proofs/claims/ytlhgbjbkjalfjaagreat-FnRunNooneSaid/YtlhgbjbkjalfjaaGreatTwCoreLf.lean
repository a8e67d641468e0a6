/- Walks. -/
import Derived.Test.YtlhgbjbkjalfjaaGreatTwCoreLd
set_option maxRecDepth 100000
set_option maxHeartbeats 4000000
set_option linter.all false
namespace Go.Proofs.YtlhgbjbkjalfjaaGreat
open Go Go.RowKit Tryz M
variable {cs: List Value}{m: M.Method}{k: Nat}{I: Nat -> Prop}{α: Type}{w: World}
theorem all_succ{p:α->Bool}{l:List α}{x:α}(a:(l.take k).all p=true)(c:l[k]?=some x)(b:p x=true):(l.take (k+1)).all p=true:=by
 rw[TQ,c,We,a];simp[b]
theorem rM{p:α->Bool}{l:List α}{x:α}(b:l[k]?=some x)(a:p x=false):l.all p=false:=
 Ws.2 ⟨x,RA b,by simp[a]⟩
theorem qg{p:α->Bool}{l:List α}(a:(l.take k).all p=true)(b:l.length<=k):l.all p=true:=by
 rw[TV b]at a;exact a
theorem get_some{l:List α}(a:k<l.length):∃b,l[k]?=some b:=⟨_,Ou a⟩
theorem Hd{I:Nat->Prop}{v:Value}{l:List Tag}(h:SliceOf 2 kF w I v l):Calls prog 208 #[v] w fun g o=>g=.returned (.bool (wZ l))/\Ext w o:=by
 obtain⟨p,r,rfl,B,z⟩:=h.form;go_enter func208,ntmps208;go_wp2;go_loopw [7] (fun d wr=>∃a:Nat,a<=l.length/\d=.int .i64 a/\Ext w wr/\Zz ((l.take a).all sZ=true)) (fun d _=>l.length - (intOf d).toNat)
 case atStart=>exact⟨0,SV _,rfl,Kp.rr,Zy Zl⟩
 case round =>
  obtain⟨a,A,rfl,m,e⟩:=hrel;by_cases n:a<l.length
  . obtain⟨k,c⟩:=get_some n;obtain⟨q,C,s,rfl,y,rfl,-,i⟩:=h.get c;obtain⟨t,u⟩:=(i.ext m).two;have f:=Zy c;clear c i;cases j:sZ k
    all_goals
     have b:=Zy j;clear j;go_wp2_with (go_at_call 233;refine(Rp k).mono ?_;rintro g D ⟨rfl,x⟩;rw[b.o])
    . go_ret;exact⟨hQ (rM f b).symm,Zv⟩
    . go_roundw
      case rel=>exact⟨a+1,Zm,by go_num,Zv,Zy (all_succ e.o f.o b.o)⟩
      case measure=>simp[intOf];omega
  . go_wp2;go_ret;exact⟨hQ (qg e Zm).symm,kx⟩
theorem O8 (x : jd w I m cs) :Calls prog 190 #[.agg cs.toArray] w fun i A=>i=.returned (.bool (codeOk m))/\Ext w A:=by
 obtain⟨n,W,o,rfl,H,r,J⟩:=x;obtain⟨g,h,rfl,S,N⟩:=r.form;by_cases Q:m.code.length<1
 . go_enter func190,ntmps190;go_wp2;go_ret;exact⟨hQ (by unfold codeOk;rw[SL Zm];rfl),kx⟩
 by_cases R:16<m.code.length
 . go_enter func190,ntmps190;go_wp2;go_ret;exact⟨hQ (by unfold codeOk;rw[SL (p:=m.code.length<=16) Zm];simp),kx⟩
 have e:Zz (codeOk m=m.code.all (oP m)):=Zy (by
  unfold codeOk;rw[Tz Zm,Tz Zm];rfl)
 go_enter func190,ntmps190;go_wp2;have y:Ext w (w.alloc (.cells #[m.name,n,m.ret.kind,m.ret.name,m.locals,m.stack,.slice g m.code.length h,o] 132)):=(jw _);have v:=hZ.new w 132 #[m.name,n,m.ret.kind,m.ret.name,m.locals,m.stack,.slice g m.code.length h,o];obtain⟨-,-,-,-,-,t,-,u,-⟩:=v.ca;go_loopw [18] (fun l wr=>∃b:Nat,b<=m.code.length/\l=.int .i64 b/\Ext (w.alloc (.cells #[m.name,n,m.ret.kind,m.ret.name,m.locals,m.stack,.slice g m.code.length h,o] 132)) wr/\Zz ((m.code.take b).all (oP m)=true)) (fun l _=>m.code.length - (intOf l).toNat)
 case atStart=>exact⟨0,SV _,rfl,Kp.rr,Zy Zl⟩
 case round =>
  obtain⟨b,P,rfl,j,q⟩:=hrel;by_cases z:b<m.code.length
  . obtain ⟨p, k⟩ := get_some z; obtain ⟨C, T, cs, rfl, K, rfl,-, s⟩ := r.get k; obtain ⟨D, E, F, G⟩ := ((s.ext y).ext j).four; have q4 := j.je t; have q6 := j.je u; have f := Zy k; clear k s t u; cases d : pM p
    . have a:=Zy d;clear d;go_wp2_with (go_at_call 207;refine(Ny p).mono ?_;rintro i B ⟨rfl,c⟩;rw[a.o]);go_ret;exact⟨hQ (by rw[e.o];exact(rM f (by unfold oP;rw[a.o];rfl)).symm),Zv⟩
    . have a := Zy d; clear d; go_wp2_with (go_at_call 207; refine (Ny p).mono ?_; rintro i B ⟨rfl, c⟩; rw [a.o]; have U := c.KD q4; have V := c.KD q6; obtain ⟨L, O⟩ := Hu c)
      all_goals first
       | (go_ret
          exact⟨hQ (by
           rw[e.o];exact(rM f (by unfold oP;rw[a.o];(repeat' split)<;>simp<;>simp_all<;>omega)).symm),Zv⟩)
       | (go_roundw
          case rel=>
           exact⟨b+1,Zm,by go_num,Zv,Zy (all_succ q.o f.o (by
            unfold oP;rw[a.o];(repeat' split)<;>simp<;>simp_all<;>omega))⟩
          case measure=>simp[intOf];omega)
  . go_wp2;go_ret;exact⟨hQ (by rw[e.o];exact(qg q Zm).symm),Zv⟩
theorem drop_at{l:List α}{x:α}(b:l[k]?=some x):l.drop k=x::l.drop (k+1):=by
 obtain⟨c,a⟩:=Tw.1 b;rw[Vy c,a]
theorem Fe{last:Int}{x:SMap}(a:m.maps[k]?=some x):rW m last (m.maps.drop k)=(decide (last<x.at_)&&xC m x&&rW m x.at_ (m.maps.drop (k+1))):=by
 rw[drop_at a];rfl
theorem AB(m:M.Method)(f:SMap):xC m f=(decide (f.at_ <m.code.length)&&decide ((f.locals.length:Int)=m.locals)&&decide ((f.stack.length:Int)<=m.stack)&&wZ f.locals&&wZ f.stack):=rfl
theorem PI (L : jd w I m cs) :Calls prog 191 #[.agg cs.toArray] w fun i R=>i=.returned (.bool (yo m))/\Ext w R:=by
 obtain⟨y,vc,vm,rfl,h1,N,A⟩:=L;obtain⟨n,p,rfl,hn,af⟩:=A.form;obtain⟨o,q,rfl,au,ag⟩:=N.form;by_cases ak:5<m.maps.length
 . go_enter func191,ntmps191;go_wp2;go_ret;exact⟨hQ (by unfold yo;rw[SL Zm];rfl),kx⟩
 have d:Zz (yo m=rW m 0 m.maps):=Zy (by
  unfold yo;rw[Tz Zm];rfl)
 go_enter func191,ntmps191;go_wp2;have K:=hZ.new w 132 #[m.name,y,m.ret.kind,m.ret.name,m.locals,m.stack,.slice o m.code.length q,.slice n m.maps.length p];obtain⟨-,-,-,-,-,D,E,F,-⟩:=K.ca;have s:Ext w (w.alloc (.cells #[m.name,y,m.ret.kind,m.ret.name,m.locals,m.stack,.slice o m.code.length q,.slice n m.maps.length p] 132)):=(jw _);generalize (w.alloc (.cells #[m.name,y,m.ret.kind,m.ret.name,m.locals,m.stack,.slice o m.code.length q,.slice n m.maps.length p] 132))=w0 at*;go_loopw [13,3] (fun u P wr=>∃g:Nat,∃last:Int,g<=m.maps.length/\u=.int .i64 g/\P=.int .i64 last/\Ext w0 wr/\Zz (rW m 0 m.maps=rW m last (m.maps.drop g))) (fun u _ _=>m.maps.length - (intOf u).toNat)
 case atStart=>exact⟨0,0,SV _,rfl,rfl,Kp.rr,Zy Zl⟩
 case round =>
  obtain⟨g,last,hk,rfl,rfl,f,b⟩:=hrel;by_cases O:g<m.maps.length
  . obtain⟨a,t⟩:=get_some O;obtain⟨V,ay,cs,rfl,hI,⟨vl,vs,rfl,v,x⟩,-,B⟩:=A.get t;obtain⟨T,W,rfl,av,ah⟩:=v.form;obtain⟨U,X,rfl,ax,ai⟩:=x.form;obtain⟨Y,Z,g2⟩:=((B.ext s).ext f).three;have q4:=f.je D;have q5:=f.je E;have q6:=f.je F;have hz:=jc q6;have⟨z,H,c⟩:=jB ((v.ext kF.stays s).ext kF.stays f) ((x.ext kF.stays s).ext kF.stays f) (Fe (last:=last) t);clear t B D E F v x;by_cases t1:a.at_<=last
    . go_wp2;go_ret;exact⟨hQ (by rw[d.o,b.o,c.o,SL Zm];rfl),Zv⟩
    by_cases t2:(m.code.length:Int)<=a.at_
    . go_wp2;go_ret;exact⟨hQ (by rw[d.o,b.o,c.o,AB,SL (p:=a.at_ <m.code.length) Zm];simp),Zv⟩
    by_cases h:(a.locals.length:Int)=m.locals
    case neg=>
     have Q:=SF.2 h;go_wp2;go_ret;exact⟨hQ (by rw[d.o,b.o,c.o,AB,SL (p:=(a.locals.length:Int)=m.locals) h];simp),Zv⟩
    have J:=Zy h;have Q:=Uq.2 h;clear h;by_cases t4:m.stack<(a.stack.length:Int)
    . go_wp2;go_ret;exact⟨hQ (by rw[d.o,b.o,c.o,AB,SL (p:=(a.stack.length:Int)<=m.stack) Zm];simp),Zv⟩
    have k:Zz (xC m a=(wZ a.locals&&wZ a.stack)):=Zy (by
     rw[AB,Tz (p:=a.at_ <m.code.length) Zm,Tz (p:=(a.locals.length:Int)=m.locals) J.o,Tz (p:=(a.stack.length:Int)<=m.stack) Zm];rfl)
    have G:Zz (decide (last<a.at_)=true):=Zy (Tz Zm);cases j:wZ a.locals
    . have e:=Zy j;clear j;go_wp2_with fail;refine(Hd (z.ext kF.stays (jw _))).mono ?_;rintro i S ⟨rfl,r⟩;rw[e.o];go_wp2;go_ret;exact⟨hQ (by rw[d.o,b.o,c.o,k.o,e.o];simp),Zv⟩
    . have e:=Zy j;clear j;go_wp2_with fail;refine(Hd (z.ext kF.stays (jw _))).mono ?_;rintro i S ⟨rfl,r⟩;rw[e.o];obtain⟨ae,aj⟩:=Hu r;cases C:wZ a.stack
      all_goals
       have l:=Zy C;clear C;go_wp2_with fail;refine(Hd ((H.ext kF.stays (jw _)).ext kF.stays r)).mono ?_;rintro i w2 ⟨rfl,aa⟩;rw[l.o];go_wp2
      . go_ret;exact⟨hQ (by rw[d.o,b.o,c.o,k.o,e.o,l.o];simp),Zv⟩
      . go_roundw
        case rel=>exact⟨g+1,a.at_,Zm,by go_num,rfl,Zv,Zy (by rw[b.o,c.o,k.o,G.o,e.o,l.o];rfl)⟩
        case measure=>simp[intOf];omega
  . go_wp2;go_ret;exact⟨hQ (by rw[d.o,b.o,Vm Zm];rfl),Zv⟩
end Go.Proofs.YtlhgbjbkjalfjaaGreat
