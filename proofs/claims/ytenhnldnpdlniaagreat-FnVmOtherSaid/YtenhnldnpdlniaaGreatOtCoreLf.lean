/- Walks. -/
import Derived.Test.YtenhnldnpdlniaaGreatOtCoreLd
set_option maxRecDepth 100000
set_option maxHeartbeats 4000000
set_option linter.all false
namespace Go.Proofs.YtenhnldnpdlniaaGreat
open Go Go.RowKit Tryz M
variable {k: Nat}{α: Type}{w: World}
theorem zI(k:Int)(s:ByteArray){w:World}:Calls prog 136 #[.agg #[k,s]] w fun c f=>c=.returned (.bool (kY ⟨k,s⟩))/\Ext w f:=by
 have i:kY ⟨k,s⟩=((k==1)&&(s.toList==[])|| (k==2)&&jf s):=by unfold kY;simp only[qo]
 rw[i];clear i;obtain⟨e,n⟩:∃e,(s.toList==[])=e:=⟨_,rfl⟩;have b:=fun j=>Zy (kg s j);obtain⟨a,d⟩:∃a,jf s=a:=⟨_,rfl⟩;rw[n,d];simp only[d]at b;clear d;by_cases g:k=1
 . subst g;cases e<;>cases a
   all_goals
    go_enter func136,ntmps136;go_wp2_with (go_at_call 117;refine(b _).o.mono ?_;rintro c f ⟨rfl,rfl⟩)
    all_goals
     go_ret;exact⟨rfl,Zx⟩
 have l:=SI.2 g;by_cases h:k=2
 . subst h;cases a
   all_goals
    go_enter func136,ntmps136;go_wp2_with (go_at_call 117;refine(b _).o.mono ?_;rintro c f ⟨rfl,rfl⟩)
    all_goals
     go_ret;exact⟨rfl,Zx⟩
 have m:=SI.2 h;rw[l,m];go_enter func136,ntmps136;go_wp2_with fail
 all_goals
  go_ret;exact⟨rfl,Zx⟩
theorem Le(op a:Int)(n m:ByteArray)(w:World)(i:op=1\/op=2\/op=3\/op=11\/op=12\/op=13):Calls prog 133 #[.agg #[op,a,n,m]] w fun d f=>d=.returned (.bool (kE ⟨op,a,n,m⟩))/\Ext w f:=by
 have l:kE ⟨op,a,n,m⟩=((decide (pX op<=a)&&decide (a<=qG op))&&(n.toList==[])&&(m.toList==[])):=by
  unfold kE;simp only[qo];rcases i with rfl|rfl|rfl|rfl|rfl|rfl<;>simp[isNum,oG,pq,qY,V9,VB,Va]
 rw[l];clear l;obtain⟨c,q⟩:∃c,(n.toList==[])=c:=⟨_,rfl⟩;obtain⟨s,r⟩:∃c,(m.toList==[])=c:=⟨_,rfl⟩;have p:=fun g=>Zy (kg n g);have o:=fun g=>Zy (kg m g);obtain⟨e,j⟩:∃e,jf n=e:=⟨_,rfl⟩;obtain⟨t,k⟩:∃e,jf m=e:=⟨_,rfl⟩;simp only[j]at p;simp only[k]at o;rw[q,r];clear j k;rcases i with rfl|rfl|rfl|rfl|rfl|rfl
 all_goals
  simp only[pX,qG,Int.reduceEq,UC,UJ,or_true,true_or,or_false,or_self];generalize h:(decide (_<=a)&&decide (a<=_))=b;cases b
  . simp only[U3];go_enter func133,ntmps133;go_wp2_with (go_at_call 76;refine(ry).mono ?_;rintro d f ⟨rfl,rfl⟩;rw[h])
    all_goals
     go_ret;exact⟨rfl,Zx⟩
  cases c
  . simp only[TB,U3];go_enter func133,ntmps133;go_wp2_with (go_at_call 76;refine(ry).mono ?_;rintro d f ⟨rfl,rfl⟩;rw[h])
    all_goals
     go_ret;exact⟨rfl,Zx⟩
  simp only[TB];cases s
  all_goals
   go_enter func133,ntmps133;go_wp2_with (go_at_call 76;refine(ry).mono ?_;rintro d f ⟨rfl,rfl⟩;rw[h])
   all_goals
    go_ret;exact⟨rfl,Zx⟩
theorem Lf(op a:Int)(n m:ByteArray)(w:World)(f:op=4\/op=5\/op=10\/op=14):Calls prog 133 #[.agg #[op,a,n,m]] w fun l r=>l=.returned (.bool (kE ⟨op,a,n,m⟩))/\Ext w r:=by
 have i:kE ⟨op,a,n,m⟩=(decide (a=0)&&(n.toList==[])&&(m.toList==[])):=by
  unfold kE;simp only[qo];rcases f with rfl|rfl|rfl|rfl<;>simp[isNum,oG,pq,qY,V9,VB,Va]
 rw[i];clear i;obtain⟨b,o⟩:∃b,(n.toList==[])=b:=⟨_,rfl⟩;obtain⟨q,p⟩:∃b,(m.toList==[])=b:=⟨_,rfl⟩;have k:=fun d=>Zy (kg n d);have j:=fun d=>Zy (kg m d);obtain⟨c,g⟩:∃c,jf n=c:=⟨_,rfl⟩;obtain⟨t,h⟩:∃c,jf m=c:=⟨_,rfl⟩;simp only[g]at k;simp only[h]at j;rw[o,p];clear g h;rcases f with rfl|rfl|rfl|rfl
 all_goals
  by_cases e:a=0
  . subst e;simp only[decide_true,TB];cases b
    . simp only[TB,U3];go_enter func133,ntmps133;go_wp2_with (fail)
      all_goals
       go_ret;exact⟨rfl,Zx⟩
    simp only[TB];cases q
    all_goals
     go_enter func133,ntmps133;go_wp2_with (fail)
     all_goals
      go_ret;exact⟨rfl,Zx⟩
  . have s:=SI.2 e;rw[RN e];simp only[U3];go_enter func133,ntmps133;go_wp2_with (fail)
    all_goals
     go_ret;exact⟨rfl,Zx⟩
theorem Lc(op a:Int)(n m:ByteArray)(w:World)(j:op=6\/op=15):Calls prog 133 #[.agg #[op,a,n,m]] w fun f i=>f=.returned (.bool (kE ⟨op,a,n,m⟩))/\Ext w i:=by
 have l:kE ⟨op,a,n,m⟩=(decide (a=0)&&jf n&&(m.toList==[])):=by
  unfold kE;simp only[qo];rcases j with rfl|rfl<;>simp[isNum,oG,pq,qY,V9,VB,Va]
 rw[l];clear l;obtain⟨c,s⟩:∃c,(n.toList==[])=c:=⟨_,rfl⟩;obtain⟨q,p⟩:∃c,(m.toList==[])=c:=⟨_,rfl⟩;have d:=fun e=>Zy (kg n e);have o:=fun e=>Zy (kg m e);obtain⟨b,h⟩:∃b,jf n=b:=⟨_,rfl⟩;obtain⟨t,k⟩:∃b,jf m=b:=⟨_,rfl⟩;simp only[h]at d;simp only[k]at o;rw[p,h];clear h k;rcases j with rfl|rfl
 all_goals
  by_cases g:a=0
  . subst g;simp only[decide_true,TB];cases b
    . simp only[TB,U3];go_enter func133,ntmps133;go_wp2_with (go_at_call 117;refine(d _).o.mono ?_;rintro f i ⟨rfl,rfl⟩)
      all_goals
       go_ret;exact⟨rfl,Zx⟩
    simp only[TB];cases q
    all_goals
     go_enter func133,ntmps133;go_wp2_with (go_at_call 117;refine(d _).o.mono ?_;rintro f i ⟨rfl,rfl⟩)
     all_goals
      go_ret;exact⟨rfl,Zx⟩
  . have r:=SI.2 g;rw[RN g];simp only[U3];go_enter func133,ntmps133;go_wp2_with (fail)
    all_goals
     go_ret;exact⟨rfl,Zx⟩
theorem Ld(op a:Int)(n m:ByteArray)(w:World)(l:op=7\/op=8\/op=9):Calls prog 133 #[.agg #[op,a,n,m]] w fun b d=>b=.returned (.bool (kE ⟨op,a,n,m⟩))/\Ext w d:=by
 have o:kE ⟨op,a,n,m⟩=(decide (a=0)&&jf n&&jf m):=by
  unfold kE;simp only[qo];rcases l with rfl|rfl|rfl<;>simp[isNum,oG,pq,qY,V9,VB,Va]
 rw[o];clear o;obtain⟨e,r⟩:∃e,(n.toList==[])=e:=⟨_,rfl⟩;obtain⟨t,s⟩:∃e,(m.toList==[])=e:=⟨_,rfl⟩;have g:=fun h=>Zy (kg n h);have f:=fun h=>Zy (kg m h);obtain⟨c,j⟩:∃c,jf n=c:=⟨_,rfl⟩;obtain⟨p,k⟩:∃c,jf m=c:=⟨_,rfl⟩;simp only[j]at g;simp only[k]at f;rw[j,k];clear j k;rcases l with rfl|rfl|rfl
 all_goals
  by_cases i:a=0
  . subst i;simp only[decide_true,TB];cases c
    . simp only[TB,U3];go_enter func133,ntmps133;go_wp2_with (go_at_call 117;first|(with_reducible refine(g _).o.mono ?_;rintro b d ⟨rfl,rfl⟩)|(with_reducible refine(f _).o.mono ?_;rintro b d ⟨rfl,rfl⟩))
      all_goals
       go_ret;exact⟨rfl,Zx⟩
    simp only[TB];cases p
    all_goals
     go_enter func133,ntmps133;go_wp2_with (go_at_call 117;first|(with_reducible refine(g _).o.mono ?_;rintro b d ⟨rfl,rfl⟩)|(with_reducible refine(f _).o.mono ?_;rintro b d ⟨rfl,rfl⟩))
     all_goals
      go_ret;exact⟨rfl,Zx⟩
  . have q:=SI.2 i;rw[RN i];simp only[U3];go_enter func133,ntmps133;go_wp2_with (fail)
    all_goals
     go_ret;exact⟨rfl,Zx⟩
theorem Nz(op a:Int)(n m:ByteArray)(w:World)(x:¬(1<=op/\op<=15)):Calls prog 133 #[.agg #[op,a,n,m]] w fun d v=>d=.returned (.bool (kE ⟨op,a,n,m⟩))/\Ext w v:=by
 have b:∀c:Int,1<=c->c<=15->(op==c)=false:=fun c y z=>SI.2 Zm;have e:=b 1 Zm Zm;have l:=b 2 Zm Zm;have o:=b 3 Zm Zm;have p:=b 4 Zm Zm;have q:=b 5 Zm Zm;have r:=b 6 Zm Zm;have s:=b 7 Zm Zm;have t:=b 8 Zm Zm;have u:=b 9 Zm Zm;have f:=b 10 Zm Zm;have g:=b 11 Zm Zm;have h:=b 12 Zm Zm;have i:=b 13 Zm Zm;have j:=b 14 Zm Zm;have k:=b 15 Zm Zm;clear b;simp only[kE,isNum,oG,pq,qY,e,l,o,p,q,r,s,t,u,f,g,h,i,j,k,Bool.or_false,UN,UJ];go_enter func133,ntmps133;go_wp2_with fail
 all_goals
  go_ret;exact⟨rfl,Zx⟩
theorem Gn(op a:Int)(n m:ByteArray){w:World}:Calls prog 133 #[.agg #[op,a,n,m]] w fun c e=>c=.returned (.bool (kE ⟨op,a,n,m⟩))/\Ext w e:=by
 by_cases b:1<=op/\op<=15
 . have d:(op=1\/op=2\/op=3\/op=11\/op=12\/op=13)\/(op=4\/op=5\/op=10\/op=14)\/(op=6\/op=15)\/(op=7\/op=8\/op=9):=Zm
   rcases d with b|b|b|b
   . exact Le op a n m w b
   . exact Lf op a n m w b
   . exact Lc op a n m w b
   . exact Ld op a n m w b
 . exact Nz op a n m w b
theorem all_succ{p:α->Bool}{l:List α}{x:α}(a:(l.take k).all p=true)(c:l[k]?=some x)(b:p x=true):(l.take (k+1)).all p=true:=by
 rw[Tm,c,V5,a];simp[b]
theorem rJ{p:α->Bool}{l:List α}{x:α}(b:l[k]?=some x)(a:p x=false):l.all p=false:=
 VT.2 ⟨x,Sy b,by simp[a]⟩
theorem qc{p:α->Bool}{l:List α}(a:(l.take k).all p=true)(b:l.length<=k):l.all p=true:=by
 rw[Tu b]at a;exact a
theorem get_some{l:List α}(a:k<l.length):∃b,l[k]?=some b:=⟨_,Dj a⟩
theorem Ia{I:Nat->Prop}{v:Value}{l:List Tag}(h:SliceOf 2 kU w I v l):Calls prog 213 #[v] w fun g o=>g=.returned (.bool (qy l))/\Ext w o:=by
 obtain⟨p,r,rfl,B,z⟩:=h.form;go_enter func213,ntmps213;go_wp2;go_loopw [7] (fun d wr=>∃a:Nat,a<=l.length/\d=.int .i64 a/\Ext w wr/\Zz ((l.take a).all oZ=true)) (fun d _=>l.length - (intOf d).toNat)
 case atStart=>exact⟨0,T9 _,rfl,Kp.rr,Zy Zl⟩
 case round =>
  obtain⟨a,A,rfl,m,e⟩:=hrel;by_cases n:a<l.length
  . obtain⟨k,c⟩:=get_some n;obtain⟨q,C,s,rfl,y,rfl,-,i⟩:=h.get c;obtain⟨t,u⟩:=(i.ext m).two;have f:=Zy c;clear c i;cases j:oZ k
    all_goals
     have b:=Zy j;clear j;go_wp2_with (go_at_call 236;refine(RB k).mono ?_;rintro g D ⟨rfl,x⟩;rw[b.o])
    . go_ret;exact⟨hQ (rJ f b).symm,Zv⟩
    . go_roundw
      case rel=>exact⟨a+1,Zm,by go_num,Zv,Zy (all_succ e.o f.o b.o)⟩
      case measure=>simp[intOf];omega
  . go_wp2;go_ret;exact⟨hQ (qc e Zm).symm,kx⟩
theorem P5 {I: Nat -> Prop} {cs: List Value} {m: M.Method} (x : jb w I m cs) :Calls prog 171 #[.agg cs.toArray] w fun i A=>i=.returned (.bool (codeOk m))/\Ext w A:=by
 obtain⟨n,W,o,rfl,H,r,J⟩:=x;obtain⟨g,h,rfl,S,N⟩:=r.form;by_cases Q:m.code.length<1
 . go_enter func171,ntmps171;go_wp2;go_ret;exact⟨hQ (by unfold codeOk;rw[RN Zm];rfl),kx⟩
 by_cases R:16<m.code.length
 . go_enter func171,ntmps171;go_wp2;go_ret;exact⟨hQ (by unfold codeOk;rw[RN (p:=m.code.length<=16) Zm];simp),kx⟩
 have e:Zz (codeOk m=m.code.all (nJ m)):=Zy (by
  unfold codeOk;rw[SY Zm,SY Zm];rfl)
 go_enter func171,ntmps171;go_wp2;have y:Ext w (w.alloc (.cells #[m.name,n,m.ret.kind,m.ret.name,m.locals,m.stack,.slice g m.code.length h,o] 113)):=(jh _);have v:=h9.new w 113 #[m.name,n,m.ret.kind,m.ret.name,m.locals,m.stack,.slice g m.code.length h,o];obtain⟨-,-,-,-,-,t,-,u,-⟩:=v.ca;go_loopw [18] (fun l wr=>∃b:Nat,b<=m.code.length/\l=.int .i64 b/\Ext (w.alloc (.cells #[m.name,n,m.ret.kind,m.ret.name,m.locals,m.stack,.slice g m.code.length h,o] 113)) wr/\Zz ((m.code.take b).all (nJ m)=true)) (fun l _=>m.code.length - (intOf l).toNat)
 case atStart=>exact⟨0,T9 _,rfl,Kp.rr,Zy Zl⟩
 case round =>
  obtain⟨b,P,rfl,j,q⟩:=hrel;by_cases z:b<m.code.length
  . obtain ⟨p, k⟩ := get_some z; obtain ⟨C, T, cs, rfl, K, rfl,-, s⟩ := r.get k; obtain ⟨D, E, F, G⟩ := ((s.ext y).ext j).four; have q4 := j.iW t; have q6 := j.iW u; have f := Zy k; clear k s t u; cases d : kE p
    . have a:=Zy d;clear d;go_wp2_with (go_at_call 212;refine(OC p).mono ?_;rintro i B ⟨rfl,c⟩;rw[a.o]);go_ret;exact⟨hQ (by rw[e.o];exact(rJ f (by unfold nJ;rw[a.o];rfl)).symm),Zv⟩
    . have a := Zy d; clear d; go_wp2_with (go_at_call 212; refine (OC p).mono ?_; rintro i B ⟨rfl, c⟩; rw [a.o]; have U := c.LH q4; have V := c.LH q6; obtain ⟨L, O⟩ := Ir c)
      all_goals first
       | (go_ret
          exact⟨hQ (by
           rw[e.o];exact(rJ f (by unfold nJ;rw[a.o];(repeat' split)<;>simp<;>simp_all<;>omega)).symm),Zv⟩)
       | (go_roundw
          case rel=>
           exact⟨b+1,Zm,by go_num,Zv,Zy (all_succ q.o f.o (by
            unfold nJ;rw[a.o];(repeat' split)<;>simp<;>simp_all<;>omega))⟩
          case measure=>simp[intOf];omega)
  . go_wp2;go_ret;exact⟨hQ (by rw[e.o];exact(qc q Zm).symm),Zv⟩
end Go.Proofs.YtenhnldnpdlniaaGreat
