/- Walks. -/
import Derived.Test.YtlhlnddgfcmfkaaGreatRsCoreLb
import Derived.Test.YtlhlnddgfcmfkaaGreatRsCoreLd
set_option maxRecDepth 100000
set_option maxHeartbeats 4000000
set_option linter.all false
namespace Go.Proofs.YtlhlnddgfcmfkaaGreat
open Go Go.RowKit Tryz
theorem Bo(k:Int)(s:ByteArray){w:World}:Calls prog 184 #[.agg #[k,s]] w fun c f=>c=.returned (.bool (M.lD ⟨k,s⟩))∧Ext w f:=by
 have i:M.lD ⟨k,s⟩=((k==1)&&(s.toList==[])|| (k==2)&&M.jC s):=by unfold M.lD;simp only[pO]
 rw[i];clear i;obtain⟨e,n⟩:∃e,(s.toList==[])=e:=⟨_,rfl⟩;have b:=fun j=>Zy (kF s j);obtain⟨a,d⟩:∃a,M.jC s=a:=⟨_,rfl⟩;rw[n,d];simp only[d]at b;clear d;by_cases g:k=1
 . subst g;cases e<;>cases a
   all_goals
    go_enter func184,ntmps184;go_wp2_with (go_at_call 165;refine(b _).o.mono ?_;rintro c f ⟨rfl,rfl⟩)
    all_goals
     go_ret;exact⟨rfl,Zx⟩
 have l:=beq_eq_false_iff_ne.2 g;by_cases h:k=2
 . subst h;cases a
   all_goals
    go_enter func184,ntmps184;go_wp2_with (go_at_call 165;refine(b _).o.mono ?_;rintro c f ⟨rfl,rfl⟩)
    all_goals
     go_ret;exact⟨rfl,Zx⟩
 have m:=beq_eq_false_iff_ne.2 h;rw[l,m];go_enter func184,ntmps184;go_wp2_with fail
 all_goals
  go_ret;exact⟨rfl,Zx⟩
theorem Jo(op a:Int)(n m:ByteArray)(w:World)(i:op=1∨op=2∨op=3∨op=11∨op=12∨op=13):Calls prog 143 #[.agg #[op,a,n,m]] w fun d f=>d=.returned (.bool (M.lv ⟨op,a,n,m⟩))∧Ext w f:=by
 have l:M.lv ⟨op,a,n,m⟩=((decide (M.pQ op<=a)&&decide (a<=M.qI op))&&(n.toList==[])&&(m.toList==[])):=by
  unfold M.lv;simp only[pO];rcases i with rfl|rfl|rfl|rfl|rfl|rfl<;>simp[M.isNum,M.oO,M.pM,M.qU,Bool.and_assoc,Bool.and_comm,Bool.and_left_comm]
 rw[l];clear l;obtain⟨c,q⟩:∃c,(n.toList==[])=c:=⟨_,rfl⟩;obtain⟨s,r⟩:∃c,(m.toList==[])=c:=⟨_,rfl⟩;have p:=fun g=>Zy (kF n g);have o:=fun g=>Zy (kF m g);obtain⟨e,j⟩:∃e,M.jC n=e:=⟨_,rfl⟩;obtain⟨t,k⟩:∃e,M.jC m=e:=⟨_,rfl⟩;simp only[j]at p;simp only[k]at o;rw[q,r];clear j k;rcases i with rfl|rfl|rfl|rfl|rfl|rfl
 all_goals
  simp only[M.pQ,M.qI,Int.reduceEq,if_true,if_false,or_true,true_or,or_false,or_self];generalize h:(decide (_<=a)&&decide (a<=_))=b;cases b
  . simp only[Bool.false_and];go_enter func143,ntmps143;go_wp2_with (go_at_call 141;refine(qC).mono ?_;rintro d f ⟨rfl,rfl⟩;rw[h])
    all_goals
     go_ret;exact⟨rfl,Zx⟩
  cases c
  . simp only[Bool.true_and,Bool.false_and];go_enter func143,ntmps143;go_wp2_with (go_at_call 141;refine(qC).mono ?_;rintro d f ⟨rfl,rfl⟩;rw[h])
    all_goals
     go_ret;exact⟨rfl,Zx⟩
  simp only[Bool.true_and];cases s
  all_goals
   go_enter func143,ntmps143;go_wp2_with (go_at_call 141;refine(qC).mono ?_;rintro d f ⟨rfl,rfl⟩;rw[h])
   all_goals
    go_ret;exact⟨rfl,Zx⟩
theorem Jq(op a:Int)(n m:ByteArray)(w:World)(f:op=4∨op=5∨op=10∨op=14):Calls prog 143 #[.agg #[op,a,n,m]] w fun l r=>l=.returned (.bool (M.lv ⟨op,a,n,m⟩))∧Ext w r:=by
 have i:M.lv ⟨op,a,n,m⟩=(decide (a=0)&&(n.toList==[])&&(m.toList==[])):=by
  unfold M.lv;simp only[pO];rcases f with rfl|rfl|rfl|rfl<;>simp[M.isNum,M.oO,M.pM,M.qU,Bool.and_assoc,Bool.and_comm,Bool.and_left_comm]
 rw[i];clear i;obtain⟨b,o⟩:∃b,(n.toList==[])=b:=⟨_,rfl⟩;obtain⟨q,p⟩:∃b,(m.toList==[])=b:=⟨_,rfl⟩;have k:=fun d=>Zy (kF n d);have j:=fun d=>Zy (kF m d);obtain⟨c,g⟩:∃c,M.jC n=c:=⟨_,rfl⟩;obtain⟨t,h⟩:∃c,M.jC m=c:=⟨_,rfl⟩;simp only[g]at k;simp only[h]at j;rw[o,p];clear g h;rcases f with rfl|rfl|rfl|rfl
 all_goals
  by_cases e:a=0
  . subst e;simp only[decide_true,Bool.true_and];cases b
    . simp only[Bool.true_and,Bool.false_and];go_enter func143,ntmps143;go_wp2_with (fail)
      all_goals
       go_ret;exact⟨rfl,Zx⟩
    simp only[Bool.true_and];cases q
    all_goals
     go_enter func143,ntmps143;go_wp2_with (fail)
     all_goals
      go_ret;exact⟨rfl,Zx⟩
  . have s:=beq_eq_false_iff_ne.2 e;rw[decide_eq_false e];simp only[Bool.false_and];go_enter func143,ntmps143;go_wp2_with (fail)
    all_goals
     go_ret;exact⟨rfl,Zx⟩
theorem Jm(op a:Int)(n m:ByteArray)(w:World)(j:op=6∨op=15):Calls prog 143 #[.agg #[op,a,n,m]] w fun f i=>f=.returned (.bool (M.lv ⟨op,a,n,m⟩))∧Ext w i:=by
 have l:M.lv ⟨op,a,n,m⟩=(decide (a=0)&&M.jC n&&(m.toList==[])):=by
  unfold M.lv;simp only[pO];rcases j with rfl|rfl<;>simp[M.isNum,M.oO,M.pM,M.qU,Bool.and_assoc,Bool.and_comm,Bool.and_left_comm]
 rw[l];clear l;obtain⟨c,s⟩:∃c,(n.toList==[])=c:=⟨_,rfl⟩;obtain⟨q,p⟩:∃c,(m.toList==[])=c:=⟨_,rfl⟩;have d:=fun e=>Zy (kF n e);have o:=fun e=>Zy (kF m e);obtain⟨b,h⟩:∃b,M.jC n=b:=⟨_,rfl⟩;obtain⟨t,k⟩:∃b,M.jC m=b:=⟨_,rfl⟩;simp only[h]at d;simp only[k]at o;rw[p,h];clear h k;rcases j with rfl|rfl
 all_goals
  by_cases g:a=0
  . subst g;simp only[decide_true,Bool.true_and];cases b
    . simp only[Bool.true_and,Bool.false_and];go_enter func143,ntmps143;go_wp2_with (go_at_call 165;refine(d _).o.mono ?_;rintro f i ⟨rfl,rfl⟩)
      all_goals
       go_ret;exact⟨rfl,Zx⟩
    simp only[Bool.true_and];cases q
    all_goals
     go_enter func143,ntmps143;go_wp2_with (go_at_call 165;refine(d _).o.mono ?_;rintro f i ⟨rfl,rfl⟩)
     all_goals
      go_ret;exact⟨rfl,Zx⟩
  . have r:=beq_eq_false_iff_ne.2 g;rw[decide_eq_false g];simp only[Bool.false_and];go_enter func143,ntmps143;go_wp2_with (fail)
    all_goals
     go_ret;exact⟨rfl,Zx⟩
theorem Jn(op a:Int)(n m:ByteArray)(w:World)(l:op=7∨op=8∨op=9):Calls prog 143 #[.agg #[op,a,n,m]] w fun b d=>b=.returned (.bool (M.lv ⟨op,a,n,m⟩))∧Ext w d:=by
 have o:M.lv ⟨op,a,n,m⟩=(decide (a=0)&&M.jC n&&M.jC m):=by
  unfold M.lv;simp only[pO];rcases l with rfl|rfl|rfl<;>simp[M.isNum,M.oO,M.pM,M.qU,Bool.and_assoc,Bool.and_comm,Bool.and_left_comm]
 rw[o];clear o;obtain⟨e,r⟩:∃e,(n.toList==[])=e:=⟨_,rfl⟩;obtain⟨t,s⟩:∃e,(m.toList==[])=e:=⟨_,rfl⟩;have g:=fun h=>Zy (kF n h);have f:=fun h=>Zy (kF m h);obtain⟨c,j⟩:∃c,M.jC n=c:=⟨_,rfl⟩;obtain⟨p,k⟩:∃c,M.jC m=c:=⟨_,rfl⟩;simp only[j]at g;simp only[k]at f;rw[j,k];clear j k;rcases l with rfl|rfl|rfl
 all_goals
  by_cases i:a=0
  . subst i;simp only[decide_true,Bool.true_and];cases c
    . simp only[Bool.true_and,Bool.false_and];go_enter func143,ntmps143;go_wp2_with (go_at_call 165;first|(with_reducible refine(g _).o.mono ?_;rintro b d ⟨rfl,rfl⟩)|(with_reducible refine(f _).o.mono ?_;rintro b d ⟨rfl,rfl⟩))
      all_goals
       go_ret;exact⟨rfl,Zx⟩
    simp only[Bool.true_and];cases p
    all_goals
     go_enter func143,ntmps143;go_wp2_with (go_at_call 165;first|(with_reducible refine(g _).o.mono ?_;rintro b d ⟨rfl,rfl⟩)|(with_reducible refine(f _).o.mono ?_;rintro b d ⟨rfl,rfl⟩))
     all_goals
      go_ret;exact⟨rfl,Zx⟩
  . have q:=beq_eq_false_iff_ne.2 i;rw[decide_eq_false i];simp only[Bool.false_and];go_enter func143,ntmps143;go_wp2_with (fail)
    all_goals
     go_ret;exact⟨rfl,Zx⟩
theorem Li(op a:Int)(n m:ByteArray)(w:World)(x:¬(1<=op∧op<=15)):Calls prog 143 #[.agg #[op,a,n,m]] w fun d v=>d=.returned (.bool (M.lv ⟨op,a,n,m⟩))∧Ext w v:=by
 have b:∀c:Int,1<=c->c<=15->(op==c)=false:=fun c y z=>beq_eq_false_iff_ne.2 Zm;have e:=b 1 Zm Zm;have l:=b 2 Zm Zm;have o:=b 3 Zm Zm;have p:=b 4 Zm Zm;have q:=b 5 Zm Zm;have r:=b 6 Zm Zm;have s:=b 7 Zm Zm;have t:=b 8 Zm Zm;have u:=b 9 Zm Zm;have f:=b 10 Zm Zm;have g:=b 11 Zm Zm;have h:=b 12 Zm Zm;have i:=b 13 Zm Zm;have j:=b 14 Zm Zm;have k:=b 15 Zm Zm;clear b;simp only[M.lv,M.isNum,M.oO,M.pM,M.qU,e,l,o,p,q,r,s,t,u,f,g,h,i,j,k,Bool.or_false,Bool.false_eq_true,if_false];go_enter func143,ntmps143;go_wp2_with fail
 all_goals
  go_ret;exact⟨rfl,Zx⟩
theorem Lj(op a:Int)(n m:ByteArray){w:World}:Calls prog 143 #[.agg #[op,a,n,m]] w fun c e=>c=.returned (.bool (M.lv ⟨op,a,n,m⟩))∧Ext w e:=by
 by_cases b:1<=op∧op<=15
 . have d:(op=1∨op=2∨op=3∨op=11∨op=12∨op=13)∨(op=4∨op=5∨op=10∨op=14)∨(op=6∨op=15)∨(op=7∨op=8∨op=9):=by omega
   rcases d with b|b|b|b
   . exact Jo op a n m w b
   . exact Jq op a n m w b
   . exact Jm op a n m w b
   . exact Jn op a n m w b
 . exact Li op a n m w b
theorem all_succ{α:Type}{p:α->Bool}{l:List α}{k:Nat}{x:α}(a:(l.take k).all p=true)(c:l[k]?=some x)(b:p x=true):(l.take (k+1)).all p=true:=by
 rw[List.take_add_one,c,List.all_append,a];simp[b]
theorem rG{α:Type}{p:α->Bool}{l:List α}{k:Nat}{x:α}(b:l[k]?=some x)(a:p x=false):l.all p=false:=
 List.all_eq_false.2 ⟨x,List.mem_of_getElem? b,by simp[a]⟩
theorem pU{α:Type}{p:α->Bool}{l:List α}{k:Nat}(a:(l.take k).all p=true)(b:l.length<=k):l.all p=true:=by
 rw[List.take_of_length_le b]at a;exact a
theorem get_some{α:Type}{l:List α}{k:Nat}(a:k<l.length):∃b,l[k]?=some b:=⟨_,List.getElem?_eq_getElem a⟩
theorem Gv{w:World}{I:Nat->Prop}{v:Value}{l:List M.Tag}(h:SliceOf 2 kE w I v l):Calls prog 193 #[v] w fun g o=>g=.returned (.bool (M.vg l))∧Ext w o:=by
 obtain⟨p,r,rfl,B,z⟩:=h.form;go_enter func193,ntmps193;go_wp2;go_loopw [7] (fun d wr=>∃a:Nat,a<=l.length∧d=.int .i64 a∧Ext w wr∧Zz ((l.take a).all M.rU=true)) (fun d _=>l.length - (intOf d).toNat)
 case atStart=>exact⟨0,Nat.zero_le _,rfl,Kp.rr,Zy Zl⟩
 case round =>
  obtain⟨a,A,rfl,m,e⟩:=hrel;by_cases n:a<l.length
  . obtain⟨k,c⟩:=get_some n;obtain⟨q,C,s,rfl,y,rfl,-,i⟩:=h.get c;obtain⟨t,u⟩:=(i.ext m).two;have f:=Zy c;clear c i;cases j:M.rU k
    all_goals
     have b:=Zy j;clear j;go_wp2_with (go_at_call 218;refine(Qs k).mono ?_;rintro g D ⟨rfl,x⟩;rw[b.o])
    . go_ret;exact⟨hQ (rG f b).symm,Zv⟩
    . go_roundw
      case rel=>exact⟨a+1,by omega,by go_num,Zv,Zy (all_succ e.o f.o b.o)⟩
      case measure=>simp[intOf];omega
  . go_wp2;go_ret;exact⟨hQ (pU e Zm).symm,kx⟩
theorem Oa {w: World} {I: Nat -> Prop} {cs: List Value} {m: M.Method} (x : jd w I m cs) :Calls prog 176 #[.agg cs.toArray] w fun i A=>i=.returned (.bool (M.codeOk m))∧Ext w A:=by
 obtain⟨n,W,o,rfl,H,r,J⟩:=x;obtain⟨g,h,rfl,S,N⟩:=r.form;by_cases Q:m.code.length<1
 . go_enter func176,ntmps176;go_wp2;go_ret;exact⟨hQ (by unfold M.codeOk;rw[decide_eq_false Zm];rfl),kx⟩
 by_cases R:16<m.code.length
 . go_enter func176,ntmps176;go_wp2;go_ret;exact⟨hQ (by unfold M.codeOk;rw[decide_eq_false (p:=m.code.length<=16) Zm];simp),kx⟩
 have e:Zz (M.codeOk m=m.code.all (M.nO m)):=Zy (by
  unfold M.codeOk;rw[decide_eq_true Zm,decide_eq_true Zm];rfl)
 go_enter func176,ntmps176;go_wp2;have y:Ext w (w.alloc (.cells #[m.name,n,m.ret.kind,m.ret.name,m.locals,m.stack,.slice g m.code.length h,o] 141)):=(jr _);have v:=hV.new w 141 #[m.name,n,m.ret.kind,m.ret.name,m.locals,m.stack,.slice g m.code.length h,o];obtain⟨-,-,-,-,-,t,-,u,-⟩:=v.ca;go_loopw [18] (fun l wr=>∃b:Nat,b<=m.code.length∧l=.int .i64 b∧Ext (w.alloc (.cells #[m.name,n,m.ret.kind,m.ret.name,m.locals,m.stack,.slice g m.code.length h,o] 141)) wr∧Zz ((m.code.take b).all (M.nO m)=true)) (fun l _=>m.code.length - (intOf l).toNat)
 case atStart=>exact⟨0,Nat.zero_le _,rfl,Kp.rr,Zy Zl⟩
 case round =>
  obtain⟨b,P,rfl,j,q⟩:=hrel;by_cases z:b<m.code.length
  . obtain ⟨p, k⟩ := get_some z; obtain ⟨C, T, cs, rfl, K, rfl,-, s⟩ := r.get k; obtain ⟨D, E, F, G⟩ := ((s.ext y).ext j).four; have q4 := j.jb t; have q6 := j.jb u; have f := Zy k; clear k s t u; cases d : M.lv p
    . have a:=Zy d;clear d;go_wp2_with (go_at_call 192;refine(MB p).mono ?_;rintro i B ⟨rfl,c⟩;rw[a.o]);go_ret;exact⟨hQ (by rw[e.o];exact(rG f (by unfold M.nO;rw[a.o];rfl)).symm),Zv⟩
    . have a := Zy d; clear d; go_wp2_with (go_at_call 192; refine (MB p).mono ?_; rintro i B ⟨rfl, c⟩; rw [a.o]; have U := c.JL q4; have V := c.JL q6; obtain ⟨L, O⟩ := GM c)
      all_goals first
       | (go_ret
          exact⟨hQ (by
           rw[e.o];exact(rG f (by unfold M.nO;rw[a.o];(repeat' split)<;>simp<;>simp_all<;>omega)).symm),Zv⟩)
       | (go_roundw
          case rel=>
           exact⟨b+1,by omega,by go_num,Zv,Zy (all_succ q.o f.o (by
            unfold M.nO;rw[a.o];(repeat' split)<;>simp<;>simp_all<;>omega))⟩
          case measure=>simp[intOf];omega)
  . go_wp2;go_ret;exact⟨hQ (by rw[e.o];exact(pU q Zm).symm),Zv⟩
theorem drop_at{α:Type}{l:List α}{k:Nat}{x:α}(b:l[k]?=some x):l.drop k=x::l.drop (k+1):=by
 obtain⟨c,a⟩:=List.getElem?_eq_some_iff.1 b;rw[List.drop_eq_getElem_cons c,a]
theorem Ey{m:M.Method}{last:Int}{k:Nat}{x:M.SMap}(a:m.maps[k]?=some x):M.kL m last (m.maps.drop k)=(decide (last<x.at_)&&M.uP m x&&M.kL m x.at_ (m.maps.drop (k+1))):=by
 rw[drop_at a];rfl
theorem Ac(m:M.Method)(f:M.SMap):M.uP m f=(decide (f.at_ <m.code.length)&&decide ((f.locals.length:Int)=m.locals)&&decide ((f.stack.length:Int)<=m.stack)&&M.vg f.locals&&M.vg f.stack):=rfl
theorem OC {w: World} {I: Nat -> Prop} {cs: List Value} {m: M.Method} (L : jd w I m cs) :Calls prog 177 #[.agg cs.toArray] w fun i R=>i=.returned (.bool (M.rR m))∧Ext w R:=by
 obtain⟨y,vc,vm,rfl,h1,N,A⟩:=L;obtain⟨n,p,rfl,hn,af⟩:=A.form;obtain⟨o,q,rfl,au,ag⟩:=N.form;by_cases ak:5<m.maps.length
 . go_enter func177,ntmps177;go_wp2;go_ret;exact⟨hQ (by unfold M.rR;rw[decide_eq_false Zm];rfl),kx⟩
 have d:Zz (M.rR m=M.kL m 0 m.maps):=Zy (by
  unfold M.rR;rw[decide_eq_true Zm];rfl)
 go_enter func177,ntmps177;go_wp2;have K:=hV.new w 141 #[m.name,y,m.ret.kind,m.ret.name,m.locals,m.stack,.slice o m.code.length q,.slice n m.maps.length p];obtain⟨-,-,-,-,-,D,E,F,-⟩:=K.ca;have s:Ext w (w.alloc (.cells #[m.name,y,m.ret.kind,m.ret.name,m.locals,m.stack,.slice o m.code.length q,.slice n m.maps.length p] 141)):=(jr _);generalize (w.alloc (.cells #[m.name,y,m.ret.kind,m.ret.name,m.locals,m.stack,.slice o m.code.length q,.slice n m.maps.length p] 141))=w0 at*;go_loopw [13,3] (fun u P wr=>∃g:Nat,∃last:Int,g<=m.maps.length∧u=.int .i64 g∧P=.int .i64 last∧Ext w0 wr∧Zz (M.kL m 0 m.maps=M.kL m last (m.maps.drop g))) (fun u _ _=>m.maps.length - (intOf u).toNat)
 case atStart=>exact⟨0,0,Nat.zero_le _,rfl,rfl,Kp.rr,Zy Zl⟩
 case round =>
  obtain⟨g,last,hk,rfl,rfl,f,b⟩:=hrel;by_cases O:g<m.maps.length
  . obtain⟨a,t⟩:=get_some O;obtain⟨V,ay,cs,rfl,hI,⟨vl,vs,rfl,v,x⟩,-,B⟩:=A.get t;obtain⟨T,W,rfl,av,ah⟩:=v.form;obtain⟨U,X,rfl,ax,ai⟩:=x.form;obtain⟨Y,Z,g2⟩:=((B.ext s).ext f).three;have q4:=f.jb D;have q5:=f.jb E;have q6:=f.jb F;have hz:=iY q6;have⟨z,H,c⟩:=jy ((v.ext kE.stays s).ext kE.stays f) ((x.ext kE.stays s).ext kE.stays f) (Ey (last:=last) t);clear t B D E F v x;by_cases t1:a.at_<=last
    . go_wp2;go_ret;exact⟨hQ (by rw[d.o,b.o,c.o,decide_eq_false Zm];rfl),Zv⟩
    by_cases t2:(m.code.length:Int)<=a.at_
    . go_wp2;go_ret;exact⟨hQ (by rw[d.o,b.o,c.o,Ac,decide_eq_false (p:=a.at_ <m.code.length) Zm];simp),Zv⟩
    by_cases h:(a.locals.length:Int)=m.locals
    case neg=>
     have Q:=beq_eq_false_iff_ne.2 h;go_wp2;go_ret;exact⟨hQ (by rw[d.o,b.o,c.o,Ac,decide_eq_false (p:=(a.locals.length:Int)=m.locals) h];simp),Zv⟩
    have J:=Zy h;have Q:=beq_iff_eq.2 h;clear h;by_cases t4:m.stack<(a.stack.length:Int)
    . go_wp2;go_ret;exact⟨hQ (by rw[d.o,b.o,c.o,Ac,decide_eq_false (p:=(a.stack.length:Int)<=m.stack) Zm];simp),Zv⟩
    have k:Zz (M.uP m a=(M.vg a.locals&&M.vg a.stack)):=Zy (by
     rw[Ac,decide_eq_true (p:=a.at_ <m.code.length) Zm,decide_eq_true (p:=(a.locals.length:Int)=m.locals) J.o,decide_eq_true (p:=(a.stack.length:Int)<=m.stack) Zm];rfl)
    have G:Zz (decide (last<a.at_)=true):=Zy (decide_eq_true Zm);cases j:M.vg a.locals
    . have e:=Zy j;clear j;go_wp2_with fail;refine(Gv (z.ext kE.stays (jr _))).mono ?_;rintro i S ⟨rfl,r⟩;rw[e.o];go_wp2;go_ret;exact⟨hQ (by rw[d.o,b.o,c.o,k.o,e.o];simp),Zv⟩
    . have e:=Zy j;clear j;go_wp2_with fail;refine(Gv (z.ext kE.stays (jr _))).mono ?_;rintro i S ⟨rfl,r⟩;rw[e.o];obtain⟨ae,aj⟩:=GM r;cases C:M.vg a.stack
      all_goals
       have l:=Zy C;clear C;go_wp2_with fail;refine(Gv ((H.ext kE.stays (jr _)).ext kE.stays r)).mono ?_;rintro i w2 ⟨rfl,aa⟩;rw[l.o];go_wp2
      . go_ret;exact⟨hQ (by rw[d.o,b.o,c.o,k.o,e.o,l.o];simp),Zv⟩
      . go_roundw
        case rel=>exact⟨g+1,a.at_,by omega,by go_num,rfl,Zv,Zy (by rw[b.o,c.o,k.o,G.o,e.o,l.o];rfl)⟩
        case measure=>simp[intOf];omega
  . go_wp2;go_ret;exact⟨hQ (by rw[d.o,b.o,List.drop_of_length_le Zm];rfl),Zv⟩
end Go.Proofs.YtlhlnddgfcmfkaaGreat
