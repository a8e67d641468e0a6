/- Walks. -/
import Derived.Test.YtenhnldnpdlniaaGreatSmCoreLb
import Derived.Test.YtenhnldnpdlniaaGreatSmCoreLd
set_option maxRecDepth 100000
set_option maxHeartbeats 4000000
set_option linter.all false
namespace Go.Proofs.YtenhnldnpdlniaaGreat
open Go Go.RowKit Tryz M
theorem zL(k:Int)(s:ByteArray)(w:World):Calls prog 136 #[.agg #[k,s]] w fun c f=>c=.returned (.bool (mg ⟨k,s⟩))/\Ext w f:=by
 have i:mg ⟨k,s⟩=((k==1)&&(s.toList==[])|| (k==2)&&jL s):=by unfold mg;simp only[qY]
 rw[i];clear i;obtain⟨e,n⟩:∃e,(s.toList==[])=e:=⟨_,rfl⟩;have b:=fun j=>Zy (kT s j);obtain⟨a,d⟩:∃a,jL s=a:=⟨_,rfl⟩;rw[n,d];simp only[d]at b;clear d;by_cases g:k=1
 . subst g;cases e<;>cases a
   all_goals
    go_enter func136,ntmps136;go_wp2_with (go_at_call 117;refine(b _).o.mono ?_;rintro c f ⟨rfl,rfl⟩)
    all_goals
     go_ret;exact⟨rfl,Zx⟩
 have l:=SK.2 g;by_cases h:k=2
 . subst h;cases a
   all_goals
    go_enter func136,ntmps136;go_wp2_with (go_at_call 117;refine(b _).o.mono ?_;rintro c f ⟨rfl,rfl⟩)
    all_goals
     go_ret;exact⟨rfl,Zx⟩
 have m:=SK.2 h;rw[l,m];go_enter func136,ntmps136;go_wp2_with fail
 all_goals
  go_ret;exact⟨rfl,Zx⟩
theorem Lg(op a:Int)(n m:ByteArray)(w:World)(i:op=1\/op=2\/op=3\/op=11\/op=12\/op=13):Calls prog 133 #[.agg #[op,a,n,m]] w fun d f=>d=.returned (.bool (mf ⟨op,a,n,m⟩))/\Ext w f:=by
 have l:mf ⟨op,a,n,m⟩=((decide (qZ op<=a)&&decide (a<=rX op))&&(n.toList==[])&&(m.toList==[])):=by
  unfold mf;simp only[qY];rcases i with rfl|rfl|rfl|rfl|rfl|rfl<;>simp[isNum,qd,qV,sF,Vf,Wn,VL]
 rw[l];clear l;obtain⟨c,q⟩:∃c,(n.toList==[])=c:=⟨_,rfl⟩;obtain⟨s,r⟩:∃c,(m.toList==[])=c:=⟨_,rfl⟩;have p:=fun g=>Zy (kT n g);have o:=fun g=>Zy (kT m g);obtain⟨e,j⟩:∃e,jL n=e:=⟨_,rfl⟩;obtain⟨t,k⟩:∃e,jL m=e:=⟨_,rfl⟩;simp only[j]at p;simp only[k]at o;rw[q,r];clear j k;rcases i with rfl|rfl|rfl|rfl|rfl|rfl
 all_goals
  simp only[qZ,rX,Int.reduceEq,Uy,Uq,or_true,true_or,or_false,or_self];generalize h:(decide (_<=a)&&decide (a<=_))=b;cases b
  . simp only[TB];go_enter func133,ntmps133;go_wp2_with (go_at_call 76;refine(rD).mono ?_;rintro d f ⟨rfl,rfl⟩;rw[h])
    all_goals
     go_ret;exact⟨rfl,Zx⟩
  cases c
  . simp only[TJ,TB];go_enter func133,ntmps133;go_wp2_with (go_at_call 76;refine(rD).mono ?_;rintro d f ⟨rfl,rfl⟩;rw[h])
    all_goals
     go_ret;exact⟨rfl,Zx⟩
  simp only[TJ];cases s
  all_goals
   go_enter func133,ntmps133;go_wp2_with (go_at_call 76;refine(rD).mono ?_;rintro d f ⟨rfl,rfl⟩;rw[h])
   all_goals
    go_ret;exact⟨rfl,Zx⟩
theorem Lh(op a:Int)(n m:ByteArray)(w:World)(f:op=4\/op=5\/op=10\/op=14):Calls prog 133 #[.agg #[op,a,n,m]] w fun l r=>l=.returned (.bool (mf ⟨op,a,n,m⟩))/\Ext w r:=by
 have i:mf ⟨op,a,n,m⟩=(decide (a=0)&&(n.toList==[])&&(m.toList==[])):=by
  unfold mf;simp only[qY];rcases f with rfl|rfl|rfl|rfl<;>simp[isNum,qd,qV,sF,Vf,Wn,VL]
 rw[i];clear i;obtain⟨b,o⟩:∃b,(n.toList==[])=b:=⟨_,rfl⟩;obtain⟨q,p⟩:∃b,(m.toList==[])=b:=⟨_,rfl⟩;have k:=fun d=>Zy (kT n d);have j:=fun d=>Zy (kT m d);obtain⟨c,g⟩:∃c,jL n=c:=⟨_,rfl⟩;obtain⟨t,h⟩:∃c,jL m=c:=⟨_,rfl⟩;simp only[g]at k;simp only[h]at j;rw[o,p];clear g h;rcases f with rfl|rfl|rfl|rfl
 all_goals
  by_cases e:a=0
  . subst e;simp only[decide_true,TJ];cases b
    . simp only[TJ,TB];go_enter func133,ntmps133;go_wp2_with (fail)
      all_goals
       go_ret;exact⟨rfl,Zx⟩
    simp only[TJ];cases q
    all_goals
     go_enter func133,ntmps133;go_wp2_with (fail)
     all_goals
      go_ret;exact⟨rfl,Zx⟩
  . have s:=SK.2 e;rw[SS e];simp only[TB];go_enter func133,ntmps133;go_wp2_with (fail)
    all_goals
     go_ret;exact⟨rfl,Zx⟩
theorem Le(op a:Int)(n m:ByteArray)(w:World)(j:op=6\/op=15):Calls prog 133 #[.agg #[op,a,n,m]] w fun f i=>f=.returned (.bool (mf ⟨op,a,n,m⟩))/\Ext w i:=by
 have l:mf ⟨op,a,n,m⟩=(decide (a=0)&&jL n&&(m.toList==[])):=by
  unfold mf;simp only[qY];rcases j with rfl|rfl<;>simp[isNum,qd,qV,sF,Vf,Wn,VL]
 rw[l];clear l;obtain⟨c,s⟩:∃c,(n.toList==[])=c:=⟨_,rfl⟩;obtain⟨q,p⟩:∃c,(m.toList==[])=c:=⟨_,rfl⟩;have d:=fun e=>Zy (kT n e);have o:=fun e=>Zy (kT m e);obtain⟨b,h⟩:∃b,jL n=b:=⟨_,rfl⟩;obtain⟨t,k⟩:∃b,jL m=b:=⟨_,rfl⟩;simp only[h]at d;simp only[k]at o;rw[p,h];clear h k;rcases j with rfl|rfl
 all_goals
  by_cases g:a=0
  . subst g;simp only[decide_true,TJ];cases b
    . simp only[TJ,TB];go_enter func133,ntmps133;go_wp2_with (go_at_call 117;refine(d _).o.mono ?_;rintro f i ⟨rfl,rfl⟩)
      all_goals
       go_ret;exact⟨rfl,Zx⟩
    simp only[TJ];cases q
    all_goals
     go_enter func133,ntmps133;go_wp2_with (go_at_call 117;refine(d _).o.mono ?_;rintro f i ⟨rfl,rfl⟩)
     all_goals
      go_ret;exact⟨rfl,Zx⟩
  . have r:=SK.2 g;rw[SS g];simp only[TB];go_enter func133,ntmps133;go_wp2_with (fail)
    all_goals
     go_ret;exact⟨rfl,Zx⟩
theorem Lf(op a:Int)(n m:ByteArray)(w:World)(l:op=7\/op=8\/op=9):Calls prog 133 #[.agg #[op,a,n,m]] w fun b d=>b=.returned (.bool (mf ⟨op,a,n,m⟩))/\Ext w d:=by
 have o:mf ⟨op,a,n,m⟩=(decide (a=0)&&jL n&&jL m):=by
  unfold mf;simp only[qY];rcases l with rfl|rfl|rfl<;>simp[isNum,qd,qV,sF,Vf,Wn,VL]
 rw[o];clear o;obtain⟨e,r⟩:∃e,(n.toList==[])=e:=⟨_,rfl⟩;obtain⟨t,s⟩:∃e,(m.toList==[])=e:=⟨_,rfl⟩;have g:=fun h=>Zy (kT n h);have f:=fun h=>Zy (kT m h);obtain⟨c,j⟩:∃c,jL n=c:=⟨_,rfl⟩;obtain⟨p,k⟩:∃c,jL m=c:=⟨_,rfl⟩;simp only[j]at g;simp only[k]at f;rw[j,k];clear j k;rcases l with rfl|rfl|rfl
 all_goals
  by_cases i:a=0
  . subst i;simp only[decide_true,TJ];cases c
    . simp only[TJ,TB];go_enter func133,ntmps133;go_wp2_with (go_at_call 117;first|(with_reducible refine(g _).o.mono ?_;rintro b d ⟨rfl,rfl⟩)|(with_reducible refine(f _).o.mono ?_;rintro b d ⟨rfl,rfl⟩))
      all_goals
       go_ret;exact⟨rfl,Zx⟩
    simp only[TJ];cases p
    all_goals
     go_enter func133,ntmps133;go_wp2_with (go_at_call 117;first|(with_reducible refine(g _).o.mono ?_;rintro b d ⟨rfl,rfl⟩)|(with_reducible refine(f _).o.mono ?_;rintro b d ⟨rfl,rfl⟩))
     all_goals
      go_ret;exact⟨rfl,Zx⟩
  . have q:=SK.2 i;rw[SS i];simp only[TB];go_enter func133,ntmps133;go_wp2_with (fail)
    all_goals
     go_ret;exact⟨rfl,Zx⟩
theorem Nw(op a:Int)(n m:ByteArray)(w:World)(x:¬(1<=op/\op<=15)):Calls prog 133 #[.agg #[op,a,n,m]] w fun d v=>d=.returned (.bool (mf ⟨op,a,n,m⟩))/\Ext w v:=by
 have b:∀c:Int,1<=c->c<=15->(op==c)=false:=fun c y z=>SK.2 Zm;have e:=b 1 Zm Zm;have l:=b 2 Zm Zm;have o:=b 3 Zm Zm;have p:=b 4 Zm Zm;have q:=b 5 Zm Zm;have r:=b 6 Zm Zm;have s:=b 7 Zm Zm;have t:=b 8 Zm Zm;have u:=b 9 Zm Zm;have f:=b 10 Zm Zm;have g:=b 11 Zm Zm;have h:=b 12 Zm Zm;have i:=b 13 Zm Zm;have j:=b 14 Zm Zm;have k:=b 15 Zm Zm;clear b;simp only[mf,isNum,qd,qV,sF,e,l,o,p,q,r,s,t,u,f,g,h,i,j,k,Bool.or_false,U3,Uq];go_enter func133,ntmps133;go_wp2_with fail
 all_goals
  go_ret;exact⟨rfl,Zx⟩
theorem Ny(op a:Int)(n m:ByteArray){w:World}:Calls prog 133 #[.agg #[op,a,n,m]] w fun c e=>c=.returned (.bool (mf ⟨op,a,n,m⟩))/\Ext w e:=by
 by_cases b:1<=op/\op<=15
 . have d:(op=1\/op=2\/op=3\/op=11\/op=12\/op=13)\/(op=4\/op=5\/op=10\/op=14)\/(op=6\/op=15)\/(op=7\/op=8\/op=9):=Zm
   rcases d with b|b|b|b
   . exact Lg op a n m w b
   . exact Lh op a n m w b
   . exact Le op a n m w b
   . exact Lf op a n m w b
 . exact Nw op a n m w b
end Go.Proofs.YtenhnldnpdlniaaGreat
