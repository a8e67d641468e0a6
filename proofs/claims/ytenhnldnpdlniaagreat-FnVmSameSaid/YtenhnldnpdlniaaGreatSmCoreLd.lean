/- Walks. -/
import Derived.Test.YtenhnldnpdlniaaGreatSmCoreLc
set_option maxRecDepth 100000
set_option maxHeartbeats 4000000
set_option linter.all false
namespace Go.Proofs.YtenhnldnpdlniaaGreat
open Go Go.RowKit Tryz M
variable {m s: ByteArray}{a op: Int}{w: World}
theorem oP(a b:ByteArray):(a.toList==b.toList)=decide (a=b):=by
 rw[Uv,Uv,Vz,decide_eq_true_iff,Ue];constructor
 . intro c;obtain⟨⟨d⟩⟩:=a;obtain⟨⟨e⟩⟩:=b;simp at c;subst c;rfl
 . intro c;rw[c]
theorem toList_nil(s:ByteArray):s.toList=[]↔s=none_:=by
 rw[Uv];obtain⟨⟨a⟩⟩:=s;simp[none_]
theorem MG(b:isNum op=true):mf ⟨op,a,s,m⟩=(decide (s=none_)&&decide (m=none_)&&decide (qZ op<=a)&&decide (a<=rX op)):=by
 unfold mf;rw[Ty b]
theorem MC(h0:isNum op=false)(b:qd op=true):mf ⟨op,a,s,m⟩=(decide (a=0)&&decide (m=none_)&&jL s):=by
 unfold mf;rw[T9 (by simp[h0]),Ty b]
theorem MF(h0:isNum op=false)(c:qd op=false)(b:qV op=true):mf ⟨op,a,s,m⟩=(decide (a=0)&&jL s&&jL m):=by
 unfold mf;rw[T9 (by simp[h0]),T9 (by simp[c]),Ty b]
theorem MH(h0:isNum op=false)(c:qd op=false)(d:qV op=false)(b:sF op=true):mf ⟨op,a,s,m⟩=(decide (a=0)&&decide (s=none_)&&decide (m=none_)):=by
 unfold mf;rw[T9 (by simp[h0]),T9 (by simp[c]),T9 (by simp[d]),Ty b]
theorem OM(h0:isNum op=false)(c:qd op=false)(d:qV op=false)(b:sF op=false):mf ⟨op,a,s,m⟩=false:=by
 unfold mf;rw[T9 (by simp[h0]),T9 (by simp[c]),T9 (by simp[d]),T9 (by simp[b])]
theorem OW(a:qd op=true):isNum op=false:=by rcases Gg a with rfl|rfl<;>rfl
theorem Je(a:qV op=true):isNum op=false/\qd op=false:=by rcases GD a with rfl|rfl|rfl<;>exact⟨rfl,rfl⟩
theorem Eo(a:sF op=true):isNum op=false/\qd op=false/\qV op=false:=by
 rcases GI a with rfl|rfl|rfl|rfl<;>exact⟨rfl,rfl,rfl⟩
theorem ML(n:isNum op=true):Calls prog 212 #[.agg #[op,a,s,m]] w fun c z=>c=.returned (.bool (mf ⟨op,a,s,m⟩))/\Ext w z:=by
 have h:=Zy (MG (op:=op) (a:=a) (s:=s) (m:=m) n);have y:=Zy n;clear n;go_enter func212,ntmps212;go_wp2_with (go_at_call 233;refine(OD y).mono ?_;rintro c B ⟨rfl,d⟩);have o:=(jq.new w 134 #[op,a,s,m]).ext d;obtain⟨A,i,j,k,l,-⟩:=o.ca;have g:=Zy d;clear d o;by_cases f:s.toList=[]
 . by_cases e:m.toList=[]
   . first|(go_region_with (first|(go_at_call 234;refine(Hd).mono ?_;rintro c v ⟨rfl,b⟩;have p:=b.jm i;have q:=b.jm j;have r:=b.jm k;have t:=b.jm l)|(go_at_call 235;refine(Ag).mono ?_;rintro c x ⟨rfl,u⟩)))|fail
     all_goals
      go_wp2;go_ret;have d:=g.o;exact⟨hV (by rw[h.o];rw[toList_nil]at f e;simp[f,e]),Zv⟩
   . first|(go_region_with (first|(go_at_call 234;refine(Hd).mono ?_;rintro c v ⟨rfl,b⟩;have p:=b.jm i;have q:=b.jm j;have r:=b.jm k;have t:=b.jm l)|(go_at_call 235;refine(Ag).mono ?_;rintro c x ⟨rfl,u⟩)))|fail
     all_goals
      go_wp2;go_ret;have d:=g.o;exact⟨hV (by rw[h.o];rw[toList_nil]at e;simp[e]),Zv⟩
 . first|(go_region_with (first|(go_at_call 234;refine(Hd).mono ?_;rintro c v ⟨rfl,b⟩;have p:=b.jm i;have q:=b.jm j;have r:=b.jm k;have t:=b.jm l)|(go_at_call 235;refine(Ag).mono ?_;rintro c x ⟨rfl,u⟩)))|fail
   all_goals
    go_wp2;go_ret;have d:=g.o;exact⟨hV (by rw[h.o];rw[toList_nil]at f;simp[f]),Zv⟩
theorem MJ(e:qd op=true):Calls prog 212 #[.agg #[op,a,s,m]] w fun c z=>c=.returned (.bool (mf ⟨op,a,s,m⟩))/\Ext w z:=by
 have h:=Zy (MC (op:=op) (a:=a) (s:=s) (m:=m) (OW e) e);have y:=Zy e;clear e;go_enter func212,ntmps212;go_wp2_with (go_at_call 233;refine(OB y).mono ?_;rintro c B ⟨rfl,d⟩);have n:=(jq.new w 134 #[op,a,s,m]).ext d;obtain⟨A,i,j,k,l,-⟩:=n.ca;have g:=Zy d;clear d n;by_cases u:0=a
 . by_cases f:m.toList=[]
   . first|(go_region_with (first|(go_at_call 234;refine(Hc).mono ?_;rintro c v ⟨rfl,b⟩;have o:=b.jm i;have p:=b.jm j;have q:=b.jm k;have r:=b.jm l)|(go_at_call 235;refine(Af).mono ?_;rintro c x ⟨rfl,t⟩)))|fail
     all_goals
      go_wp2;go_ret;have d:=g.o;exact⟨hV (by rw[h.o];rw[toList_nil]at f;simp[<-u,f]),Zv⟩
   . first|(go_region_with (first|(go_at_call 234;refine(Hc).mono ?_;rintro c v ⟨rfl,b⟩;have o:=b.jm i;have p:=b.jm j;have q:=b.jm k;have r:=b.jm l)|(go_at_call 235;refine(Af).mono ?_;rintro c x ⟨rfl,t⟩)))|fail
     all_goals
      go_wp2;go_ret;have d:=g.o;exact⟨hV (by rw[h.o];rw[toList_nil]at f;simp[f]),Zv⟩
 . first|(go_region_with (first|(go_at_call 234;refine(Hc).mono ?_;rintro c v ⟨rfl,b⟩;have o:=b.jm i;have p:=b.jm j;have q:=b.jm k;have r:=b.jm l)|(go_at_call 235;refine(Af).mono ?_;rintro c x ⟨rfl,t⟩)))|fail
   all_goals
    go_wp2;go_ret;have d:=g.o;exact⟨hV (by rw[h.o];simp[Ne.symm u]),Zv⟩
theorem MK(d:qV op=true):Calls prog 212 #[.agg #[op,a,s,m]] w fun c v=>c=.returned (.bool (mf ⟨op,a,s,m⟩))/\Ext w v:=by
 have g:=Zy (MF (op:=op) (a:=a) (s:=s) (m:=m) (Je d).1 (Je d).2 d);have o:=Zy d;clear d;go_enter func212,ntmps212;go_wp2_with (go_at_call 233;refine(OC o).mono ?_;rintro c A ⟨rfl,e⟩);have h:=(jq.new w 134 #[op,a,s,m]).ext e;obtain⟨z,i,j,k,l,-⟩:=h.ca;have f:=Zy e;clear e h;by_cases n:0=a
 . first|(go_region_with (first|(go_at_call 234;refine(L6).mono ?_;rintro c x ⟨rfl,b⟩;have p:=b.jm i;have q:=b.jm j;have r:=b.jm k;have t:=b.jm l)|(go_at_call 235;refine(Eg).mono ?_;rintro c y ⟨rfl,u⟩)))|fail
   all_goals
    go_wp2;go_ret;have e:=f.o;exact⟨hV (by rw[g.o];simp[<-n]),Zv⟩
 . first|(go_region_with (first|(go_at_call 234;refine(L6).mono ?_;rintro c x ⟨rfl,b⟩;have p:=b.jm i;have q:=b.jm j;have r:=b.jm k;have t:=b.jm l)|(go_at_call 235;refine(Eg).mono ?_;rintro c y ⟨rfl,u⟩)))|fail
   all_goals
    go_wp2;go_ret;have e:=f.o;exact⟨hV (by rw[g.o];simp[Ne.symm n]),Zv⟩
theorem MM(e:sF op=true):Calls prog 212 #[.agg #[op,a,s,m]] w fun c A=>c=.returned (.bool (mf ⟨op,a,s,m⟩))/\Ext w A:=by
 have g:=Zy (MH (op:=op) (a:=a) (s:=s) (m:=m) (Eo e).1 (Eo e).2.1 (Eo e).2.2 e);have z:=Zy e;clear e;go_enter func212,ntmps212;go_wp2_with (go_at_call 233;refine(OE z).mono ?_;rintro c C ⟨rfl,d⟩);have x:=(jq.new w 134 #[op,a,s,m]).ext d;obtain⟨B,h,i,j,k,-⟩:=x.ca;have f:=Zy d;clear d x;by_cases y:0=a
 . by_cases n:s.toList=[]
   . by_cases l:m.toList=[]
     . first|(go_region_with (first|(go_at_call 234;refine(Du).mono ?_;rintro c u ⟨rfl,b⟩;have o:=b.jm h;have p:=b.jm i;have q:=b.jm j;have r:=b.jm k)|(go_at_call 235;refine(wZ).mono ?_;rintro c v ⟨rfl,t⟩)))|fail
       all_goals
        go_wp2;go_ret;have d:=f.o;exact⟨hV (by rw[g.o];rw[toList_nil]at n l;simp[<-y,n,l]),Zv⟩
     . first|(go_region_with (first|(go_at_call 234;refine(Du).mono ?_;rintro c u ⟨rfl,b⟩;have o:=b.jm h;have p:=b.jm i;have q:=b.jm j;have r:=b.jm k)|(go_at_call 235;refine(wZ).mono ?_;rintro c v ⟨rfl,t⟩)))|fail
       all_goals
        go_wp2;go_ret;have d:=f.o;exact⟨hV (by rw[g.o];rw[toList_nil]at l;simp[l]),Zv⟩
   . first|(go_region_with (first|(go_at_call 234;refine(Du).mono ?_;rintro c u ⟨rfl,b⟩;have o:=b.jm h;have p:=b.jm i;have q:=b.jm j;have r:=b.jm k)|(go_at_call 235;refine(wZ).mono ?_;rintro c v ⟨rfl,t⟩)))|fail
     all_goals
      go_wp2;go_ret;have d:=f.o;exact⟨hV (by rw[g.o];rw[toList_nil]at n;simp[n]),Zv⟩
 . first|(go_region_with (first|(go_at_call 234;refine(Du).mono ?_;rintro c u ⟨rfl,b⟩;have o:=b.jm h;have p:=b.jm i;have q:=b.jm j;have r:=b.jm k)|(go_at_call 235;refine(wZ).mono ?_;rintro c v ⟨rfl,t⟩)))|fail
   all_goals
    go_wp2;go_ret;have d:=f.o;exact⟨hV (by rw[g.o];simp[Ne.symm y]),Zv⟩
theorem OP(c:isNum op=false)(d:qd op=false)(e:qV op=false)(f:sF op=false):Calls prog 212 #[.agg #[op,a,s,m]] w fun g i=>g=.returned (.bool (mf ⟨op,a,s,m⟩))/\Ext w i:=by
 have⟨h,b⟩:=jw (OM (op:=op) (a:=a) (s:=s) (m:=m) c d e f) (Tm (Tm c d) (Tm e f));clear c d e f;go_enter func212,ntmps212;go_wp2_with (go_at_call 233;refine(Qn b.1.1 b.1.2 b.2.1 b.2.2).mono ?_;rintro g k ⟨rfl,j⟩);go_quiet (fail);go_wp2;go_ret;exact⟨hV (by rw[h.o]),Zv⟩
theorem OO(i:Ins){w:World}:Calls prog 212 #[.agg #[i.op,i.a,i.name,i.member]] w fun e f=>e=.returned (.bool (mf i))/\Ext w f:=by
 cases a:isNum i.op
 . cases b:qd i.op
   . cases c:qV i.op
     . cases d:sF i.op
       . exact OP a b c d
       . exact MM d
     . exact MK c
   . exact MJ b
 . exact ML a
end Go.Proofs.YtenhnldnpdlniaaGreat
