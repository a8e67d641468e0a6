/- Walks. -/
import Derived.Test.YtenhnldnpdlniaaGreatOtCoreLb
set_option maxRecDepth 100000
set_option maxHeartbeats 4000000
set_option linter.all false
namespace Go.Proofs.YtenhnldnpdlniaaGreat
open Go Go.RowKit Tryz M
variable {m s: ByteArray}{a op: Int}{w: World}
theorem nU(a b:ByteArray):(a.toList==b.toList)=decide (a=b):=by
 rw[U4,U4,Ud,decide_eq_true_iff,Ub];constructor
 . intro c;obtain⟨⟨d⟩⟩:=a;obtain⟨⟨e⟩⟩:=b;simp at c;subst c;rfl
 . intro c;rw[c]
theorem toList_nil(s:ByteArray):s.toList=[]↔s=none_:=by
 rw[U4];obtain⟨⟨a⟩⟩:=s;simp[none_]
theorem MB(b:isNum op=true):kE ⟨op,a,s,m⟩=(decide (s=none_)&&decide (m=none_)&&decide (pX op<=a)&&decide (a<=qG op)):=by
 unfold kE;rw[SV b]
theorem Mw(h0:isNum op=false)(b:oG op=true):kE ⟨op,a,s,m⟩=(decide (a=0)&&decide (m=none_)&&jf s):=by
 unfold kE;rw[SX (by simp[h0]),SV b]
theorem Mx(h0:isNum op=false)(c:oG op=false)(b:pq op=true):kE ⟨op,a,s,m⟩=(decide (a=0)&&jf s&&jf m):=by
 unfold kE;rw[SX (by simp[h0]),SX (by simp[c]),SV b]
theorem MC(h0:isNum op=false)(c:oG op=false)(d:pq op=false)(b:qY op=true):kE ⟨op,a,s,m⟩=(decide (a=0)&&decide (s=none_)&&decide (m=none_)):=by
 unfold kE;rw[SX (by simp[h0]),SX (by simp[c]),SX (by simp[d]),SV b]
theorem OA(h0:isNum op=false)(c:oG op=false)(d:pq op=false)(b:qY op=false):kE ⟨op,a,s,m⟩=false:=by
 unfold kE;rw[SX (by simp[h0]),SX (by simp[c]),SX (by simp[d]),SX (by simp[b])]
theorem OJ(a:oG op=true):isNum op=false:=by rcases FP a with rfl|rfl<;>rfl
theorem IY(a:pq op=true):isNum op=false/\oG op=false:=by rcases Gi a with rfl|rfl|rfl<;>exact⟨rfl,rfl⟩
theorem DR(a:qY op=true):isNum op=false/\oG op=false/\pq op=false:=by
 rcases Gm a with rfl|rfl|rfl|rfl<;>exact⟨rfl,rfl,rfl⟩
theorem MH(n:isNum op=true):Calls prog 212 #[.agg #[op,a,s,m]] w fun c z=>c=.returned (.bool (kE ⟨op,a,s,m⟩))/\Ext w z:=by
 have h:=Zy (MB (op:=op) (a:=a) (s:=s) (m:=m) n);have y:=Zy n;clear n;go_enter func212,ntmps212;go_wp2_with (go_at_call 233;refine(Oq y).mono ?_;rintro c B ⟨rfl,d⟩);have o:=(h9.new w 134 #[op,a,s,m]).ext d;obtain⟨A,i,j,k,l,-⟩:=o.ca;have g:=Zy d;clear d o;by_cases f:s.toList=[]
 . by_cases e:m.toList=[]
   . first|(go_region_with (first|(go_at_call 234;refine(GV).mono ?_;rintro c v ⟨rfl,b⟩;have p:=b.iW i;have q:=b.iW j;have r:=b.iW k;have t:=b.iW l)|(go_at_call 235;refine(Ad).mono ?_;rintro c x ⟨rfl,u⟩)))|fail
     all_goals
      go_wp2;go_ret;have d:=g.o;exact⟨hQ (by rw[h.o];rw[toList_nil]at f e;simp[f,e]),Zv⟩
   . first|(go_region_with (first|(go_at_call 234;refine(GV).mono ?_;rintro c v ⟨rfl,b⟩;have p:=b.iW i;have q:=b.iW j;have r:=b.iW k;have t:=b.iW l)|(go_at_call 235;refine(Ad).mono ?_;rintro c x ⟨rfl,u⟩)))|fail
     all_goals
      go_wp2;go_ret;have d:=g.o;exact⟨hQ (by rw[h.o];rw[toList_nil]at e;simp[e]),Zv⟩
 . first|(go_region_with (first|(go_at_call 234;refine(GV).mono ?_;rintro c v ⟨rfl,b⟩;have p:=b.iW i;have q:=b.iW j;have r:=b.iW k;have t:=b.iW l)|(go_at_call 235;refine(Ad).mono ?_;rintro c x ⟨rfl,u⟩)))|fail
   all_goals
    go_wp2;go_ret;have d:=g.o;exact⟨hQ (by rw[h.o];rw[toList_nil]at f;simp[f]),Zv⟩
theorem MF(e:oG op=true):Calls prog 212 #[.agg #[op,a,s,m]] w fun c z=>c=.returned (.bool (kE ⟨op,a,s,m⟩))/\Ext w z:=by
 have h:=Zy (Mw (op:=op) (a:=a) (s:=s) (m:=m) (OJ e) e);have y:=Zy e;clear e;go_enter func212,ntmps212;go_wp2_with (go_at_call 233;refine(Om y).mono ?_;rintro c B ⟨rfl,d⟩);have n:=(h9.new w 134 #[op,a,s,m]).ext d;obtain⟨A,i,j,k,l,-⟩:=n.ca;have g:=Zy d;clear d n;by_cases u:0=a
 . by_cases f:m.toList=[]
   . first|(go_region_with (first|(go_at_call 234;refine(GU).mono ?_;rintro c v ⟨rfl,b⟩;have o:=b.iW i;have p:=b.iW j;have q:=b.iW k;have r:=b.iW l)|(go_at_call 235;refine(Ac).mono ?_;rintro c x ⟨rfl,t⟩)))|fail
     all_goals
      go_wp2;go_ret;have d:=g.o;exact⟨hQ (by rw[h.o];rw[toList_nil]at f;simp[<-u,f]),Zv⟩
   . first|(go_region_with (first|(go_at_call 234;refine(GU).mono ?_;rintro c v ⟨rfl,b⟩;have o:=b.iW i;have p:=b.iW j;have q:=b.iW k;have r:=b.iW l)|(go_at_call 235;refine(Ac).mono ?_;rintro c x ⟨rfl,t⟩)))|fail
     all_goals
      go_wp2;go_ret;have d:=g.o;exact⟨hQ (by rw[h.o];rw[toList_nil]at f;simp[f]),Zv⟩
 . first|(go_region_with (first|(go_at_call 234;refine(GU).mono ?_;rintro c v ⟨rfl,b⟩;have o:=b.iW i;have p:=b.iW j;have q:=b.iW k;have r:=b.iW l)|(go_at_call 235;refine(Ac).mono ?_;rintro c x ⟨rfl,t⟩)))|fail
   all_goals
    go_wp2;go_ret;have d:=g.o;exact⟨hQ (by rw[h.o];simp[Ne.symm u]),Zv⟩
theorem MG(d:pq op=true):Calls prog 212 #[.agg #[op,a,s,m]] w fun c v=>c=.returned (.bool (kE ⟨op,a,s,m⟩))/\Ext w v:=by
 have g:=Zy (Mx (op:=op) (a:=a) (s:=s) (m:=m) (IY d).1 (IY d).2 d);have o:=Zy d;clear d;go_enter func212,ntmps212;go_wp2_with (go_at_call 233;refine(Oo o).mono ?_;rintro c A ⟨rfl,e⟩);have h:=(h9.new w 134 #[op,a,s,m]).ext e;obtain⟨z,i,j,k,l,-⟩:=h.ca;have f:=Zy e;clear e h;by_cases n:0=a
 . first|(go_region_with (first|(go_at_call 234;refine(LP).mono ?_;rintro c x ⟨rfl,b⟩;have p:=b.iW i;have q:=b.iW j;have r:=b.iW k;have t:=b.iW l)|(go_at_call 235;refine(DD).mono ?_;rintro c y ⟨rfl,u⟩)))|fail
   all_goals
    go_wp2;go_ret;have e:=f.o;exact⟨hQ (by rw[g.o];simp[<-n]),Zv⟩
 . first|(go_region_with (first|(go_at_call 234;refine(LP).mono ?_;rintro c x ⟨rfl,b⟩;have p:=b.iW i;have q:=b.iW j;have r:=b.iW k;have t:=b.iW l)|(go_at_call 235;refine(DD).mono ?_;rintro c y ⟨rfl,u⟩)))|fail
   all_goals
    go_wp2;go_ret;have e:=f.o;exact⟨hQ (by rw[g.o];simp[Ne.symm n]),Zv⟩
theorem MI (e : qY op = true) :Calls prog 212 #[.agg #[op,a,s,m]] w fun c A=>c=.returned (.bool (kE ⟨op,a,s,m⟩))/\Ext w A:=by
 have g:=Zy (MC (op:=op) (a:=a) (s:=s) (m:=m) (DR e).1 (DR e).2.1 (DR e).2.2 e);have z:=Zy e;clear e;go_enter func212,ntmps212;go_wp2_with (go_at_call 233;refine(Ot z).mono ?_;rintro c C ⟨rfl,d⟩);have x:=(h9.new w 134 #[op,a,s,m]).ext d;obtain⟨B,h,i,j,k,-⟩:=x.ca;have f:=Zy d;clear d x;by_cases y:0=a
 . by_cases n:s.toList=[]
   . by_cases l:m.toList=[]
     . first|(go_region_with (first|(go_at_call 234;refine(Df).mono ?_;rintro c u ⟨rfl,b⟩;have o:=b.iW h;have p:=b.iW i;have q:=b.iW j;have r:=b.iW k)|(go_at_call 235;refine(wY).mono ?_;rintro c v ⟨rfl,t⟩)))|fail
       all_goals
        go_wp2;go_ret;have d:=f.o;exact⟨hQ (by rw[g.o];rw[toList_nil]at n l;simp[<-y,n,l]),Zv⟩
     . first|(go_region_with (first|(go_at_call 234;refine(Df).mono ?_;rintro c u ⟨rfl,b⟩;have o:=b.iW h;have p:=b.iW i;have q:=b.iW j;have r:=b.iW k)|(go_at_call 235;refine(wY).mono ?_;rintro c v ⟨rfl,t⟩)))|fail
       all_goals
        go_wp2;go_ret;have d:=f.o;exact⟨hQ (by rw[g.o];rw[toList_nil]at l;simp[l]),Zv⟩
   . first|(go_region_with (first|(go_at_call 234;refine(Df).mono ?_;rintro c u ⟨rfl,b⟩;have o:=b.iW h;have p:=b.iW i;have q:=b.iW j;have r:=b.iW k)|(go_at_call 235;refine(wY).mono ?_;rintro c v ⟨rfl,t⟩)))|fail
     all_goals
      go_wp2;go_ret;have d:=f.o;exact⟨hQ (by rw[g.o];rw[toList_nil]at n;simp[n]),Zv⟩
 . first|(go_region_with (first|(go_at_call 234;refine(Df).mono ?_;rintro c u ⟨rfl,b⟩;have o:=b.iW h;have p:=b.iW i;have q:=b.iW j;have r:=b.iW k)|(go_at_call 235;refine(wY).mono ?_;rintro c v ⟨rfl,t⟩)))|fail
   all_goals
    go_wp2;go_ret;have d:=f.o;exact⟨hQ (by rw[g.o];simp[Ne.symm y]),Zv⟩
theorem OD(c:isNum op=false)(d:oG op=false)(e:pq op=false)(f:qY op=false):Calls prog 212 #[.agg #[op,a,s,m]] w fun g i=>g=.returned (.bool (kE ⟨op,a,s,m⟩))/\Ext w i:=by
 have⟨h,b⟩:=jc (OA (op:=op) (a:=a) (s:=s) (m:=m) c d e f) (Tt (Tt c d) (Tt e f));clear c d e f;go_enter func212,ntmps212;go_wp2_with (go_at_call 233;refine(Qd b.1.1 b.1.2 b.2.1 b.2.2).mono ?_;rintro g k ⟨rfl,j⟩);go_quiet (fail);go_wp2;go_ret;exact⟨hQ (by rw[h.o]),Zv⟩
theorem OC(i:Ins){w:World}:Calls prog 212 #[.agg #[i.op,i.a,i.name,i.member]] w fun e f=>e=.returned (.bool (kE i))/\Ext w f:=by
 cases a:isNum i.op
 . cases b:oG i.op
   . cases c:pq i.op
     . cases d:qY i.op
       . exact OD a b c d
       . exact MI d
     . exact MG c
   . exact MF b
 . exact MH a
end Go.Proofs.YtenhnldnpdlniaaGreat
