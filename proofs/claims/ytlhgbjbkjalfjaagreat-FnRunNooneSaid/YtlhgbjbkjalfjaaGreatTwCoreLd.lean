/- Walks. -/
import Derived.Test.YtlhgbjbkjalfjaaGreatTwCoreLc
set_option maxRecDepth 100000
set_option maxHeartbeats 4000000
set_option linter.all false
namespace Go.Proofs.YtlhgbjbkjalfjaaGreat
open Go Go.RowKit Tryz M
variable {m s: ByteArray}{a op: Int}{w: World}
theorem kI(a b:ByteArray):(a.toList==b.toList)=decide (a=b):=by
 rw[Ut,Ut,UI,decide_eq_true_iff,Uq];constructor
 . intro c;obtain⟨⟨d⟩⟩:=a;obtain⟨⟨e⟩⟩:=b;simp at c;subst c;rfl
 . intro c;rw[c]
theorem toList_nil(s:ByteArray):s.toList=[]↔s=none_:=by
 rw[Ut];obtain⟨⟨a⟩⟩:=s;simp[none_]
theorem Ll(b:isNum op=true):pM ⟨op,a,s,m⟩=(decide (s=none_)&&decide (m=none_)&&decide (rY op<=a)&&decide (a<=sO op)):=by
 unfold pM;rw[Tv b]
theorem Li(h0:isNum op=false)(b:qZ op=true):pM ⟨op,a,s,m⟩=(decide (a=0)&&decide (m=none_)&&jJ s):=by
 unfold pM;rw[Tt (by simp[h0]),Tv b]
theorem Lj(h0:isNum op=false)(c:qZ op=false)(b:sW op=true):pM ⟨op,a,s,m⟩=(decide (a=0)&&jJ s&&jJ m):=by
 unfold pM;rw[Tt (by simp[h0]),Tt (by simp[c]),Tv b]
theorem Lm(h0:isNum op=false)(c:qZ op=false)(d:sW op=false)(b:uS op=true):pM ⟨op,a,s,m⟩=(decide (a=0)&&decide (s=none_)&&decide (m=none_)):=by
 unfold pM;rw[Tt (by simp[h0]),Tt (by simp[c]),Tt (by simp[d]),Tv b]
theorem Nw(h0:isNum op=false)(c:qZ op=false)(d:sW op=false)(b:uS op=false):pM ⟨op,a,s,m⟩=false:=by
 unfold pM;rw[Tt (by simp[h0]),Tt (by simp[c]),Tt (by simp[d]),Tt (by simp[b])]
theorem NG(a:qZ op=true):isNum op=false:=by rcases FE a with rfl|rfl<;>rfl
theorem Ib(a:sW op=true):isNum op=false/\qZ op=false:=by rcases FX a with rfl|rfl|rfl<;>exact⟨rfl,rfl⟩
theorem DD(a:uS op=true):isNum op=false/\qZ op=false/\sW op=false:=by
 rcases FZ a with rfl|rfl|rfl|rfl<;>exact⟨rfl,rfl,rfl⟩
theorem Lt(n:isNum op=true):Calls prog 207 #[.agg #[op,a,s,m]] w fun c z=>c=.returned (.bool (pM ⟨op,a,s,m⟩))/\Ext w z:=by
 have h:=Zy (Ll (op:=op) (a:=a) (s:=s) (m:=m) n);have y:=Zy n;clear n;go_enter func207,ntmps207;go_wp2_with (go_at_call 230;refine(Nn y).mono ?_;rintro c B ⟨rfl,d⟩);have o:=(hZ.new w 140 #[op,a,s,m]).ext d;obtain⟨A,i,j,k,l,-⟩:=o.ca;have g:=Zy d;clear d o;by_cases f:s.toList=[]
 . by_cases e:m.toList=[]
   . first|(go_region_with (first|(go_at_call 231;refine(Gu).mono ?_;rintro c v ⟨rfl,b⟩;have p:=b.je i;have q:=b.je j;have r:=b.je k;have t:=b.je l)|(go_at_call 232;refine(zR).mono ?_;rintro c x ⟨rfl,u⟩)))|fail
     all_goals
      go_wp2;go_ret;have d:=g.o;exact⟨hQ (by rw[h.o];rw[toList_nil]at f e;simp[f,e]),Zv⟩
   . first|(go_region_with (first|(go_at_call 231;refine(Gu).mono ?_;rintro c v ⟨rfl,b⟩;have p:=b.je i;have q:=b.je j;have r:=b.je k;have t:=b.je l)|(go_at_call 232;refine(zR).mono ?_;rintro c x ⟨rfl,u⟩)))|fail
     all_goals
      go_wp2;go_ret;have d:=g.o;exact⟨hQ (by rw[h.o];rw[toList_nil]at e;simp[e]),Zv⟩
 . first|(go_region_with (first|(go_at_call 231;refine(Gu).mono ?_;rintro c v ⟨rfl,b⟩;have p:=b.je i;have q:=b.je j;have r:=b.je k;have t:=b.je l)|(go_at_call 232;refine(zR).mono ?_;rintro c x ⟨rfl,u⟩)))|fail
   all_goals
    go_wp2;go_ret;have d:=g.o;exact⟨hQ (by rw[h.o];rw[toList_nil]at f;simp[f]),Zv⟩
theorem Lr(e:qZ op=true):Calls prog 207 #[.agg #[op,a,s,m]] w fun c z=>c=.returned (.bool (pM ⟨op,a,s,m⟩))/\Ext w z:=by
 have h:=Zy (Li (op:=op) (a:=a) (s:=s) (m:=m) (NG e) e);have y:=Zy e;clear e;go_enter func207,ntmps207;go_wp2_with (go_at_call 230;refine(Nk y).mono ?_;rintro c B ⟨rfl,d⟩);have n:=(hZ.new w 140 #[op,a,s,m]).ext d;obtain⟨A,i,j,k,l,-⟩:=n.ca;have g:=Zy d;clear d n;by_cases u:0=a
 . by_cases f:m.toList=[]
   . first|(go_region_with (first|(go_at_call 231;refine(Gt).mono ?_;rintro c v ⟨rfl,b⟩;have o:=b.je i;have p:=b.je j;have q:=b.je k;have r:=b.je l)|(go_at_call 232;refine(zQ).mono ?_;rintro c x ⟨rfl,t⟩)))|fail
     all_goals
      go_wp2;go_ret;have d:=g.o;exact⟨hQ (by rw[h.o];rw[toList_nil]at f;simp[<-u,f]),Zv⟩
   . first|(go_region_with (first|(go_at_call 231;refine(Gt).mono ?_;rintro c v ⟨rfl,b⟩;have o:=b.je i;have p:=b.je j;have q:=b.je k;have r:=b.je l)|(go_at_call 232;refine(zQ).mono ?_;rintro c x ⟨rfl,t⟩)))|fail
     all_goals
      go_wp2;go_ret;have d:=g.o;exact⟨hQ (by rw[h.o];rw[toList_nil]at f;simp[f]),Zv⟩
 . first|(go_region_with (first|(go_at_call 231;refine(Gt).mono ?_;rintro c v ⟨rfl,b⟩;have o:=b.je i;have p:=b.je j;have q:=b.je k;have r:=b.je l)|(go_at_call 232;refine(zQ).mono ?_;rintro c x ⟨rfl,t⟩)))|fail
   all_goals
    go_wp2;go_ret;have d:=g.o;exact⟨hQ (by rw[h.o];simp[Ne.symm u]),Zv⟩
theorem Ls(d:sW op=true):Calls prog 207 #[.agg #[op,a,s,m]] w fun c v=>c=.returned (.bool (pM ⟨op,a,s,m⟩))/\Ext w v:=by
 have g:=Zy (Lj (op:=op) (a:=a) (s:=s) (m:=m) (Ib d).1 (Ib d).2 d);have o:=Zy d;clear d;go_enter func207,ntmps207;go_wp2_with (go_at_call 230;refine(Nl o).mono ?_;rintro c A ⟨rfl,e⟩);have h:=(hZ.new w 140 #[op,a,s,m]).ext e;obtain⟨z,i,j,k,l,-⟩:=h.ca;have f:=Zy e;clear e h;by_cases n:0=a
 . first|(go_region_with (first|(go_at_call 231;refine(KF).mono ?_;rintro c x ⟨rfl,b⟩;have p:=b.je i;have q:=b.je j;have r:=b.je k;have t:=b.je l)|(go_at_call 232;refine(Dr).mono ?_;rintro c y ⟨rfl,u⟩)))|fail
   all_goals
    go_wp2;go_ret;have e:=f.o;exact⟨hQ (by rw[g.o];simp[<-n]),Zv⟩
 . first|(go_region_with (first|(go_at_call 231;refine(KF).mono ?_;rintro c x ⟨rfl,b⟩;have p:=b.je i;have q:=b.je j;have r:=b.je k;have t:=b.je l)|(go_at_call 232;refine(Dr).mono ?_;rintro c y ⟨rfl,u⟩)))|fail
   all_goals
    go_wp2;go_ret;have e:=f.o;exact⟨hQ (by rw[g.o];simp[Ne.symm n]),Zv⟩
theorem Lu (e : uS op = true) :Calls prog 207 #[.agg #[op,a,s,m]] w fun c A=>c=.returned (.bool (pM ⟨op,a,s,m⟩))/\Ext w A:=by
 have g:=Zy (Lm (op:=op) (a:=a) (s:=s) (m:=m) (DD e).1 (DD e).2.1 (DD e).2.2 e);have z:=Zy e;clear e;go_enter func207,ntmps207;go_wp2_with (go_at_call 230;refine(Np z).mono ?_;rintro c C ⟨rfl,d⟩);have x:=(hZ.new w 140 #[op,a,s,m]).ext d;obtain⟨B,h,i,j,k,-⟩:=x.ca;have f:=Zy d;clear d x;by_cases y:0=a
 . by_cases n:s.toList=[]
   . by_cases l:m.toList=[]
     . first|(go_region_with (first|(go_at_call 231;refine(CV).mono ?_;rintro c u ⟨rfl,b⟩;have o:=b.je h;have p:=b.je i;have q:=b.je j;have r:=b.je k)|(go_at_call 232;refine(wK).mono ?_;rintro c v ⟨rfl,t⟩)))|fail
       all_goals
        go_wp2;go_ret;have d:=f.o;exact⟨hQ (by rw[g.o];rw[toList_nil]at n l;simp[<-y,n,l]),Zv⟩
     . first|(go_region_with (first|(go_at_call 231;refine(CV).mono ?_;rintro c u ⟨rfl,b⟩;have o:=b.je h;have p:=b.je i;have q:=b.je j;have r:=b.je k)|(go_at_call 232;refine(wK).mono ?_;rintro c v ⟨rfl,t⟩)))|fail
       all_goals
        go_wp2;go_ret;have d:=f.o;exact⟨hQ (by rw[g.o];rw[toList_nil]at l;simp[l]),Zv⟩
   . first|(go_region_with (first|(go_at_call 231;refine(CV).mono ?_;rintro c u ⟨rfl,b⟩;have o:=b.je h;have p:=b.je i;have q:=b.je j;have r:=b.je k)|(go_at_call 232;refine(wK).mono ?_;rintro c v ⟨rfl,t⟩)))|fail
     all_goals
      go_wp2;go_ret;have d:=f.o;exact⟨hQ (by rw[g.o];rw[toList_nil]at n;simp[n]),Zv⟩
 . first|(go_region_with (first|(go_at_call 231;refine(CV).mono ?_;rintro c u ⟨rfl,b⟩;have o:=b.je h;have p:=b.je i;have q:=b.je j;have r:=b.je k)|(go_at_call 232;refine(wK).mono ?_;rintro c v ⟨rfl,t⟩)))|fail
   all_goals
    go_wp2;go_ret;have d:=f.o;exact⟨hQ (by rw[g.o];simp[Ne.symm y]),Zv⟩
theorem Nz(c:isNum op=false)(d:qZ op=false)(e:sW op=false)(f:uS op=false):Calls prog 207 #[.agg #[op,a,s,m]] w fun g i=>g=.returned (.bool (pM ⟨op,a,s,m⟩))/\Ext w i:=by
 have⟨h,b⟩:=jf (Nw (op:=op) (a:=a) (s:=s) (m:=m) c d e f) (Tn (Tn c d) (Tn e f));clear c d e f;go_enter func207,ntmps207;go_wp2_with (go_at_call 230;refine(Po b.1.1 b.1.2 b.2.1 b.2.2).mono ?_;rintro g k ⟨rfl,j⟩);go_quiet (fail);go_wp2;go_ret;exact⟨hQ (by rw[h.o]),Zv⟩
theorem Ny(i:Ins){w:World}:Calls prog 207 #[.agg #[i.op,i.a,i.name,i.member]] w fun e f=>e=.returned (.bool (pM i))/\Ext w f:=by
 cases a:isNum i.op
 . cases b:qZ i.op
   . cases c:sW i.op
     . cases d:uS i.op
       . exact Nz a b c d
       . exact Lu d
     . exact Ls c
   . exact Lr b
 . exact Lt a
end Go.Proofs.YtlhgbjbkjalfjaaGreat
