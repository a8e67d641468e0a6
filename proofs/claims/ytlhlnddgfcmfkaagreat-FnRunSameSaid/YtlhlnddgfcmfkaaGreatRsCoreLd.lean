/- Walks. -/
import Derived.Test.YtlhlnddgfcmfkaaGreatRsCoreLc
set_option maxRecDepth 100000
set_option maxHeartbeats 4000000
set_option linter.all false
namespace Go.Proofs.YtlhlnddgfcmfkaaGreat
open Go Go.RowKit Tryz
theorem nC(a b:ByteArray):(a.toList==b.toList)=decide (a=b):=by
 rw[ByteArray.toList_eq,ByteArray.toList_eq,Bool.eq_iff_iff,decide_eq_true_iff,beq_iff_eq];constructor
 . intro c;obtain⟨⟨d⟩⟩:=a;obtain⟨⟨e⟩⟩:=b;simp at c;subst c;rfl
 . intro c;rw[c]
theorem toList_nil(s:ByteArray):s.toList=[]↔s=M.none_:=by
 rw[ByteArray.toList_eq];obtain⟨⟨a⟩⟩:=s;simp[M.none_]
theorem Km{op a:Int}{s m:ByteArray}(b:M.isNum op=true):M.lv ⟨op,a,s,m⟩=(decide (s=M.none_)&&decide (m=M.none_)&&decide (M.pQ op<=a)&&decide (a<=M.qI op)):=by
 unfold M.lv;rw[if_pos b]
theorem Kk{op a:Int}{s m:ByteArray}(h0:M.isNum op=false)(b:M.oO op=true):M.lv ⟨op,a,s,m⟩=(decide (a=0)&&decide (m=M.none_)&&M.jC s):=by
 unfold M.lv;rw[if_neg (by simp[h0]),if_pos b]
theorem Kl{op a:Int}{s m:ByteArray}(h0:M.isNum op=false)(c:M.oO op=false)(b:M.pM op=true):M.lv ⟨op,a,s,m⟩=(decide (a=0)&&M.jC s&&M.jC m):=by
 unfold M.lv;rw[if_neg (by simp[h0]),if_neg (by simp[c]),if_pos b]
theorem Ko{op a:Int}{s m:ByteArray}(h0:M.isNum op=false)(c:M.oO op=false)(d:M.pM op=false)(b:M.qU op=true):M.lv ⟨op,a,s,m⟩=(decide (a=0)&&decide (s=M.none_)&&decide (m=M.none_)):=by
 unfold M.lv;rw[if_neg (by simp[h0]),if_neg (by simp[c]),if_neg (by simp[d]),if_pos b]
theorem Mx{op a:Int}{s m:ByteArray}(h0:M.isNum op=false)(c:M.oO op=false)(d:M.pM op=false)(b:M.qU op=false):M.lv ⟨op,a,s,m⟩=false:=by
 unfold M.lv;rw[if_neg (by simp[h0]),if_neg (by simp[c]),if_neg (by simp[d]),if_neg (by simp[b])]
theorem MI{op:Int}(a:M.oO op=true):M.isNum op=false:=by rcases EM a with rfl|rfl<;>rfl
theorem G6{op:Int}(a:M.pM op=true):M.isNum op=false∧M.oO op=false:=by rcases Ff a with rfl|rfl|rfl<;>exact⟨rfl,rfl⟩
theorem Df{op:Int}(a:M.qU op=true):M.isNum op=false∧M.oO op=false∧M.pM op=false:=by
 rcases Fj a with rfl|rfl|rfl|rfl<;>exact⟨rfl,rfl,rfl⟩
theorem Ku{op a:Int}{s m:ByteArray}{w:World}(n:M.isNum op=true):Calls prog 192 #[.agg #[op,a,s,m]] w fun c z=>c=.returned (.bool (M.lv ⟨op,a,s,m⟩))∧Ext w z:=by
 have h:=Zy (Km (op:=op) (a:=a) (s:=s) (m:=m) n);have y:=Zy n;clear n;go_enter func192,ntmps192;go_wp2_with (go_at_call 215;refine(Mm y).mono ?_;rintro c B ⟨rfl,d⟩);have o:=(hV.new w 149 #[op,a,s,m]).ext d;obtain⟨A,i,j,k,l,-⟩:=o.ca;have g:=Zy d;clear d o;by_cases f:s.toList=[]
 . by_cases e:m.toList=[]
   . first|(go_region_with (first|(go_at_call 216;refine(FP).mono ?_;rintro c v ⟨rfl,b⟩;have p:=b.jb i;have q:=b.jb j;have r:=b.jb k;have t:=b.jb l)|(go_at_call 217;refine(zo).mono ?_;rintro c x ⟨rfl,u⟩)))|fail
     all_goals
      go_wp2;go_ret;have d:=g.o;exact⟨hQ (by rw[h.o];rw[toList_nil]at f e;simp[f,e]),Zv⟩
   . first|(go_region_with (first|(go_at_call 216;refine(FP).mono ?_;rintro c v ⟨rfl,b⟩;have p:=b.jb i;have q:=b.jb j;have r:=b.jb k;have t:=b.jb l)|(go_at_call 217;refine(zo).mono ?_;rintro c x ⟨rfl,u⟩)))|fail
     all_goals
      go_wp2;go_ret;have d:=g.o;exact⟨hQ (by rw[h.o];rw[toList_nil]at e;simp[e]),Zv⟩
 . first|(go_region_with (first|(go_at_call 216;refine(FP).mono ?_;rintro c v ⟨rfl,b⟩;have p:=b.jb i;have q:=b.jb j;have r:=b.jb k;have t:=b.jb l)|(go_at_call 217;refine(zo).mono ?_;rintro c x ⟨rfl,u⟩)))|fail
   all_goals
    go_wp2;go_ret;have d:=g.o;exact⟨hQ (by rw[h.o];rw[toList_nil]at f;simp[f]),Zv⟩
theorem Kr{op a:Int}{s m:ByteArray}{w:World}(e:M.oO op=true):Calls prog 192 #[.agg #[op,a,s,m]] w fun c z=>c=.returned (.bool (M.lv ⟨op,a,s,m⟩))∧Ext w z:=by
 have h:=Zy (Kk (op:=op) (a:=a) (s:=s) (m:=m) (MI e) e);have y:=Zy e;clear e;go_enter func192,ntmps192;go_wp2_with (go_at_call 215;refine(Mk y).mono ?_;rintro c B ⟨rfl,d⟩);have n:=(hV.new w 149 #[op,a,s,m]).ext d;obtain⟨A,i,j,k,l,-⟩:=n.ca;have g:=Zy d;clear d n;by_cases u:0=a
 . by_cases f:m.toList=[]
   . first|(go_region_with (first|(go_at_call 216;refine(FO).mono ?_;rintro c v ⟨rfl,b⟩;have o:=b.jb i;have p:=b.jb j;have q:=b.jb k;have r:=b.jb l)|(go_at_call 217;refine(zn).mono ?_;rintro c x ⟨rfl,t⟩)))|fail
     all_goals
      go_wp2;go_ret;have d:=g.o;exact⟨hQ (by rw[h.o];rw[toList_nil]at f;simp[<-u,f]),Zv⟩
   . first|(go_region_with (first|(go_at_call 216;refine(FO).mono ?_;rintro c v ⟨rfl,b⟩;have o:=b.jb i;have p:=b.jb j;have q:=b.jb k;have r:=b.jb l)|(go_at_call 217;refine(zn).mono ?_;rintro c x ⟨rfl,t⟩)))|fail
     all_goals
      go_wp2;go_ret;have d:=g.o;exact⟨hQ (by rw[h.o];rw[toList_nil]at f;simp[f]),Zv⟩
 . first|(go_region_with (first|(go_at_call 216;refine(FO).mono ?_;rintro c v ⟨rfl,b⟩;have o:=b.jb i;have p:=b.jb j;have q:=b.jb k;have r:=b.jb l)|(go_at_call 217;refine(zn).mono ?_;rintro c x ⟨rfl,t⟩)))|fail
   all_goals
    go_wp2;go_ret;have d:=g.o;exact⟨hQ (by rw[h.o];simp[Ne.symm u]),Zv⟩
theorem Kt{op a:Int}{s m:ByteArray}{w:World}(d:M.pM op=true):Calls prog 192 #[.agg #[op,a,s,m]] w fun c v=>c=.returned (.bool (M.lv ⟨op,a,s,m⟩))∧Ext w v:=by
 have g:=Zy (Kl (op:=op) (a:=a) (s:=s) (m:=m) (G6 d).1 (G6 d).2 d);have o:=Zy d;clear d;go_enter func192,ntmps192;go_wp2_with (go_at_call 215;refine(Ml o).mono ?_;rintro c A ⟨rfl,e⟩);have h:=(hV.new w 149 #[op,a,s,m]).ext e;obtain⟨z,i,j,k,l,-⟩:=h.ca;have f:=Zy e;clear e h;by_cases n:0=a
 . first|(go_region_with (first|(go_at_call 216;refine(JN).mono ?_;rintro c x ⟨rfl,b⟩;have p:=b.jb i;have q:=b.jb j;have r:=b.jb k;have t:=b.jb l)|(go_at_call 217;refine(CZ).mono ?_;rintro c y ⟨rfl,u⟩)))|fail
   all_goals
    go_wp2;go_ret;have e:=f.o;exact⟨hQ (by rw[g.o];simp[<-n]),Zv⟩
 . first|(go_region_with (first|(go_at_call 216;refine(JN).mono ?_;rintro c x ⟨rfl,b⟩;have p:=b.jb i;have q:=b.jb j;have r:=b.jb k;have t:=b.jb l)|(go_at_call 217;refine(CZ).mono ?_;rintro c y ⟨rfl,u⟩)))|fail
   all_goals
    go_wp2;go_ret;have e:=f.o;exact⟨hQ (by rw[g.o];simp[Ne.symm n]),Zv⟩
theorem Kv {op a: Int} {s m: ByteArray} {w: World} (e : M.qU op = true) :Calls prog 192 #[.agg #[op,a,s,m]] w fun c A=>c=.returned (.bool (M.lv ⟨op,a,s,m⟩))∧Ext w A:=by
 have g:=Zy (Ko (op:=op) (a:=a) (s:=s) (m:=m) (Df e).1 (Df e).2.1 (Df e).2.2 e);have z:=Zy e;clear e;go_enter func192,ntmps192;go_wp2_with (go_at_call 215;refine(Mo z).mono ?_;rintro c C ⟨rfl,d⟩);have x:=(hV.new w 149 #[op,a,s,m]).ext d;obtain⟨B,h,i,j,k,-⟩:=x.ca;have f:=Zy d;clear d x;by_cases y:0=a
 . by_cases n:s.toList=[]
   . by_cases l:m.toList=[]
     . first|(go_region_with (first|(go_at_call 216;refine(Cz).mono ?_;rintro c u ⟨rfl,b⟩;have o:=b.jb h;have p:=b.jb i;have q:=b.jb j;have r:=b.jb k)|(go_at_call 217;refine(wB).mono ?_;rintro c v ⟨rfl,t⟩)))|fail
       all_goals
        go_wp2;go_ret;have d:=f.o;exact⟨hQ (by rw[g.o];rw[toList_nil]at n l;simp[<-y,n,l]),Zv⟩
     . first|(go_region_with (first|(go_at_call 216;refine(Cz).mono ?_;rintro c u ⟨rfl,b⟩;have o:=b.jb h;have p:=b.jb i;have q:=b.jb j;have r:=b.jb k)|(go_at_call 217;refine(wB).mono ?_;rintro c v ⟨rfl,t⟩)))|fail
       all_goals
        go_wp2;go_ret;have d:=f.o;exact⟨hQ (by rw[g.o];rw[toList_nil]at l;simp[l]),Zv⟩
   . first|(go_region_with (first|(go_at_call 216;refine(Cz).mono ?_;rintro c u ⟨rfl,b⟩;have o:=b.jb h;have p:=b.jb i;have q:=b.jb j;have r:=b.jb k)|(go_at_call 217;refine(wB).mono ?_;rintro c v ⟨rfl,t⟩)))|fail
     all_goals
      go_wp2;go_ret;have d:=f.o;exact⟨hQ (by rw[g.o];rw[toList_nil]at n;simp[n]),Zv⟩
 . first|(go_region_with (first|(go_at_call 216;refine(Cz).mono ?_;rintro c u ⟨rfl,b⟩;have o:=b.jb h;have p:=b.jb i;have q:=b.jb j;have r:=b.jb k)|(go_at_call 217;refine(wB).mono ?_;rintro c v ⟨rfl,t⟩)))|fail
   all_goals
    go_wp2;go_ret;have d:=f.o;exact⟨hQ (by rw[g.o];simp[Ne.symm y]),Zv⟩
theorem MC{op a:Int}{s m:ByteArray}{w:World}(c:M.isNum op=false)(d:M.oO op=false)(e:M.pM op=false)(f:M.qU op=false):Calls prog 192 #[.agg #[op,a,s,m]] w fun g i=>g=.returned (.bool (M.lv ⟨op,a,s,m⟩))∧Ext w i:=by
 have⟨h,b⟩:=je (Mx (op:=op) (a:=a) (s:=s) (m:=m) c d e f) (And.intro (And.intro c d) (And.intro e f));clear c d e f;go_enter func192,ntmps192;go_wp2_with (go_at_call 215;refine(Ol b.1.1 b.1.2 b.2.1 b.2.2).mono ?_;rintro g k ⟨rfl,j⟩);go_quiet (fail);go_wp2;go_ret;exact⟨hQ (by rw[h.o]),Zv⟩
theorem MB(i:M.Ins){w:World}:Calls prog 192 #[.agg #[i.op,i.a,i.name,i.member]] w fun e f=>e=.returned (.bool (M.lv i))∧Ext w f:=by
 cases a:M.isNum i.op
 . cases b:M.oO i.op
   . cases c:M.pM i.op
     . cases d:M.qU i.op
       . exact MC a b c d
       . exact Kv d
     . exact Kt c
   . exact Kr b
 . exact Ku a
end Go.Proofs.YtlhlnddgfcmfkaaGreat
