/- Walks. -/
import Derived.Test.YtenhnldnpdlniaaGreatSmCoreLa
import Derived.Deep.RegionLaw
import Derived.Deep.AppendLies
import Derived.Lib.SlBytesRow
import Derived.Deep.Quiet
import Derived.Deep.RegionWith
import Derived.Deep.RegionHeld3
import Derived.StillTailTactics
import Derived.Maps.RangeWalk
import Derived.RangeFuncKeeps
import Derived.RangeFuncNested
import Derived.RangeFuncBound
import Derived.RangeFuncCalls
import Derived.RangeFuncLeaves
import Derived.Shelf.Abstract
import Derived.Shelf.RegionOpen
import Derived.TacticsInMore
import Derived.LoopNIn
import Derived.LoopIn
import Derived.Deep.DeepCutAuto
import Derived.Deep.CutRange
set_option maxRecDepth 100000
set_option maxHeartbeats 4000000
set_option linter.all false
namespace Go.Proofs.YtenhnldnpdlniaaGreat
open Go Go.RowKit Tryz M
theorem rD{n a b:Int}{w:World}:Calls prog 76 #[n,a,b] w fun c d=>c=.returned (.bool (decide (a<=n)&&decide (n<=b)))/\w=d:=by
 go_enter func76,ntmps76;go_wp2
 . go_ret;exact⟨hV (by rw[Tw (p:=a<=n) Zm];rfl),rfl⟩
 . go_ret;exact⟨hV (by rw[SS (p:=a<=n) Zm];rfl),rfl⟩
theorem kT(s:ByteArray)(w:World):Calls prog 117 #[s] w fun g j=>g=.returned (.bool (jL s))/\w=j:=by
 by_cases h:s.size=0
 . have i:((s.size:Int)==0)=true:=by simp[h]
   go_enter func117,ntmps117;go_wp2;go_ret;exact⟨hV (by unfold jL;rw[SS Zm];rfl),rfl⟩
 have i:((s.size:Int)==0)=false:=SK.2 Zm;by_cases k:6<s.size
 . go_enter func117,ntmps117;go_wp2;go_ret;exact⟨hV (by unfold jL;rw[SS (p:=s.size<=6) Zm];simp),rfl⟩
 go_enter func117,ntmps117;go_wp2;go_loop [3] (fun c=>∃a:Nat,a<=s.size/\c=.int .i64 a/\(s.data.toList.take a).all letter=true) (fun c=>s.size - (intOf c).toNat)
 case atStart=>exact⟨0,Tz _,rfl,Zl⟩
 case round=>
  obtain⟨a,l,rfl,f⟩:=hrel;have d:=Zy f;clear f;by_cases b:a<s.size
  . go_wp2
    . go_ret;exact⟨hV (Bc s a b (Es Zp)).symm,rfl⟩
    . go_round
      case rel=>
       refine⟨a+1,Zm,Zk,?_⟩;rw[CP s a b,VZ,d.o];simp[Et (c:=s[a]) Zp]
      case measure=>exact Zj
    . go_ret;exact⟨hV (Bc s a b (Er Zp)).symm,rfl⟩
  . go_wp2;go_ret;refine⟨hV ?_,rfl⟩;have e:=d.o;rw[Tq Zr]at e;unfold jL;rw[e,Tw Zm,Tw Zm];rfl
theorem vD:Elem 67 42 2:=oH (z:=.agg #[Tj,Tj]) (bytes:=16) underlying67 Zo rfl Zn Zn
theorem hQ.kX{w:World}{b:Nat}{t:TypeId}{cs:Array Value}(a:jq w b t cs):hQ w b 0 cs.toList:=by
 intro d e c;rw[Tk];exact a.c d e (by simpa using c)
theorem hQ.oI{W:World}{g:Nat}(t:TypeId)(cs:Array Value)(a:W=g):hQ (W.alloc (.cells cs t)) g 0 cs.toList:=by
 subst a;exact hQ.kX (jq.new W t cs)
theorem jS{w:World}{base c k n:Nat}{v:Value}{xs:List Value}(d:w.ownsRow base c k v n xs):∃b a,v=.slice b n a:=by
 rcases d.2 with⟨rfl,rfl⟩|⟨f,a,e,rfl,_⟩
 . exact⟨_,_,rfl⟩
 . exact⟨_,_,rfl⟩
theorem oJ{w:World}{base a k n:Nat}{v:Value}{xs:List Value}(b:w.ownsRow base a k v n xs){g:Nat}(c:v.ownBlock=some g):base<=g/\g<w:=b.lt g c
theorem Dk{t b k:Nat}(o:Elem t b k){W:Array Oper}{h:Oper}{a:Act}{w:World}{K:Act->World->Prop}{Q:Exit->Act->World->Prop}{p:Prop}(E:h.guard=none)(s x:Operand)
    (L:h.op=.call {callee:=.builtin .append,args:=#[s,x],argTypes:=#[t,t]}) (base:Nat) (v:Value) (n:Nat) (xs:List Value) (N:a.eval s=v) (M:w.ownsRow base b k v n xs)
    (g c:Nat) (f:List Value) (R:a.eval x=.slice (some ⟨g,0,none⟩) 1 c) (hl:f.length=k) (J:hQ w g 0 f) (u:∀m∈f,m.oneCell'=true)
    (I:n+1<=4294967296) (B:base<=w)
    (r:∀d j i,i.ownsRow base b k (.slice (some ⟨d,0,none⟩) (n+1) j) (n+1) (xs++f)->Kp (fun q=>v.ownBlock=some q) w i->(v.ownBlock=some d\/w.heap.size=d)->K (a.put h.dst (.slice (some ⟨d,0,none⟩) (n+1) j)) i):
    if Region.wanted h (yielded W a.tmps)=true then Oper.wp prog h a w K Q else p:=by
 obtain⟨U,X,bytes,P,F,S,O,C,T,l,A⟩:=o;refine step_append_lies w E s x t L base b U X k bytes P F S O C T l v n xs N M g 1 c f R Zm ?_ u Zm (by unfold maxLen;omega) ?_ B w rfl ?_
 . intro V m G;have:=J V m G;rw[Tk]at this;unfold Addr.add;split
   . rename_i H;subst H;exact this
   . simpa using this
 . have:(n+1)*bytes<=4294967296*4096:=Vg I A;omega
 . intro d j i y e z Y;exact r d j i y ⟨e.os,e.tape,e.output,e.size,fun k l D=>e.block k l (fun b=>D b.symm)⟩ (z.imp id Eq.symm)
theorem jF{t b k:Nat}(p:Elem t b k){o:Array Oper}{rest:List Oper}{j:Oper}{a:Act}{w:World}{Q:Exit->Act->World->Prop}(E:j.guard=none)(s x:Operand)
    (K:j.op=.call {callee:=.builtin .append,args:=#[s,x],argTypes:=#[t,t]}) (base:Nat) (v:Value) (n:Nat) (xs:List Value) (M:a.eval s=v) (L:w.ownsRow base b k v n xs)
    (g c:Nat) (f:List Value) (P:a.eval x=.slice (some ⟨g,0,none⟩) 1 c) (hl:f.length=k) (J:hQ w g 0 f) (u:∀m∈f,m.oneCell'=true)
    (I:n+1<=4294967296) (B:base<=w)
    (r:∀d i h,h.ownsRow base b k (.slice (some ⟨d,0,none⟩) (n+1) i) (n+1) (xs++f)->Kp (fun q=>v.ownBlock=some q) w h->(v.ownBlock=some d\/w.heap.size=d)->wpList prog o Q rest (a.put j.dst (.slice (some ⟨d,0,none⟩) (n+1) i)) h):
    wpList prog o Q (j::rest) a w:=by
 obtain⟨T,V,bytes,O,F,R,N,C,S,l,A⟩:=p;refine wpList_append_lies w E s x t K base b T V k bytes O F R N C S l v n xs M L g 1 c f P Zm ?_ u Zm (by unfold maxLen;omega) ?_ B w rfl ?_
 . intro U m G;have:=J U m G;rw[Tk]at this;unfold Addr.add;split
   . rename_i H;subst H;exact this
   . simpa using this
 . have:(n+1)*bytes<=4294967296*4096:=Vg I A;omega
 . intro d i h y e z W;exact r d i h y ⟨e.os,e.tape,e.output,e.size,fun k l D=>e.block k l (fun b=>D b.symm)⟩ (z.imp id Eq.symm)
theorem Dj(w:World)(k a:Nat){g:TypeId}{cs:Array Value}{vs:Value}(n:Nat)(f:Int)(b:jq w k g cs)(h0:cs[a]?=some vs)(e:cs[a+1]?=some (.int .i64 f))(j:∃c d,vs=.slice c n d)(x y:Int)(o:f<=(n:Int)):Calls prog 147 #[some (k,a),.agg #[x,y]] w fun i l=>i=.returned (.bool false)/\Ext w l:=by
 obtain⟨c,d,rfl⟩:=j;have h:=b.c a _ h0;have m:=b.c (a+1) _ e;have p:=jv h;clear b h0 e;go_enter func147,ntmps147;go_wp2;go_quiet (fail);go_wp2;go_ret;exact⟨rfl,kx⟩
theorem Lu(w:World)(k a d:Nat){t:TypeId}{cs:Array Value}{vs:Value}(n:Nat){xs:List Value}(m:Int)(f:jq w k t cs)(h0:cs[a]?=some vs)(z:cs[a+1]?=some (.int .i64 m))(x y:Int)(o:w.ownsRow d 42 2 vs n xs)(X:n<=1000)(W:(n:Int)<m)(E:vs.ownBlock≠some k)(C:d<=w):Calls prog 147 #[some (k,a),.agg #[x,y]] w fun j p=>j=.returned (.bool true)/\∃b e,p.ownsRow d 42 2 (.slice (some ⟨b,0,none⟩) (n+1) e) (n+1) (xs++[.int .i64 x,.int .i64 y])/\(vs.ownBlock=some b\/w.heap.size<=b)/\jq p k t (cs.setIfInBounds a (.slice (some ⟨b,0,none⟩) (n+1) e))/\Kp (fun i=>i=k\/vs.ownBlock=some i) w p:=by
 obtain⟨u,e,rfl⟩:=jS o;have v:=f.c a _ h0;have M:=f.c (a+1) _ z;have O:=f.frozen a;have T:=jv v;have⟨q,J,s,F⟩:=kD f o E h0;clear f h0 z o E;have Q:(m<=(n:Int))=False:=by simp;omega
 have R:n+1<=4294967296:=Zm
 have A:∀h,Ext w h->h.ownsRow d 42 2 (.slice u n e) n xs:=fun h P=>jr J P fun _ _ _ x=>x;have H:=Zy A;clear A;go_enter func147,ntmps147;go_wp2;go_quiet (fail);go_wp2;clear M Q;go_region_law (refine Dk vD rfl (.tmp 19) (.tmp 21) rfl d (.slice u n e) n xs rfl (H _ kx) (w+1) 1 [x,y] (by simp[Act.eval]) rfl (hQ.oI _ _ Zl) Zt R Zr ?_;intro b L Z B l D;have g:=(q.ext kx).kp l s;have U:=g.c a _ F;have V:=g.frozen a;have z1:=g.lt;have G:=Zy g;have K:=Zy B;have I:=Zy l;have r:=Zy D;clear B l D g v O T)
 all_goals
  go_wp2;go_ret;refine⟨rfl,b,L,jr K ((Kp.refl (·=k) _).setCell (fun _=>rfl) _) (fun Y S _ j=>?_),?_,G.jR _ _,?_⟩
  . cases S;have N:b=k:=j;subst N;rcases r.o with c|c
    . exact s c
    . have:=q.lt;simp at c;omega
  . rcases r.o with c|c
    . exact .inl c
    . right;simp at c;omega
  . refine Kp.setCell (Kp.trans ((kx:Ext w _).any) (I.weak fun i _ C=>.inr C)) (fun _=>.inl rfl) _
def Sz{α:Type}(l:List α)(q:α->Bool)(e:Ending):Prop:=∃n:Int,e=.returned (.int .i64 n)/\decide (0<=n)=l.any q
theorem G6{α:Type}{l:List α}{q:α->Bool}{k:Nat}{x:α}(b:l[k]?=some x)(a:q x=true):l.any q=true:=VC.2 ⟨x,Tx b,a⟩
theorem yt{α:Type}{l:List α}{q:α->Bool}{k:Nat}{x:α}(b:l[k]?=some x)(a:q x=false)(h0:(l.take k).any q=false):(l.take (k+1)).any q=false:=by
 rw[Td,b,List.any_append,h0];simp[a]
theorem Lj{w:World}(I:Nat->Prop)(v:Value)(l:List M.Field)(h:SliceOf 3 lI w I v l)(nm:ByteArray):Calls prog 153 #[v,nm] w fun n p=>Sz l (fun b=>b.name.toList==nm.toList) n/\Ext w p:=by
 obtain⟨q,s,rfl,A,y⟩:=h.form;go_enter func153,ntmps153;go_wp2;go_loopw [5] (fun d wr=>∃a:Nat,a<=l.length/\d=.int .i64 a/\wr=w/\Zz ((l.take a).any (fun b=>b.name.toList==nm.toList)=false)) (fun d _=>l.length - (intOf d).toNat)
 case atStart=>exact⟨0,Tz _,rfl,rfl,Zy Zl⟩
 case round=>
  obtain⟨a,z,rfl,rfl,f⟩:=hrel;by_cases j:a<l.length
  . have m:(a:Int)<l.length:=Zm
    obtain⟨e,c⟩:∃e,l[a]?=some e:=⟨l[a]'j,CU j⟩;obtain⟨r,B,t,rfl,x,rfl,-,i⟩:=h.get c;obtain⟨o,-⟩:=i.three;have u:=jv o;have g:=Zy c;clear c i;cases k:(e.name.toList==nm.toList)
    . go_wp2;go_round
      case rel=>exact⟨a+1,Zm,Zk,trivial,Zy (yt g.o k f.o)⟩
      case measure=>exact Zj
    . go_wp2;go_ret;exact⟨⟨_,rfl,by rw[G6 g.o k];simp⟩,Kp.rr⟩
  . have m:¬(a:Int)<l.length:=Zm
    go_wp2;go_ret;exact⟨⟨_,rfl,by have:=f.o;rw[Tq Zm]at this;rw[this];decide⟩,Kp.rr⟩
theorem JI{w:World}(I:Nat->Prop)(v:Value)(l:List M.Method)(h:SliceOf 8 jy w I v l)(nm:ByteArray):Calls prog 155 #[v,nm] w fun n p=>Sz l (fun b=>b.name.toList==nm.toList) n/\Ext w p:=by
 obtain⟨q,s,rfl,A,y⟩:=h.form;go_enter func155,ntmps155;go_wp2;go_loopw [5] (fun d wr=>∃a:Nat,a<=l.length/\d=.int .i64 a/\wr=w/\Zz ((l.take a).any (fun b=>b.name.toList==nm.toList)=false)) (fun d _=>l.length - (intOf d).toNat)
 case atStart=>exact⟨0,Tz _,rfl,rfl,Zy Zl⟩
 case round=>
  obtain⟨a,z,rfl,rfl,f⟩:=hrel;by_cases j:a<l.length
  . have m:(a:Int)<l.length:=Zm
    obtain⟨e,c⟩:∃e,l[a]?=some e:=⟨l[a]'j,CU j⟩;obtain⟨r,B,t,rfl,x,⟨_,_,_,rfl,-,-,-⟩,-,i⟩:=h.get c;obtain⟨o,-⟩:=i.eight;have u:=jv o;have g:=Zy c;clear c i;cases k:(e.name.toList==nm.toList)
    . go_wp2;go_round
      case rel=>exact⟨a+1,Zm,Zk,trivial,Zy (yt g.o k f.o)⟩
      case measure=>exact Zj
    . go_wp2;go_ret;exact⟨⟨_,rfl,by rw[G6 g.o k];simp⟩,Kp.rr⟩
  . have m:¬(a:Int)<l.length:=Zm
    go_wp2;go_ret;exact⟨⟨_,rfl,by have:=f.o;rw[Tq Zm]at this;rw[this];decide⟩,Kp.rr⟩
theorem PT{w:World}(I:Nat->Prop)(v q:Value)(l:List Class)(d:SliceOf 4 jT w I v l)(nm:ByteArray):Calls prog 116 #[.agg #[v,q],nm] w fun y A=>Sz l (fun c=>c.name.toList==nm.toList) y/\Ext w A:=by
 obtain⟨t,u,rfl,L,J⟩:=d.form;obtain⟨B,p,j,k⟩:=nu w #[.slice t l.length u,q] 32;obtain⟨F,D,-⟩:=k.ca;have⟨r,b,s⟩:=jI d j p;clear j k p d;go_enter func116,ntmps116;go_wp2_with fail;rw[<-s.o];go_loopw [5] (fun f wr=>∃a:Nat,a<=l.length/\f=.int .i64 a/\wr=B/\Zz ((l.take a).any (fun c=>c.name.toList==nm.toList)=false)) (fun f _=>l.length - (intOf f).toNat)
 case atStart=>exact⟨0,Tz _,rfl,rfl,Zy Zl⟩
 case round=>
  obtain⟨a,K,rfl,rfl,h⟩:=hrel;by_cases n:a<l.length
  . have x:(a:Int)<l.length:=Zm
    obtain⟨g,e⟩:∃g,l[a]?=some g:=⟨l[a]'n,CU n⟩;obtain⟨C,N,E,rfl,H,⟨_,_,rfl,-,-⟩,-,m⟩:=r.get e;obtain⟨z,-⟩:=(m.ext b).four;have G:=jv z;have i:=Zy e;clear e m;cases o:(g.name.toList==nm.toList)
    . go_wp2;go_round
      case rel=>exact⟨a+1,Zm,Zk,trivial,Zy (yt i.o o h.o)⟩
      case measure=>exact Zj
    . go_wp2;go_ret;exact⟨⟨_,rfl,by rw[G6 i.o o];simp⟩,b⟩
  . have x:¬(a:Int)<l.length:=Zm
    go_wp2;go_ret;exact⟨⟨_,rfl,by have:=h.o;rw[Tq Zm]at this;rw[this];decide⟩,b⟩
def Rb(l:List M.Ask)(nm:ByteArray)(e:Ending):Prop:=∃n:Int,e=.returned (.int .i64 n)/\((∃x∈l,(x.name.toList==nm.toList)=true/\n=x.keeper)\/(l.any (fun f=>f.name.toList==nm.toList)=false/\n= -1))
theorem NB{w:World}(I:Nat->Prop)(v p:Value)(l:List M.Ask)(d:SliceOf 2 vL w I v l)(nm:ByteArray):Calls prog 118 #[.agg #[p,v],nm] w fun x A=>Rb l nm x/\Ext w A:=by
 obtain⟨s,t,rfl,N,K⟩:=d.form;obtain⟨B,o,i,j⟩:=nu w #[p,.slice s l.length t] 32;obtain⟨F,-,D,-⟩:=j.ca;have⟨q,c,r⟩:=jI d i o;clear i j o d;go_enter func118,ntmps118;go_wp2_with fail;rw[<-r.o];go_loopw [5] (fun f wr=>∃a:Nat,a<=l.length/\f=.int .i64 a/\wr=B/\Zz ((l.take a).any (fun y=>y.name.toList==nm.toList)=false)) (fun f _=>l.length - (intOf f).toNat)
 case atStart=>exact⟨0,Tz _,rfl,rfl,Zy Zl⟩
 case round=>
  obtain⟨a,L,rfl,rfl,g⟩:=hrel;by_cases m:a<l.length
  . have u:(a:Int)<l.length:=Zm
    obtain⟨b,e⟩:∃b,l[a]?=some b:=⟨l[a]'m,CU m⟩;obtain⟨C,O,E,rfl,J,rfl,-,k⟩:=q.get e;obtain⟨z,G⟩:=(k.ext c).two;have H:=jv z;have h:=Zy e;clear e k;cases n:(b.name.toList==nm.toList)
    . go_wp2;go_round
      case rel=>exact⟨a+1,Zm,Zk,trivial,Zy (yt h.o n g.o)⟩
      case measure=>exact Zj
    . go_wp2;go_ret;exact⟨⟨_,rfl,.inl ⟨b,Tx h,n,rfl⟩⟩,c⟩
  . have u:¬(a:Int)<l.length:=Zm
    go_wp2;go_ret;exact⟨⟨_,rfl,.inr ⟨by have:=g.o;rwa[Tq Zm]at this,rfl⟩⟩,c.o⟩
theorem qY{s:ByteArray}:decide (s=none_)=(s.toList==[]):=by
 rw[<-l7];cases s.toList<;>rfl
theorem NJ(k:Int)(s:ByteArray){w:World}:Calls prog 211 #[.agg #[k,s]] w fun f j=>f=.returned (.bool (tH ⟨k,s⟩))/\Ext w j:=by
 have a:tH ⟨k,s⟩=if k=0\/k=1\/k=3 then(s.toList==[])else if k=2 then jL s else false:=by
  unfold tH;simp only[qY]
 by_cases c:k=2
 . subst c;rw[T9 Zn,Ty rfl]at a;rw[a];clear a;go_enter func211,ntmps211;go_wp2_with (go_at_call 117;refine(kT _ _).mono ?_;rintro f j ⟨rfl,rfl⟩)
   all_goals
    go_ret;exact⟨rfl,kx⟩
 have d:=SK.2 c;obtain⟨b,e⟩:∃b,(s.toList==[])=b:=⟨_,rfl⟩;by_cases g:k=0
 . subst g;rw[Ty (.inl rfl),e]at a;rw[a];clear a d;cases b
   all_goals
    go_enter func211,ntmps211;go_wp2_with fail
    all_goals
     go_ret;exact⟨rfl,kx⟩
 by_cases h:k=1
 . subst h;rw[Ty (.inr (.inl rfl)),e]at a;rw[a];clear a d;cases b
   all_goals
    go_enter func211,ntmps211;go_wp2_with fail
    all_goals
     go_ret;exact⟨rfl,kx⟩
 by_cases i:k=3
 . subst i;rw[Ty (.inr (.inr rfl)),e]at a;rw[a];clear a d;cases b
   all_goals
    go_enter func211,ntmps211;go_wp2_with fail
    all_goals
     go_ret;exact⟨rfl,kx⟩
 rw[T9 Zm,T9 c]at a;rw[a];clear a;have l:=SK.2 g;have m:=SK.2 h;have n:=SK.2 i;go_enter func211,ntmps211;go_wp2_with fail
 all_goals
  go_ret;exact⟨rfl,kx⟩
theorem lu{w:World}(I:Nat->Prop)(v:Value)(l:List Tag)(m:SliceOf 2 jZ w I v l):Calls prog 226 #[v] w fun c s=>c=.returned (.bool (l.all tH))/\Ext w s:=by
 obtain⟨t,x,rfl,E,C⟩:=m.form;go_enter func226,ntmps226;go_wp2;go_loopw [3] (fun g wr=>∃a:Nat,a<=l.length/\g=.int .i64 a/\Ext w wr/\Zz ((l.take a).any (fun b=> !tH b)=false)) (fun g _=>l.length - (intOf g).toNat)
 case atStart=>exact⟨0,Tz _,rfl,Kp.rr,Zy Zl⟩
 case round=>
  obtain⟨a,D,rfl,e,h⟩:=hrel;have i:=Zy e;by_cases p:a<l.length
  . have q:(a:Int)<l.length:=Zm
    obtain⟨b,d⟩:∃b,l[a]?=some b:=⟨l[a]'p,CU p⟩;obtain⟨u,F,y,rfl,B,rfl,-,o⟩:=m.get d;obtain⟨r,z⟩:=(o.ext e).two;have A:=jv r;have k:=Zy d;clear d o e;go_wp2_with fail;refine(NJ b.kind b.name).mono ?_;rintro c G ⟨rfl,n⟩;have j:=Zy (i.trans n);clear n;cases f:tH b
    . go_wp2;go_ret;exact⟨hV (by
       rw[Vz,Tc];exact⟨fun c=>(by cases c),fun c=>by rw[c b (Tx k.o)]at f;cases f⟩),j.o⟩
    . go_wp2;go_round
      case rel=>exact⟨a+1,Zm,Zk,j.o,Zy (yt k.o (by rw[f];rfl) h)⟩
      case measure=>exact Zj
  . have q:¬(a:Int)<l.length:=Zm
    go_wp2;go_ret;exact⟨hV (by
     have:=h.o;rw[Tq Zm,Vl]at this;symm;rw[Tc];intro b d;simpa using this b d),i.o⟩
def kI(v:Val):List Value:=[.int .i64 v.kind,.int .i64 v.n]
def oF:om Val:=fun _ _ x cs=>cs=kI x
theorem oF.stays:kE oF:=fun _ _ _ _ _ _ _ _ a=>a
def kG(t:Tag):List Value:=[.int .i64 t.kind,.string t.name]
def vR(n:Int):List Value:=[.int .i64 n]
theorem nH:Elem 193 236 2:=oH (z:=.agg #[Tj,""]) (bytes:=24) underlying193 Zo rfl Zn Zn
theorem flat_get{α:Type}{enc:α->List Value}{k:Nat}(m:∀b,(enc b).length=k):∀(l:List α)(j:Nat)(f:Value),(l.flatMap enc)[j]?=some f->∃d e b,l[d]?=some b/\(enc b)[e]?=some f/\j=d*k+e:=by
 intro l;induction l with
 |nil=>intro j f a;simp at a
 |cons b p n=>
  intro j f a;rw[V7]at a;rcases UZ j (enc b).length with c|c
  . rw[TY c]at a;exact⟨0,j,b,rfl,a,Zm⟩
  . rw[TF c]at a;obtain⟨d,e,o,g,h,i⟩:=n _ _ a;refine⟨d+1,e,o,by simpa using g,h,?_⟩;rw[m]at i c;rw[Vx];omega
theorem pF{α:Type}{enc:α->List Value}{k:Nat}(b:∀a,(enc a).length=k)(l:List α):(l.flatMap enc).length=l.length*k:=by
 induction l with
 |nil=>simp
 |cons a d c=>rw[V7,TK,c,b,TL,Vx];omega
theorem qR{α:Type}{enc:α->List Value}(c:∀b,∀a∈enc b,a.oneCell'=true)(l:List α):∀a∈l.flatMap enc,a.oneCell'=true:=by
 intro a d;obtain⟨b,_,e⟩:=List.mem_flatMap.1 d;exact c b a e
theorem SliceOf.flat{α:Type}{k:Nat}{R:om α}{enc:α->List Value}(hR:∀w I b d,R w I b d->d=enc b)(r:∀b,(enc b).length=k){w:World}{I:Nat->Prop}{e:Addr}{n g:Nat}{xs:List α}(m:SliceOf k R w I (.slice (some e) n g) xs):∀c a,(xs.flatMap enc)[c]?=some a->w.cell? (e.add c)=some a:=by
 intro c a t;obtain⟨u,f,b,o,p,rfl⟩:=flat_get r xs c a t;obtain⟨v,z,d,h,_,s,y,q⟩:=m.get o;cases h;have j:=hR _ _ _ _ s;subst j;have:=q f a p;unfold Addr.add;split
 . rename_i x;have i:u*k=0:=Zm
   have l:f=0:=Zm
   rw[i,l]at this;exact this
 . simpa [Uj]using this
theorem xw(x:Val):∀a∈kI x,a.oneCell'=true:=by simp[kI,Value.oneCell']
theorem rY(x:Tag):∀a∈kG x,a.oneCell'=true:=by simp[kG,Value.oneCell']
theorem Dy(x:Int):∀a∈vR x,a.oneCell'=true:=by simp[vR,Value.oneCell']
structure Flat(w:World)(k:Nat)(v:Value)(n:Nat)(xs:List Value):Prop where
 len:xs.length=n*k
 ex:∃a c,v=.slice a n c/\(a=none->n=0)/\∀ad,a=some ad->∀j u,xs[j]?=some u->w.cell? (ad.add j)=some u
 one:∀u∈xs,u.oneCell'=true
theorem SliceOf.toFlat{α:Type}{k:Nat}{R:om α}{enc:α->List Value}(hR:∀w I x b,R w I x b->b=enc x)(c:∀x,(enc x).length=k)(g:∀x,∀h∈enc x,h.oneCell'=true){w:World}{I:Nat->Prop}{v:Value}{xs:List α}(a:SliceOf k R w I v xs):Flat w k v xs.length (xs.flatMap enc):=by
 obtain⟨d,e,rfl,_⟩:=a.form;refine⟨pF c xs,⟨d,e,rfl,?_,?_⟩,qR g xs⟩
 . rintro rfl;cases xs with
   |nil=>rfl
   |cons x j=>
    obtain⟨_,_,_,f,_⟩:=a.get (i:=0) (x:=x) rfl;cases f
 . rintro i rfl;exact a.flat hR c
theorem uj{w:World}{base a k n:Nat}{v:Value}{xs:List Value}(b:w.ownsRow base a k v n xs)(d:∀e∈xs,e.oneCell'=true):Flat w k v n xs:=by
 refine⟨b.1,?_,d⟩;rcases b.2 with⟨rfl,rfl⟩|⟨h,c,g,rfl,_⟩
 . exact⟨none,0,rfl,fun _=>rfl,fun _ a=>by cases a⟩
 . exact⟨_,c,rfl,(fun a=>by cases a),fun f a=>by cases a;exact b.cells rfl⟩
theorem EL{w:World}{base a k n c g:Nat}{xs:List Value}(f:w.ownsRow base a k (g,n,c) n xs)(j:∀d∈xs,d.oneCell'=true){i:Nat}(e:Nat):Flat w k (.slice (some ⟨g,i*k,none⟩) (n - i) e) (n - i) (xs.drop (i*k)):=by
 refine⟨by rw[UW,f.1,Nat.sub_mul],⟨_,e,rfl,(fun a=>by cases a),fun m a o d b=>?_⟩,fun d b=>j d (Vk b)⟩;cases a;rw[V4]at b;have:=f.cells (g:=g) rfl _ _ b;unfold Addr.add at this |-;split at this<;>split
 . rename_i l h;rw[show i*k=0 by omega];exact this
 . omega
 . rename_i l h;rw[h]at this;simpa using this
 . simpa using this
theorem Oh{w:World}{a:Addr}{v:Value}(c:w.cell? a=some v):a.block<w:=by
 rcases UZ a.block w with b|b
 . exact b
 . simp[World.cell?,UY b]at c
theorem Flat.ext{w g:World}{k n:Nat}{v:Value}{xs:List Value}(l:Flat w k v n xs)(q:Ext w g):Flat g k v n xs:=by
 obtain⟨m,⟨h,i,j,o,c⟩,p⟩:=l;exact⟨m,⟨h,i,j,o,fun a b e f d=>(V6 (q.block _ (Oh (c a b e f d)) fun r=>r)).trans (c a b e f d)⟩,p⟩
theorem oZ{t b k:Nat}(o:Elem t b k)(w:World){l:Array Oper}{rest:List Oper}{g:Oper}{a:Act}{Q:Exit->Act->World->Prop}(G:g.guard=none)(s x:Operand)
    (J:g.op=.call {callee:=.builtin .append,args:=#[s,x],argTypes:=#[t,t]}) (base:Nat) (v:Value) (n:Nat) (xs:List Value) (L:a.eval s=v) (K:w.ownsRow base b k v n xs)
    (f:Addr) (m c:Nat) (j:List Value) (O:a.eval x=.slice (some f) m c) (F:Flat w k (.slice (some f) m c) m j)
    (I:n+m<=8589934592) (C:base<=w)
    (z:∀h e,e.ownsRow base b k h (n+m) (xs++j)->Kp (fun p=>v.ownBlock=some p) w e->wpList prog l Q rest (a.put g.dst h) e):
    wpList prog l Q (g::rest) a w:=by
 obtain⟨S,T,bytes,N,H,P,M,D,R,i,B⟩:=o;obtain⟨r,⟨U,V,q,_,u⟩,y⟩:=F;cases q;refine wpList_append_own w G s x t J base b S T k bytes N H P M D R i v n xs L K f m c j O r (u f rfl) y (by unfold maxLen;omega) ?_ C ?_
 . have:(n+m)*bytes<=8589934592*4096:=Vg I B;omega
 . intro h e A d _;exact z h e A ⟨d.os,d.tape,d.output,d.size,fun k i E=>d.block k i (fun b=>E b.symm)⟩
theorem kV(W:World)(b k:Nat)(a:Nat)(c:a<=W){g:Nat}(d:W=g):(W.alloc (.cells #[] b)).ownsRow a b k (.slice (some ⟨g,0,none⟩) 0 0) 0 []:=by
 subst d;exact⟨Zl,.inr ⟨_,0,#[],rfl,c,heap_alloc_new W _,Tu _,Zl,Zl,Zl⟩⟩
theorem uU{w:World}{v:Value}{n:Nat}{xs:List Value}(a:Flat w 2 v n xs)(y:n<=4294967296):Calls prog 56 #[v] w fun q e=>(∃d,q=.returned d/\e.ownsRow w 42 2 d n xs)/\Ext w e:=by
 obtain⟨f,g,rfl,b,i⟩:=a.ex;have x:=fun o=>VE (P:=prog) o 67 42 f n g 0 0 underlying67;have c:=a.len;cases f with
 |none=>
  obtain rfl:=b rfl;have t:=Ve (by simpa using c);subst t;clear a b i c;go_enter func56,ntmps56;go_wp2;go_ret;exact⟨⟨_,rfl,Uw _ _ _ _⟩,Kp.rr⟩
 |some p=>
  have k:=Zy (a.ext (jJ (.cells #[] 42):Ext w _));have s:0+n<=8589934592:=Zm
  clear a b i c;go_enter func56,ntmps56;go_wp2_with (at_builtin;refine oZ vD _ rfl _ _ rfl w _ 0 [] rfl (kV w _ 2 _ (Tu _) rfl) p n g xs rfl k s Zl ?_);intro d e j h;have⟨m,l⟩:=jw j h;clear j h;go_wp2;go_ret;exact⟨⟨_,rfl,by simpa using m.o⟩,(jJ _:Ext w _).own l.o (fun u r=>by simp only[Value.ownBlock,TQ]at r;omega)⟩
theorem uT{w:World}{v:Value}{n:Nat}{xs:List Value}(a:Flat w 2 v n xs)(y:n<=4294967296):Calls prog 195 #[v] w fun q e=>(∃d,q=.returned d/\e.ownsRow w 236 2 d n xs)/\Ext w e:=by
 obtain⟨f,g,rfl,b,i⟩:=a.ex;have x:=fun o=>VE (P:=prog) o 193 236 f n g 0 0 underlying193;have c:=a.len;cases f with
 |none=>
  obtain rfl:=b rfl;have t:=Ve (by simpa using c);subst t;clear a b i c;go_enter func195,ntmps195;go_wp2;go_ret;exact⟨⟨_,rfl,Uw _ _ _ _⟩,Kp.rr⟩
 |some p=>
  have k:=Zy (a.ext (jJ (.cells #[] 236):Ext w _));have s:0+n<=8589934592:=Zm
  clear a b i c;go_enter func195,ntmps195;go_wp2_with (at_builtin;refine oZ nH _ rfl _ _ rfl w _ 0 [] rfl (kV w _ 2 _ (Tu _) rfl) p n g xs rfl k s Zl ?_);intro d e j h;have⟨m,l⟩:=jw j h;clear j h;go_wp2;go_ret;exact⟨⟨_,rfl,by simpa using m.o⟩,(jJ _:Ext w _).own l.o (fun u r=>by simp only[Value.ownBlock,TQ]at r;omega)⟩
theorem zn{w:World}{v:Value}{n:Nat}{xs:List Value}(a:Flat w 1 v n xs)(y:n<=4294967296):Calls prog 55 #[v] w fun q e=>(∃d,q=.returned d/\e.ownsRow w 3 1 d n xs)/\Ext w e:=by
 obtain⟨f,g,rfl,b,i⟩:=a.ex;have x:=fun o=>VE (P:=prog) o 26 3 f n g 0 0 underlying26;have c:=a.len;cases f with
 |none=>
  obtain rfl:=b rfl;have t:=Ve (by simpa using c);subst t;clear a b i c;go_enter func55,ntmps55;go_wp2;go_ret;exact⟨⟨_,rfl,Uw _ _ _ _⟩,Kp.rr⟩
 |some p=>
  have k:=Zy (a.ext (jJ (.cells #[] 3):Ext w _));have s:0+n<=8589934592:=Zm
  clear a b i c;go_enter func55,ntmps55;go_wp2_with (at_builtin;refine oZ D7 _ rfl _ _ rfl w _ 0 [] rfl (kV w _ 1 _ (Tu _) rfl) p n g xs rfl k s Zl ?_);intro d e j h;have⟨m,l⟩:=jw j h;clear j h;go_wp2;go_ret;exact⟨⟨_,rfl,by simpa using m.o⟩,(jJ _:Ext w _).own l.o (fun u r=>by simp only[Value.ownBlock,TQ]at r;omega)⟩
def lZ{α:Type}(R:om α)(w:World)(I:Nat->Prop):List α->List (List Value)->Prop
 |[],[]=>True
 |x::xs,c::cs=>R w I x c/\lZ R w I xs cs
 |_,_=>False
theorem lZ.get{α:Type}{R:om α}{w:World}{I:Nat->Prop}:∀{xs:List α} {b:List (List Value)},lZ R w I xs b->∀(i:Nat)(x:α),xs[i]?=some x->∃a,b[i]?=some a/\R w I x a
 |[],[],_,i,x,h=>by simp at h
 |y::xs,a::cs,h,0,x,hx=>by
  simp at hx;subst hx;exact⟨a,rfl,h.1⟩
 |y::xs,a::cs,h,i+1,x,hx=>by
  obtain⟨c,d,e⟩:=lZ.get h.2 i x (by simpa using hx);exact⟨c,by simpa using d,e⟩
 |[],_::_,h,_,_,_=>h.elim
 |_::_,[],h,_,_,_=>h.elim
theorem Ef{k:Nat}:∀{b:List (List Value)},(∀c∈b,c.length=k)->∀(i:Nat)(c:List Value),b[i]?=some c->∀(j:Nat)(a:Value),c[j]?=some a->b.flatten[i*k+j]?=some a
 |[],_,i,c,h,_,_,_=>by simp at h
 |d::r,hk,0,c,h,j,a,hu=>by
  simp at h;subst h;rw[VW,TY (Te ((Tt.1 hu).1))];simpa using hu
 |d::r,hk,i+1,c,h,j,a,hu=>by
  have e:=hk d Zl;rw[VW,TF (by rw[e,Vx];omega)];have:=Ef (fun c f=>hk c (UI _ f)) i c (by simpa using h) j a hu;rw[e,show(i+1)*k+j - k=i*k+j by rw[Vx];omega];exact this
theorem SliceOf.row{α:Type}{k:Nat}{R:om α}{w:World}{I:Nat->Prop}{g:Nat}{xs:List α}(c:List (List Value)){cells:List Value}(h:hQ w g 0 cells)(j:cells=c.flatten)(e:∀a∈c,a.length=k)(hR:lZ R w I xs c)(hI:I g){b:Nat}(i:xs.length<=b)(m:xs.length<=4294967296):SliceOf k R w I (g,xs.length,b) xs:=
 ⟨_,b,rfl,i,m,fun f r o=>by
  obtain⟨a,d,n⟩:=hR.get f r o;refine⟨g,0,a,rfl,hI,n,e a (Tx d),fun p q l=>?_⟩;have:=h _ _ (by rw[j];exact Ef e f a d p q l);simpa [Uj]using this⟩
theorem SliceOf.css{α:Type}{k:Nat}{R:om α}{w:World}{I:Nat->Prop}{v:Value}:∀{xs:List α},SliceOf k R w I v xs->∃d:List (List Value),d.length=xs.length/\(∀c∈d,c.length=k)/\lZ R w I xs d/\∀(p:Addr)(n c:Nat),v=.slice (some p) n c->∀(i:Nat)(c:List Value),d[i]?=some c->∃a b,p=⟨a,b,none⟩/\I a/\hQ w a (b+i*k) c:=by
 intro xs g;obtain⟨B,P,rfl,Q,S,G⟩:=g;have M:∀(o:List α)(e:Nat),(∀(i:Nat)(h:α),o[i]?=some h->∃a b f,B=some ⟨a,b,none⟩/\I a/\R w I h f/\f.length=k/\hQ w a (b+(e+i)*k) f)→
     ∃d:List (List Value),d.length=o.length/\(∀c∈d,c.length=k)/\lZ R w I o d/\∀(i:Nat)(c:List Value),d[i]?=some c->∃a b,B=some ⟨a,b,none⟩/\I a/\hQ w a (b+(e+i)*k) c:=by
  intro o;induction o with
  |nil=>exact fun e _=>⟨[],rfl,Zl,trivial,fun i c g=>by simp at g⟩
  | cons O T L =>
   intro e g;obtain⟨d,q,r,s,t⟩:=L (e+1) (fun i h A=>by
    obtain⟨a,b,f,j,l,z,y,m⟩:=g (i+1) h (by simpa using A);exact⟨a,b,f,j,l,z,y,by rw[show e+1+i=e+(i+1) by omega];exact m⟩)
   obtain⟨a,b,f,j,l,z,y,m⟩:=g 0 O rfl;refine⟨f::d,by simp[q],fun c u=>(Ui.1 u).elim (fun E=>by rw[E];exact y) (r c),⟨z,s⟩,fun i c x=>?_⟩;cases i with
   |zero=>simp at x;subst x;exact⟨a,b,j,l,m⟩
   |succ i=>
    obtain⟨C,N,F,H,u⟩:=t i c (by simpa using x);exact⟨C,N,F,H,by rw[show e+(i+1)=e+1+i by omega];exact u⟩
 obtain⟨d,q,r,s,t⟩:=M xs 0 (fun i h A=>by simpa using G i h A);refine⟨d,q,r,s,fun p n c K i D J=>?_⟩;cases K;obtain⟨a,b,j,l,m⟩:=t i D J;cases j;exact⟨a,b,rfl,l,by simpa using m⟩
theorem lZ.snoc{α:Type}{R:om α}{w:World}{I:Nat->Prop}{x:α}{c:List Value}:∀{xs:List α} {a:List (List Value)},lZ R w I xs a->R w I x c->lZ R w I (xs++[x]) (a++[c])
 |[],[],_,h=>⟨h,trivial⟩
 |_::_,_::_,h,hx=>⟨h.1,lZ.snoc h.2 hx⟩
 |[],_::_,h,_=>h.elim
 |_::_,[],h,_=>h.elim
theorem lZ.keep{α:Type}{R:om α}(hR:kE R){w e:World}{I J:Nat->Prop}(d:Same I w e)(c:∀a,I a->J a):∀{xs:List α} {b:List (List Value)},lZ R w I xs b->lZ R e J xs b
 |[],[],_=>trivial
 |_::_,_::_,h=>⟨hR _ _ _ _ _ _ d c h.1,lZ.keep hR d c h.2⟩
 |[],_::_,h=>h.elim
 |_::_,[],h=>h.elim
theorem SliceOf.inside{α:Type}{k:Nat}{R:om α}(hR:∀w I c b,R w I c b->R w (fun a=>I a/\a<w) c b)(x:0<k){w:World}{I:Nat->Prop}{v:Value}{xs:List α}(j:SliceOf k R w I v xs):SliceOf k R w (fun a=>I a/\a<w) v xs:=by
 obtain⟨f,g,h,l,m,n⟩:=j;refine⟨f,g,h,l,m,fun s c r=>?_⟩;obtain⟨a,t,b,i,o,q,e,d⟩:=n s c r;have p:a<w:=by
  cases b with
  |nil=>simp at e;omega
  |cons u y=>exact jv (d 0 u rfl)
 exact⟨a,t,b,i,⟨o,p⟩,hR _ _ _ _ q,e,d⟩
theorem D5{k:Nat}:∀{a:List (List Value)},(∀c∈a,c.length=k)->a.flatten.length=a.length*k
 |[],_=>by simp
 |c::r,h=>by
  rw[VW,TK,D5 (fun c b=>h c (UI _ b)),h c Zl,TL,Vx];omega
theorem Gi{k:Nat}(n:0<k):∀{f:List (List Value)},(∀c∈f,c.length=k)->∀a e,f.flatten[a]?=some e->∃b d c,f[b]?=some c/\c[d]?=some e/\a=b*k+d
 |[],_,a,e,h=>by simp at h
 |c::t,h,a,e,hu=>by
  have i:=h c Zl;rw[VW]at hu;rcases UZ a c.length with g|g
  . rw[TY g]at hu;exact⟨0,a,c,rfl,hu,Zm⟩
  . rw[TF g]at hu;obtain⟨b,d,j,l,m,o⟩:=Gi n (fun c i=>h c (UI _ i)) _ _ hu;exact⟨b+1,d,j,by simpa using l,m,by rw[Vx];omega⟩
def One{α:Type}(R:om α):Prop:=∀w I x cs,R w I x cs->∀u∈cs,u.oneCell'=true
theorem One.ins:One zO:=fun _ _ _ _ b c a=>by subst b;simp at a;rcases a with rfl|rfl|rfl|rfl<;>rfl
theorem One.ask:One vL:=fun _ _ _ _ b c a=>by subst b;simp at a;rcases a with rfl|rfl<;>rfl
theorem One.field:One lI:=fun _ _ _ _ b c a=>by subst b;simp at a;rcases a with rfl|rfl|rfl<;>rfl
theorem One.smap:One mI:=fun _ _ _ _ b c a=>by obtain⟨_,_,_,_,rfl⟩:=b.form;simp at a;rcases a with rfl|rfl|rfl<;>rfl
theorem One.Sn:One jy:=fun _ _ _ _ b c a=>by obtain⟨_,_,_,_,_,_,rfl⟩:=b.form;simp at a;rcases a with rfl|rfl|rfl|rfl|rfl|rfl|rfl|rfl<;>rfl
theorem One.cls:One jT:=fun _ _ _ _ b c a=>by obtain⟨_,_,_,_,rfl⟩:=b.form;simp at a;rcases a with rfl|rfl|rfl|rfl<;>rfl
theorem One.keep:One jo:=fun _ _ _ _ b c a=>by obtain⟨_,_,_,_,rfl⟩:=b.form;simp at a;rcases a with rfl|rfl<;>rfl
theorem lZ.one{α:Type}{R:om α}(e:One R){w:World}{I:Nat->Prop}:∀{xs:List α} {d:List (List Value)},lZ R w I xs d->∀b∈d.flatten,b.oneCell'=true
 |[],[],_=>by simp
 |_::_,c::d,h=>by
  intro b a;rw[VW,TU]at a;rcases a with a|a
  . exact e _ _ _ _ h.1 b a
  . exact lZ.one e h.2 b a
 |[],_::_,h=>h.elim
 |_::_,[],h=>h.elim
theorem lZ.len{α:Type}{R:om α}{w:World}{I:Nat->Prop}:∀{xs:List α} {a:List (List Value)},lZ R w I xs a->a.length=xs.length
 |[],[],_=>rfl
 |_::_,_::_,h=>by rw[TL,TL,lZ.len h.2]
 |[],_::_,h=>h.elim
 |_::_,[],h=>h.elim
theorem SliceOf.cells{α:Type}{k:Nat}{R:om α}(B:One R)(y:0<k){w:World}{I:Nat->Prop}{a:Option Addr}{n c:Nat}{xs:List α}(h:SliceOf k R w I (.slice a n c) xs):∃b,(∀c∈b,c.length=k)/\lZ R w I xs b/\Flat w k (.slice a n c) n b.flatten:=by
 obtain⟨b,s,f,i,t⟩:=h.css;have x:=h;obtain⟨D,F,d,-,-,u⟩:=x;cases d;refine⟨b,f,i,by rw[D5 f,s],⟨_,_,rfl,fun d=>?_,fun m d A l z=>?_⟩,i.one B⟩
 . cases xs with
   |nil=>rfl
   |cons C g=>obtain⟨_,_,_,e,_⟩:=u 0 C rfl;rw[d]at e;cases e
 . subst d;obtain⟨j,g,o,p,e,rfl⟩:=Gi y f A l z;obtain⟨E,H,rfl,-,v⟩:=t m _ _ rfl j o p;have:=v g l e;unfold Addr.add;split
   . rename_i G;have q:j*k=0:=Zm
     have r:g=0:=Zm
     rw[q,r]at this;exact this
   . simpa [Uj]using this
theorem lZ.at_{α:Type}{R:om α}{w:World}{I:Nat->Prop}{xs:List α}{b:List (List Value)}(d:lZ R w I xs b){J:Nat->Prop}{c:World}(hR:kE R)(f:Same I w c)(e:∀a,I a->J a):lZ R c J xs b:=d.keep hR f e
theorem SliceOf.owned{α:Type}{k:Nat}{R:om α}{w:World}{I:Nat->Prop}{base i n:Nat}{v:Value}{a:List (List Value)}{xs:List α}(f:w.ownsRow base i k v n a.flatten)(e:∀h∈a,h.length=k)(m:0<k)(hR:lZ R w I xs a)(hI:∀c,base<=c->c<w.heap.size->I c)(p:xs.length<=4294967296):SliceOf k R w I v xs:=by
 have q:n=xs.length:=by
  have:=f.1;rw[D5 e,hR.len]at this;exact(Nat.eq_of_mul_eq_mul_right m this).symm
 subst q;rcases f.2 with⟨rfl,j⟩|⟨g,s,t,rfl,l,d,o,_,u,r⟩
 . have:xs=[]:=Us.1 j;subst this;exact SliceOf.nil _ _ _ _
 . refine SliceOf.row a (g:=g) (cells:=a.flatten) (fun x y b=>?_) rfl e hR (hI g l (TW.1 d).1) o p;rw[<-r,Ub]at b;split at b
   . simp only[World.cell?,d];simpa [Tk]using b
   . cases b
theorem Bq{t d k:Nat}(h:Elem t d k)(w:World){g:Array Oper}{rest:List Oper}{b:Oper}{a:Act}{Q:Exit->Act->World->Prop}(l:b.guard=none)(s x:Operand)
    (o:b.op=.call {callee:=.builtin .append,args:=#[s,x],argTypes:=#[t,t]}) {base n c:Nat} {v:Value} {xs:List Value} (r:a.eval s=v) (p:w.ownsRow base d k v n xs) (u:a.eval x=.slice none 0 c)
    (i:wpList prog g Q rest (a.put b.dst v) w):wpList prog g Q (b::rest) a w:=by
 obtain⟨K,L,bytes,f,e,I,H,E,J,G,C⟩:=h;refine Wx l fun y j=>?_;have q:(Builtin.append_ #[t,t] b.type #[v,.slice none 0 c]).run prog w=.ok v w:=by
  rcases p.2 with⟨rfl,rfl⟩|⟨B,z,A,rfl,F,D,m,_⟩
  . simp[Builtin.append_,underlying,f,sizeOf,typeInfo,e,Uu,Builtin.lenOf,Builtin.firstCells]
  . simp[Builtin.append_,underlying,f,sizeOf,typeInfo,e,Uu,Builtin.lenOf,Builtin.firstCells,m,storeCells]
 unfold Oper.wp execOp;simp only[o,resolve,invoke,builtin,Uu,Sem.run_pure,UT,List.map_toArray,Ur,Vb,r,u,q];exact j _ _ i
theorem kM{t e k:Nat}(i:Elem t e k)(w:World){u:Array Oper}{rest:List Oper}{d:Oper}{a:Act}{Q:Exit->Act->World->Prop}(o:d.guard=none)(s x:Operand)
    (p:d.op=.call {callee:=.builtin .append,args:=#[s,x],argTypes:=#[t,t]}) (base:Nat) (v:Value) (n:Nat) (xs:List Value) (q:a.eval s=v) (f:w.ownsRow base e k v n xs)
    (b:Option Addr) (m c:Nat) (g:List Value) (r:a.eval x=.slice b m c) (l:Flat w k (.slice b m c) m g)
    (F:n+m<=8589934592) (D:base<=w)
    (j:∀y h,h.ownsRow base e k y (n+m) (xs++g)->Kp (fun z=>v.ownBlock=some z) w h->wpList prog u Q rest (a.put d.dst y) h):
    wpList prog u Q (d::rest) a w:=by
 cases b with
 |some b=>exact oZ i w o s x p base v n xs q f b m c g r l F D j
 |none=>
  obtain⟨B,⟨H,I,A,C,-⟩,-⟩:=l;cases A;have E:=C rfl;subst E;have G:=Us.1 (by rw[B,UM]);subst G;refine Bq i w o s x p q f r (j v w (by simpa using f) Kp.rr)
structure qI(w:World)(rb:Nat)(v:Value)(zs:List Int)(p:Nat):Prop where
 blk:jq w rb 86 #[v,.int .i64 p]
 Rp:BytesAt w v zs
 own:zs.length≠0->∀a n c,v=.slice (some a) n c->a.block≠rb
 len:zs.length<=2000
theorem add_block(a:Addr)(i:Nat):(a.add i).block=a.block:=by
 unfold Addr.add;split<;>rfl
theorem BytesAt.kp{D:Nat->Prop}{W d:World}{v:Value}{c:List Int}(b:BytesAt W v c)(n:Kp D W d)(m:c.length≠0->∀a o i,v=.slice (some a) o i->¬D a.block):BytesAt d v c:=by
 rcases b with b|⟨a,j,e,k,f,l⟩
 . exact .inl b
 . exact .inr ⟨a,j,e,k,fun h g=>(V6 (n.block _ (zk (f h g)) (by rw[add_block];exact m Zm a _ _ e))).trans (f h g),l⟩
theorem qI.ext{w d:World}{c p:Nat}{v:Value}{e:List Int}(a:qI w c v e p)(b:Ext w d):qI d c v e p:=
 ⟨a.blk.ext b,a.Rp.ext b,a.own,a.len⟩
theorem qI.next{w:World}{a p:Nat}{v:Value}{d:List Int}(b:qI w a v d p)(q:Nat):qI (w.setCell (a,1) q) a v d q/\Kp (·=a) w (w.setCell (a,1) q):=by
 have c:Kp (·=a) w (w.setCell (a,1) q):=qM;exact⟨⟨b.blk.jR 1 _,b.Rp.kp c (fun h e i f g=>b.own h e i f g),b.own,b.len⟩,c⟩
def QX(n:Int)(e:Ending):Prop:=∃k:Nat,e=.returned (.int .i64 k)/\(k=0\/(k:Int)<n)
theorem LJ{a b:Int}(h:0<=a)(i:a<9223372036854775808)(j:0<=b)(k:b<9223372036854775808):0<=bits .xor .i64 a b:=by
 obtain⟨c,rfl⟩:∃c:Nat,a=c:=⟨a.toNat,Zm⟩;obtain⟨d,rfl⟩:∃d:Nat,b=d:=⟨b.toNat,Zm⟩;have l:c ^^^ d<2 ^ 63:=Nat.xor_lt_two_pow Zm Zm;have e:(BitVec.ofInt 64 (c:Int)).toNat=c:=by
  rw[BitVec.ofInt_natCast,BitVec.toNat_ofNat];exact Wl Zm
 have f:(BitVec.ofInt 64 (d:Int)).toNat=d:=by
  rw[BitVec.ofInt_natCast,BitVec.toNat_ofNat];exact Wl Zm
 have g:bits .xor .i64 (c:Int) (d:Int)=IntKind.i64.wrap (((BitVec.ofInt 64 (c:Int)^^^ BitVec.ofInt 64 (d:Int)).toNat:Nat):Int):=rfl;rw[g,BitVec.toNat_xor,e,f];simp only[IntKind.wrap,IntKind.bits,IntKind.signed];have:((2:Int)^ 63)=9223372036854775808:=by decide
 simp;omega
theorem JB{n r:Int}(h0:0<=r)(a:r<n):QX n (.returned r):=⟨r.toNat,by rw[VP h0],.inr Zm⟩
theorem lF(w:World)(h p:Nat)(v:Value)(a:List Int)(n:Int)(c:qI w h v a p)(Y:p<=1000000)(X:n<=1000000000):Calls prog 37 #[some h,n] w fun t G=>QX n t/\qI G h v a (p+1)/\Kp (·=h) w G:=by
 obtain⟨va,vc,rfl⟩:=c.Rp.form;obtain⟨P,M,N,-⟩:=c.blk.ca;have S:=c.blk.frozen 1;have E:=c.next (p+1);have⟨i,z⟩:=jw E c;have W:=c.len;clear E c;by_cases U:n<1
 . go_enter func37,ntmps37;go_wp2;go_ret;exact⟨⟨0,rfl,.inl rfl⟩,i⟩
 by_cases u:a.length=0
 . obtain rfl:=Us.1 u;go_enter func37,ntmps37;go_wp2;go_ret;exact⟨⟨0,rfl,.inl rfl⟩,i⟩
 have T:((a.length:Int)==0)=false:=SK.2 Zm;rcases z.o.Rp with⟨-,t⟩|⟨H,O,A,V,o,j⟩
 . subst t;simp at u
 cases A;have l:=fun b e=>by
  have q:Kp (·=h) w (w.setCell (h,1) (.int .i64 ((p:Int)+1))):=qM;exact(V6 (q.block _ (zk (o b e)) (by rw[add_block];exact z.own u H _ _ rfl))).trans (o b e)
 by_cases q:p<a.length
 . have s:=l p q;have k:=BI j q;obtain⟨d,m⟩:∃d,a.getD p 0=d:=⟨_,rfl⟩;rw[m]at s k;obtain⟨K,L⟩:=k;clear l o j m;go_enter func37,ntmps37;go_wp2;go_ret;exact⟨JB (Int.emod_nonneg _ Zm) (Int.emod_lt_of_pos _ Zm),i⟩
 . obtain⟨b,e⟩:∃b,p % a.length=b:=⟨_,rfl⟩;obtain⟨f,x⟩:∃f,(p*7+3)% a.length=f:=⟨_,rfl⟩;obtain⟨g,y⟩:∃g,p / a.length=g:=⟨_,rfl⟩;have C:b<a.length:=by rw[<-e];exact Nat.mod_lt _ Zm
   have D:f<a.length:=by rw[<-x];exact Nat.mod_lt _ Zm
   have Z:g<=p:=by rw[<-y];exact Nat.div_le_self _ _
   have s:=l b C;have I:=l f D;have k:=BI j C;have B:=BI j D;obtain⟨d,m⟩:∃d,a.getD b 0=d:=⟨_,rfl⟩;obtain⟨r,F⟩:∃r,a.getD f 0=r:=⟨_,rfl⟩;rw[m]at s k;rw[F]at I B;have A:(p:Int)% (a.length:Int)=b:=by rw[<-e];simp
   have Q:((p:Int)*7+3)% (a.length:Int)=f:=by rw[<-x];simp
   have R:(p:Int)/ (a.length:Int)=g:=by rw[<-y];simp
   obtain⟨K,L⟩:=k;obtain⟨aa,ae⟩:=B;clear l o j m F e x y;go_enter func37,ntmps37;go_wp2_with fail;go_quiet (fail);go_wp2_with fail;have J:0<=bits BinOp.xor IntKind.i64 (d*131+r*1117+p*29+g*53) ((d*131+r*1117+p*29+g*53)/ 64):=LJ Zm Zm Zm Zm;go_ret;exact⟨JB (Int.tmod_nonneg _ J) (Int.tmod_lt_of_pos _ Zm),i.1.ext (Kp.rr.drewN _),i.2.drewN _⟩
def RZ(e:Ending):Prop:=∃b,e=.returned (.bool b)
theorem PH(w:World)(a p:Nat)(v:Value)(b:List Int)(n:Int)(d:qI w a v b p)(j:p<=1000000)(i:n<=1000000000)(k: -1000000000<=n):Calls prog 34 #[some a,n] w fun c f=>RZ c/\qI f a v b (p+1)/\Kp (·=a) w f:=by
 have g:=Zy (lF w a p v b n d j i);clear d;go_enter func34,ntmps34;go_wp2_with fail;refine g.mono ?_;rintro c m ⟨⟨l,rfl,-⟩,e⟩;have h:=Zy e;clear e;go_wp2;go_ret;exact⟨⟨_,rfl⟩,h⟩
theorem QF(w:World){v:Value}(d:List Int)(f:BytesAt w v d):Calls prog 13 #[v] w fun b o=>(∃m y A,b=.returned (.pointer (some ⟨m,0,none⟩))/\w.heap.size<=m/\qI o m y A 0)/\Ext w o:=by
 obtain⟨z,n,rfl⟩:=f.form;by_cases t:2000<d.length
 . rcases f with⟨-,rfl⟩|⟨a,q,j,r,g,l⟩
   . simp at t
   cases j;have h:Zz (BytesAt w (.slice (some a) 2000 n) (d.take 2000)):=Zy (.inr ⟨a,n,by rw[TN,UN Zm],by rw[TN];omega,fun x s=>by
    rw[TN]at s;rw[g x Zm];simp only[List.getD,Ub];rw[Ty Zm],fun c u=>l c (Uo u)⟩)
   have i:=Zy (by have:=zk (g 0 Zm);rwa[add_block]at this);clear g l;go_enter func13,ntmps13;go_wp2;go_ret;refine⟨⟨w,_,d.take 2000,rfl,Tu _,jq.new _ _ _,h.ext (jJ _),fun _ p c e b=>?_,by rw[TN];omega⟩,kx⟩;cases b;have:=i.o;omega
 . have h:=Zy f;have i:Zz (∀a c e,Value.slice z d.length n=.slice (some a) c e->d.length≠0->a.block<w):=Zy (fun a c e b k=>by
    rcases f with⟨-,rfl⟩|⟨p,q,j,r,g,l⟩
    . simp at k
    . cases b;cases j;have:=zk (g 0 Zm);rwa[add_block]at this)
   clear f;go_enter func13,ntmps13;go_wp2;go_ret;exact⟨⟨w,_,d,rfl,Tu _,jq.new _ _ _,h.ext (jJ _),fun k a c e b=>Nat.ne_of_lt (i a c e b k),Zm⟩,kx⟩
theorem Bz(w:World)(x:Int)(h0:0<=x)(f:x<256):(convert 22 9 (.slice (some ⟨w,0,none⟩) 1 1)).run prog (w.alloc (.cells #[.int .u8 x] 5))=.ok (.string (M.bs [UInt8.ofNat x.toNat])) (w.alloc (.cells #[.int .u8 x] 5)):=by
 refine Lib.run_convert_whole (P:=prog) _ 22 5 9 underlying22 underlying5 underlying9 w 0 (M.bs [UInt8.ofNat x.toNat]) ?_ 1;intro e g;have b:e=0:=by
  have:(M.bs [UInt8.ofNat x.toNat]).size=1:=rfl;omega
 subst b;rw[(jq.new w 5 #[.int .u8 x]).cell];have c:x.toNat % 256=x.toNat:=Wl Zm;have d:=VP h0;have a:(M.bs [UInt8.ofNat x.toNat])[0]=UInt8.ofNat x.toNat:=rfl;simp[a,UInt8.toNat_ofNat',c,d]
theorem Dp(l:List UInt8):(M.bs l).size=l.length:=by simp[M.bs,ByteArray.size]
theorem JP{n:Int}{w:World}(h0: -9223372036854775808<=n)(o:n<=9223372036854775807):Calls prog 38 #[n] w fun i l=>(∃b,i=.returned (.string b)/\(0<=n->n<=2->b=M.bs (M.digit n))/\9*(b.size:Int)<=n.natAbs+18)/\Ext w l:=by
 go_enter func38,ntmps38;go_wp2;go_loopw [0,3] (fun d k wr=>∃(a:Int)(b:ByteArray),d=.int .i64 a/\k=.string b/\a<=n/\((a=n/\b.size=0)\/0<=a/\9*(b.size:Int)+a<=n)/\Zz (n<=2->a=n/\b=⟨#[]⟩)/\Ext w wr) (fun d _ _=>(intOf d).toNat)
 case atStart=>exact⟨n,⟨#[]⟩,rfl,rfl,Int.le_refl _,.inl ⟨rfl,rfl⟩,Zy (fun _=>⟨rfl,rfl⟩),Kp.rr⟩
 case round=>
  obtain⟨a,b,rfl,rfl,q,r,g,f⟩:=hrel;have e:=Zy f;clear f;have s:b.size<=1030000000000000000:=Zm
  by_cases p:9<a
  . have h:=Bz wr (48+a % 10) Zm Zm;have c:=Dp [UInt8.ofNat (48+a % 10).toNat];simp only[Ud]at c;go_wp2;go_round
    case rel=>exact⟨a / 10,_,rfl,rfl,Zm,.inr ⟨Zm,by rw[UQ,c];omega⟩,Zy (fun _=>Zm),e.o.trans (jJ _)⟩
    case measure=>exact Zj
  . have h:=Bz wr ((48+a)% 256) Zm Zm;have c:=Dp [UInt8.ofNat ((48+a)% 256).toNat];simp only[Ud]at c;go_wp2;go_ret;refine⟨⟨_,rfl,fun m j=>?_,by rw[UQ,c];omega⟩,e.o.trans (jJ _)⟩;obtain⟨rfl,rfl⟩:=g.o j;have:a=0\/a=1\/a=2:=Zm
    rcases this with rfl|rfl|rfl<;>rfl
theorem Lt(n:Int)(w:World)(h0: -9223372036854775807<=n)(j:n<=9223372036854775807):Calls prog 135 #[n] w fun b f=>(∃a,b=.returned (.string a)/\(0<=n->n<=2->a=M.bs (M.digit n))/\9*(a.size:Int)<=n.natAbs+27)/\Ext w f:=by
 by_cases i:n<0
 . have e:(ByteArray.mk #[45]).size=1:=rfl;go_enter func135,ntmps135;go_wp2_with fail;refine(JP Zm Zm).mono ?_;rintro b g ⟨⟨a,rfl,-,d⟩,c⟩;go_wp2;go_ret;exact⟨⟨_,rfl,fun h _=>Zm,by rw[UQ,e];omega⟩,c⟩
 . go_enter func135,ntmps135;go_wp2_with fail;refine(JP Zm Zm).mono ?_;rintro b g ⟨⟨a,rfl,d,k⟩,c⟩;go_wp2;go_ret;exact⟨⟨_,rfl,d,Zm⟩,c⟩
def LU(m:Nat)(e:Ending):Prop:=∃t:ByteArray,e=.returned (.string t)/\t.size<=m
theorem QE(w:World)(d p:Nat)(v:Value)(f:List Int)(s:ByteArray)(L:qI w d v f p)(hp:p<=900000)(hs:s.size<=100000000):Calls prog 85 #[some d,s] w fun i X=>LU (s.size+1) i/\(∃b,b<=p+4/\qI X d v f b)/\Kp (·=d) w X:=by
 have G:=Zy (lF w d p v f (s.size+1) L Zm Zm);clear L;go_enter func85,ntmps85;go_wp2_with fail;refine G.mono ?_;rintro i w1 ⟨⟨c,rfl,hk⟩,Q,N⟩;have az:c<=s.size:=Zm
 have⟨H,aa⟩:=jw (lF w1 d (p+1) v f 256 Q Zm Zm) N;clear Q N hk;go_wp2_with fail;refine H.mono ?_;rintro i n ⟨⟨K,rfl,hc⟩,x,O⟩;obtain⟨l,m⟩:=S9 (n.alloc (.cells #[.int .i64 32,.int .i64 48,.int .i64 49,.int .i64 57,.int .i64 45,.int .i64 97,.int .i64 35,.int .i64 63,.int .i64 33,.int .i64 47,K] 3));have r:Ext n l:=by rw[m];exact kx
 have Y:Zz (jq l n 3 #[.int .i64 32,.int .i64 48,.int .i64 49,.int .i64 57,.int .i64 45,.int .i64 97,.int .i64 35,.int .i64 63,.int .i64 33,.int .i64 47,K]):=Zy (by rw[m];exact jq.new _ _ _);have⟨I,ae⟩:=jw (lF l d (p+1+1) v f 11 (x.ext r) Zm Zm) ((aa.trans O).trans r.any);have HZ:=Zy x.blk.lt;have ai:=Zy m;clear x O r m;go_wp2_with fail;rw[<-ai.o];refine I.mono ?_;rintro i o ⟨⟨a,rfl,hj⟩,R,u⟩;have ay:a<11:=Zm
 have T:=Y.kp u (Te HZ.o);obtain⟨e,U,V,W⟩:∃e:Int,o.cell? (n,a)=some (.int .i64 e)/\0<=e/\e<256:=by
  have ak:=T.cell a;have:a=0\/a=1\/a=2\/a=3\/a=4\/a=5\/a=6\/a=7\/a=8\/a=9\/a=10:=Zm
  rcases this with rfl|rfl|rfl|rfl|rfl|rfl|rfl|rfl|rfl|rfl|rfl
  all_goals first|exact⟨_,ak,Zm,Zm⟩|skip
 have⟨ah,af⟩:=jw R (ae.trans u);have au:=jv U;clear R u T hj hc;have Z:=Bz o e V W;obtain⟨q,A⟩:=S9 (o.alloc (.cells #[.int .u8 e] 5));have t:Ext o q:=by rw[A];exact kx
 have⟨J,ag,aj⟩:=jI (lF q d (p+1+1+1) v f 3 (ah.ext t) Zm Zm) (af.trans t.any) A;clear t A;go_wp2_with fail;rw[<-aj.o];refine J.mono ?_;rintro i w6 ⟨⟨B,rfl,hm⟩,S,P⟩;have h:Zz (∃b,b<=p+4/\qI w6 d v f b):=Zy ⟨_,Zm,S⟩;have g:=Zy (ag.trans P);clear S P au U G H I J Z;obtain⟨C,y⟩:∃C,M.bs [UInt8.ofNat e.toNat]=C:=⟨_,rfl⟩;have z:C.size=1:=by rw[<-y];rfl
 rw[y];have D:(s.extract 0 c).size=c:=by rw[VH];omega
 have E:(s.extract c s.size).size=s.size - c:=by rw[VH];omega
 have F:(s.extract (c+1) s.size).size=s.size - (c+1):=by rw[VH];omega
 have ax:B=0\/B=1\/B=2:=Zm
 clear hm y V W;rcases ax with rfl|rfl|rfl
 . go_wp2_with fail;go_quiet (fail);go_wp2;go_ret;refine⟨⟨_,rfl,?_⟩,?_,g.drewN _⟩
   . simp only[UQ,z,D,E,F];omega
   . obtain⟨b,j,k⟩:=h.o;exact⟨b,j,k.ext (Kp.rr.drewN _)⟩
 . by_cases av:c<s.size
   . go_wp2_with fail;go_quiet (fail);go_wp2;go_ret;refine⟨⟨_,rfl,?_⟩,?_,g.drewN _⟩
     . simp only[UQ,z,D,E,F];omega
     . obtain⟨b,j,k⟩:=h.o;exact⟨b,j,k.ext (Kp.rr.drewN _)⟩
   . go_wp2;go_ret;exact⟨⟨_,rfl,Zm⟩,h.o,g.o⟩
 . by_cases av:c<s.size
   . go_wp2_with fail;go_quiet (fail);go_wp2;go_ret;refine⟨⟨_,rfl,?_⟩,?_,g.drewN _⟩
     . simp only[UQ,z,D,E,F];omega
     . obtain⟨b,j,k⟩:=h.o;exact⟨b,j,k.ext (Kp.rr.drewN _)⟩
   . go_wp2;go_ret;exact⟨⟨_,rfl,Zm⟩,h.o,g.o⟩
theorem zb{a b:ByteArray}(d:(a.toList==b.toList)=true):a=b:=by
 have c:=Ue.1 d;rw[Uv,Uv]at c;exact ByteArray.ext (VB.1 c)
def Sc(s:ByteArray)(e:Ending):Prop:=∃n b,e=.returned (.tuple #[.int .i64 n,.bool b])/\(b=true->0<=n->n<=2->s=M.bs (M.digit n))/\ -100000<=n/\n<=100000
theorem sQ(s:ByteArray){w:World}(I:s.size<=4000000000):Calls prog 164 #[s] w fun n F=>Sc s n/\Ext w F:=by
 by_cases J:s.size=0
 . go_enter func164,ntmps164;go_wp2;go_ret2;exact⟨⟨_,_,rfl,fun b=>by(cases b),Zm,Zm⟩,Kp.rr⟩
 by_cases B:((s[0]'Zm).toNat:Int)=45
 . skip;by_cases j:s.size=1\/5<s.size
   . go_enter func164,ntmps164;go_wp2_with fail
     all_goals (go_ret2;exact⟨⟨_,_,rfl,fun b=>by(cases b),Zm,Zm⟩,Kp.rr⟩)
   have v:((s.size:Int)==1)=false:=SK.2 Zm;have x:decide ((5:Int)<s.size)=false:=SS Zm;go_enter func164,ntmps164;go_wp2;go_loopw [4,6] (fun t f wr=>∃(a:Nat)(e:Int)(c:Int),1<=a/\a<=s.size/\f=.int .i64 a/\t=.int .i64 e/\0<=e/\e+1<=c/\Zz (c=10 ^ (a - 1))/\Ext w wr) (fun _ f _=>s.size - (intOf f).toNat)
   case atStart=>exact⟨1,0,1,Zm,Zm,rfl,rfl,Zm,Zm,Zy Zl,Kp.rr⟩
   case round=>
    obtain⟨a,e,c,y,z,rfl,rfl,D,E,g,h⟩:=hrel;have d:=Zy h;clear h;have C:c<=10000:=by
     rw[g.o];have q:(10 ^ (a - 1):Nat)<=10 ^ 4:=Nat.pow_le_pow_right Zm Zm;have r:=Int.ofNat_le.2 q;simpa using r
    by_cases A:a<s.size
    . go_wp2_with fail
      all_goals first
       |(go_ret2;exact⟨⟨_,_,rfl,fun b=>by(cases b),Zm,Zm⟩,d.o⟩)
       |skip
      go_round
      case rel=>
       refine⟨a+1,_,c*10,Zm,Zm,Zk,rfl,Zm,Zm,Zy ?_,d.o⟩;rw[g.o,show a+1 - 1=(a - 1)+1 by omega,Int.pow_succ]
      case measure=>exact Zj
    . go_wp2_with fail;refine(Lt _ _ Zm Zm).mono ?_;rintro n G ⟨⟨u,rfl,k,-⟩,i⟩;have l:=Zy k;clear k;cases j:(u.toList==s.toList)
      . go_wp2;go_ret2;exact⟨⟨_,_,rfl,fun b=>by(cases b),Zm,Zm⟩,d.o.trans i⟩
      . have m:=Zy (zb j);go_wp2;go_ret2;exact⟨⟨_,_,rfl,fun _ o p=>by rw[<-m.o];exact l o p,Zm,Zm⟩,d.o.trans i⟩
 . have H:=SK.2 B;by_cases j:s.size=0\/4<s.size
   . go_enter func164,ntmps164;go_wp2_with fail
     all_goals (go_ret2;exact⟨⟨_,_,rfl,fun b=>by(cases b),Zm,Zm⟩,Kp.rr⟩)
   have v:((s.size:Int)==0)=false:=SK.2 Zm;have x:decide ((4:Int)<s.size)=false:=SS Zm;go_enter func164,ntmps164;go_wp2;go_loopw [4,6] (fun t f wr=>∃(a:Nat)(e:Int)(c:Int),0<=a/\a<=s.size/\f=.int .i64 a/\t=.int .i64 e/\0<=e/\e+1<=c/\Zz (c=10 ^ (a - 0))/\Ext w wr) (fun _ f _=>s.size - (intOf f).toNat)
   case atStart=>exact⟨0,0,1,Zm,Zm,rfl,rfl,Zm,Zm,Zy Zl,Kp.rr⟩
   case round=>
    obtain⟨a,e,c,y,z,rfl,rfl,D,E,g,h⟩:=hrel;have d:=Zy h;clear h;have C:c<=10000:=by
     rw[g.o];have q:(10 ^ (a - 0):Nat)<=10 ^ 4:=Nat.pow_le_pow_right Zm Zm;have r:=Int.ofNat_le.2 q;simpa using r
    by_cases A:a<s.size
    . go_wp2_with fail
      all_goals first
       |(go_ret2;exact⟨⟨_,_,rfl,fun b=>by(cases b),Zm,Zm⟩,d.o⟩)
       |skip
      go_round
      case rel=>
       refine⟨a+1,_,c*10,Zm,Zm,Zk,rfl,Zm,Zm,Zy ?_,d.o⟩;rw[g.o,show a+1 - 0=(a - 0)+1 by omega,Int.pow_succ]
      case measure=>exact Zj
    . go_wp2_with fail;refine(Lt _ _ Zm Zm).mono ?_;rintro n G ⟨⟨u,rfl,k,-⟩,i⟩;have l:=Zy k;clear k;cases j:(u.toList==s.toList)
      . go_wp2;go_ret2;exact⟨⟨_,_,rfl,fun b=>by(cases b),Zm,Zm⟩,d.o.trans i⟩
      . have m:=Zy (zb j);go_wp2;go_ret2;exact⟨⟨_,_,rfl,fun _ o p=>by rw[<-m.o];exact l o p,Zm,Zm⟩,d.o.trans i⟩
def pQ(s:ByteArray):List Value:=[.string s]
def lQ:om ByteArray:=fun _ _ x cs=>cs=pQ x
theorem lQ.stays:kE lQ:=fun _ _ _ _ _ _ _ _ a=>a
theorem Bg(x:ByteArray):∀a∈pQ x,a.oneCell'=true:=by simp[pQ,Value.oneCell']
theorem D8:Elem 55 9 1:=oH (z:= "") (bytes:=16) underlying55 Zo rfl Zn Zn
namespace M
theorem Rn(a b:List UInt8):bs a++bs b=bs (a++b):=by
 apply ByteArray.ext;apply VB.1;simp[bs]
theorem Ro(s:ByteArray)(k:Nat)(a:k<s.size):s.extract k (k+1)=bs [s[k]]:=by
 apply ByteArray.ext;apply VB.1;rw[Lib.extract_data];have b:k<s.data.toList.length:=by simpa using a
 rw[Vq b];simp[bs];rfl
theorem LD{s:ByteArray}{k:Nat}(a:k<s.size):s.data.toList.drop k=s[k]::s.data.toList.drop (k+1):=by
 have b:k<s.data.toList.length:=by simpa using a
 rw[Vq b];rfl
end M
theorem Bl(s:ByteArray)(w:World)(S:s.size<=4000000000):Calls prog 128 #[s] w fun j q=>(∃A,j=.returned A/\SliceOf 1 lQ q (fun e=>w<=e/\e<q) A (M.words s))/\Ext w q:=by
 have v:=kV w 9 1 w (Tu _) rfl;have C:=Zy v;clear v;go_enter func128,ntmps128;go_wp2;go_loopw [3,4,5] (fun N D p wr=>∃(a:Nat)(c:List UInt8)(b:List ByteArray),a<=s.size/\p=.int .i64 a/\D=.string (M.bs c)/\c.length<=a/\b.length<=a/\Zz (b.map (·.data.toList)++M.nO c (s.data.toList.drop a)=M.nO [] s.data.toList)/\
     wr.ownsRow w 9 1 N b.length (b.flatMap pQ)/\Ext w wr) (fun _ _ p _=>s.size - (intOf p).toNat)
 case atStart=>exact⟨0,[],[],Tz _,rfl,rfl,Tu _,Tu _,Zy Zl,C,jJ _⟩
 case round=>
  obtain⟨a,c,b,Q,rfl,rfl,O,R,i,o,u⟩:=hrel;obtain⟨y,z,rfl⟩:=jS o;have⟨g,f⟩:=jw o u;clear o u;have P:=Dp c;by_cases x:a<s.size
  . have t:=Zy (M.LD x);by_cases J:((s[a]).toNat:Int)=32
    . go_wp2_with (refine jF D8 rfl (.tmp 17) (.tmp 19) rfl w (.slice y b.length z) b.length (b.flatMap pQ) rfl (jr (D:=fun _=>False) g (jJ _) fun _ _ _ r=>r) wr 1 (pQ (M.bs c)) rfl rfl (hQ.oI _ _ rfl) (Bg _) Zm (by have:=f.size;simp;omega) ?_;rintro F E B m l H);have k:=Kp.own (f.alloc _) l (fun e n=>(oJ g n).1);go_round
      case rel=>
       refine⟨a+1,[],b++[M.bs c],Zm,Zk,rfl,Zl,by simp;omega,Zy ?_,by simpa using m,k⟩;have h:s[a]=32:=by
        apply UInt8.toNat_inj.1;simp;omega
       have d:=i.o;rw[t.o,M.nO,Ty h]at d;rw[<-d];simp[M.bs]
      case measure=>exact Zj
    . have T:=M.Ro s a x;have L:=Dp [s[a]];simp only[Ud]at L;go_wp2;go_round
      case rel=>
       refine⟨a+1,c++[s[a]],b,Zm,Zk,by rw[M.Rn],by simp;omega,Zm,Zy ?_,g.o,f.o⟩;have h:s[a]≠32:=fun j=>J (by rw[j];rfl);have d:=i.o;rw[t.o,M.nO,T9 h]at d;exact d
      case measure=>exact Zj
  . go_wp2_with (refine jF D8 rfl (.tmp 28) (.tmp 30) rfl w (.slice y b.length z) b.length (b.flatMap pQ) rfl (jr (D:=fun _=>False) g (jJ _) fun _ _ _ r=>r) wr 1 (pQ (M.bs c)) rfl rfl (hQ.oI _ _ rfl) (Bg _) Zm (by have:=f.size;simp;omega) ?_;rintro F E B m l H);have k:=Kp.own (f.alloc _) l (fun e n=>(oJ g n).1);go_ret;refine⟨⟨_,rfl,?_⟩,k⟩;have I:a=s.size:=Zm
    have d:=i.o;rw[I,U6 Zl,M.nO]at d;have K:M.words s=b++[M.bs c]:=by
     unfold M.words;rw[<-d,Ux,List.map_map];congr 1;exact List.map_id _
    rw[K];have G:=SliceOf.mD (R:=lQ) (I:=fun e=>w<=e/\e<B) pQ (l:=b++[M.bs c]) m Zl Zl (fun _ _=>rfl) (fun _ _=>rfl) (fun e h d=>⟨h,d⟩) Zr;simpa using G
theorem DN:zQ 109 2:=⟨_,underlying109,Zo⟩
theorem nD:zQ 134 4:=⟨_,underlying134,Zo⟩
def R8(m:Nat)(e:Ending):Prop:=∃k s b,e=.returned (.tuple #[.agg #[.int .i64 k,.string s],.bool b])/\s.size<=m
theorem yV(s:ByteArray){w:World}:Calls prog 209 #[s] w fun c e=>R8 s.size c/\Ext w e:=by
 cases g:(s.toList==[35])
 . cases d:jL s
   . have a:=fun b=>Zy (kT s b);simp only[d]at a;go_enter func209,ntmps209;go_wp2_with fail;refine(a _).o.mono ?_;rintro c f ⟨rfl,rfl⟩;go_wp2_with fail;refine PG (hU DN rfl w rfl [Tj,""] (hQ.oI _ _ rfl) rfl) rfl ?_;exact⟨⟨_,_,_,rfl,Tz _⟩,kx⟩
   . have a:=fun b=>Zy (kT s b);simp only[d]at a;go_enter func209,ntmps209;go_wp2_with fail;refine(a _).o.mono ?_;rintro c f ⟨rfl,rfl⟩;go_wp2_with fail;refine PG (hU DN rfl w rfl [.int .i64 2,s] (hQ.oI _ _ rfl) rfl) rfl ?_;exact⟨⟨_,_,_,rfl,Tu _⟩,kx⟩
 . go_enter func209,ntmps209;go_wp2_with fail;refine PG (hU DN rfl w rfl [.int .i64 1,""] (hQ.oI _ _ rfl) rfl) rfl ?_;exact⟨⟨_,_,_,rfl,Tz _⟩,kx⟩
def Ri(op:Int)(e:Ending):Prop:=∃b,e=.returned (.bool b)/\(b=true->1<=op/\op<=15)
theorem Nr(op a:Int)(n m:ByteArray){w:World}:Calls prog 133 #[.agg #[op,a,n,m]] w fun c e=>Ri op c/\Ext w e:=by
 by_cases f:1<=op/\op<=15
 . go_enter func133,ntmps133;go_wp2_with (first
    |(go_at_call 117;refine(kT _ _).mono ?_;rintro c e ⟨rfl,rfl⟩)
    |(go_at_call 76;refine(rD).mono ?_;rintro c e ⟨rfl,rfl⟩))
   all_goals
    go_ret;exact⟨⟨_,rfl,fun _=>f⟩,kx⟩
 . have b:∀d:Int,1<=d->d<=15->(op==d)=false:=fun d g h=>SK.2 Zm;have i:=b 1 Zm Zm;have r:=b 2 Zm Zm;have s:=b 3 Zm Zm;have t:=b 4 Zm Zm;have u:=b 5 Zm Zm;have v:=b 6 Zm Zm;have x:=b 7 Zm Zm;have y:=b 8 Zm Zm;have z:=b 9 Zm Zm;have j:=b 10 Zm Zm;have k:=b 11 Zm Zm;have l:=b 12 Zm Zm;have o:=b 13 Zm Zm;have p:=b 14 Zm Zm;have q:=b 15 Zm Zm;clear b;go_enter func133,ntmps133;go_wp2_with fail
   all_goals
    go_ret;exact⟨⟨_,rfl,fun c=>by simp at c⟩,kx⟩
theorem CY(op:Nat)(h:op<=15){w:World}:Calls prog 134 #[op] w fun c g=>LU 4 c/\Ext w g:=by
 go_enter func134,ntmps134;have b:jq (w.alloc (.cells #["",.string ⟨#[110,117,109]⟩,.string ⟨#[116,97,107,101]⟩,.string ⟨#[112,117,116]⟩,.string ⟨#[97,100,100]⟩,.string ⟨#[110,117,108,108]⟩,.string ⟨#[110,101,119]⟩,.string ⟨#[103,101,116]⟩,.string ⟨#[115,101,116]⟩,.string ⟨#[99,97,108,108]⟩,.string ⟨#[114,101,116]⟩,.string ⟨#[122,101,114,111]⟩,.string ⟨#[110,105,108]⟩,.string ⟨#[103,111]⟩,.string ⟨#[111,117,116]⟩,.string ⟨#[99,97,115,116]⟩] 9)) w 9 _:=jq.new w 9 _;obtain⟨a,e,f⟩:∃a:ByteArray,(w.alloc (.cells #["",.string ⟨#[110,117,109]⟩,.string ⟨#[116,97,107,101]⟩,.string ⟨#[112,117,116]⟩,.string ⟨#[97,100,100]⟩,.string ⟨#[110,117,108,108]⟩,.string ⟨#[110,101,119]⟩,.string ⟨#[103,101,116]⟩,.string ⟨#[115,101,116]⟩,.string ⟨#[99,97,108,108]⟩,.string ⟨#[114,101,116]⟩,.string ⟨#[122,101,114,111]⟩,.string ⟨#[110,105,108]⟩,.string ⟨#[103,111]⟩,.string ⟨#[111,117,116]⟩,.string ⟨#[99,97,115,116]⟩] 9)).cell? (w,op)=some (.string a)/\a.size<=4:=by
  have d:=b.cell op;have:op=0\/op=1\/op=2\/op=3\/op=4\/op=5\/op=6\/op=7\/op=8\/op=9\/op=10\/op=11\/op=12\/op=13\/op=14\/op=15:=Zm
  rcases this with rfl|rfl|rfl|rfl|rfl|rfl|rfl|rfl|rfl|rfl|rfl|rfl|rfl|rfl|rfl|rfl<;>exact⟨_,d,Zn⟩
 have i:=jv e;clear b;go_wp2;go_ret;exact⟨⟨_,rfl,f⟩,kx⟩
structure tN(C:World->Prop)(T:Type)(f:T->World):Prop where
 jC:∀s,C (f s)
 o:∀W,C W->∃s,W=f s
theorem tN.ex(C:World->Prop)(w:World)(c:C w):∃(a:Type)(f:a->World),Nonempty a/\tN C a f:=⟨{b:World // C b},Subtype.val,⟨⟨w,c⟩⟩,fun d=>d.2,fun b c=>⟨⟨b,c⟩,rfl⟩⟩
theorem lL(w:World):∃(a:Type)(f:a->World),Nonempty a/\tN (fun b=>Ext w b) a f:=tN.ex _ w Kp.rr
theorem Nk{P:Program}{id:Nat}{Q:Exit->Act->World->Prop}{a:Act}{w:World}{l:List Oper}{d:Type}(f:d->World)(h0:∃b,w.drew=f b)(i:P.follows .mixedOrders=true)(h:Region.lexB .any l.toArray=true)(g:wpQuiet P l.toArray (fun c=>∃b,c=f b) (fun e=>∀c,(∃b,c=f b)->Q .normal e c) l a):(Code.region id l.toArray true).wp P Q a w:=
 wp_region_quiet (C:=fun c=>∃b,c=f b) i h h0 (by simpa using g)
theorem qn{P:Program}{f:Array Oper}{C:World->Prop}{K b:Act->Prop}{a:Act}(e:∀c,b c->K c)(d:b a):wpQuiet P f C K [] a:=TP (e _ d)
theorem EP{P:Program}{h:Array Oper}{C:World->Prop}{K c d:Act->Prop}{a:Act}(g:∀b,c b->d b->K b)(e:c a)(f:d a):wpQuiet P h C K [] a:=TP (g _ e f)
theorem kk{C:World->Prop}{d:Type}{f:d->World}{c R:Act->World->Prop}{a:Act}{w:World}(g:Zz (tN C d f))(j:∀e b,(∃k,b=f k)->R e b->c e b)(h:C w)(i:R a w):c a w:=j _ _ (g.o.o _ h) i
theorem zJ{P:Program}{id:Nat}{Q:Exit->Act->World->Prop}{a:Act}{w:World}{l:List Oper}{C:World->Prop}{d:Type}{f:d->World}(e:Zz (tN C d f))(h0:C w.drew)
    (h:wpQuiet P l.toArray (fun b=>∃c,b=f c) (fun g=>∀b,(∃c,b=f c)->Q .normal g b) l a) (j:P.follows .mixedOrders=true:=by kernel_rfl) (i:Region.lexB .any l.toArray=true:=by kernel_rfl):(Code.region id l.toArray true).wp P Q a w:=
 Nk f (e.o.o _ h0) j i h
def Cc(o:Oper):Bool:=
 match o.op with
 | .move _| .assign _| .load _ _| .fieldAddr _ _ _| .indexAddr _ _ _| .binOp _ _ _ _ _| .unOp _ _ _| .field _ _ _| .build _ _| .extract _ _| .slice _ _ _ _ _| .nilCheck _| .index _ _ _| .pick _ _ _=>true
 | .call c=>(match c.callee with| .builtin .len=>true|_=>false)
 |_=>false
theorem Ju{P:Program}{w a:World}{s:Sem Value}{f:FuncId}{args:Array Value}:Sem.run P (do pure (Next.value (<-s)):Sem Next) w≠ .ok (.enter f args) a:=by
 simp only[Uu];cases Sem.run P s w<;>simp[Result.andThen]
theorem tF{α:Type}{P:Program}{w c:World}{s:Sem α}{k:α->Sem Next}{f:FuncId}{args:Array Value}(d:∀b a,Sem.run P (k b) a≠ .ok (.enter f args) c):Sem.run P (s>>= k) w≠ .ok (.enter f args) c:=by
 rw[Uu];cases Sem.run P s w with
 |ok b a=>exact d b a
 |halt _ _=>simp[Result.andThen]
theorem Hx{P:Program}{d:Oper}(c:Cc d=true)(a:Act){w h:World}{f:FuncId}{args:Array Value}:(execOp a.eval d).run P w≠ .ok (.enter f args) h:=by
 unfold Cc at c;unfold execOp;split at c
 any_goals (rename_i b;simp only[b];first|exact Ju|(simp;done))
 case h_12=>
  rename_i b;simp only[b];split
  any_goals (first|(simp;done)|(simp[runtimePanic];done))
  split
  any_goals (first|(simp;done)|(simp[runtimePanic];done))
  refine tF fun _ _=>tF fun _ _=>?_;split
  . refine tF fun _ _=>?_;simp
  . simp
 case h_14=>
  rename_i b;simp only[b];refine tF fun _ _=>?_;simp
 case h_15=>
  rename_i e b;simp only[b];split at c
  . rename_i g;simp only[resolve,g,Uu,Sem.run_pure,UT,invoke,builtin];cases Sem.run P (Builtin.len_ e.argTypes d.type (Array.map a.eval e.args)) w<;>simp[Result.andThen]
  . cases c
 case h_16=>cases c
section
variable {P:Program}{ops:Array Oper}{md:Region.Mode}{Q:Exit->Act->World->Prop}{C:World->Prop}{n:Nat}
def nL(P:Program)(ops:Array Oper)(C:World->Prop)(o:Oper)(v:Value)(a:Act):Prop:=
 (Region.wanted o (yielded ops a.tmps)=true/\∀w,C w->(execOp a.eval o).run P w=.ok (.value v) w\/((execOp a.eval o).run P w=.ok .skip w/\v=undef))\/
 (Region.wanted o (yielded ops a.tmps)=false/\v=undef)
theorem wT{b:Oper}{a:Act}{K:Act->Prop}(j:Cc b=true)(d:if Region.wanted b (yielded ops a.tmps)then b.quiet P a C K else K (a.put b.dst undef)):∃f,nL P ops C b f a/\K (a.put b.dst f):=by
 cases e:Region.wanted b (yielded ops a.tmps)
 . rw[e]at d;exact⟨undef,.inr ⟨e,rfl⟩,by simpa using d⟩
 . rw[e]at d;obtain⟨f,h,i⟩:b.quiet P a C K:=by simpa using d
   refine⟨f,.inl ⟨e,fun g l=>?_⟩,i⟩;have c:=h g l;unfold Oper.quietAt at c;generalize k:(execOp a.eval b).run P g=r at c;unfold Oper.quietUpon at c;split at c
   . obtain⟨rfl,rfl⟩:=c;exact .inl rfl
   . obtain⟨rfl,rfl⟩:=c;exact .inr ⟨rfl,rfl⟩
   . exact absurd k (Hx j a)
   . exact c.elim
theorem nL.wpOp{i:Nat}{e:Oper}{v:Value}{a:Act}(g:ops[i]?=some e)(j:nL P ops C e v a){K:Act->World->Prop}{w:World}(f:C w)(c:K (a.put e.dst v) w):wpOp P ops Q i K a w:=by
 unfold Go.wpOp;simp only[g];rcases j with⟨d,h⟩|⟨d,rfl⟩
 . simp only[d,Uy];rcases h w f with b|⟨b,rfl⟩
   . simp only[Oper.wp,b,Oper.upon];exact .inl c
   . simp only[Oper.wp,b,Oper.upon];exact .inl c
 . simp only[d,U3,Uq];exact c
theorem nL.of_same{b:Oper}{v:Value}{a c:Act}(f:nL P ops C b v a)(d:execOp c.eval b=execOp a.eval b)(e:Region.wanted b (yielded ops c.tmps)=Region.wanted b (yielded ops a.tmps)):nL P ops C b v c:=by
 unfold nL at*;rw[d,e];exact f
theorem NR{j:Nat}{c e:Oper}{v:Value}(E:ops[j]?=some e)(D:c.apart ops e=true)(G:∀p m,c.op≠ .select p m)(A:∀p m,e.op≠ .select p m)(y:∀o a w,Q (.panic o) (a.put c.dst v) w->Q (.panic o) a w){K:Act->World->Prop}{a:Act}{w:World}(g:nL P ops C c v a)(b:wpOp P ops Q j K (a.put c.dst v) w):wpOp P ops Q j (fun u t=>nL P ops C c v u/\K (u.put c.dst v) t) a w:=by
 obtain⟨q,h,x⟩:=Oper.apart_spec D;have i:∀(a:Act),nL P ops C c v a->∀d,nL P ops C c v (a.put e.dst d):=fun a g d=>
  g.of_same (Wv c G a e.dst d x) (Wi c a e.dst d x)
 have H:∀l,nL P ops C c v {a with defers:=l::a.defers}:=fun l=>g.of_same rfl rfl;unfold wpOp at*;simp only[E]at*;rw[Wi e a c.dst v q]at b;split
 . rename_i s;simp only[s,Uy]at b;rcases b with b|⟨z,F⟩
   case inr=>exact .inr ⟨by unfold Oper.asks at*;rw[Wv e A a c.dst v q]at z;exact z,F⟩
   refine .inl ?_;unfold Oper.wp at*;rw[Wv e A a c.dst v q]at b;generalize (execOp a.eval e).run P w=r at*;cases r with
   | ok n t =>
    cases n<;>simp only[Oper.upon]at b |-
    case value d=>exact⟨i a g d,by rw[<-UL a v d h];exact b⟩
    case skip=>exact⟨i a g _,by rw[<-UL a v undef h];exact b⟩
    case defer l=>
     refine⟨i _ (H l) _,?_⟩;rw[<-UL _ v undef h,<-Act.put_defers];exact b
    case enter f args=>
     refine Calls.mono b fun B I k=>?_;cases B with
     |returned d=>exact⟨i a g d,by rw[<-UL a v d h];exact k⟩
     |panicked o=>exact y _ _ _ k
     |outgrown=>exact k
    case row row args=>exact Rows.mono b fun d I k=>⟨i a g d,by rw[<-UL a v d h];exact k⟩
   |halt J t=>
    cases J<;>simp only[Oper.upon]at b |-
    case panic d=>exact y _ _ _ b
 . rename_i s;simp only[s]at b;exact⟨i a g _,by rw[<-UL a v undef h];exact b⟩
def vK(P:Program)(md:Region.Mode)(ops:Array Oper)(n:Nat)(C:World->Prop)(Q:Exit->Act->World->Prop):Nat->Array Bool->Act->World->Prop
 |0,listed,a,w=>Region.ready md ops listed=[]/\Q .normal a w
 |fuel+1,listed,a,w=>
  (Region.ready md ops listed=[]->Q .normal a w)/\
  ∀i∈Region.ready md ops listed,wpOp P ops Q i (fun a' w'=>(i<n->C w')/\vK P md ops n C Q fuel (listed.setIfInBounds i true) a' w') a w
theorem xL:∀(fuel:Nat)(listed:Array Bool)(a:Act)(w:World),vK P md ops n C Q fuel listed a w->wpAny P md ops Q fuel listed a w
 |0,_,_,_,h=>h
 |fuel+1,_,_,_,h=>⟨h.1,fun e d=>wpOp_mono (fun b f c=>xL fuel _ b f c.2) (h.2 e d)⟩
theorem Iw{i:Nat}{g:Oper}{v:Value}(E:ops[i]?=some g)(O:∀(j:Nat)(S:Oper) o m,ops[j]?=some S->S.op≠ .select o m)(V:∀F a w,Q (.panic F) (a.put g.dst v) w->Q (.panic F) a w)(ae:∀j,n<=j->Region.waitsFor md ops j i=true\/ops[j]?=none):∀(p:Nat)(listed:Array Bool)(a:Act)(w:World),(∀j h,ops[j]?=some h->j≠i->listed.getD j true=false->(∀b∈h.after,Region.binds md b=true->b.on≠i)->g.apart ops h=true)→ i∈Region.ready md ops listed->nL P ops C g v a->C w->i<n→ vK P md ops n C Q p (listed.setIfInBounds i true) (a.put g.dst v) w->vK P md ops n C Q (p+1) listed a w:=by
 intro p;induction p with
 |zero=>
  intro listed a w _ f y q I l;refine⟨fun d=>(by rw[d]at f;cases f),fun j u=>?_⟩;by_cases c:j=i
  . subst c;exact y.wpOp E q ⟨fun _=>q,l⟩
  . have:=Wu u c;rw[l.1]at this;cases this
 |succ p ih=>
  intro listed a w H f y q I l;refine⟨fun d=>(by rw[d]at f;cases f),fun j u=>?_⟩;by_cases c:j=i
  . subst c;exact y.wpOp E q ⟨fun _=>q,l⟩
  . have e:=l.2 j (Wu u c);obtain⟨L,h,r,W⟩:=VK.1 u;have M:∀b∈h.after,Region.binds md b=true->b.on≠i:=fun b B A D=>by
     have e:=W b B A;have G:=(VK.1 f).1;rw[D]at e;rcases UZ i listed.size with z|z
     . simp[z]at G e;rw[G]at e;cases e
     . simp[UY z]at e
    have K:j<n:=by
     rcases UZ j n with d|d
     . exact d
     . rcases ae j d with x|x
       . obtain⟨af,N,b,B,A,D⟩:=Region.waitsFor_spec x;rw[r]at N;cases N;exact absurd D (M b B A)
       . rw[r]at x;cases x
    have U:=NR r (H j h r c L M) (fun o m=>O i g o m E) (fun o m=>O j h o m r) V y e;have X:∀k s,ops[k]?=some s->k≠i->(listed.setIfInBounds j true).getD k true=false→
        (∀b∈s.after,Region.binds md b=true->b.on≠i)->g.apart ops s=true:=fun k s Y Z R aa=>by
     refine H k s Y Z ?_ aa;by_cases J:j=k
     . subst J;exact L
     . rw[getD_set_ne true J]at R;exact R
    refine wpOp_mono (fun T w' t=>⟨fun _=>t.2.1 K,ih (listed.setIfInBounds j true) T w' X (Wu f (Ne.symm c)) t.1 (t.2.1 K) I ?_⟩) U;rw[Wp _ _ c];exact t.2.2
def NS(md:Region.Mode)(ops:Array Oper)(n:Nat):List Nat->Array Bool->Option (Array Bool)
 |[],listed=>some listed
 |i::q,listed=>
  if decide (i<n)&&(Region.ready md ops listed).contains i&&Region.free md ops listed i&&((ops[i]?).map Cc).getD false then NS md ops n q (listed.setIfInBounds i true)else none
def Js(md:Region.Mode)(ops:Array Oper)(n:Nat):List (List Nat×Nat)->List Nat->Array Bool->Bool
 |[],q,listed=>match NS md ops n q listed with
  |some L=>Region.seqB md ops (ops.size - n) n L
  |none=>false
 |(q,i)::r,q',listed=>match NS md ops n q listed with
  |some L=>decide (Region.ready md ops L=[i])&&decide (i<n)&&Js md ops n r q' (L.setIfInBounds i true)
  |none=>false
def costs:List (List Nat×Nat)->List Nat->Nat
 |[],q=>q.length
 |(q,_)::r,q'=>q.length+1+costs r q'
def Ad(md:Region.Mode)(ops:Array Oper)(n:Nat):Bool:=(List.range ops.size).all fun j=>decide (j<n)|| (List.range n).all fun i=>Region.waitsFor md ops j i
def Ej(ops:Array Oper)(n:Nat)(segs:List (List Nat×Nat))(q:List Nat):Bool:=
 Region.noSelect ops&&Ad .any ops n&&decide (costs segs q=n)&&decide (n<=ops.size)&&Js .any ops n segs q (Array.replicate ops.size false)
def uE(P:Program)(l:List Oper)(C:World->Prop)(Q:Exit->Act->World->Prop)(fin:Act->World->Prop):List (List Nat×Nat)->List Nat->Act->World->Prop
 |[],q,a,w=>wpQuiet P l.toArray C (fun a'=>fin a' w) (q.filterMap (l[·]?)) a
 |(q,i)::r,q',a,w=>wpQuiet P l.toArray C (fun a'=>wpList P l.toArray (Exit.then (fun a'' w'=>C w'/\uE P l C Q fin r q' a'' w') Q) (l[i]?).toList a' w) (q.filterMap (l[·]?)) a
theorem Cj(b:Ad md ops n=true){i:Nat}(d:i<n)(j:Nat)(f:n<=j):Region.waitsFor md ops j i=true\/ops[j]?=none:=by
 rcases UZ j ops.size with e|c
 . unfold Ad at b;have a:=Tc.1 b j (Uk.2 e);simp only[Vn,Tv,Tc]at a;rcases a with a|a
   . omega
   . exact .inl (a i (Uk.2 d))
 . exact .inr (UY c)
theorem sO{l:List Oper}(s:Region.noSelect l.toArray=true)(t:Ad md l.toArray n=true)(o:∀b a x v w,Q (.panic b) (a.put x v) w->Q (.panic b) a w){K:Act->Prop}{w:World}(k:C w)(e:Nat)(d:Array Bool)
    (m:∀f,K f->vK P md l.toArray n C Q e d f w):∀(q:List Nat)(listed:Array Bool)(a:Act),NS md l.toArray n q listed=some d→
    wpQuiet P l.toArray C K (q.filterMap (l[·]?)) a->vK P md l.toArray n C Q (e+q.length) listed a w
 |[],listed,a,ho,h=>by
  simp only[NS,TQ]at ho;subst ho;exact m a h
 |i::q,listed,a,ho,h=>by
  unfold NS at ho;split at ho
  . rename_i p;simp only[RV,Tv]at p;obtain⟨⟨⟨g,y⟩,z⟩,j⟩:=p;cases c:l[i]? with
    |none=>simp[c]at j
    |some u=>
     have r:l.toArray[i]?=some u:=by simpa using c
     have B:Cc u=true:=by simpa [c]using j
     rw[List.filterMap_cons,c]at h;simp only[wpQuiet]at h;obtain⟨v,D,A⟩:=wT B h;have:=sO s t o k e d m q _ _ ho A;exact Iw r (Region.noSelect_spec s) (fun b a w=>o b a _ _ w) (Cj t g) _ _ _ _ (Region.free_spec r z) (by simpa using y) D k g this
  . cases ho
theorem xG{l:List Oper}:∀(t:List Oper)(k:Nat)(listed:Array Bool)(a:Act)(w:World),n<=k->(∀b,t[b]?=l[k+b]?)→
    Region.seqB md l.toArray t.length k listed=true->wpList P l.toArray Q t a w->vK P md l.toArray n C Q t.length listed a w
 |[],_,_,_,_,_,_,hB,h=>⟨by simpa [Region.seqB]using hB,h⟩
 |o::t,k,listed,a,w,hk,hl,hB,h=>by
  have i:l.toArray[k]?=some o:=by simpa using(hl 0).symm
  simp only[TL,Region.seqB,RV,Tv]at hB;refine⟨fun d=>(by rw[hB.1]at d;cases d),fun c e=>?_⟩;rw[hB.1]at e;have j:c=k:=by simpa using e
  subst j;have p:wpOp P l.toArray Q c (wpList P l.toArray Q t) a w:=by unfold wpOp;simp only[i];exact h
  exact wpOp_mono (fun f q g=>⟨fun m=>absurd m (WY.2 hk),xG t (c+1) _ f q Zm (fun b=>by have:=hl (b+1);simpa [Uj,VG 1 b]using this) hB.2 g⟩) p
theorem Mf{e:Oper}{a:Act}{w:World}{next K:Act->World->Prop}(b:e.wp P a w next (Exit.then K Q)):e.wp P a w next Q:=by
 unfold Oper.wp at*;generalize (execOp a.eval e).run P w=r at*;cases r with
 | ok n i =>
  cases n<;>simp only[Oper.upon]at b |-
  case value g=>exact b
  case skip=>exact b
  case defer d=>exact b
  case enter f args=>
   refine Calls.mono b fun h l c=>?_;cases h with
   |returned g=>exact c
   |panicked k=>exact c
   |outgrown=>exact c
  case row row args=>exact b
 |halt j i=>
  cases j<;>simp only[Oper.upon]at b |-
  case panic g=>exact b
theorem GG{l:List Oper}(u:Region.noSelect l.toArray=true)(v:Ad md l.toArray n=true)(p:∀z a E L w,Q (.panic z) (a.put E L) w->Q (.panic z) a w)(I:n<=l.length):∀(y:List (List Nat×Nat))(e:List Nat)(listed:Array Bool)(a:Act)(w:World),C w→
    Js md l.toArray n y e listed=true->uE P l C Q (fun j d=>wpList P l.toArray Q (l.drop n) j d) y e a w->vK P md l.toArray n C Q ((l.length - n)+costs y e) listed a w
 |[],e,listed,a,w,hC,b,h=>by
  unfold Js at b;split at b
  . rename_i g o;refine sO u v p hC _ g (fun j c=>?_) e listed a o h;have:=xG (md:=md) (C:=C) (l:=l) (l.drop n) n g j w (Tu _) (fun f=>by simp[V4]) (by simpa using b) c;simpa using this
  . cases b
 | (q, i) :: r, e, listed, a, w, hC, b, h => by
  unfold Js at b;split at b
  . rename_i g o;simp only[RV,Tv]at b;obtain⟨⟨t,M⟩,b⟩:=b;have F:l.length - n+costs ((q,i)::r) e=((l.length - n+costs r e)+1)+q.length:=by simp[costs];omega
    rw[F];refine sO u v p hC _ g (fun j c=>?_) q listed a o h;refine⟨fun A=>(by rw[t]at A;cases A),fun f B=>?_⟩;rw[t]at B;have H:f=i:=by simpa using B
    subst H;cases s:l[f]? with
    |none=>
     exfalso;have:f∈Region.ready md l.toArray g:=by rw[t];simp
     obtain⟨_,D,J,_⟩:=VK.1 this;simp[s]at J
    | some D =>
     rw[s]at c;simp only[Option.toList,wpList]at c;unfold wpOp;have K:l.toArray[f]?=some D:=by simpa using s
     simp only[K];have step:∀k d,C d/\uE P l C Q (fun j d=>wpList P l.toArray Q (l.drop n) j d) r e k d->(f<n->C d)/\vK P md l.toArray n C Q (l.length - n+costs r e) (g.setIfInBounds f true) k d:=
      fun k d m=>⟨fun _=>m.1,GG u v p I r e _ k d m.1 b m.2⟩
     split
     . rename_i x;rw[Ty x]at c;rcases c with c|c
       . left;exact Oper.wp_mono (fun k d G=>step k d G) (Mf c)
       . right;exact c
     . rename_i x;rw[T9 x]at c;exact step _ _ c
  . cases b
end
theorem NQ{P:Program}{l:List Oper}{C:World->Prop}{Q:Exit->Act->World->Prop}{d:Act->World->Prop}{q:List Nat}{a:Act}{w:World}{e:List Oper}(f:q.filterMap (l[·]?)=e)(b:∀K:Act->Prop,(∀c,d c w->K c)->wpQuiet P l.toArray C K e a):uE P l C Q d [] q a w:=by
 subst f;exact b _ fun _ b=>b
theorem LH{P:Program}{l:List Oper}{C:World->Prop}{Q:Exit->Act->World->Prop}{e:Act->World->Prop}{q:List Nat}{i:Nat}{r:List (List Nat×Nat)}{g:List Nat}{a:Act}{w:World}{h f:List Oper}(o:q.filterMap (l[·]?)=h)(p:(l[i]?).toList=f)(j:∀K:Act->Prop,(∀b,(∀K2:Act->World->Prop,(∀d c,C c->uE P l C Q e r g d c->K2 d c)->wpList P l.toArray (Exit.then K2 Q) f b w)->K b)->wpQuiet P l.toArray C K h a):uE P l C Q e ((q,i)::r) g a w:=by
 subst o p;refine j _ fun b k=>?_;exact k _ fun _ _ m n=>⟨m,n⟩
theorem xD{P:Program}{id:Nat}{Q:Exit->Act->World->Prop}{a:Act}{w:World}{l:List Oper}{i:Type}(f:i->World)(n:Nat)(d:List (List Nat×Nat))(q:List Nat)(h0:∃b,w.drew=f b)(u:P.follows .mixedOrders=true)(e:Ej l.toArray n d q=true)(t:∀g a k v w,Q (.panic g) (a.put k v) w->Q (.panic g) a w)(o:uE P l (fun c=>∃b,c=f b) Q (fun j c=>wpList P l.toArray Q (l.drop n) j c) d q a w.drew):(Code.region id l.toArray true).wp P Q a w:=by
 unfold Ej at e;simp only[RV,Tv]at e;obtain⟨⟨⟨⟨p,r⟩,x⟩,h⟩,s⟩:=e;refine wp_region_any u (xL (C:=fun c=>∃b,c=f b) (n:=n) _ _ _ _ ?_);have:=GG (C:=fun c=>∃b,c=f b) (md:=.any) p r t (by simpa using h) d q _ a w.drew h0 s o;have m:l.length - n+costs d q=l.toArray.size:=by
  have:n<=l.length:=by simpa using h
  simp;omega
 rw[m]at this;exact this
section
variable {P:Program}{l:List Oper}{C:World->Prop}{Q:Exit->Act->World->Prop}{fin:Act->World->Prop}{q:List Nat}{i j:Nat}{q':List Nat}{r:List (List Nat×Nat)}{a:Act}{w:World}{o o2:Oper}
theorem vM(e:List Oper)(g:q.filterMap (l[·]?)=e)(h:(l[i]?).toList=[o])(f:∀K:Act->Prop,(∀c,(∀K2:Act->World->Prop,(∀d b,C b->uE P l C Q fin r q' d b->K2 d b)->wpList P l.toArray (Exit.then K2 Q) [o] c w)->K c)->wpQuiet P l.toArray C K e a):uE P l C Q fin ((q,i)::r) q' a w:=LH g h f
theorem mF(f:(l[i]?).toList=[o])(d:∀K2:Act->World->Prop,(∀c b,C b->uE P l C Q fin r q' c b->K2 c b)->wpList P l.toArray (Exit.then K2 Q) [o] a w):uE P l C Q fin (([],i)::r) q' a w:=vM [] rfl f fun _ e=>qn e d
theorem qX(c:List Oper)(e:q.filterMap (l[·]?)=c)(d:∀K:Act->Prop,(∀b,fin b w->K b)->wpQuiet P l.toArray C K c a):uE P l C Q fin [] q a w:=NQ e d
theorem lD(b:fin a w):uE P l C Q fin [] [] a w:=qX [] rfl fun _ c=>qn c b
theorem EG{e:List Oper}{d:Exit->Act->World->Prop}(c:List Oper)(h:q.filterMap (l[·]?)=c)(g:e=[])(f:∀K:Act->Prop,(∀b,d .normal b w->K b)->wpQuiet P l.toArray C K c a):uE P l C Q (fun b i=>wpList P l.toArray d e b i) [] q a w:=by
 subst g;exact qX c h f
theorem Hr{c:List Oper}{b:Exit->Act->World->Prop}(g:c=[])(e:b .normal a w):uE P l C Q (fun d h=>wpList P l.toArray b c d h) [] [] a w:=EG [] rfl g fun _ f=>qn f e
end
theorem lq{P:Program}{id:Nat}{Q:Exit->Act->World->Prop}{a:Act}{w:World}{l:List Oper}{C:World->Prop}{g:Type}{f:g->World}(i:Zz (tN C g f))(n:Nat)(d:List (List Nat×Nat))(q:List Nat)(h0:C w.drew)
    (c:uE P l (fun e=>∃p,e=f p) Q (fun j e=>wpList P l.toArray Q (l.drop n) j e) d q a w.drew) (o:P.follows .mixedOrders=true:=by kernel_rfl) (k:Ej l.toArray n d q=true:=by kernel_rfl)
    (m:∀h a b r w,Q (.panic h) (a.put b r) w->Q (.panic h) a w:=by exact fun _ _ b _ _ c=>by cases b<;>exact c):(Code.region id l.toArray true).wp P Q a w:=xD f n d q (i.o.o _ h0) o k m c
theorem nE{P G:Prop}(e:G)(d:Zz G->P:=by(intro c;(first|refine vM [_] rfl rfl fun b a=>?_|refine vM [_,_] rfl rfl fun b a=>?_|refine vM [_,_,_] rfl rfl fun b a=>?_|refine vM [_,_,_,_] rfl rfl fun b a=>?_|refine vM [_,_,_,_,_] rfl rfl fun b a=>?_|refine vM [_,_,_,_,_,_] rfl rfl fun b a=>?_|refine vM [_,_,_,_,_,_,_] rfl rfl fun b a=>?_|refine vM [_,_,_,_,_,_,_,_] rfl rfl fun b a=>?_|refine vM [_,_,_,_,_,_,_,_,_] rfl rfl fun b a=>?_|refine vM [_,_,_,_,_,_,_,_,_,_] rfl rfl fun b a=>?_|refine vM [_,_,_,_,_,_,_,_,_,_,_] rfl rfl fun b a=>?_|refine vM [_,_,_,_,_,_,_,_,_,_,_,_] rfl rfl fun b a=>?_|refine vM [_,_,_,_,_,_,_,_,_,_,_,_,_] rfl rfl fun b a=>?_|refine vM [_,_,_,_,_,_,_,_,_,_,_,_,_,_] rfl rfl fun b a=>?_|refine vM [_,_,_,_,_,_,_,_,_,_,_,_,_,_,_] rfl rfl fun b a=>?_|refine vM [_,_,_,_,_,_,_,_,_,_,_,_,_,_,_,_] rfl rfl fun b a=>?_|refine vM [_,_,_,_,_,_,_,_,_,_,_,_,_,_,_,_,_] rfl rfl fun b a=>?_|refine vM [_,_,_,_,_,_,_,_,_,_,_,_,_,_,_,_,_,_] rfl rfl fun b a=>?_|refine vM [_,_,_,_,_,_,_,_,_,_,_,_,_,_,_,_,_,_,_] rfl rfl fun b a=>?_|refine vM [_,_,_,_,_,_,_,_,_,_,_,_,_,_,_,_,_,_,_,_] rfl rfl fun b a=>?_);(repeat (go_big_quiet_step (fail)));exact qn a c.o)):P:=d (Zy e)
theorem uC{P G:Prop}(e:G)(d:Zz G->P:=by(intro c;(first|refine EG [_] rfl rfl fun b a=>?_|refine EG [_,_] rfl rfl fun b a=>?_|refine EG [_,_,_] rfl rfl fun b a=>?_|refine EG [_,_,_,_] rfl rfl fun b a=>?_|refine EG [_,_,_,_,_] rfl rfl fun b a=>?_);(repeat (go_big_quiet_step (fail)));exact qn a c.o)):P:=d (Zy e)
inductive MT where
 |fin (q:List Nat)
 |one (q:List Nat) (i:Nat) (t:MT)
 |two (q:List Nat) (i j:Nat) (ti tj:MT)
def MT.cost:MT->Nat
 | .fin q=>q.length
 | .one q _ t=>q.length+1+t.cost
 | .two q _ _ ti _=>q.length+1+ti.cost
def MT.ok(md:Region.Mode)(ops:Array Oper)(n:Nat):MT->Array Bool->Bool
 | .fin q,listed=>match NS md ops n q listed with
  |some L=>Region.seqB md ops (ops.size - n) n L
  |none=>false
 | .one q i t,listed=>match NS md ops n q listed with
  |some L=>decide (Region.ready md ops L=[i])&&decide (i<n)&&t.ok md ops n (L.setIfInBounds i true)
  |none=>false
 | .two q i j ti tj,listed=>match NS md ops n q listed with
  |some L=>decide (Region.ready md ops L=[i,j])&&decide (i<n)&&decide (j<n)&&decide (tj.cost=ti.cost)&&ti.ok md ops n (L.setIfInBounds i true)&&tj.ok md ops n (L.setIfInBounds j true)
  |none=>false
def OJ(ops:Array Oper)(n:Nat)(t:MT):Bool:=
 Region.noSelect ops&&Ad .any ops n&&decide (t.cost=n)&&decide (n<=ops.size)&&t.ok .any ops n (Array.replicate ops.size false)
def DI(P:Program)(l:List Oper)(C:World->Prop)(Q:Exit->Act->World->Prop)(fin:Act->World->Prop):MT->Act->World->Prop
 | .fin q,a,w=>wpQuiet P l.toArray C (fun a'=>fin a' w) (q.filterMap (l[·]?)) a
 | .one q i t,a,w=>wpQuiet P l.toArray C (fun a'=>wpList P l.toArray (Exit.then (fun a'' w'=>C w'/\DI P l C Q fin t a'' w') Q) (l[i]?).toList a' w) (q.filterMap (l[·]?)) a
 | .two q i j ti tj,a,w=>wpQuiet P l.toArray C (fun a'=>wpList P l.toArray (Exit.then (fun a'' w'=>C w'/\DI P l C Q fin ti a'' w') Q) (l[i]?).toList a' w/\wpList P l.toArray (Exit.then (fun a'' w'=>C w'/\DI P l C Q fin tj a'' w') Q) (l[j]?).toList a' w) (q.filterMap (l[·]?)) a
section
variable {P:Program}{ops:Array Oper}{md:Region.Mode}{Q:Exit->Act->World->Prop}{C:World->Prop}{n:Nat}
theorem zF{l:List Oper}{i:Array Bool}{j:Nat}{a:Act}{w:World}{K g:Act->World->Prop}(o:j∈Region.ready md l.toArray i)(b:wpList P l.toArray (Exit.then K Q) (l[j]?).toList a w)(step:∀c d,K c d->g c d):wpOp P l.toArray Q j g a w:=by
 cases e:l[j]? with
 |none=>
  exfalso;obtain⟨_,h,m,_⟩:=VK.1 o;simp[e]at m
 |some h=>
  rw[e]at b;simp only[Option.toList,wpList]at b;unfold wpOp;have n:l.toArray[j]?=some h:=by simpa using e
  simp only[n];split
  . rename_i f;rw[Ty f]at b;rcases b with b|b
    . left;exact Oper.wp_mono (fun c d k=>step c d k) (Mf b)
    . right;exact b
  . rename_i f;rw[T9 f]at b;exact step _ _ b
theorem xJ{l:List Oper}(j:Region.noSelect l.toArray=true)(k:Ad md l.toArray n=true)(f:∀A a D K w,Q (.panic A) (a.put D K) w->Q (.panic A) a w)(z:n<=l.length):∀(t:MT)(listed:Array Bool)(a:Act)(w:World),C w→
    t.ok md l.toArray n listed=true->DI P l C Q (fun m d=>wpList P l.toArray Q (l.drop n) m d) t a w->vK P md l.toArray n C Q ((l.length - n)+t.cost) listed a w
 | .fin q',listed,a,w,hC,b,h=>by
  unfold MT.ok at b;split at b
  . rename_i e r;refine sO j k f hC _ e (fun m g=>?_) q' listed a r h;have:=xG (md:=md) (C:=C) (l:=l) (l.drop n) n e m w (Tu _) (fun u=>by simp[V4]) (by simpa using b) g;simpa using this
  . cases b
 | .one q i t,listed,a,w,hC,b,h=>by
  unfold MT.ok at b;split at b
  . rename_i e r;simp only[RV,Tv]at b;obtain⟨⟨s,H⟩,b⟩:=b;have x:l.length - n+(MT.one q i t).cost=((l.length - n+t.cost)+1)+q.length:=by simp[MT.cost];omega
    rw[x];refine sO j k f hC _ e (fun m g=>?_) q listed a r h;refine⟨fun p=>(by rw[s]at p;cases p),fun u y=>?_⟩;have I:u=i:=by rw[s]at y;simpa using y
    subst I;exact zF y g fun o d c=>⟨fun _=>c.1,xJ j k f z t _ o d c.1 b c.2⟩
  . cases b
 | .two q i u ti tj,listed,a,w,hC,b,h=>by
  unfold MT.ok at b;split at b
  . rename_i e r;simp only[RV,Tv]at b;obtain⟨⟨⟨⟨⟨s,H⟩,L⟩,G⟩,E⟩,F⟩:=b;have x:l.length - n+(MT.two q i u ti tj).cost=((l.length - n+ti.cost)+1)+q.length:=by simp[MT.cost];omega
    rw[x];refine sO j k f hC _ e (fun m g=>?_) q listed a r h;refine⟨fun p=>(by rw[s]at p;cases p),fun B v=>?_⟩;have J:B=i\/B=u:=by rw[s]at v;simpa using v
    rcases J with rfl|rfl
    . exact zF v g.1 fun o d c=>⟨fun _=>c.1,xJ j k f z ti _ o d c.1 E c.2⟩
    . rw[<-G];exact zF v g.2 fun o d c=>⟨fun _=>c.1,xJ j k f z tj _ o d c.1 F c.2⟩
  . cases b
end
section
variable {P:Program}{l:List Oper}{C:World->Prop}{Q:Exit->Act->World->Prop}{fin:Act->World->Prop}{q:List Nat}{i j:Nat}{t ti tj:MT}{a:Act}{w:World}{qs os oj:List Oper}
theorem QP(d:q.filterMap (l[·]?)=qs)(b:∀K:Act->Prop,(∀c,fin c w->K c)->wpQuiet P l.toArray C K qs a):DI P l C Q fin (.fin q) a w:=by
 subst d;exact b _ fun _ b=>b
theorem QQ(j:q.filterMap (l[·]?)=qs)(k:(l[i]?).toList=os)(e:∀K:Act->Prop,(∀b,(∀K2:Act->World->Prop,(∀d c,C c->DI P l C Q fin t d c->K2 d c)->wpList P l.toArray (Exit.then K2 Q) os b w)->K b)->wpQuiet P l.toArray C K qs a):DI P l C Q fin (.one q i t) a w:=by
 subst j k;refine e _ fun b f=>?_;exact f _ fun _ _ g h=>⟨g,h⟩
theorem QR(m:q.filterMap (l[·]?)=qs)(o:(l[i]?).toList=os)(n:(l[j]?).toList=oj)(g:∀K:Act->Prop,(∀d,(∀K2:Act->World->Prop,(∀c b,C b->DI P l C Q fin ti c b->K2 c b)->wpList P l.toArray (Exit.then K2 Q) os d w)->(∀K2:Act->World->Prop,(∀c b,C b->DI P l C Q fin tj c b->K2 c b)->wpList P l.toArray (Exit.then K2 Q) oj d w)->K d)->wpQuiet P l.toArray C K qs a):DI P l C Q fin (.two q i j ti tj) a w:=by
 subst m o n;refine g _ fun d h k=>?_;exact⟨h _ fun _ _ e f=>⟨e,f⟩,k _ fun _ _ e f=>⟨e,f⟩⟩
end
theorem CW{P:Program}{id:Nat}{Q:Exit->Act->World->Prop}{a:Act}{w:World}{l:List Oper}{h:Type}(f:h->World)(n:Nat)(t:MT)(h0:∃b,w.drew=f b)(s:P.follows .mixedOrders=true)(d:OJ l.toArray n t=true)(r:∀e a j u w,Q (.panic e) (a.put j u) w->Q (.panic e) a w)(m:DI P l (fun c=>∃b,c=f b) Q (fun i c=>wpList P l.toArray Q (l.drop n) i c) t a w.drew):(Code.region id l.toArray true).wp P Q a w:=by
 unfold OJ at d;simp only[RV,Tv]at d;obtain⟨⟨⟨⟨o,p⟩,v⟩,g⟩,q⟩:=d;refine wp_region_any s (xL (C:=fun c=>∃b,c=f b) (n:=n) _ _ _ _ ?_);have:=xJ (C:=fun c=>∃b,c=f b) (md:=.any) o p r (by simpa using g) t _ a w.drew h0 q m;have k:l.length - n+t.cost=l.toArray.size:=by
  have:n<=l.length:=by simpa using g
  simp;omega
 rw[k]at this;exact this
section
variable {P:Program}{l:List Oper}{C:World->Prop}{Q:Exit->Act->World->Prop}{fin:Act->World->Prop}{q:List Nat}{i j:Nat}{t ti tj:MT}{a:Act}{w:World}{o o2:Oper}
theorem JQ(e:List Oper)(g:q.filterMap (l[·]?)=e)(h:(l[i]?).toList=[o])(f:∀K:Act->Prop,(∀c,(∀K2:Act->World->Prop,(∀d b,C b->DI P l C Q fin t d b->K2 d b)->wpList P l.toArray (Exit.then K2 Q) [o] c w)->K c)->wpQuiet P l.toArray C K e a):DI P l C Q fin (.one q i t) a w:=QQ g h f
theorem j3(f:(l[i]?).toList=[o])(d:∀K2:Act->World->Prop,(∀c b,C b->DI P l C Q fin t c b->K2 c b)->wpList P l.toArray (Exit.then K2 Q) [o] a w):DI P l C Q fin (.one [] i t) a w:=JQ [] rfl f fun _ e=>qn e d
theorem FH(c:List Oper)(e:q.filterMap (l[·]?)=c)(d:∀K:Act->Prop,(∀b,fin b w->K b)->wpQuiet P l.toArray C K c a):DI P l C Q fin (.fin q) a w:=QP e d
theorem kQ(b:fin a w):DI P l C Q fin (.fin []) a w:=FH [] rfl fun _ c=>qn c b
theorem two(e:List Oper)(g:q.filterMap (l[·]?)=e)(k:(l[i]?).toList=[o])(h:(l[j]?).toList=[o2])(f:∀K:Act->Prop,(∀d,(∀K2:Act->World->Prop,(∀c b,C b->DI P l C Q fin ti c b->K2 c b)->wpList P l.toArray (Exit.then K2 Q) [o] d w)->(∀K2:Act->World->Prop,(∀c b,C b->DI P l C Q fin tj c b->K2 c b)->wpList P l.toArray (Exit.then K2 Q) [o2] d w)->K d)->wpQuiet P l.toArray C K e a):DI P l C Q fin (.two q i j ti tj) a w:=QR g k h f
theorem Ck(h:(l[i]?).toList=[o])(g:(l[j]?).toList=[o2])(d:(∀K2:Act->World->Prop,(∀c b,C b->DI P l C Q fin ti c b->K2 c b)->wpList P l.toArray (Exit.then K2 Q) [o] a w))(e:(∀K2:Act->World->Prop,(∀c b,C b->DI P l C Q fin tj c b->K2 c b)->wpList P l.toArray (Exit.then K2 Q) [o2] a w)):DI P l C Q fin (.two [] i j ti tj) a w:=two [] rfl h g fun _ f=>EP f d e
end
theorem rQ{P:Program}{id:Nat}{Q:Exit->Act->World->Prop}{a:Act}{w:World}{l:List Oper}{C:World->Prop}{e:Type}{f:e->World}(h:Zz (tN C e f))(n:Nat)(t:MT)(h0:C w.drew)
    (c:DI P l (fun d=>∃o,d=f o) Q (fun i d=>wpList P l.toArray Q (l.drop n) i d) t a w.drew) (m:P.follows .mixedOrders=true:=by kernel_rfl) (j:OJ l.toArray n t=true:=by kernel_rfl)
    (k:∀g a b p w,Q (.panic g) (a.put b p) w->Q (.panic g) a w:=by exact fun _ _ b _ _ c=>by cases b<;>exact c):(Code.region id l.toArray true).wp P Q a w:=CW f n t (h.o.o _ h0) m j k c
theorem Ac{P G:Prop}(e:G)(d:Zz G->P:=by(intro c;(first|refine JQ [_] rfl rfl fun b a=>?_|refine JQ [_,_] rfl rfl fun b a=>?_|refine JQ [_,_,_] rfl rfl fun b a=>?_|refine JQ [_,_,_,_] rfl rfl fun b a=>?_|refine JQ [_,_,_,_,_] rfl rfl fun b a=>?_|refine JQ [_,_,_,_,_,_] rfl rfl fun b a=>?_|refine JQ [_,_,_,_,_,_,_] rfl rfl fun b a=>?_);(repeat (go_big_quiet_step (fail)));exact qn a c.o)):P:=d (Zy e)
def wE(D:Nat->Bool)(j:Nat):Nat->Bool:=fun i=>if i=j then true else D i
def Si(md:Region.Mode)(ops:Array Oper)(j k:Nat):Bool:=match ops[j]? with
 |some o=>o.after.any fun e=>Region.binds md e&&decide (e.on=k)
 |none=>false
def Gv(ops:Array Oper)(n:Nat)(ds:List (List Nat)):Bool:=
 Ad .any ops n&&decide (n<=ops.size)&&((List.range n).all fun j=>((ops[j]?).map (fun o=>o.after.all fun e=> !Region.binds .any e || decide (e.on<j))).getD false&&(ds.getD j []).all fun k=>Si .any ops j k)&&
 Region.seqB .any ops (ops.size - n) n (Array.replicate n true++Array.replicate (ops.size - n) false)
theorem P5{n:Nat}{D:Nat->Bool}{j:Nat}(l:j<n)(i:D j=false):((List.range n).filter fun a=> !D a).length=((List.range n).filter fun a=> !wE D j a).length+1:=by
 have p:∀b:List Nat,b.Nodup->(if j∈b then(b.filter fun a=> !D a).length=(b.filter fun a=> !wE D j a).length+1 else(b.filter fun a=> !D a).length=(b.filter fun a=> !wE D j a).length):=by
  intro b o;induction b with
  |nil=>simp
  |cons d b c=>
   have f:=We.1 o;have c:=c f.2;by_cases e:d=j
   . subst e;rw[T9 f.1]at c;simp[wE,i];simpa [wE]using c
   . have g:wE D j d=D d:=T9 e;have h:(j∈d::b)=(j∈b):=by simp[Ne.symm e]
     simp only[List.filter_cons,g,h];cases k:D d<;>split at c<;>rename_i m<;>simp[m,k,c]
 have:=p (List.range n) List.nodup_range;rwa[Ty (Uk.2 l)]at this
section
variable {P:Program}{Q:Exit->Act->World->Prop}{n:Nat}
theorem MN{l:List Oper}(ds:List (List Nat))(J:(Nat->Bool)->Act->World->Prop)(x:Gv l.toArray n ds=true)(step:∀D a w e,e<n->D e=false->(∀d∈ds.getD e [],D d=true)->J D a w->wpList P l.toArray (Exit.then (J (wE D e)) Q) (l[e]?).toList a w)(S:∀D a w,(∀b,b<n->D b=true)->J D a w->wpList P l.toArray Q (l.drop n) a w):∀(m:Nat)(c:Array Bool)(a:Act)(w:World),c.size=l.length->(∀b,n<=b->b<l.length->c[b]?=some false)->((List.range n).filter fun b=> !c.getD b false).length=m->J (fun b=>c.getD b false) a w→ vK P .any l.toArray n (fun _=>True) Q ((l.length - n)+m) c a w:=by
 unfold Gv at x;simp only[RV,Tv,Tc,Uk]at x;obtain⟨⟨⟨ht,hn⟩,r⟩,hs⟩:=x;have ak:n<=l.length:=by simpa using hn
 intro m;induction m with
 | zero =>
  intro c a w z hF q y;have k:∀b,b<n->c.getD b false=true:=fun b i=>by
   have T:=Us.1 q;cases r:c.getD b false with
   |true=>rfl
   |false=>
    have:b∈(List.range n).filter fun b=> !c.getD b false:=List.mem_filter.2 ⟨Uk.2 i,by rw[r];rfl⟩;rw[T]at this;cases this
  have V:c=Array.replicate n true++Array.replicate (l.toArray.size - n) false:=by
   apply Array.ext
   . simp[z];omega
   . intro b f h;by_cases i:b<n
     . rw[Array.getElem_append_left (by simpa using i)];have:=k b i;simp[f]at this;simpa using this
     . rw[Array.getElem_append_right (by simpa using Nat.le_of_not_lt i)];have:=hF b Zm Zm;rw[Vp f]at this;simpa using this
  have:=xG (P:=P) (Q:=Q) (md:=.any) (C:=fun _=>True) (l:=l) (l.drop n) n c a w (Tu _) (fun e=>by simp[V4]) (by rw[V];simpa using hs) (S _ _ _ k y);simpa using this
 | succ m ih =>
  intro c a w z hF q y;have W:∃b,b<n/\c.getD b false=false:=by
   cases F:(List.range n).filter fun b=> !c.getD b false with
   |nil=>rw[F]at q;cases q
   |cons b ax=>
    have:b∈(List.range n).filter fun b=> !c.getD b false:=by rw[F];simp
    obtain⟨f,h⟩:=List.mem_filter.1 this;exact⟨b,Uk.1 f,by simpa using h⟩
  have ag:∃b,b<n/\c.getD b false=false/\∀d,d<b->c.getD d false=true:=by
   obtain⟨u,f,h⟩:=W;induction u using Nat.strongRecOn with
   |ind u ai=>
    by_cases g:∃d,d<u/\c.getD d false=false
    . obtain⟨d,aa,ae⟩:=g;exact ai d aa Zm ae
    . exact⟨u,f,h,fun d j=>by
       cases A:c.getD d false with
       |true=>rfl
       |false=>exact absurd ⟨d,j,A⟩ g⟩
  obtain⟨b,i,G,af⟩:=ag;have E:∀d,d<l.length->c.getD d true=c.getD d false:=fun d j=>by
   have Z:d<c.size:=Zm
   simp[Z]
  have M:b∈Region.ready .any l.toArray c:=by
   refine VK.2 ⟨by rw[E b Zm];exact G,?_⟩;have f:=(r b i).1;cases K:l.toArray[b]? with
   |none=>rw[K]at f;cases f
   |some aj=>
    rw[K]at f;simp only[Vy,TC,VF,Vn,VI,Tv]at f;refine⟨aj,rfl,fun v p o=>af _ ((f v p).resolve_left (by rw[o];simp))⟩
  refine⟨fun g=>(by rw[g]at M;cases M),fun e H=>?_⟩;obtain⟨X,oj,s,k⟩:=VK.1 H;have Y:e<l.length:=by
   rcases UZ e l.length with g|g
   . exact g
   . simp[g]at s
  have C:e<n:=by
   rcases UZ e n with g|g
   . exact g
   . rcases Cj ht i e g with t|t
     . obtain⟨au,L,v,p,o,B⟩:=Region.waitsFor_spec t;rw[s]at L;cases L;have:=k v p o;rw[B,G]at this;cases this
     . rw[s]at t;cases t
  have I:c.getD e false=false:=by rw[<-E e Y];exact X
  have ah:=step (fun b=>c.getD b false) a w e C I (fun d j=>by
   have f:=(r e C).2 d j;unfold Si at f;rw[s]at f;obtain⟨av,hq,h⟩:=Array.any_eq_true.1 f;simp only[RV,Tv]at h;obtain⟨o,B⟩:=h;have p:=Array.getElem_mem hq;rw[<-B];exact k _ p o) y
  refine zF H ah fun O w' U=>⟨fun _=>trivial,?_⟩;have N:(fun b=>(c.setIfInBounds e true).getD b false)=wE (fun b=>c.getD b false) e:=by
   funext d;unfold wE;by_cases j:d=e
   . subst j;have:d<c.size:=Zm
     simp[this]
   . rw[T9 j,getD_set_ne false (Ne.symm j)]
  refine ih (c.setIfInBounds e true) O w' (by simpa using z) (fun b f h=>by
   rw[Array.getElem?_setIfInBounds_ne Zm];exact hF b f h) ?_ (by rw[N];exact U)
  have A:=P5 (D:=fun b=>c.getD b false) C I;rw[q]at A;have R:(List.filter (fun b=> !(c.setIfInBounds e true).getD b false) (List.range n))=(List.filter (fun b=> !wE (fun b=>c.getD b false) e b) (List.range n)):=by
   apply List.filter_congr;intro ay _;rw[<-N]
  rw[R];omega
end
theorem SG{P:Program}{id:Nat}{Q:Exit->Act->World->Prop}{a:Act}{w:World}{l:List Oper}(n:Nat)(ds:List (List Nat))(J:Act->(Nat->Bool)->Act->World->Prop)
    (h0:J a (fun _=>false) a w.drew)
    (step:∀c d f e,e<n->c e=false->(∀h∈ds.getD e [],c h=true)->J a c d f->wpList P l.toArray (Exit.then (J a (wE c e)) Q) (l[e]?).toList d f)
    (j:∀c d f,(∀b,b<n->c b=true)->J a c d f->wpList P l.toArray Q (l.drop n) d f)
    (p:P.follows .mixedOrders=true:=by kernel_rfl) (g:Gv l.toArray n ds=true:=by kernel_rfl):(Code.region id l.toArray true).wp P Q a w:=by
 refine wp_region_any p (xL (C:=fun _=>True) (n:=n) _ _ _ _ ?_);have u:n<=l.length:=by
  unfold Gv at g;simp only[RV,Tv]at g;simpa using g.1.1.2
 have m:((List.range n).filter fun b=> !(Array.replicate l.length false).getD b false).length=n:=by
  have:(List.range n).filter (fun b=> !(Array.replicate l.length false).getD b false)=List.range n:=by
   apply List.filter_eq_self.2;intro s q;have:s<l.length:=Te (Uk.1 q)
   simp[this]
  rw[this,List.length_range]
 have r:(fun b=>(Array.replicate l.length false).getD b false)=fun _=>false:=by
  funext h;by_cases o:h<l.length<;>simp[o]
 have:=MN (P:=P) (Q:=Q) ds (J a) g step j n (Array.replicate l.length false) a w.drew Zl (fun b t k=>by simp[k]) m (by rw[r];exact h0);have i:l.length - n+n=l.toArray.size:=by simp;omega
 rw[i]at this;simpa using this
def upd(s:Nat->Value)(j:Nat)(x:Value):Nat->Value:=fun i=>if i=j then x else s i
theorem js{P:Program}{l:List Oper}{Q:Exit->Act->World->Prop}{j:Nat}{b:Oper}{a:Act}{w:World}(c:wpList P l.toArray Q [b] a w)(d:(l[j]?).toList=[b]:=by rfl):wpList P l.toArray Q (l[j]?).toList a w:=by rw[d];exact c
def rP:List Nat->Nat->(Nat->Value)->Array Value->Array Value
 |[],_,_,t=>t
 |d::r,j,s,t=>rP r (j+1) s (t.setIfInBounds d (s j))
theorem EO(t:Array Value)(g:Nat->Value):∀(l:List Nat)(j:Nat),(∀a d,l[a]?=some d->g (j+a)=t.getD d undef)->rP l j g t=t
 |[],_,_=>rfl
 | d :: r, j, h => by
  have c:g j=t.getD d undef:=h 0 d rfl;have k:t.setIfInBounds d (g j)=t:=by
   rw[c];apply Array.ext
   . simp
   . intro m e f;by_cases b:d=m
     . subst b;simp[f]
     . rw[Array.getElem_setIfInBounds_ne (by simpa using e) b]
  rw[rP,k];exact EO t g r (j+1) fun a b i=>by
   have:=h (a+1) b (by simpa using i);rwa[Uj,VG 1 a]
theorem QG{P:Program}{id:Nat}{Q:Exit->Act->World->Prop}{t:Array Value}{f:List Deferred}{w:World}{l:List Oper}(n:Nat)(ds:List (List Nat))(d:List Nat)(h:(Nat->Bool)->(Nat->Value)->World->Prop)
    (h0:∀a,h (fun _=>false) a w.drew)
    (step:∀b a c e,e<n->b e=false->h b a c->(∀A∈ds.getD e [],b A=true)->∀K:Act->World->Prop,(∀m i,h (wE b e) (upd a e m) i->K ⟨rP d 0 (upd a e m) t,f⟩ i)->wpList P l.toArray (Exit.then K Q) (l[e]?).toList ⟨rP d 0 a t,f⟩ c)
    (q:∀b a c,(∀g,g<n->b g=true)->h b a c->wpList P l.toArray Q (l.drop n) ⟨rP d 0 a t,f⟩ c)
    (z:P.follows .mixedOrders=true:=by kernel_rfl) (r:Gv l.toArray n ds=true:=by kernel_rfl):(Code.region id l.toArray true).wp P Q ⟨t,f⟩ w:=by
 have u:rP d 0 (fun g=>t.getD (d.getD g 0) undef) t=t:=EO t _ d 0 fun g B j=>by simp[j]
 have p:(⟨t,f⟩:Act)=⟨rP d 0 (fun g=>t.getD (d.getD g 0) undef) t,f⟩:=by rw[u]
 rw[p];refine SG n ds (fun _ b o w=>∃a,o=⟨rP d 0 a t,f⟩/\h b a w) ⟨_,rfl,h0 _⟩ ?_ ?_ z r
 . rintro b _ c e x s y ⟨a,rfl,k⟩;exact step b a c e x s k y _ fun m i j=>⟨_,rfl,j⟩
 . rintro b _ c v ⟨a,rfl,k⟩;exact q b a c v k
structure uY(w:World)(E k n:Nat)(pf old:Value)(xs ys:List Value)(D:Nat->Bool)(s:Nat->Value)(W:World):Prop where
 ext:Ext w W
 d3:D 3=true->D 0=true
 d6:D 6=true->D 3=true/\D 5=true
 e1:D 1=true->s 1=pf
 e2:D 2=true->s 2=old
 e4:D 4=true->s 4=.agg ys.toArray
 e7:D 7=true->s 7=pf
 r0:D 0=true->D 3=false->∃b,s 0=.slice (some ⟨b,0,none⟩) 0 0/\W.ownsRow w.heap.size E k (.slice (some ⟨b,0,none⟩) 0 0) 0 []
 r3:D 3=true->D 6=false->W.ownsRow w.heap.size E k (s 3) n xs
 r5:D 5=true->D 6=false->∃b,s 5=.slice (some ⟨b,0,none⟩) 1 1/\hQ W b 0 ys/\(D 3=false->∀g,D 0=true->(s 0).ownBlock=some g->g≠b)
 r6:D 6=true->∃g c,s 6=.slice (some ⟨g,0,none⟩) (n+1) c/\W.ownsRow w.heap.size E k (.slice (some ⟨g,0,none⟩) (n+1) c) (n+1) (xs++ys)
namespace uY
variable {w:World}{E k n:Nat}{pf old:Value}{xs ys:List Value}{D:Nat->Bool}{s:Nat->Value}{W:World}
theorem start(s:Nat->Value):uY w E k n pf old xs ys (fun _=>false) s w.drew:=⟨jA,Zl,Zl,Zl,Zl,Zl,Zl,Zl,Zl,Zl,Zl⟩
theorem q1(a:uY w E k n pf old xs ys D s W):uY w E k n pf old xs ys (wE D 1) (upd s 1 pf) W:=
 ⟨a.ext,a.d3,a.d6,fun _=>rfl,a.e2,a.e4,a.e7,a.r0,a.r3,a.r5,a.r6⟩
theorem q2(a:uY w E k n pf old xs ys D s W):uY w E k n pf old xs ys (wE D 2) (upd s 2 old) W:=
 ⟨a.ext,a.d3,a.d6,a.e1,fun _=>rfl,a.e4,a.e7,a.r0,a.r3,a.r5,a.r6⟩
theorem q4(a:uY w E k n pf old xs ys D s W):uY w E k n pf old xs ys (wE D 4) (upd s 4 (.agg ys.toArray)) W:=
 ⟨a.ext,a.d3,a.d6,a.e1,a.e2,fun _=>rfl,a.e7,a.r0,a.r3,a.r5,a.r6⟩
theorem q7(a:uY w E k n pf old xs ys D s W):uY w E k n pf old xs ys (wE D 7) (upd s 7 pf) W:=
 ⟨a.ext,a.d3,a.d6,a.e1,a.e2,a.e4,fun _=>rfl,a.r0,a.r3,a.r5,a.r6⟩
theorem q0(a:uY w E k n pf old xs ys D s W)(d:D 0=false)(hl:0<ys.length):uY w E k n pf old xs ys (wE D 0) (upd s 0 (.slice (some ⟨W,0,none⟩) 0 0)) (W.alloc (.cells #[] E)):=by
 have c:D 3=false:=by cases b:D 3 with|false=>rfl|true=>rw[a.d3 b]at d;cases d
 have i:D 6=false:=by cases b:D 6 with|false=>rfl|true=>rw[(a.d6 b).1]at c;cases c
 refine⟨a.ext.alloc _,fun _=>rfl,a.d6,a.e1,a.e2,a.e4,a.e7,fun _ _=>⟨_,rfl,kV W _ _ _ a.ext.size rfl⟩,fun b=>absurd (show D 3=true from b) (by simp[c]),fun b h=>?_,fun b=>absurd (show D 6=true from b) (by simp[i])⟩;obtain⟨f,g,e,-⟩:=a.r5 b h;refine⟨f,g,e.ext (jJ _),fun _ l _ j=>?_⟩;simp[upd,Value.ownBlock]at j;have:=jv (e 0 _ (CU hl));omega
theorem q3(b:uY w E k n pf old xs ys D s W)(e:D 3=false)(h0:D 0=true){v:Value}{d:World}(o:d.ownsRow w E k v n xs)(f:Kp (fun c=>(s 0).ownBlock=some c) W d)(p:∀c,(s 0).ownBlock=some c->w.heap.size<=c):uY w E k n pf old xs ys (wE D 3) (upd s 3 v) d:=by
 have i:D 6=false:=by cases a:D 6 with|false=>rfl|true=>rw[(b.d6 a).1]at e;cases e
 refine⟨b.ext.own f p,fun _=>h0,fun a=>⟨rfl,(b.d6 a).2⟩,b.e1,b.e2,b.e4,b.e7,fun _ a=>(by cases a),fun _ _=>o,fun a h=>?_,fun a=>absurd (show D 6=true from a) (by simp[i])⟩;obtain⟨c,g,l,m⟩:=b.r5 a h;exact⟨c,g,l.kp f (fun j=>m e _ h0 j rfl),fun a=>(by cases a)⟩
theorem q5(a:uY w E k n pf old xs ys D s W)(j:D 5=false):uY w E k n pf old xs ys (wE D 5) (upd s 5 (.slice (some ⟨W,0,none⟩) 1 1)) (W.alloc (.cells ys.toArray E)):=by
 have i:D 6=false:=by cases b:D 6 with|false=>rfl|true=>rw[(a.d6 b).2]at j;cases j
 have l:Ext W (W.alloc (.cells ys.toArray E)):=jJ _;refine⟨a.ext.alloc _,a.d3,fun b=>absurd (show D 6=true from b) (by simp[i]),a.e1,a.e2,a.e4,a.e7,fun b d=>?_,fun b p=>?_,fun _ _=>⟨_,rfl,hQ.oI _ _ rfl,fun _ h c q=>?_⟩,fun b=>absurd (show D 6=true from b) (by simp[i])⟩
 . obtain⟨g,c,e⟩:=a.r0 b d;exact⟨g,c,jr e l fun _ _ _ f=>f⟩
 . exact jr (a.r3 b p) l fun _ _ _ f=>f
 . have d:D 3=false:=by assumption
   obtain⟨g,o,e⟩:=a.r0 c d;have m:(s 0).ownBlock=some h:=q;rw[o]at m;have:=e.lt h m;omega
theorem q6(a:uY w E k n pf old xs ys D s W)(i:D 6=false)(f:D 3=true)(h:D 5=true){g c:Nat}{d:World}(m:d.ownsRow w E k (g,n+1,c) (n+1) (xs++ys))(l:Kp (fun e=>(s 3).ownBlock=some e) W d):uY w E k n pf old xs ys (wE D 6) (upd s 6 (g,n+1,c)) d:=by
 have o:=(a.r3 f i).lt;refine⟨a.ext.own l (fun e j=>(o e j).1),a.d3,fun _=>⟨f,h⟩,a.e1,a.e2,a.e4,a.e7,fun _ b=>absurd f (by simp[show D 3=false from b]),fun _ b=>(by cases b),fun _ b=>(by cases b),fun _=>⟨g,c,rfl,m⟩⟩
end uY
inductive Dl:List Nat->Prop
 |mk (l:List Nat):Dl l
theorem QH{P:Program}{id:Nat}{Q:Exit->Act->World->Prop}{t:Array Value}{j:List Deferred}{w d:World}{l:List Oper}{f:List Nat}{h k n i m s:Nat}{A z:TypeId}{cells:Array Value}{g:Value}{xs o:List Value}
    (_:Dl f) (_:Elem A h k) (_:Zz (jq d i z cells)) (_:cells[m]?=some g) (_:Zz (hQ d s 0 o)) (_:Zz (Flat d k g n xs)) (y:d=w)
    (step:∀a c e b,b<8->a b=false->uY d h k n (some (i,m)) g xs o a c e->(∀k∈[[],[],[1],[0,2],[],[4],[3,5],[]].getD b [],a k=true)->∀K:Act->World->Prop,(∀r p,uY d h k n (some (i,m)) g xs o (wE a b) (upd c b r) p->K ⟨rP f 0 (upd c b r) t,j⟩ p)->wpList P l.toArray (Exit.then K Q) (l[b]?).toList ⟨rP f 0 c t,j⟩ e)
    (u:∀a c e,(∀q,q<8->a q=true)->uY d h k n (some (i,m)) g xs o a c e->wpList P l.toArray Q (l.drop 8) ⟨rP f 0 c t,j⟩ e)
    (x:P.follows .mixedOrders=true:=by kernel_rfl) (v:Gv l.toArray 8 [[],[],[1],[0,2],[],[4],[3,5],[]]=true:=by kernel_rfl):(Code.region id l.toArray true).wp P Q ⟨t,j⟩ w:=by
 subst y;exact QG 8 [[],[],[1],[0,2],[],[4],[3,5],[]] f _ uY.start step u x v
theorem Mk{P:Prop}{G:(Nat->Value)->Nat->Nat->World->Prop}{e:World}{l k n B y c:Nat}{N M:TypeId}{cells:Array Value}{a:Option Addr}{xs u:List Value}(C:List Nat)(D:Nat)
    (p:Elem N l k) (w:zQ l k) (q:Zz (jq e B M cells)) (hc:cells[D]?=some (.slice a n c)) (s:Zz (hQ e y 0 u)) (r:Zz (Flat e k (.slice a n c) n xs)) (K:n+1<=4294967296)
    (hX:∀j f o g,Ext e g->g.ownsRow e l k (.slice (some ⟨f,0,none⟩) (n+1) o) (n+1) (xs++u)->G j f o g)
    (aa:Dl C->Zz (∀j f o g,Ext e g->g.ownsRow e l k (.slice (some ⟨f,0,none⟩) (n+1) o) (n+1) (xs++u)->G j f o g)->Elem N l k->zQ l k->Zz (jq e B M cells)->Zz (cells[D]?=some (.slice a n c))->Zz (hQ e y 0 u)->Zz (Flat e k (.slice a n c) n xs)->n+1<=4294967296->P:=by
     (intro ae Q p w q z s r K
      refine QH ae p q z.o s r rfl ?_ ?_
      . intro O j g h hj i b m ag d;have af:h=0\/h=1\/h=2\/h=3\/h=4\/h=5\/h=6\/h=7:=Zm
        rcases af with rfl|rfl|rfl|rfl|rfl|rfl|rfl|rfl
        . refine js ?_;simp (decide:=true)only[rP,upd,Uy,Uq,TI,U1,U9,Nat.reduceAdd]at d |-;go_wp2_with fail;exact b.q0 i Zl
        . refine js ?_;simp (decide:=true)only[rP,upd,Uy,Uq,TI,U1,U9,Nat.reduceAdd]at d |-;go_wp2_with fail;exact b.q1
        . have U:=b.e1 (m 1 Zl);have J:=q.o.ext b.ext;have ai:=J.c _ _ z.o;have yz:=J.lt;refine js ?_;simp (decide:=true)only[rP,upd,Uy,Uq,TI,U1,U9,Nat.reduceAdd]at d |-;rw[U]at d |-;go_wp2_with fail;exact b.q2
        . have E:=m 0 Zl;obtain⟨A,v,L⟩:=b.r0 E i;have V:=b.e2 (m 2 Zl);have hs:=fun f (hg:(j 0).ownBlock=some f)=>(L.lt f (by rw[<-v];exact hg)).1;refine js ?_;simp (decide:=true)only[rP,upd,Uy,Uq,TI,U1,U9,Nat.reduceAdd]at d |-;rw[v,V]at d |-;refine kM p _ rfl _ _ rfl _ _ 0 [] rfl L _ _ _ _ rfl (r.o.ext b.ext) Zm b.ext.size ?_;intro ah R t kA;rw[Tk,TZ]at t;exact d _ _ (b.q3 i E t (by rw[v];exact kA) hs)
        . have hY:=s.o.ext b.ext;refine js ?_;simp (decide:=true)only[rP,upd,Uy,Uq,TI,U1,U9,Nat.reduceAdd]at d |-;refine Dm w rfl rfl rfl hY rfl ?_;exact d _ _ b.q4
        . have W:=b.e4 (m 4 Zl);refine js ?_;simp (decide:=true)only[rP,upd,Uy,Uq,TI,U1,U9,Nat.reduceAdd]at d |-;rw[W]at d |-;go_wp2_with fail;exact b.q5 i
        . have F:=m 3 Zl;have H:=m 5 Zl;have t:=b.r3 F i;obtain⟨A,X,T,-⟩:=b.r5 H i;refine js ?_;simp (decide:=true)only[rP,upd,Uy,Uq,TI,U1,U9,Nat.reduceAdd]at d |-;rw[X]at d |-;refine jF p rfl _ _ rfl _ _ _ _ rfl t A 1 _ rfl rfl T Zt Zm b.ext.size ?_;intro f c R x kR _;exact d _ _ (b.q6 i F H x kR)
        . refine js ?_;simp (decide:=true)only[rP,upd,Uy,Uq,TI,U1,U9,Nat.reduceAdd]at d |-;go_wp2_with fail;exact b.q7
      . intro O j wr I b;obtain⟨g9,S,Y,x⟩:=b.r6 (I 6 Zn);have Z:=b.e7 (I 7 Zn);simp (decide:=true)only[rP,TI,U1,U9,Nat.reduceAdd];rw[Y,Z];exact Q.o j g9 S wr b.ext x)):P:=
 aa (.mk C) (Zy hX) p w q (Zy hc) s r K
end Go.Proofs.YtenhnldnpdlniaaGreat
namespace Go.Proofs.YtenhnldnpdlniaaGreat
open Go Go.RowKit Tryz M
variable {cs: List Value}{I: Nat->Prop}{v: Value}{w: World}
theorem mI.inside{x:SMap}(a:mI w I x cs):mI w (fun b=>I b/\b<w) x cs:=by
 obtain⟨e,f,d,c,b⟩:=a;exact⟨e,f,d,c.inside (fun _ _ _ _ a=>a) Zm,b.inside (fun _ _ _ _ a=>a) Zm⟩
theorem jy.inside{x:M.Method}(a:jy w I x cs):jy w (fun b=>I b/\b<w) x cs:=by
 obtain⟨f,g,h,e,c,b,d⟩:=a;exact⟨f,g,h,e,c.inside (fun _ _ _ _ a=>a) Zm,b.inside (fun _ _ _ _ a=>a) Zm,d.inside (fun _ _ _ _ a=>mI.inside a) Zm⟩
theorem jT.inside{x:Class}(a:jT w I x cs):jT w (fun b=>I b/\b<w) x cs:=by
 obtain⟨e,f,d,c,b⟩:=a;exact⟨e,f,d,c.inside (fun _ _ _ _ a=>a) Zm,b.inside (fun _ _ _ _ a=>jy.inside a) Zm⟩
theorem jo.inside{x:mZ}(a:jo w I x cs):jo w (fun b=>I b/\b<w) x cs:=by
 obtain⟨f,e,d,c,b⟩:=a;exact⟨f,e,d,c.inside (fun _ _ _ _ a=>jT.inside a) Zm,b.inside (fun _ _ _ _ a=>a) Zm⟩
theorem qI.turn{h: World}{d p b:Nat}{e:List Int}(a:qI w d v e p)(g:Kp (·=b) w h)(l:d≠b)(m:e.length≠0->∀f n c,v=.slice (some f) n c->f.block≠b):qI h d v e p:=
 ⟨a.blk.kp g l,a.Rp.kp g fun k i o c j=>m k i o c j,a.own,a.len⟩
theorem qI.below{g p:Nat}{h:List Int}(d:qI w g v h p):g<w/\(h.length≠0->∀a f b,v=.slice (some a) f b->a.block<w):=by
 refine⟨d.blk.lt,fun e a f b c=>?_⟩;rcases d.Rp with⟨-,j⟩|⟨l,m,i,o,k,n⟩
 . rw[j]at e;simp at e
 . rw[i]at c;cases c;have:=zk (k 0 Zm);rwa[add_block]at this
def Iter{α:Type}(P:Program)(gf:Nat)(lb:Array Value)(encs:α->Array Value)(Dit Bd:Nat->Prop)(S Sp Bnd:List α->Prop)(It0:World->Prop)(Nx:List α->α->Prop:=fun _ _=>True):Prop:=
 ∀(l:Nat)(J Jx:List α->World->Prop)(W:World),It0 W->(∀s A B,J s A->Kp Dit A B->J s B)->(∀s A B,Jx s A->Kp Dit A B->Jx s B)->(∀s A,J s A->Bnd s)→
  (∀pre x W1,Nx pre x->J pre W1->YieldAt Fence.wide 8 P l (encs x) W1 fun e W'=>Kp Bd W1 W'/\((e=.returned (.bool true)/\J (pre++[x]) W')\/(e=.returned (.bool false)/\Jx (pre++[x]) W')))→
  J [] W->CallsIn Fence.wide 9 P gf (#[.func (.yield l) #[] #[]]++lb) W fun e W'=>(∃v,e=.returned v)/\((∃xs,S xs/\J xs W')\/(∃pre,Sp pre/\Jx pre W'))
def roundEnd{α:Type}(Bb:Nat->Prop)(I:List α->World->Prop)(Ix:Code->List α->World->Prop)(xs:List α)(W:World):Exit->Act->World->Prop
 | .normal,_,W'=>Kp Bb W W'/\I xs W'
 | .ret,_,W'=>Kp Bb W W'/\Ix .ret xs W'
 | .exit id,_,W'=>Kp Bb W W'/\Ix (.exit id) xs W'
 | .goto t,_,W'=>Kp Bb W W'/\Ix (.goto t) xs W'
 | .panic _,_,_=>False
 | .outgrown,_,_=>False
theorem Kp.putObj(W:World)(l:Nat)(b:Obj):Kp (·=l) W (W.putObj l b):=
 ⟨rfl,rfl,rfl,Zl,fun _ _ a=>World.putObj_heap_other a⟩
theorem ER{α:Type}{P:Program}{g:Operand}{F:Array Tmp}{assign body:Code}{Q:Exit->Act->World->Prop}{a:Act}{gf:Nat}{lb:Array Value}
    (hg:a.eval g=.func (.func gf) #[] lb) (eg:∀args w,(callFunc gf args).run P w=.ok (.enter gf args) w) {encs:α->Array Value} (aF:∀x,(encs x).size=F.size)
    {S Z U:List α->Prop} {B Bb:Nat->Prop} {X:World->Prop} {Y:List α->α->Prop} (aG:Iter P gf lb encs B (fun f=>Bb f\/f=w+1) S Z U X Y)
    (hIt:∀W,Ext w W->X W) (hD1:¬B w) (hD2:¬B (w+1)) (hB1:¬Bb w) (hB2:¬Bb (w+1))
    (I:List α->World->Prop) (D:Code->List α->World->Prop)
    (hI:∀l h n,I l h->Kp (fun f=>B f\/f=w+1) h n->I l n) (hIx:∀c l h n,D c l h->Kp (fun f=>B f\/f=w+1) h n->D c l n) (h0:I [] w) (hIB:∀l h,I l h->U l)
    (O:List α->α->World->Act->World->Prop)
    (hassign:∀(d:List α)(x:α)(W:World)(K:Act->World->Prop),Y d x->I d W->w.heap.size+1<(W:Nat)->(∀p j,O d x W p j->K p j)→
     assign.wpIn (Fence.wide.inRound (w+1)) 8 P (Exit.then K (fun _ _ _=>False)) {tmps:=(F.zip (encs x)).foldl (fun M (aH,ai)=>M.setIfInBounds aH ai) a.tmps,defers:=[]} W)
    (hAx:∀d x W p j,O d x W p j->Kp Bb W j)
    (hbody:∀(d:List α)(x:α)(W:World)(p:Act)(j G:World),O d x W p j->Kp (·=w+1) j G->G.heap.size=j→
     body.wpIn (Fence.wide.inRound (w+1)) 8 P (roundEnd Bb I D (d++[x]) G) p G)
    (hdone:∀(xs:List α)(W:World),S xs->I xs W->W.heap[w.heap.size]?=some (.deferred (some []))->Q .normal {a with defers:={target:=.collected w,args:=#[]}::a.defers} W)
    (hstop:∀(c:Code)(d:List α)(W:World),Z d->D c d W->W.heap[w.heap.size]?=some (.deferred (some []))->c.wpIn Fence.wide 10 P Q {a with defers:={target:=.collected w,args:=#[]}::a.defers} W):
    (Code.rangeFunc g F assign body).wpIn Fence.wide 10 P Q a w:=by
 refine wpIn_rangeFunc ?_;intro fn ax;show∃aK mark w₁ aI aL aJ args w₂,(Instr.enterLoop fn a.tmps F assign body none).run P w=_/\_
 obtain⟨i,r⟩:∃i:LoopState->Option Code->Loop,i=fun st pe=>{state:=st,pending:=pe,fn,tmps:=a.tmps,params:=F,assign,body,defers:=w.heap.size}:=⟨_,rfl⟩;obtain⟨o,J⟩:∃o,(w.alloc (.deferred (some []))).alloc (.loop (i .ready none))=o:=⟨_,rfl⟩;have au:o.heap[w.heap.size+1]?=some (.loop (i .ready none)):=by
  rw[<-J];have:=World.alloc_heap_new (w.alloc (.deferred (some []))) (.loop (i .ready none));rwa[Tp]at this
 have ak:o.heap[w.heap.size]?=some (.deferred (some [])):=by
  rw[<-J];exact(Wm _ _ _ Zl).trans (World.alloc_heap_new w _)
 have ae:Ext w o:=by rw[<-J];exact(jJ _).alloc _
 have aj:=hI _ _ _ h0 ae.any;have s:∀{V:Nat->Prop} {h n:World} {t:Obj} {f:Nat},Kp V h n->¬V f->h.heap[f]?=some t->n.heap[f]?=some t:=fun b R ho=>
  (b.block _ (TW.1 ho).1 R).trans ho
 refine⟨w+1,[{target:=.collected w,args:=#[]}],o,{target:=.fn (.func gf) lb,args:=#[.func (.yield (w+1)) #[] #[]]},o,gf,
  #[.func (.yield (w+1)) #[] #[]]++lb,o,?_,?_,?_,?_,fun b=>by simp[Fence.wide]at b,?_⟩
 . rw[<-J,r];exact run_enterLoop_outer _ _ _ _ _
 . simp only[resolve,hg];simp[go_sem]
 . intro f' _;trivial
 . simp[invoke,go_sem,eg]
 . refine(aG (w+1)
    (fun d W=>I d W/\W.heap[w.heap.size+1]?=some (.loop (i .ready none))/\W.heap[w.heap.size]?=some (.deferred (some [])))
    (fun d W=>∃c,D c d W/\W.heap[w.heap.size+1]?=some (.loop (i .done (some c)))/\W.heap[w.heap.size]?=some (.deferred (some [])))
    o (hIt _ ae)
    (fun l h n A m=>⟨hI l h n A.1 (m.weak fun _ _ b=>.inl b),s m hD2 A.2.1,s m hD1 A.2.2⟩)
    (fun l h n A m=>by
     obtain⟨c,hc,q,R⟩:=A;exact⟨c,hIx c l h n hc (m.weak fun _ _ b=>.inl b),s m hD2 q,s m hD1 R⟩)
    (fun l h A=>hIB l h A.1) ?_ ⟨aj,au,ak⟩).mono ?_
   . rintro d x W aD ⟨E,q,m⟩;have aB:=(TW.1 q).1;have hy:=run_yield (P:=P) (args:=encs x) q (by rw[r];exact aF x);rw[r]at hy;refine⟨fn,_,assign,body,hy,roundIn_of_wpIn ax (hassign d x W _ aD E aB ?_)⟩;intro p j af;have T:=hAx _ _ _ _ _ af;have ag:=s T hB2 q;have ay:=s T hB1 m;refine⟨_,run_beginRound ag (by rw[r]),?_⟩;have aC:=(TW.1 ag).1;have aA:(j.putObj (w+1) (.loop {i .ready none with state:=.busy})).heap[w.heap.size+1]?=some (.loop {i .ready none with state:=.busy}):=World.putObj_heap_same aC;have az:(j.putObj (w+1) (.loop {i .ready none with state:=.busy})).heap[w.heap.size]?=some (.deferred (some [])):=(World.putObj_heap_other Zm).trans ay;refine wpIn_mono (hbody d x W p j _ af (Kp.putObj _ _ _) Zl) ?_;have L:∀(e:World),Kp Bb (j.putObj (w+1) (.loop {i .ready none with state:=.busy})) e->∀t,Kp (fun f=>Bb f\/f=w+1) W (e.putObj (w+1) t):=fun e h3 t=>
      (((T.weak fun _ _ b=>.inl b).trans ((Kp.putObj _ _ _).weak fun _ _ b=>.inr b)).trans (h3.weak fun _ _ b=>.inl b)).trans ((Kp.putObj _ _ _).weak fun _ _ b=>.inr b)
     have H:∀(jump:Option Code)(e:World),Kp Bb (j.putObj (w+1) (.loop {i .ready none with state:=.busy})) e→
         (Instr.endRound (w+1) jump).run P e=.ok (.bool jump.isNone) (e.putObj (w+1) (.loop (i (if jump.isNone then .ready else .done) jump)))/\
         (e.putObj (w+1) (.loop (i (if jump.isNone then .ready else .done) jump))).heap[w.heap.size+1]?=some (.loop (i (if jump.isNone then .ready else .done) jump))/\
         (e.putObj (w+1) (.loop (i (if jump.isNone then .ready else .done) jump))).heap[w.heap.size]?=some (.deferred (some [])):=fun jump e k=>by
      have ah:=s k hB2 aA;have:=run_endRound (P:=P) jump ah;rw[r]at this |-;exact⟨this,World.putObj_heap_same (TW.1 ah).1,(World.putObj_heap_other Zm).trans (s k hB1 az)⟩
     have N:∀(e:World)(t:Obj),Kp (fun f=>B f\/f=w+1) e (e.putObj (w+1) t):=fun e t=>(Kp.putObj _ _ _).weak fun _ _ b=>.inr b;rintro aa a3 e C;cases aa with
     |normal=>
      obtain⟨k,u⟩:=C;obtain⟨z,y,v⟩:=H none e k;exact⟨_,_,z,L _ k _,.inl ⟨rfl,hI _ _ _ u (N _ _),y,v⟩⟩
     |ret=>
      obtain⟨k,u⟩:=C;obtain⟨z,y,v⟩:=H (some .ret) e k;exact⟨_,_,z,L _ k _,.inr ⟨rfl,.ret,hIx _ _ _ _ u (N _ _),y,v⟩⟩
     |exit id=>
      obtain⟨k,u⟩:=C;obtain⟨z,y,v⟩:=H (some (.exit id)) e k;exact⟨_,_,z,L _ k _,.inr ⟨rfl,.exit id,hIx _ _ _ _ u (N _ _),y,v⟩⟩
     |goto M=>
      obtain⟨k,u⟩:=C;obtain⟨z,y,v⟩:=H (some (.goto M)) e k;exact⟨_,_,z,L _ k _,.inr ⟨rfl,.goto M,hIx _ _ _ _ u (N _ _),y,v⟩⟩
     |panic ch=>exact C.elim
     |outgrown=>exact C.elim
   . rintro aa W2 ⟨⟨ai,rfl⟩,(⟨xs,hS,E,q,m⟩|⟨d,av,c,E,q,m⟩)⟩
     . exact⟨none,_,by have:=run_endLoop (P:=P) q (by rw[r];simp);rw[r]at this;exact this,
        hdone xs _ hS (hI _ _ _ E ((Kp.putObj _ _ _).weak fun _ _ b=>.inr b)) ((World.putObj_heap_other Zm).trans m)⟩
     . exact⟨some c,_,by have:=run_endLoop (P:=P) q (by rw[r];simp);rw[r]at this;exact this,
        hstop c d _ av (hIx _ _ _ _ E ((Kp.putObj _ _ _).weak fun _ _ b=>.inr b)) ((World.putObj_heap_other Zm).trans m)⟩
theorem CS(w:World)(k a:Nat){e:TypeId}{cs:Array Value}(vs:Value)(n:Nat)(d:jq w k e cs)(h0:cs[a]?=some vs)(h:∃b c,vs=.slice b n c)(c:Nat)(l:n<c)(m:c<=1000):Calls prog 106 #[some (k,a),.int .i64 c] w fun g i=>g=.returned (.tuple #[(),.bool false])/\w=i:=by
 obtain⟨b,j,rfl⟩:=h;have f:=d.c a _ h0;have q:=jv f;have o:(n:Int) - c<0:=Zm
 have p:IntKind.i64.wrap ((n:Int) - c)=(n:Int) - c:=TM _ Zm;clear d h0;go_enter func106,ntmps106;go_wp2;go_ret2;exact⟨rfl,rfl⟩
theorem sN(w:World)(k b C:Nat)(v:TypeId)(cs:Array Value)(vs:Value)(n:Nat)(xs:List Val)(g:jq w k v cs)(h0:cs[b]?=some vs)(j:w.ownsRow C 42 2 vs n (xs.flatMap kI))(hl:xs.length=n)(c:Nat)(V:c<=n)(W:0<c)(hn:n<=1000)(z:vs.ownBlock≠some k):Calls prog 106 #[some (k,b),c] w fun e r=>∃q,e=.returned (.tuple #[q,.bool true])/\r.ownsRow w 42 2 q c ((xs.drop (n - c)).flatMap kI)/\(∃x d,vs=.slice x n d/\jq r k v (cs.setIfInBounds b (.slice x (n - c) d)))/\Kp (·=k) w r:=by
 obtain⟨T,m,rfl,Y,Z,X⟩:=ky j Zm;obtain⟨a,K⟩:∃a,n=a+c:=⟨n - c,Zm⟩;have B:n - c=a:=Zm
 have l:=g.c b _ h0;have J:=g.frozen b;have L:=jv l;have hw:IntKind.i64.wrap ((n:Int) - c)=(a:Int):=by rw[TM _ Zm];omega
 have ah:(n:Int) - c=(a:Int):=Zm
 have aa:(0:Int)<=(a:Int):=Zm
 have ae:(a:Int)<=n:=Zm
 have af:(n:Int)<=m:=Zm
 have ag:¬m=a:=Zm
 have o:=EL j (qR xw xs) (i:=a) (m - a);have A:n - a=c:=Zm
 have t:=Zy A;have y:(xs.flatMap kI).drop (a*2)=(xs.drop a).flatMap kI:=by
  rw[<-Vs a xs,TD,List.drop_left' (by rw[pF (k:=2) (fun _=>rfl)];simp;omega)];simp
 rw[y]at o;have⟨F,u,s,Q,P⟩:=nC o B g j z;clear o y B g j z h0 K A;go_enter func106,ntmps106;go_wp2_with fail;refine(uU F Zm).mono ?_;rintro e O ⟨⟨q,rfl,p⟩,i⟩;obtain⟨H,d,rfl⟩:=jS p;have G:=Zy p;have h:=s.ext i;have R:=i.jm l;have S:=h.frozen b;have z1:=h.lt;have⟨D,E⟩:=jw h i;clear i p h l J L;go_wp2;go_ret2;refine⟨_,rfl,?_,⟨_,_,rfl,by rw[u.o];exact D.jR _ _⟩,Kp.setCell (p:=⟨k,b,none⟩) (D:=(·=k)) E.any (fun _=>rfl) _⟩;have f:O.ownsRow w 42 2 (.slice H (n - a) d) c ((xs.drop (n - c)).flatMap kI):=by
  have f:=G.o;rw[t.o]at f;rw[t.o,u.o];exact f
 refine jr (D:=(·=k)) f (Kp.setCell (p:=⟨k,b,none⟩) (D:=(·=k)) Kp.rr (fun _=>rfl) _) (fun N hq U e=>?_);have I:N=k:=e;subst I;have:=s.lt;omega
theorem PD(w:World)(k d:Nat){h:TypeId}{cs:Array Value}(vs:Value)(a:jq w k h cs)(h0:cs[d]?=some vs)(c:∃i j,vs=.slice i 0 j):Calls prog 104 #[some (k,d)] w fun b l=>b=.returned (.tuple #[.agg #[Tj,Tj],.bool false])/\Ext w l:=by
 have⟨f,e,g⟩:=jI a h0 c;have m:=a.lt;clear a h0 c;go_enter func104,ntmps104;go_wp2_with fail;refine(CS _ _ _ _ 0 (f.ext kx) e g 1 Zm Zm).mono ?_;rintro b n ⟨rfl,rfl⟩;go_wp2;refine PG (v:=.tuple #[.agg #[Tj,Tj],.bool false]) (by simp[results,results104,go_sem]) rfl ?_;exact⟨rfl,kx⟩
theorem PE(w:World)(k d j:Nat){l:TypeId}{cs:Array Value}(vs:Value)(n:Nat)(xs:List Val)(x:Val)(f:jq w k l cs)(h0:cs[d]?=some vs)(v:w.ownsRow j 42 2 vs (n+1) ((xs++[x]).flatMap kI))(hl:xs.length=n)(J:n+1<=1000)(s:vs.ownBlock≠some k):Calls prog 104 #[some (k,d)] w fun o y=>o=.returned (.tuple #[.agg #[x.kind,x.n],.bool true])/\(∃b c,vs=.slice b (n+1) c/\jq y k l (cs.setIfInBounds d (.slice b n c)))/\Kp (·=k) w y:=by
 have⟨A,z,H,G⟩:=kD f h0 v s;have u:=f.lt;have r:(xs++[x]).drop (n+1 - 1)=[x]:=by rw[Vu,<-hl,List.drop_left]
 have⟨C,F⟩:=jw r hl;have m:=jq.new w 42 #[Tj,Tj];clear f h0 v s r hl;go_enter func104,ntmps104;go_wp2_with fail;refine(sN _ k d j _ _ _ (n+1) (xs++[x]) (A.ext kx) z (jr (D:=fun _=>False) H kx fun _ _ _ x=>x) (by have:=F.o;simp;omega) 1 Zm Zm J G.o).mono ?_;rintro o i ⟨T,rfl,a,⟨b,c,rfl,p⟩,h⟩;rw[C.o]at a;obtain⟨g,N,rfl,P,Q,O⟩:=ky a Zm;have q0:=a.cells (g:=g) rfl 0 x.kind rfl;have q1:=a.cells (g:=g) rfl 1 x.n rfl;simp only[Addr.add_lit,Tk]at q0 q1;have e:=m.kp h Zm;obtain⟨-,K,L,-⟩:=e.ca;obtain⟨u0,u1,-⟩:=e.fz;have⟨B,E,I⟩:=jI p h u;clear a p h m e u;go_wp2;have t:∀D:Nat->Prop,D w.heap.size->Kp D i ((i.setCell w x.kind).setCell (w,1) x.n):=fun D q=>((Kp.refl D i).setCell (p:=⟨w,0,none⟩) (fun _=>q) _).setCell (p:=⟨w,1,none⟩) (fun _=>q) _;refine PG (v:=.tuple #[.agg #[x.kind,x.n],.bool true]) (by simp[results,results104,go_sem,K,L]) rfl ?_;refine⟨rfl,⟨b,c,rfl,?_⟩,?_⟩
 . exact B.kp (t (·=w) rfl) (Te I.o)
 . exact(((jJ _:Ext w _).any).trans E).own (t (·=w) rfl) (fun S R=>Zm)
end Go.Proofs.YtenhnldnpdlniaaGreat
namespace Go
variable {F:Fence}{n:Nat}{P:Program}
def KY(P:Program)(l:Nat)(R:Ending->World->Prop):Exit->Act->World->Prop
 | .panic chain,a,w=>a.defers=[]/\R (.panicked chain) w
 |e,a,w=>roundPost P l R e a w
theorem Cg{l:Nat}{f:FuncId}{tmps:Array Value}{x c:Code}{w:World}{R:Ending->World->Prop}(hF:F.fn f)(M:∃fn,P.funcs[f]?=some fn)
    (H:x.wpIn (F.inRound l) n P (Exit.then (fun p A=>∃y,(Instr.beginRound l).run P A=.ok () y/\c.wpIn (F.inRound l) n P (KY P l R) p y) (fun _ _ _=>False))
     {tmps:=tmps,defers:=[]} w):
    RoundIn F n P l f tmps x c w R:=by
 refine⟨hF,fun r s N=>?_⟩;let a:Frame:={(default:Frame)with fn:=f,kind:=.normal,roundOf:=some l}
 have I:Frame.round l f tmps x c .normal=a.atR {tmps:=tmps,defers:=[]} [.code x,.beginRound,.code c]:=by
  simp[Frame.round,Frame.atR,a]
 have e:(F.inRound l).room ((r::s).length+1+n):=N;have d:(F.inRound l).fn a.fn:=hF;obtain⟨E,p,A,m,k⟩:=H a [.beginRound,.code c] (r::s) rfl d e;rw[<-I]at k;cases E with
 | normal =>
  obtain⟨y,K,J⟩:=m;have v:StepsIn (Machine.fenced P (F.inRound l)) P (lone (a.atR p [.beginRound,.code c]) (r::s) A) (lone (a.atR p [.code c]) (r::s) y):=
   .one (fenced_calm (fr:=a.atR p [.beginRound,.code c]) d e rfl) (stepR_beginRound rfl K)
  obtain⟨G,q,D,o,t⟩:=J a [] (r::s) rfl d e;cases G with
  |normal=>
   obtain⟨i,j,g,b⟩:=o;exact⟨.returned i,j,b,(StepsIn.trans k v).trans (StepsIn.trans t (.one (fenced_calm (fr:=a.atR q []) d e rfl) (stepR_round_end rfl rfl g)))⟩
  |ret=>
   obtain⟨i,j,g,b⟩:=o;obtain⟨u,h⟩:=t.2 rfl;exact⟨.returned i,j,b,(StepsIn.trans k v).trans (StepsIn.trans h (.one (fenced_calm (fr:=a.atR q (.code .ret::u)) d e rfl) (stepR_round_ret rfl rfl g)))⟩
  |exit id=>
   obtain⟨i,j,g,b⟩:=o;obtain⟨u,z,h⟩:=t.2 rfl rfl;exact⟨.returned i,j,b,(StepsIn.trans k v).trans (StepsIn.trans h (.one (fenced_calm (fr:=a.atR q (.code (.exit id)::u)) d e rfl) (stepR_round_exit rfl rfl z g)))⟩
  |goto C=>
   obtain⟨i,j,g,b⟩:=o;obtain⟨u,z,h⟩:=t.2 rfl rfl;exact⟨.returned i,j,b,(StepsIn.trans k v).trans (StepsIn.trans h (.one (fenced_calm (fr:=a.atR q (.code (.goto C)::u)) d e rfl) (stepR_round_goto rfl rfl z g)))⟩
  |panic chain=>
   obtain⟨L,b⟩:=o;obtain⟨O,h⟩:=t;have B:({a.atR q O with mode:=.panicking chain}:Frame).leaving P D (.panicked chain):=⟨rfl,L,M⟩;exact⟨.panicked chain,D,b,(StepsIn.trans k v).trans (StepsIn.trans h (.one (fenced_leaving (n:=n) d e B) (step_leave_panicked B)))⟩
  |outgrown=>exact o.elim
 |exit id=>exact m.elim
 |goto C=>exact m.elim
 |ret=>exact m.elim
 |panic chain=>exact m.elim
 |outgrown=>exact m.elim
def Code.zh(f:FuncId)(P:Program)(c:Code)(Q:Exit->Act->World->Prop)(a:Act)(w:World):Prop:=
 ∀(b:Frame)(k:List Item)(cs:List Frame),b.roundOf=none->b.fn=f->∃e a' w',Q e a' w'/\ArrivesIn (Machine.fenced P Fence.wide) P (lone (b.atR a (.code c::k)) cs w) b k cs e a' w'
theorem FN{f:FuncId}{c:Code}{Q:Exit->Act->World->Prop}{a:Act}{w:World}(e:c.wpIn Fence.wide n P Q a w):c.zh f P Q a w:=
 fun b h d g _=>e b h d g trivial (room_wide _)
theorem JZ{f:FuncId}{x y:Code}{Q:Exit->Act->World->Prop}{a:Act}{w:World}(o:x.zh f P (Exit.then (y.zh f P Q) Q) a w):(Code.seq x y).zh f P Q a w:=by
 intro b d c k i;have one:StepsIn (Machine.fenced P Fence.wide) P (lone (b.atR a (.code (.seq x y)::d)) c w) (lone (b.atR a (.code x:: .code y::d)) c w):=.one (fenced_wide _ _) stepR_seq;obtain⟨e,l,r,j,h⟩:=o b (.code y::d) c k i;by_cases g:e=.normal
 . subst g;obtain⟨n,m,s,q,p⟩:=j b d c k i;exact⟨n,m,s,q,.of_steps (one.trans h) p⟩
 . refine⟨e,l,r,?_,.of_steps one (.pass (x:=.code y) rfl (fun _ _=>.inl g) h)⟩;cases e<;>first|exact absurd rfl g|exact j
theorem Db{f:FuncId}{x y:Code}{Q:Exit->Act->World->Prop}{a:Act}{w:World}(b:x.wpIn Fence.wide n P (Exit.then (y.zh f P Q) Q) a w):(Code.seq x y).zh f P Q a w:=JZ (FN b)
theorem Ga{f:FuncId}{x y:Code}{Q:Exit->Act->World->Prop}{a:Act}{w:World}(b:∀K:Act->World->Prop,(∀a w,y.zh f P Q a w->K a w)->x.wpIn Fence.wide n P (Exit.then K Q) a w):(Code.seq x y).zh f P Q a w:=
 Db (b _ fun _ _ b=>b)
theorem LF{f:FuncId}{id:Nat}{c:Code}{Q:Exit->Act->World->Prop}{a:Act}{w:World}(m:c.zh f P (fun g a w=>(∀b,g≠ .exit b)/\(∀b,g≠ .goto b)/\Q g a w) a w):(Code.block id c).zh f P Q a w:=by
 intro d h e r p;have one:StepsIn (Machine.fenced P Fence.wide) P (lone (d.atR a (.code (.block id c)::h)) e w) (lone (d.atR a (.code c:: .inBlock id::h)) e w):=.one (fenced_wide _ _) stepR_block;obtain⟨g,j,k,⟨n,o,q⟩,i⟩:=m d (.inBlock id::h) e r p;refine⟨g,j,k,q,?_⟩;cases g with
 |normal=>exact one.trans (StepsIn.trans i (.one (fenced_wide _ _) stepR_inBlock))
 |ret=>exact .of_steps one (show ArrivesIn _ P _ d h e .ret j k from⟨i.1,i.2⟩)
 |panic l=>exact .of_steps one (show ArrivesIn _ P _ d h e (.panic l) j k from i)
 |outgrown=>exact .of_steps one (show ArrivesIn _ P _ d h e .outgrown j k from i)
 |exit b=>exact absurd rfl (n b)
 |goto b=>exact absurd rfl (o b)
def Nf(R:Ending->World->Prop):Exit->Act->World->Prop
 | .panic c,a,w=>a.defers=[]/\R (.panicked c) w
 | .outgrown,_,w=>R .outgrown w
 |_,_,_=>False
theorem xM{f:FuncId}{fn:Func}{x y:Code}{R:Ending->World->Prop}{a:Act}{w:World}(c:∀K:Act->World->Prop,(∀a w,y.zh f P (bodyPostM Fence.wide n P fn R) a w->K a w)->x.wp P (Exit.then K (Nf R)) a w):(Code.seq x y).zh f P (bodyPostM Fence.wide n P fn R) a w:=by
 refine Db (n:=n) (wpIn_mono (wpIn_wide.2 (c _ fun _ _ c=>c)) ?_);intro d a w b;cases d with
 |normal=>exact b
 |panic h=>
  obtain⟨g,e⟩:=b;show LeavesInM _ _ _ _ _ _ a.defers _ _
  rw[g];exact e
 |outgrown=>exact b
 |ret=>exact b.elim
 |exit x=>exact b.elim
 |goto x=>exact b.elim
def Ql(ds:List Deferred)(R:Ending->World->Prop):Exit->Act->World->Prop
 | .normal,a,w=>a.defers=ds/\R (.returned (.tuple #[])) w
 | .panic c,a,w=>a.defers=ds/\R (.panicked c) w
 |_,_,_=>False
theorem P8{f:FuncId}{c:Code}{ds:List Deferred}{R:Ending->World->Prop}{Q:Exit->Act->World->Prop}{a:Act}{w:World}(e:c.wp P (Ql ds R) a w)(g:∀a w,a.defers=ds->R (.returned (.tuple #[])) w->Q .normal a w)(h:∀c a w,a.defers=ds->R (.panicked c) w->Q (.panic c) a w):c.zh f P Q a w:=by
 refine FN (n:=10) (wpIn_mono (wpIn_wide.2 e) ?_);intro d a w b;cases d with
 |normal=>exact g _ _ b.1 b.2
 |panic c=>exact h _ _ _ b.1 b.2
 |outgrown=>exact b.elim
 |ret=>exact b.elim
 |exit i=>exact b.elim
 |goto i=>exact b.elim
theorem xW{f:FuncId}{fn:Func}{c:Code}{args:Array Value}{w:World}{R:Ending->World->Prop}
    (u:P.funcs[f]?=some fn) (E:fn.body=some c)
    (y:c.zh f P (bodyPostM Fence.wide n P fn R) {tmps:=args++Array.replicate (fn.ntmps - args.size) undef,defers:=[]} w):CallsIn Fence.wide n P f args w R:=by
 refine⟨trivial,fun g J=>?_⟩;obtain⟨e,m⟩:∃e:Frame,e={(default:Frame)with fn:=f,kind:=.normal,roundOf:=none}:=⟨_,rfl⟩;have k:e.fn=f:=by rw[m]
 have q:e.roundOf=none:=by rw[m]
 have o:e.kind=.normal:=by rw[m]
 have F:Frame.enter P f args .normal=e.atR {tmps:=args++Array.replicate (fn.ntmps - args.size) undef,defers:=[]} [.code c]:=by
  simp[Frame.enter,Frame.atR,u,E,m]
 have r:∀(d:Frame)(p:FrameMode)(a:Act)(b:World),d.fn=f->d.kind=.normal->d.mode=p->d.defers=a.defers->d.tmps=a.tmps->LeavesInM Fence.wide n P fn a.tmps R a.defers p b→
     StepsIn (Machine.fenced P Fence.wide) P (lone (Frame.enter P f args .normal) g w) (lone d g b)→
     ∃i b d,R i b/\ComesIn (Machine.fenced P Fence.wide) P (lone (Frame.enter P f args .normal) g w) (lone d g b) i/\d.fn=f/\d.leaving P b i:=by
  intro d p a b t z A B C H l;obtain⟨v,L,x,D,K,G,I⟩:=leaves_stepsInM a.defers p b d g A B C (t▸u) z trivial J H;exact⟨v,L,x,D,ComesIn.of_steps l K,G.trans t,I⟩
 obtain⟨i,a,b,h,j⟩:=y e [] g q k;rw[<-F]at j;cases i with
 |normal=>exact r {e.atR a []with mode:=.returning} .returning a b k o rfl rfl rfl h (StepsIn.trans j (.one (fenced_wide _ _) (stepR_end q)))
 |ret=>
  obtain⟨s,l⟩:=j.1 q;exact r {e.atR a s with mode:=.returning} .returning a b k o rfl rfl rfl h l
 |panic chain=>
  obtain⟨s,l⟩:=j;exact r {e.atR a s with mode:=.panicking chain} (.panicking chain) a b k o rfl rfl rfl h l
 |exit id=>exact h.elim
 |goto M=>exact h.elim
 |outgrown=>exact⟨.outgrown,b,e,h,j.resolve_left (by simp[o]),k,trivial⟩
theorem FO{g:Operand}{q:Array Tmp}{h i:Code}{Q:Exit->Act->World->Prop}{a:Act}{w:World}{fn:FuncId}
    (F:∃(l:Nat)(mark:List Deferred)(r:World)(e:Deferred)(s:World)(f:FuncId)(args:Array Value)(t:World),
     (Instr.enterLoop fn a.tmps q h i none).run P w=.ok (l,mark) r/\(resolve a.eval (rangeCall g l) 0).run P r=.ok e s/\(invoke e.target e.args).run P s=.ok (.enter f args) t/\
     CallsIn Fence.wide (n - 1) P f args t (rangePost Fence.wide n P l Q {a with defers:=mark++a.defers})):
    (Code.rangeFunc g q h i).zh fn P Q a w:=by
 obtain⟨l,mark,r,e,s,f,args,t,v,L,K,hF,I⟩:=F;intro b k cs z H;subst H;rw[<-z]at v;have m:=stepR_rangeFunc (P:=P) (b:=b) (a:=a) (k:=k) (cs:=cs) (w:=w) v L K;obtain⟨D,N,R,j,p,S,y⟩:=I (b.atR {a with defers:=mark++a.defers} (.inRangeFunc l::k)::cs) (room_wide _);cases D with
 |outgrown=>
  obtain⟨C,M,o⟩:=j;exact⟨.outgrown,C,M,o,.inr (Outgrown.of_steps (.one m) p)⟩
 |panicked chain=>
  have d:=step_leave_panicked (c:=b.atR {a with defers:=mark++a.defers} (.inRangeFunc l::k)) (cs:=cs) y;rw[Frame.raise_atR]at d;exact⟨.panic chain,_,N,j,.inRangeFunc l::k,.head (fenced_wide _ _) m (StepsIn.trans p (.one (fenced_wide _ _) d))⟩
 | returned T =>
  obtain⟨jump,A,J,x⟩:=j;have d:=step_leave_returned (c:=b.atR {a with defers:=mark++a.defers} (.inRangeFunc l::k)) (cs:=cs) y;rw[finish_atR_inRangeFunc]at d;have u:StepsIn (Machine.fenced P Fence.wide) P (lone (b.atR a (.code (.rangeFunc g q h i)::k)) cs w) (lone (b.atR {a with defers:=mark++a.defers} ((jump.map Item.code).toList++k)) cs A):=
   .head (fenced_wide _ _) m (StepsIn.trans p (.head (fenced_wide _ _) d (.one (fenced_wide _ _) (stepR_endRangeFunc J))))
  cases jump with
  |none=>exact⟨.normal,_,A,x,u⟩
  |some c=>
   obtain⟨E,B,O,o,G⟩:=x b k cs z trivial (room_wide _);exact⟨E,B,O,o,.of_steps u G⟩
end Go
namespace Go.Proofs.YtenhnldnpdlniaaGreat
open Go Go.RowKit Tryz M
variable {a: Act}{K d e next: Act->World->Prop}{c: Class}{Q: Exit->Act->World->Prop}{F: Fence}{g q: List Nat}{l: List Oper}{b f id k m: Nat}{P: Program}{r: Ref}{i α: Type}{t: TypeId}{u0 u1: Value}{W w: World}{C: World->Prop}{p: jl}
def QW{α:Type}(P:Program)(gf:Nat)(lb:Array Value)(encs:α->Array Value)(Dit Bd:Nat->Prop)(S Sp Bnd:List α->Prop)(It0:World->Prop)(Nx:List α->α->Prop:=fun _ _=>True):Prop:=
 ∀(l:Nat)(J Jx:List α->World->Prop)(Jp:List PanicEntry->List α->World->Prop)(W:World),It0 W->(∀s A B,J s A->Kp Dit A B->J s B)->(∀s A B,Jx s A->Kp Dit A B->Jx s B)->(∀c s A B,Jp c s A->Kp Dit A B->Jp c s B)->(∀s A,J s A->Bnd s)→
  (∀pre x W1,Nx pre x->J pre W1->YieldAt Fence.wide 8 P l (encs x) W1 fun e W'=>Kp Bd W1 W'/\((e=.returned (.bool true)/\J (pre++[x]) W')\/(e=.returned (.bool false)/\Jx (pre++[x]) W')\/∃c,e=.panicked c/\Jp c (pre++[x]) W'))→
  J [] W->CallsIn Fence.wide 9 P gf (#[.func (.yield l) #[] #[]]++lb) W fun e W'=>((∃v,e=.returned v)/\((∃xs,S xs/\J xs W')\/(∃pre,Sp pre/\Jx pre W')))\/∃c pre,e=.panicked c/\Sp pre/\Jp c pre W'
def Nl{α:Type}(Bb:Nat->Prop)(I:List α->World->Prop)(Ix:Code->List α->World->Prop)(Ip:List PanicEntry->List α->World->Prop)(xs:List α)(W:World):Exit->Act->World->Prop
 | .panic c,a,W'=>a.defers=[]/\Kp Bb W W'/\Ip c xs W'
 |e,a,W'=>roundEnd Bb I Ix xs W e a W'
theorem Nj{g:Operand}{O:Array Tmp}{assign body:Code}{gf:Nat}{lb:Array Value}
    (hg:a.eval g=.func (.func gf) #[] lb) (eg:∀args w,(callFunc gf args).run P w=.ok (.enter gf args) w) {encs:α->Array Value} (aG:∀x,(encs x).size=O.size)
    {S V Y:List α->Prop} {y Bb:Nat->Prop} {aa:World->Prop} {Nx:List α->α->Prop} (aH:QW P gf lb encs y (fun f=>Bb f\/f=w+1) S V Y aa Nx)
    (hIt:∀W,Ext w W->aa W) (hD1:¬y w) (hD2:¬y (w+1)) (hB1:¬Bb w) (hB2:¬Bb (w+1))
    (I:List α->World->Prop) (F:Code->List α->World->Prop) (E:List PanicEntry->List α->World->Prop) {fn:FuncId} (az:∃au,P.funcs[fn]?=some au) (hIp:∀c i e k,E c i e->Kp (fun f=>y f\/f=w+1) e k->E c i k)
    (hI:∀i e k,I i e->Kp (fun f=>y f\/f=w+1) e k->I i k) (hIx:∀c i e k,F c i e->Kp (fun f=>y f\/f=w+1) e k->F c i k) (h0:I [] w) (hIB:∀i e,I i e->Y i)
    (U:List α->α->World->Act->World->Prop)
    (hassign:∀(d:List α)(x:α)(W:World)(K:Act->World->Prop),Nx d x->I d W->w.heap.size+1<(W:Nat)->(∀r n,U d x W r n->K r n)→
     assign.wpIn (Fence.wide.inRound (w+1)) 8 P (Exit.then K (fun _ _ _=>False)) {tmps:=(O.zip (encs x)).foldl (fun R (aI,ak)=>R.setIfInBounds aI ak) a.tmps,defers:=[]} W)
    (hAx:∀d x W r n,U d x W r n->Kp Bb W n)
    (hbody:∀(d:List α)(x:α)(W:World)(r:Act)(n H:World),U d x W r n->Kp (·=w+1) n H->H.heap.size=n→
     body.wpIn (Fence.wide.inRound (w+1)) 8 P (Nl Bb I F E (d++[x]) H) r H)
    (hdone:∀(xs:List α)(W:World),S xs->I xs W->W.heap[w.heap.size]?=some (.deferred (some []))->Q .normal {a with defers:={target:=.collected w,args:=#[]}::a.defers} W)
    (hstop:∀(c:Code)(d:List α)(W:World),V d->F c d W->W.heap[w.heap.size]?=some (.deferred (some []))->c.wpIn Fence.wide 10 P Q {a with defers:={target:=.collected w,args:=#[]}::a.defers} W)
    (hpanic:∀(c:List PanicEntry)(d:List α)(W:World),V d->E c d W->W.heap[w.heap.size]?=some (.deferred (some []))->Q (.panic c) {a with defers:={target:=.collected w,args:=#[]}::a.defers} W):
    (Code.rangeFunc g O assign body).zh fn P Q a w:=by
 refine FO (n:=10) ?_;obtain⟨m,u⟩:∃m:LoopState->Option Code->Loop,m=fun st pe=>{state:=st,pending:=pe,fn,tmps:=a.tmps,params:=O,assign,body,defers:=w.heap.size}:=⟨_,rfl⟩;obtain⟨q,L⟩:∃q,(w.alloc (.deferred (some []))).alloc (.loop (m .ready none))=q:=⟨_,rfl⟩;have ay:q.heap[w.heap.size+1]?=some (.loop (m .ready none)):=by
  rw[<-L];have:=World.alloc_heap_new (w.alloc (.deferred (some []))) (.loop (m .ready none));rwa[Tp]at this
 have ax:q.heap[w.heap.size]?=some (.deferred (some [])):=by
  rw[<-L];exact(Wm _ _ _ Zl).trans (World.alloc_heap_new w _)
 have af:Ext w q:=by rw[<-L];exact(jJ _).alloc _
 have av:=hI _ _ _ h0 af.any;have p:∀{Z:Nat->Prop} {e k:World} {v:Obj} {f:Nat},Kp Z e k->¬Z f->e.heap[f]?=some v->k.heap[f]?=some v:=fun b G ho=>
  (b.block _ (TW.1 ho).1 G).trans ho
 refine⟨w+1,[{target:=.collected w,args:=#[]}],q,{target:=.fn (.func gf) lb,args:=#[.func (.yield (w+1)) #[] #[]]},q,gf,
  #[.func (.yield (w+1)) #[] #[]]++lb,q,?_,?_,?_,?_⟩
 . rw[<-L,u];exact run_enterLoop_outer _ _ _ _ _
 . simp only[resolve,hg];simp[go_sem]
 . simp[invoke,go_sem,eg]
 . refine(aH (w+1)
    (fun d W=>I d W/\W.heap[w.heap.size+1]?=some (.loop (m .ready none))/\W.heap[w.heap.size]?=some (.deferred (some [])))
    (fun d W=>∃c,F c d W/\W.heap[w.heap.size+1]?=some (.loop (m .done (some c)))/\W.heap[w.heap.size]?=some (.deferred (some [])))
    (fun c d W=>E c d W/\W.heap[w.heap.size]?=some (.deferred (some [])))
    q (hIt _ af)
    (fun i e k o j=>⟨hI i e k o.1 (j.weak fun _ _ b=>.inl b),p j hD2 o.2.1,p j hD1 o.2.2⟩)
    (fun i e k o j=>by
     obtain⟨c,hc,t,G⟩:=o;exact⟨c,hIx c i e k hc (j.weak fun _ _ b=>.inl b),p j hD2 t,p j hD1 G⟩)
    (fun c i e k o j=>⟨hIp c i e k o.1 (j.weak fun _ _ b=>.inl b),p j hD1 o.2⟩)
    (fun i e o=>hIB i e o.1) ?_ ⟨av,ay,ax⟩).mono ?_
   . rintro d x W aF ⟨z,t,j⟩;have aC:=(TW.1 t).1;have hy:=run_yield (P:=P) (args:=encs x) t (by rw[u];exact aG x);rw[u]at hy;refine⟨fn,_,assign,body,hy,Cg trivial az (hassign d x W _ aF z aC ?_)⟩;intro r n ag;have M:=hAx _ _ _ _ _ ag;have ai:=p M hB2 t;have aA:=p M hB1 j;refine⟨_,run_beginRound ai (by rw[u]),?_⟩;have aD:=(TW.1 ai).1;have aB:(n.putObj (w+1) (.loop {m .ready none with state:=.busy})).heap[w.heap.size+1]?=some (.loop {m .ready none with state:=.busy}):=World.putObj_heap_same aD;have ah:(n.putObj (w+1) (.loop {m .ready none with state:=.busy})).heap[w.heap.size]?=some (.deferred (some [])):=(World.putObj_heap_other Zm).trans aA;refine wpIn_mono (hbody d x W r n _ ag (Kp.putObj _ _ _) Zl) ?_;have N:∀(h:World),Kp Bb (n.putObj (w+1) (.loop {m .ready none with state:=.busy})) h->∀v,Kp (fun f=>Bb f\/f=w+1) W (h.putObj (w+1) v):=fun h h3 v=>
      (((M.weak fun _ _ b=>.inl b).trans ((Kp.putObj _ _ _).weak fun _ _ b=>.inr b)).trans (h3.weak fun _ _ b=>.inl b)).trans ((Kp.putObj _ _ _).weak fun _ _ b=>.inr b)
     have J:∀(jump:Option Code)(h:World),Kp Bb (n.putObj (w+1) (.loop {m .ready none with state:=.busy})) h→
         (Instr.endRound (w+1) jump).run P h=.ok (.bool jump.isNone) (h.putObj (w+1) (.loop (m (if jump.isNone then .ready else .done) jump)))/\
         (h.putObj (w+1) (.loop (m (if jump.isNone then .ready else .done) jump))).heap[w.heap.size+1]?=some (.loop (m (if jump.isNone then .ready else .done) jump))/\
         (h.putObj (w+1) (.loop (m (if jump.isNone then .ready else .done) jump))).heap[w.heap.size]?=some (.deferred (some [])):=fun jump h l=>by
      have aj:=p l hB2 aB;have:=run_endRound (P:=P) jump aj;rw[u]at this |-;exact⟨this,World.putObj_heap_same (TW.1 aj).1,(World.putObj_heap_other Zm).trans (p l hB1 ah)⟩
     have T:∀(h:World)(v:Obj),Kp (fun f=>y f\/f=w+1) h (h.putObj (w+1) v):=fun h v=>(Kp.putObj _ _ _).weak fun _ _ b=>.inr b;rintro ae a3 h D;cases ae with
     |normal=>
      obtain⟨l,s⟩:=D;obtain⟨C,B,A⟩:=J none h l;exact⟨_,_,C,N _ l _,.inl ⟨rfl,hI _ _ _ s (T _ _),B,A⟩⟩
     |ret=>
      obtain⟨l,s⟩:=D;obtain⟨C,B,A⟩:=J (some .ret) h l;exact⟨_,_,C,N _ l _,.inr (.inl ⟨rfl,.ret,hIx _ _ _ _ s (T _ _),B,A⟩)⟩
     |exit id=>
      obtain⟨l,s⟩:=D;obtain⟨C,B,A⟩:=J (some (.exit id)) h l;exact⟨_,_,C,N _ l _,.inr (.inl ⟨rfl,.exit id,hIx _ _ _ _ s (T _ _),B,A⟩)⟩
     |goto R=>
      obtain⟨l,s⟩:=D;obtain⟨C,B,A⟩:=J (some (.goto R)) h l;exact⟨_,_,C,N _ l _,.inr (.inl ⟨rfl,.goto R,hIx _ _ _ _ s (T _ _),B,A⟩)⟩
     |panic ch=>
      obtain⟨G,l,s⟩:=D;exact⟨G,((M.weak fun _ _ b=>.inl b).trans ((Kp.putObj _ _ _).weak fun _ _ b=>.inr b)).trans (l.weak fun _ _ b=>.inl b),.inr (.inr ⟨ch,rfl,s,p l hB1 ah⟩)⟩
     |outgrown=>exact D.elim
   . rintro ae W2 (⟨⟨ak,rfl⟩,(⟨xs,hS,z,t,j⟩|⟨d,X,c,z,t,j⟩)⟩|⟨c,d,rfl,X,z,j⟩)
     . exact⟨none,_,by have:=run_endLoop (P:=P) t (by rw[u];simp);rw[u]at this;exact this,
        hdone xs _ hS (hI _ _ _ z ((Kp.putObj _ _ _).weak fun _ _ b=>.inr b)) ((World.putObj_heap_other Zm).trans j)⟩
     . exact⟨some c,_,by have:=run_endLoop (P:=P) t (by rw[u];simp);rw[u]at this;exact this,
        hstop c d _ X (hIx _ _ _ _ z ((Kp.putObj _ _ _).weak fun _ _ b=>.inr b)) ((World.putObj_heap_other Zm).trans j)⟩
     . exact hpanic c d _ X z j
def Be(ops:Array Oper):Bool:=ops.all fun o=>match o.op with| .defer _=>false|_=>true
theorem Hs{b:Array Oper}(d:Be b=true)(j:Nat)(a:Oper)(f:b[j]?=some a)(c:Call):a.op≠ .defer c:=by
 intro e;have:=VF.1 d a (Array.mem_of_getElem? f);simp[e]at this
section
variable {F:Fence}{m:Nat}{P:Program}{ops:Array Oper}{md:Region.Mode}{Q:Exit->Act->World->Prop}{C:World->Prop}{n:Nat}
theorem nL.wpOpIn(hF:∀b,F.fn b){i:Nat}{c:Oper}{v:Value}{a:Act}(k:∀g,c.op≠ .defer g)(j:ops[i]?=some c)(n:nL P ops C c v a){K:Act->World->Prop}{w:World}(h:C w)(e:K (a.put c.dst v) w):wpOpIn F m P ops Q i K a w:=by
 unfold Go.wpOpIn;simp only[j];rcases n with⟨f,l⟩|⟨f,rfl⟩
 . simp only[f,Uy];refine⟨fun b _=>hF b,?_⟩;rw[Oper.semAt_eq _ _ _ k];rcases l w h with d|⟨d,rfl⟩
   . rw[d];exact e
   . rw[d];exact e
 . simp only[f,U3,Uq];exact⟨fun b _=>hF b,e⟩
theorem J4(hF:∀i,F.fn i){j:Nat}{c f:Oper}{v:Value}(D:∀n,f.op≠ .defer n)(I:ops[j]?=some f)(H:c.apart ops f=true)(E:∀s q,c.op≠ .select s q)(J:∀s q,f.op≠ .select s q)(x:∀n a w,Q (.panic n) (a.put c.dst v) w->Q (.panic n) a w){K:Act->World->Prop}{a:Act}{w:World}(h:nL P ops C c v a)(b:wpOpIn F m P ops Q j K (a.put c.dst v) w):wpOpIn F m P ops Q j (fun B z=>nL P ops C c v B/\K (B.put c.dst v) z) a w:=by
 obtain⟨u,k,p⟩:=Oper.apart_spec H;have o:∀(a:Act),nL P ops C c v a->∀e,nL P ops C c v (a.put f.dst e):=fun a h e=>
  h.of_same (Wv c E a f.dst e p) (Wi c a f.dst e p)
 unfold wpOpIn at*;simp only[I]at*;rw[Wi f a c.dst v u,about_put f w a c.dst v u]at b;split
 . rename_i y;simp only[y,Uy]at b;unfold Oper.wpIn at*;refine⟨fun i _=>hF i,?_⟩;have b:=b.2;rw[Oper.semAt_eq _ _ _ D,Wv f J a c.dst v u]at b;rw[Oper.semAt_eq _ _ _ D];generalize (execOp a.eval f).run P w=r at*;cases r with
   | ok A z =>
    cases A<;>simp only[Oper.uponIn]at b |-
    case value e=>exact⟨o a h e,by rw[<-UL a v e k];exact b⟩
    case skip=>exact⟨o a h _,by rw[<-UL a v undef k];exact b⟩
    case defer d=>
     refine⟨(h.of_same rfl rfl:nL P ops C c v {a with defers:=d::a.defers}).of_same (Wv c E _ f.dst undef p) (Wi c _ f.dst undef p),?_⟩;rw[<-UL _ v undef k,<-Act.put_defers];exact b
    case enter i args=>
     refine⟨b.1,CallsIn.mono b.2 fun t G g=>?_⟩;cases t with
     |returned e=>exact⟨o a h e,by rw[<-UL a v e k];exact g⟩
     |panicked n=>exact x _ _ _ g
     |outgrown=>exact g
    case row row args=>exact⟨b.1,RowsIn.mono b.2 fun e G g=>⟨o a h e,by rw[<-UL a v e k];exact g⟩⟩
    case round l i tmps assign body=>
     refine⟨b.1,RoundIn.mono b.2 fun t G g=>?_⟩;cases t with
     |returned e=>exact⟨o a h e,by rw[<-UL a v e k];exact g⟩
     |panicked n=>exact x _ _ _ g
     |outgrown=>exact g
   |halt A z=>
    cases A<;>simp only[Oper.uponIn]at b |-
    case panic e=>exact x _ _ _ b
 . rename_i y;simp only[y]at b;exact⟨fun i _=>hF i,o a h _,by rw[<-UL a v undef k];exact b.2⟩
def uQ(F:Fence)(m:Nat)(P:Program)(md:Region.Mode)(ops:Array Oper)(n:Nat)(C:World->Prop)(Q:Exit->Act->World->Prop):Nat->Array Bool->Act->World->Prop
 |0,listed,a,w=>Region.ready md ops listed=[]/\Q .normal a w
 |fuel+1,listed,a,w=>
  (Region.ready md ops listed=[]->Q .normal a w)/\
  ∀i∈Region.ready md ops listed,wpOpIn F m P ops Q i (fun a' w'=>(i<n->C w')/\uQ F m P md ops n C Q fuel (listed.setIfInBounds i true) a' w') a w
theorem Bp:∀(fuel:Nat)(listed:Array Bool)(a:Act)(w:World),uQ F m P md ops n C Q fuel listed a w->wpAnyIn F m P md ops Q fuel listed a w
 |0,_,_,_,h=>h
 |fuel+1,_,_,_,h=>⟨h.1,fun e d=>wpOpIn_mono (fun b f c=>Bp fuel _ b f c.2) (h.2 e d)⟩
theorem F9(hF:∀X,F.fn X)(J:∀(j:Nat)(u:Oper),ops[j]?=some u->∀y,u.op≠ .defer y){i:Nat}{g:Oper}{v:Value}(t:ops[i]?=some g)(U:∀(j:Nat)(u:Oper) q p,ops[j]?=some u->u.op≠ .select q p)(Z:∀y a w,Q (.panic y) (a.put g.dst v) w->Q (.panic y) a w)(ah:∀j,n<=j->Region.waitsFor md ops j i=true\/ops[j]?=none):∀(r:Nat)(listed:Array Bool)(a:Act)(w:World),(∀j h,ops[j]?=some h->j≠i->listed.getD j true=false->(∀b∈h.after,Region.binds md b=true->b.on≠i)->g.apart ops h=true)→ i∈Region.ready md ops listed->nL P ops C g v a->C w->i<n→ uQ F m P md ops n C Q r (listed.setIfInBounds i true) (a.put g.dst v) w->uQ F m P md ops n C Q (r+1) listed a w:=by
 intro r;induction r with
 |zero=>
  intro listed a w _ f D s M o;refine⟨fun d=>(by rw[d]at f;cases f),fun j A=>?_⟩;by_cases c:j=i
  . subst c;exact D.wpOpIn hF (J _ _ t) t s ⟨fun _=>s,o⟩
  . have:=Wu A c;rw[o.1]at this;cases this
 |succ r ih=>
  intro listed a w L f D s M o;refine⟨fun d=>(by rw[d]at f;cases f),fun j A=>?_⟩;by_cases c:j=i
  . subst c;exact D.wpOpIn hF (J _ _ t) t s ⟨fun _=>s,o⟩
  . have e:=o.2 j (Wu A c);obtain⟨R,h,k,aa⟩:=VK.1 A;have S:∀b∈h.after,Region.binds md b=true->b.on≠i:=fun b H G I=>by
     have e:=aa b H G;have K:=(VK.1 f).1;rw[I]at e;rcases UZ i listed.size with E|E
     . simp[E]at K e;rw[K]at e;cases e
     . simp[UY E]at e
    have O:j<n:=by
     rcases UZ j n with d|d
     . exact d
     . rcases ah j d with B|B
       . obtain⟨ai,T,b,H,G,I⟩:=Region.waitsFor_spec B;rw[k]at T;cases T;exact absurd I (S b H G)
       . rw[k]at B;cases B
    have Y:=J4 hF (J _ _ k) k (L j h k c R S) (fun q p=>U i g q p t) (fun q p=>U j h q p k) Z D e;have ae:∀l x,ops[l]?=some x->l≠i->(listed.setIfInBounds j true).getD l true=false→
        (∀b∈x.after,Region.binds md b=true->b.on≠i)->g.apart ops x=true:=fun l x hk af V ag=>by
     refine L l x hk af ?_ ag;by_cases N:j=l
     . subst N;exact R
     . rw[getD_set_ne true N]at V;exact V
    refine wpOpIn_mono (fun W w' z=>⟨fun _=>z.2.1 O,ih (listed.setIfInBounds j true) W w' ae (Wu f (Ne.symm c)) z.1 (z.2.1 O) M ?_⟩) Y;rw[Wp _ _ c];exact z.2.2
def tK(F:Fence)(m:Nat)(P:Program)(l:List Oper)(C:World->Prop)(Q:Exit->Act->World->Prop)(fin:Act->World->Prop):List (List Nat×Nat)->List Nat->Act->World->Prop
 |[],q,a,w=>wpQuiet P l.toArray C (fun a'=>fin a' w) (q.filterMap (l[·]?)) a
 |(q,i)::r,q',a,w=>wpQuiet P l.toArray C (fun a'=>wpListIn F m P l.toArray (Exit.then (fun a'' w'=>C w'/\tK F m P l C Q fin r q' a'' w') Q) (l[i]?).toList a' w) (q.filterMap (l[·]?)) a
theorem xC(hF:∀A,F.fn A){l:List Oper}(s:Be l.toArray=true)(u:Region.noSelect l.toArray=true)(v:Ad md l.toArray n=true)(p:∀b a z y w,Q (.panic b) (a.put z y) w->Q (.panic b) a w){K:Act->Prop}{w:World}(k:C w)(e:Nat)(d:Array Bool)
    (o:∀f,K f->uQ F m P md l.toArray n C Q e d f w):∀(q:List Nat)(listed:Array Bool)(a:Act),NS md l.toArray n q listed=some d→
    wpQuiet P l.toArray C K (q.filterMap (l[·]?)) a->uQ F m P md l.toArray n C Q (e+q.length) listed a w
 |[],listed,a,ho,h=>by
  simp only[NS,TQ]at ho;subst ho;exact o a h
 |i::q,listed,a,ho,h=>by
  unfold NS at ho;split at ho
  . rename_i r;simp only[RV,Tv]at r;obtain⟨⟨⟨g,B⟩,D⟩,j⟩:=r;cases c:l[i]? with
    |none=>simp[c]at j
    |some x=>
     have t:l.toArray[i]?=some x:=by simpa using c
     have G:Cc x=true:=by simpa [c]using j
     rw[List.filterMap_cons,c]at h;simp only[wpQuiet]at h;obtain⟨y,H,E⟩:=wT G h;have:=xC hF s u v p k e d o q _ _ ho E;exact F9 hF (Hs s) t (Region.noSelect_spec u) (fun b a w=>p b a _ _ w) (Cj v g) _ _ _ _ (Region.free_spec t D) (by simpa using B) H k g this
  . cases ho
theorem CX:∀(t:List Oper)(k:Nat)(listed:Array Bool)(a:Act)(w:World),n<=k->(∀b,t[b]?=l[k+b]?)→
    Region.seqB md l.toArray t.length k listed=true->wpListIn F m P l.toArray Q t a w->uQ F m P md l.toArray n C Q t.length listed a w
 |[],_,_,_,_,_,_,hB,h=>⟨by simpa [Region.seqB]using hB,h⟩
 |o::t,k,listed,a,w,hk,hl,hB,h=>by
  have i:l.toArray[k]?=some o:=by simpa using(hl 0).symm
  simp only[TL,Region.seqB,RV,Tv]at hB;refine⟨fun d=>(by rw[hB.1]at d;cases d),fun c e=>?_⟩;rw[hB.1]at e;have j:c=k:=by simpa using e
  subst j;have q:wpOpIn F m P l.toArray Q c (wpListIn F m P l.toArray Q t) a w:=by unfold wpOpIn;simp only[i];exact h
  exact wpOpIn_mono (fun f r g=>⟨fun p=>absurd p (WY.2 hk),CX t (c+1) _ f r Zm (fun b=>by have:=hl (b+1);simpa [Uj,VG 1 b]using this) hB.2 g⟩) q
theorem P9{g:Oper}(b:g.wpIn F m P a w next (Exit.then K Q)):g.wpIn F m P a w next Q:=by
 unfold Oper.wpIn at*;refine⟨b.1,?_⟩;replace b:=b.2;generalize (g.semAt F.round a.eval).run P w=r at*;cases r with
 | ok n j =>
  cases n<;>simp only[Oper.uponIn]at b |-
  case value h=>exact b
  case skip=>exact b
  case defer d=>exact b
  case enter f args=>
   refine⟨b.1,CallsIn.mono b.2 fun e k c=>?_⟩;cases e with
   |returned h=>exact c
   |panicked i=>exact c
   |outgrown=>exact c
  case row row args=>exact b
  case round l f tmps assign body=>
   refine⟨b.1,RoundIn.mono b.2 fun e k c=>?_⟩;cases e with
   |returned h=>exact c
   |panicked i=>exact c
   |outgrown=>exact c
 |halt o j=>
  cases o<;>simp only[Oper.uponIn]at b |-
  case panic h=>exact b
theorem EF(hF:∀o,F.fn o){l:List Oper}(u:Be l.toArray=true)(y:Region.noSelect l.toArray=true)(z:Ad md l.toArray n=true)(t:∀D a I R w,Q (.panic D) (a.put I R) w->Q (.panic D) a w)(M:n<=l.length):∀(B:List (List Nat×Nat))(d:List Nat)(listed:Array Bool)(a:Act)(w:World),C w→
    Js md l.toArray n B d listed=true->tK F m P l C Q (fun j c=>wpListIn F m P l.toArray Q (l.drop n) j c) B d a w->uQ F m P md l.toArray n C Q ((l.length - n)+costs B d) listed a w
 |[],d,listed,a,w,hC,b,h=>by
  unfold Js at b;split at b
  . rename_i g s;refine xC hF u y z t hC _ g (fun j e=>?_) d listed a s h;have:=CX (F:=F) (m:=m) (md:=md) (C:=C) (l:=l) (l.drop n) n g j w (Tu _) (fun f=>by simp[V4]) (by simpa using b) e;simpa using this
  . cases b
 | (q, i) :: r, d, listed, a, w, hC, b, h => by
  unfold Js at b;split at b
  . rename_i g s;simp only[RV,Tv]at b;obtain⟨⟨x,S⟩,b⟩:=b;have J:l.length - n+costs ((q,i)::r) d=((l.length - n+costs r d)+1)+q.length:=by simp[costs];omega
    rw[J];refine xC hF u y z t hC _ g (fun j e=>?_) q listed a s h;refine⟨fun E=>(by rw[x]at E;cases E),fun f G=>?_⟩;rw[x]at G;have L:f=i:=by simpa using G
    subst L;cases v:l[f]? with
    |none=>
     exfalso;have:f∈Region.ready md l.toArray g:=by rw[x];simp
     obtain⟨_,H,N,_⟩:=VK.1 this;simp[v]at N
    | some H =>
     rw[v]at e;simp only[Option.toList,wpListIn]at e;unfold wpOpIn;have O:l.toArray[f]?=some H:=by simpa using v
     simp only[O];have step:∀k c,C c/\tK F m P l C Q (fun j c=>wpListIn F m P l.toArray Q (l.drop n) j c) r d k c->(f<n->C c)/\uQ F m P md l.toArray n C Q (l.length - n+costs r d) (g.setIfInBounds f true) k c:=
      fun k c p=>⟨fun _=>p.1,EF hF u y z t M r d _ k c p.1 b p.2⟩
     split
     . rename_i A;rw[Ty A]at e;exact Oper.wpIn_mono (fun k c K=>step k c K) (P9 e)
     . rename_i A;rw[T9 A]at e;exact⟨fun o _=>hF o,step _ _ e.2⟩
  . cases b
end
theorem LG{e:List Oper}(f:q.filterMap (l[·]?)=e)(b:∀K:Act->Prop,(∀c,d c w->K c)->wpQuiet P l.toArray C K e a):tK F m P l C Q d [] q a w:=by
 subst f;exact b _ fun _ b=>b
theorem J3{i:Nat}{r:List (List Nat×Nat)}{h f:List Oper}(p:q.filterMap (l[·]?)=h)(s:(l[i]?).toList=f)(j:∀K:Act->Prop,(∀b,(∀K2:Act->World->Prop,(∀d c,C c->tK F m P l C Q e r g d c->K2 d c)->wpListIn F m P l.toArray (Exit.then K2 Q) f b w)->K b)->wpQuiet P l.toArray C K h a):tK F m P l C Q e ((q,i)::r) g a w:=by
 subst p s;refine j _ fun b k=>?_;exact k _ fun _ _ n o=>⟨n,o⟩
theorem JD(f:i->World)(n:Nat)(d:List (List Nat×Nat))(q:List Nat)(h0:∃b,w.drew=f b)(hF:∀f,F.fn f)(x:Be l.toArray=true)(v:P.follows .mixedOrders=true)(e:Ej l.toArray n d q=true)(u:∀g a k y w,Q (.panic g) (a.put k y) w->Q (.panic g) a w)(p:tK F m P l (fun c=>∃b,c=f b) Q (fun j c=>wpListIn F m P l.toArray Q (l.drop n) j c) d q a w.drew):(Code.region id l.toArray true).wpIn F m P Q a w:=by
 unfold Ej at e;simp only[RV,Tv]at e;obtain⟨⟨⟨⟨r,s⟩,z⟩,h⟩,t⟩:=e;refine wpIn_region_any v (Bp (C:=fun c=>∃b,c=f b) (n:=n) _ _ _ _ ?_);have:=EF hF x (C:=fun c=>∃b,c=f b) (md:=.any) r s u (by simpa using h) d q _ a w.drew h0 t p;have o:l.length - n+costs d q=l.toArray.size:=by
  have:n<=l.length:=by simpa using h
  simp;omega
 rw[o]at this;exact this
section
variable {F:Fence}{m:Nat}{P:Program}{l:List Oper}{C:World->Prop}{Q:Exit->Act->World->Prop}{fin:Act->World->Prop}{q:List Nat}{i j:Nat}{q':List Nat}{r:List (List Nat×Nat)}{a:Act}{w:World}{o o2:Oper}
theorem OQ(e:List Oper)(g:q.filterMap (l[·]?)=e)(h:(l[i]?).toList=[o])(f:∀K:Act->Prop,(∀c,(∀K2:Act->World->Prop,(∀d b,C b->tK F m P l C Q fin r q' d b->K2 d b)->wpListIn F m P l.toArray (Exit.then K2 Q) [o] c w)->K c)->wpQuiet P l.toArray C K e a):tK F m P l C Q fin ((q,i)::r) q' a w:=J3 g h f
theorem Sl(f:(l[i]?).toList=[o])(d:∀K2:Act->World->Prop,(∀c b,C b->tK F m P l C Q fin r q' c b->K2 c b)->wpListIn F m P l.toArray (Exit.then K2 Q) [o] a w):tK F m P l C Q fin (([],i)::r) q' a w:=OQ [] rfl f fun _ e=>qn e d
theorem Q5(c:List Oper)(e:q.filterMap (l[·]?)=c)(d:∀K:Act->Prop,(∀b,fin b w->K b)->wpQuiet P l.toArray C K c a):tK F m P l C Q fin [] q a w:=LG e d
theorem OT(b:fin a w):tK F m P l C Q fin [] [] a w:=Q5 [] rfl fun _ c=>qn c b
end
theorem PI{g:Type}{f:g->World}(i:Zz (tN C g f))(n:Nat)(d:List (List Nat×Nat))(q:List Nat)(h0:C w.drew)(hF:∀f,F.fn f)
    (c:tK F m P l (fun e=>∃s,e=f s) Q (fun j e=>wpListIn F m P l.toArray Q (l.drop n) j e) d q a w.drew) (r:Be l.toArray=true:=by kernel_rfl) (p:P.follows .mixedOrders=true:=by kernel_rfl) (k:Ej l.toArray n d q=true:=by kernel_rfl)
    (o:∀h a b t w,Q (.panic h) (a.put b t) w->Q (.panic h) a w:=by exact fun _ _ b _ _ c=>by cases b<;>exact c):(Code.region id l.toArray true).wpIn F m P Q a w:=JD f n d q (i.o.o _ h0) hF r p k o c
def M.De:Option Nat->Int
 |some k=>k
 |none=> -1
theorem Sr{a b:ByteArray}(d:(a.toList==b.toList)=true):a=b:=by
 have c:=Ue.1 d;rw[Uv,Uv]at c;exact ByteArray.ext (VB.1 c)
theorem uB(a b:ByteArray):(a.toList==b.toList)=decide (a=b):=by
 cases c:(a.toList==b.toList)
 . exact(SS fun d=>by rw[d]at c;simp at c).symm
 . exact(Tw (Sr c)).symm
section
variable {α:Type}{l:List α}{k:Nat}{x:α}{nm:α->ByteArray}{n:ByteArray}
theorem K6(b:l[k]?=some x)(f:((nm x).toList==n.toList)=true)(h0:((l.take k).any fun a=>(nm a).toList==n.toList)=false):(l.findIdx? fun a=>decide (nm a=n))=some k:=by
 have c:=(Tt.1 b).1;rw[TH];refine⟨c,?_,fun d h=>?_⟩
 . have e:l[k]=x:=by rw[CU c]at b;injection b
   rw[e,<-uB];exact f
 . have g:=Vl.1 h0 l[d] (by rw[List.mem_iff_getElem];exact⟨d,by simp;omega,Zl⟩);rw[<-uB];simpa using g
theorem Ia(b:(l.any fun a=>(nm a).toList==n.toList)=false):(l.findIdx? fun a=>decide (nm a=n))=none:=by
 rw[List.findIdx?_eq_none_iff];intro d c;rw[<-uB];simpa using Vl.1 b d c
theorem Oy(b:l[k]?=some x)(e:((nm x).toList==n.toList)=true)(h0:((l.take k).any fun a=>(nm a).toList==n.toList)=false):(l.find? fun a=>decide (nm a=n))=some x:=by
 have c:=(Tt.1 b).1;rw[List.find?_eq_some_iff_getElem];refine⟨by rw[<-uB];exact e,k,c,by rw[CU c]at b;injection b,fun d g=>?_⟩;have f:=Vl.1 h0 l[d] (by rw[List.mem_iff_getElem];exact⟨d,by simp;omega,Zl⟩);rw[<-uB];simpa using f
theorem Ms(b:(l.any fun a=>(nm a).toList==n.toList)=false):(l.find? fun a=>decide (nm a=n))=none:=by
 rw[List.find?_eq_none];intro d c;rw[<-uB];simpa using Vl.1 b d c
end
theorem LW{l:List α}{q:α->Bool}{x:α}(b:l[k]?=some x)(a:q x=false)(h0:(l.take k).any q=false):(l.take (k+1)).any q=false:=by
 rw[Td,b,List.any_append,h0];simp[a]
theorem jq.after{g:Nat}(t:TypeId)(cs:Array Value)(a:W=g):jq (W.alloc (.cells cs t)) g t cs:=by
 subst a;exact jq.new W t cs
theorem Kp.duo{D:Nat->Prop}(a:D b)(c d:Value):Kp D w ((w.setCell b c).setCell (b,1) d):=
 ((Kp.refl D w).setCell (p:=⟨b,0,none⟩) (fun _=>a) c).setCell (p:=⟨b,1,none⟩) (fun _=>a) d
theorem jq.duo(d:jq w b t #[u0,u1])(a c:Value):jq ((w.setCell b a).setCell (b,1) c) b t #[a,c]:=by
 have e:jq (w.setCell b a) b t #[a,u1]:=d.jR 0 a;have f:jq ((w.setCell b a).setCell (b,1) c) b t #[a,c]:=e.jR 1 c;exact f
theorem PK(w:World)(I:Nat->Prop){v:Value}(l:List M.Field)(h:SliceOf 3 lI w I v l)(nm:ByteArray):Calls prog 153 #[v,nm] w fun n p=>n=.returned (.int .i64 (M.De (l.findIdx? fun c=>decide (c.name=nm))))/\Ext w p:=by
 obtain⟨q,s,rfl,A,y⟩:=h.form;go_enter func153,ntmps153;go_wp2;go_loopw [5] (fun e wr=>∃a:Nat,a<=l.length/\e=.int .i64 a/\wr=w/\Zz ((l.take a).any (fun c=>c.name.toList==nm.toList)=false)) (fun e _=>l.length - (intOf e).toNat)
 case atStart=>exact⟨0,Tz _,rfl,rfl,Zy Zl⟩
 case round=>
  obtain⟨a,z,rfl,rfl,b⟩:=hrel;by_cases j:a<l.length
  . have m:(a:Int)<l.length:=Zm
    obtain⟨f,d⟩:∃f,l[a]?=some f:=⟨l[a]'j,CU j⟩;obtain⟨r,B,t,rfl,x,rfl,-,i⟩:=h.get d;obtain⟨o,-⟩:=i.three;have u:=jv o;have g:=Zy d;clear d i;cases k:(f.name.toList==nm.toList)
    . go_wp2;go_round
      case rel=>exact⟨a+1,Zm,Zk,trivial,Zy (LW g.o k b.o)⟩
      case measure=>exact Zj
    . go_wp2;go_ret;exact⟨by rw[K6 g.o k b.o];rfl,Kp.rr⟩
  . have m:¬(a:Int)<l.length:=Zm
    go_wp2;go_ret;exact⟨by have:=b.o;rw[Tq Zm]at this;rw[Ia this];rfl,Kp.rr⟩
theorem GJ(w:World)(I:Nat->Prop){v:Value}(l:List M.Method)(h:SliceOf 8 jy w I v l)(nm:ByteArray):Calls prog 155 #[v,nm] w fun n p=>n=.returned (.int .i64 (M.De (l.findIdx? fun c=>decide (c.name=nm))))/\Ext w p:=by
 obtain⟨q,s,rfl,A,y⟩:=h.form;go_enter func155,ntmps155;go_wp2;go_loopw [5] (fun e wr=>∃a:Nat,a<=l.length/\e=.int .i64 a/\wr=w/\Zz ((l.take a).any (fun c=>c.name.toList==nm.toList)=false)) (fun e _=>l.length - (intOf e).toNat)
 case atStart=>exact⟨0,Tz _,rfl,rfl,Zy Zl⟩
 case round=>
  obtain⟨a,z,rfl,rfl,b⟩:=hrel;by_cases j:a<l.length
  . have m:(a:Int)<l.length:=Zm
    obtain⟨f,d⟩:∃f,l[a]?=some f:=⟨l[a]'j,CU j⟩;obtain⟨r,B,t,rfl,x,⟨_,_,_,rfl,-,-,-⟩,-,i⟩:=h.get d;obtain⟨o,-⟩:=i.eight;have u:=jv o;have g:=Zy d;clear d i;cases k:(f.name.toList==nm.toList)
    . go_wp2;go_round
      case rel=>exact⟨a+1,Zm,Zk,trivial,Zy (LW g.o k b.o)⟩
      case measure=>exact Zj
    . go_wp2;go_ret;exact⟨by rw[K6 g.o k b.o];rfl,Kp.rr⟩
  . have m:¬(a:Int)<l.length:=Zm
    go_wp2;go_ret;exact⟨by have:=b.o;rw[Tq Zm]at this;rw[Ia this];rfl,Kp.rr⟩
theorem K7(w:World)(I:Nat->Prop)(v q:Value)(l:List Class)(e:SliceOf 4 jT w I v l)(nm:ByteArray):Calls prog 116 #[.agg #[v,q],nm] w fun y A=>y=.returned (.int .i64 (M.De (l.findIdx? fun d=>decide (d.name=nm))))/\Ext w A:=by
 obtain⟨t,u,rfl,L,J⟩:=e.form;obtain⟨B,p,j,k⟩:=nu w #[.slice t l.length u,q] 32;obtain⟨F,D,-⟩:=k.ca;have⟨r,c,s⟩:=jI e j p;clear j k p e;go_enter func116,ntmps116;go_wp2_with fail;rw[<-s.o];go_loopw [5] (fun g wr=>∃a:Nat,a<=l.length/\g=.int .i64 a/\wr=B/\Zz ((l.take a).any (fun d=>d.name.toList==nm.toList)=false)) (fun g _=>l.length - (intOf g).toNat)
 case atStart=>exact⟨0,Tz _,rfl,rfl,Zy Zl⟩
 case round=>
  obtain⟨a,K,rfl,rfl,b⟩:=hrel;by_cases n:a<l.length
  . have x:(a:Int)<l.length:=Zm
    obtain⟨h,f⟩:∃h,l[a]?=some h:=⟨l[a]'n,CU n⟩;obtain⟨C,N,E,rfl,H,⟨_,_,rfl,-,-⟩,-,m⟩:=r.get f;obtain⟨z,-⟩:=(m.ext c).four;have G:=jv z;have i:=Zy f;clear f m;cases o:(h.name.toList==nm.toList)
    . go_wp2;go_round
      case rel=>exact⟨a+1,Zm,Zk,trivial,Zy (LW i.o o b.o)⟩
      case measure=>exact Zj
    . go_wp2;go_ret;exact⟨by rw[K6 i.o o b.o];rfl,c⟩
  . have x:¬(a:Int)<l.length:=Zm
    go_wp2;go_ret;exact⟨by have:=b.o;rw[Tq Zm]at this;rw[Ia this];rfl,c⟩
theorem QI(w:World){I:Nat->Prop}(v q:Value)(l:List M.Ask)(e:SliceOf 2 vL w I v l)(nm:ByteArray):Calls prog 118 #[.agg #[q,v],nm] w fun y A=>y=.returned (.int .i64 (((l.find? fun d=>decide (d.name=nm)).map M.Ask.keeper).getD (-1)))/\Ext w A:=by
 obtain⟨t,u,rfl,N,K⟩:=e.form;obtain⟨B,p,j,k⟩:=nu w #[q,.slice t l.length u] 32;obtain⟨F,-,D,-⟩:=k.ca;have⟨r,c,s⟩:=jI e j p;clear j k p e;go_enter func118,ntmps118;go_wp2_with fail;rw[<-s.o];go_loopw [5] (fun g wr=>∃a:Nat,a<=l.length/\g=.int .i64 a/\wr=B/\Zz ((l.take a).any (fun d=>d.name.toList==nm.toList)=false)) (fun g _=>l.length - (intOf g).toNat)
 case atStart=>exact⟨0,Tz _,rfl,rfl,Zy Zl⟩
 case round=>
  obtain⟨a,L,rfl,rfl,b⟩:=hrel;by_cases n:a<l.length
  . have x:(a:Int)<l.length:=Zm
    obtain⟨h,f⟩:∃h,l[a]?=some h:=⟨l[a]'n,CU n⟩;obtain⟨C,O,E,rfl,J,rfl,-,m⟩:=r.get f;obtain⟨z,G⟩:=(m.ext c).two;have H:=jv z;have i:=Zy f;clear f m;cases o:(h.name.toList==nm.toList)
    . go_wp2;go_round
      case rel=>exact⟨a+1,Zm,Zk,trivial,Zy (LW i.o o b.o)⟩
      case measure=>exact Zj
    . go_wp2;go_ret;exact⟨by rw[Oy i.o o b.o];rfl,c⟩
  . have x:¬(a:Int)<l.length:=Zm
    go_wp2;go_ret;exact⟨by have:=b.o;rw[Tq Zm]at this;rw[Ms this];rfl,c⟩
theorem M.MQ{k:Int}(a:has p k=true):∃(j:Nat)(q:mZ),k=j/\p[j]?=some q/\mQ p k=some q:=by
 unfold has at a;simp only[RV,Tv]at a;refine⟨k.toNat,p[k.toNat]'Zm,Zm,CU Zm,?_⟩;unfold mQ;rw[Ty a.1,CU Zm]
theorem M.Rm{k:Int}{q:mZ}(b:mQ p k=some q)(n:ByteArray):ve p k n=(q.asks.find? fun a=>decide (a.name=n)).map M.Ask.keeper:=by
 unfold ve;rw[b];rfl
theorem M.Pv{k:Int}{q:mZ}(c:mQ p k=some q)(n:ByteArray):owned p ⟨k,n⟩=(q.owns.findIdx? fun a=>decide (a.name=n)).isSome:=by
 unfold owned cls?;simp only[c,Tn];cases b:q.owns.findIdx? fun a=>decide (a.name=n)with
 |none=>
  rw[List.findIdx?_eq_none_iff]at b;rw[Ua,Option.isSome_eq_false_iff,Option.isNone_iff_eq_none,List.find?_eq_none];intro g f;simpa using b g f
 |some h=>
  obtain⟨e,d,-⟩:=TH.1 b;rw[Ul,Wt];exact⟨_,Vw e,by simpa using d⟩
theorem E5(w:World)(I:Nat->Prop)(v:Value)(p:jl)(Y:SliceOf 2 jo w I v p)(ag:kv p=true)(k:Int)(hk:has p k=true)(nm:ByteArray):Calls prog 157 #[.agg #[v],k,nm] w fun i w'=>i=.returned (.tuple #[.agg #[.int .i64 (M.resolve p k nm).1.keeper,.string (M.resolve p k nm).1.name],.int .i64 (M.resolve p k nm).2])/\Ext w w':=by
 obtain⟨z,W⟩:∃z,M.resolve p k nm=z:=⟨_,rfl⟩;have hG:uD p nm 4 k=z:=(zg hk nm).trans W;rw[W];clear W;obtain⟨rr,rc⟩:=z;obtain⟨A,B,rfl,hn,hc⟩:=Y.form;obtain⟨r,t⟩:=S9 ((w.alloc (.cells #[.slice A p.length B] 25)).alloc (.cells #[Tj,""] 64));have U:Ext w r:=by rw[t];exact Zx
 have ae:Zz (jq r w 25 #[.slice A p.length B]):=Zy (by rw[t];exact(jq.new _ _ _).ext Zx);have ah:Zz (jq r (w+1) 64 #[Tj,""]):=Zy (by rw[t];exact jq.after _ _ Zl);have⟨HP,ai,av,ak⟩:=kD (Y.ext jo.stays U) U t ag;clear t U Y ag;go_enter func157,ntmps157;go_upto_region 1 with(fail);rw[<-av.o];go_wp2;go_loopw [8,9] (fun ax n wr=>∃(b:Nat)(k:Int),b<=4/\n=.int .i64 b/\ax=.int .i64 k/\Zz (has p k=true/\uD p nm (4 - b) k=(rr,rc))/\Ext r wr) (fun _ n _=>4 - (intOf n).toNat)
 case atStart=>exact⟨0,k,Zm,rfl,rfl,Zy ⟨hk,hG⟩,Kp.rr⟩
 case round=>
  obtain⟨b,k,hm,rfl,rfl,m,o⟩:=hrel;have O:=Zy o;have D:=ah.ext o;have L:=Zy D;have K:Zz (∀Q,Ext wr Q->∀v0 v1,Ext w ((Q.setCell ⟨w+1,0,none⟩ v0).setCell ⟨w+1,1,none⟩ v1)):=Zy (fun Q hW v0 v1=>((ai.trans O).trans hW).own (Kp.duo (D:=(·=w+1)) rfl v0 v1) (fun aA i=>Zm));by_cases aF:b<4
  . have dk:(b:Int)<=3:=Zm
    obtain⟨G,e,rfl,Z,X⟩:=MQ m.1;have aC:G<p.length:=(Tt.1 Z).1;have aD:(G:Int)<p.length:=Zm
    obtain⟨bk,ok,ks,rfl,-,ay,-,af⟩:=(HP.ext jo.stays o).get Z;obtain⟨vo,va,rfl,V,T⟩:=ay;obtain⟨oa,oc,rfl,-,-⟩:=V.form;obtain⟨aa,ac,rfl,-,-⟩:=T.form;obtain⟨x,H⟩:=af.two;have kz:=jv x;have b2:=ae.ext o;obtain⟨cz,c0,-⟩:=b2.ca;have⟨f,HO,l,au⟩:=kD (QI wr _ (.slice oa e.owns.length oc) e.asks T nm) V (Rm X nm) (Pv X nm);clear b2 o V T af X Z;cases E:e.asks.find? fun A=>decide (A.name=nm)with
    | some y =>
     rw[E]at f l;simp only[Vy,TC]at f;have F:has p y.keeper=true:=El ak (k:=G) (n:=nm) l;have aG:¬y.keeper<0:=by
      unfold has at F;simp only[RV,Tv]at F;omega
     have aj:Zz (has p y.keeper=true/\uD p nm (4 - (b+1)) y.keeper=(rr,rc)):=Zy ⟨F,by
      have:=m.2;rw[show 4 - b=(4 - (b+1))+1 by omega,uD,l.o]at this;exact this⟩
     clear E F m;go_wp2_with fail;refine f.mono ?_;rintro i J ⟨rfl,a⟩;have g:=Zy (O.trans a);clear a;go_wp2;go_round
     case rel=>exact⟨b+1,y.keeper,Zm,Zk,rfl,aj,g.o⟩
     case measure=>exact Zj
    | none =>
     rw[E]at f l;simp only[Option.map_none,Vv]at f;have c:=m.2;rw[show 4 - b=(4 - (b+1))+1 by omega,uD,l.o]at c;simp only[Option.map_none]at c;rw[au.o]at c;clear E m l;have C:=ae.ext O;cases q:e.owns.findIdx? fun B=>decide (B.name=nm)with
     |none=>
      rw[q]at c;simp only[Ua,U3,Uq]at c;cases c;go_wp2_with fail;refine f.mono ?_;rintro i J ⟨rfl,a⟩;have h:=Zy (K7 J I _ (.slice aa e.asks.length ac) e.owns (HO.ext jT.stays a) nm);rw[q]at h;simp only[M.De]at h;have u:=a.jm x;have j1:=a.jm H;have jz:=jv u;have s:=C.ext a;obtain⟨S,R,-⟩:=s.ca;have g:=Zy a;clear a s q x H kz c0 cz C;go_wp2_with fail;refine h.mono ?_;rintro i w6 ⟨rfl,j⟩;have d:=(L.ext g).ext j;have⟨N,P⟩:=jw d (g.trans j);obtain⟨gz,g0,g1,-⟩:=d.ca;obtain⟨f0,f1,-⟩:=d.fz;clear d j u j1 jz R S;go_wp2_with fail;refine PG (hU qF rfl (w+1) rfl [Tj,""] (hQ.kX (N.duo _ _)) rfl) rfl ?_;exact⟨rfl,K _ P _ _⟩
     |some az=>
      rw[q]at c;simp only[Ul,Uy]at c;cases c;go_wp2_with fail;refine f.mono ?_;rintro i J ⟨rfl,a⟩;have h:=Zy (K7 J I _ (.slice aa e.asks.length ac) e.owns (HO.ext jT.stays a) nm);rw[q]at h;simp only[M.De]at h;have aB:¬((az:Int)<0):=Zm
      have u:=a.jm x;have j1:=a.jm H;have jz:=jv u;have s:=C.ext a;obtain⟨S,R,-⟩:=s.ca;have g:=Zy a;clear a s q x H kz c0 cz C;go_wp2_with fail;refine h.mono ?_;rintro i w6 ⟨rfl,j⟩;have d:=(L.ext g).ext j;have⟨N,P⟩:=jw d (g.trans j);obtain⟨gz,g0,g1,-⟩:=d.ca;obtain⟨f0,f1,-⟩:=d.fz;clear d j u j1 jz R S;go_wp2_with fail;refine PG (hU qF rfl (w+1) rfl [G,nm] (hQ.kX (N.duo _ _)) rfl) rfl ?_;exact⟨rfl,K _ P _ _⟩
  . have dk:¬(b:Int)<=3:=Zm
    obtain rfl:b=4:=Zm
    have c:(q9,(3:Int))=(rr,rc):=m.2;cases c;obtain⟨gz,g0,g1,-⟩:=D.ca;obtain⟨f0,f1,-⟩:=D.fz;clear o D;go_wp2_with fail;refine PG (hU qF rfl (w+1) rfl [Tj,""] (hQ.kX (L.duo _ _)) rfl) rfl ?_;exact⟨rfl,K _ Kp.rr _ _⟩
theorem Oc:zQ 38 4:=⟨_,underlying38,Zo⟩
theorem M.Om(b:cls? p r=some c):∃(j:Nat)(q:mZ)(i:Nat),r.keeper=j/\p[j]?=some q/\(q.owns.findIdx? fun c=>decide (c.name=r.name))=some i/\q.owns[i]?=some c:=by
 unfold cls? at b;rw[V8]at b;obtain⟨q,a,e⟩:=b;unfold mQ at a;split at a
 . rename_i l;rw[List.find?_eq_some_iff_getElem]at e;obtain⟨g,i,f,d,h⟩:=e;refine⟨r.keeper.toNat,q,i,Zm,a,?_,by rw[CU f,d]⟩;rw[TH];exact⟨f,by rw[d];exact g,fun j k=>by simpa using h j k⟩
 . cases a
theorem jq.KV{u2 u3: Value}(f:jq w b t #[u0,u1,u2,u3])(a c d e:Value):jq ((((w.setCell b a).setCell (b,1) c).setCell (b,2) d).setCell (b,3) e) b t #[a,c,d,e]/\Kp (·=b) w ((((w.setCell b a).setCell (b,1) c).setCell (b,2) d).setCell (b,3) e):=by
 have g:jq (w.setCell b a) b t #[a,u1,u2,u3]:=f.jR 0 a;have h:jq ((w.setCell b a).setCell (b,1) c) b t #[a,c,u2,u3]:=g.jR 1 c;have i:jq (((w.setCell b a).setCell (b,1) c).setCell (b,2) d) b t #[a,c,d,u3]:=h.jR 2 d;have j:jq ((((w.setCell b a).setCell (b,1) c).setCell (b,2) d).setCell (b,3) e) b t #[a,c,d,e]:=i.jR 3 e;exact⟨j,qM⟩
theorem oW(w:World)(I:Nat->Prop)(v:Value)(p:jl)(A:SliceOf 2 jo w I v p)(r:Ref)(c:Class)(P:cls? p r=some c):∃i,jT w I c i/\∀W,Ext w W->Calls prog 81 #[.agg #[v],.agg #[r.keeper,r.name]] W fun q w'=>q=.returned (.agg i.toArray)/\Ext W w':=by
 obtain⟨k,m,T,S,B,z,y⟩:=Om P;obtain⟨rk,C⟩:=r;simp only at S z;subst S;obtain⟨ak,h,rfl,hn,ay⟩:=A.form;have aB:k<p.length:=(Tt.1 B).1;have aC:(k:Int)<p.length:=Zm
 have az:T<m.owns.length:=(Tt.1 y).1;have aA:(T:Int)<m.owns.length:=Zm
 obtain⟨g,l,ks,rfl,-,ai,-,Q⟩:=A.get B;obtain⟨vo,va,rfl,j,K⟩:=ai;obtain⟨oa,oc,rfl,-,-⟩:=j.form;obtain⟨aa,ac,rfl,-,-⟩:=K.form;obtain⟨bo,oo,i,rfl,ax,t,-,R⟩:=j.get y;refine⟨i,t,fun W x=>?_⟩;obtain⟨xa,xb,xc,xd,rfl⟩:=t.form;obtain⟨U,V⟩:=Q.two;obtain⟨X,Y,Z,x3⟩:=R.four;have⟨HO,af⟩:=jw j x;clear j K Q R t A P B y;obtain⟨d,f⟩:=S9 (((W.alloc (.cells #[.slice (some ⟨g,l,none⟩) p.length h] 25)).alloc (.cells #[k,C] 64)).alloc (.cells #["","",(),()] 38));have u:Ext W d:=by rw[f];exact Zx
 have F:jq d W 25 #[.slice (some ⟨g,l,none⟩) p.length h]:=by rw[f];exact(jq.new _ _ _).ext Zx
 have G:jq d (W+1) 64 #[k,C]:=by rw[f];exact(jq.after (W:=W.alloc (.cells #[.slice (some ⟨g,l,none⟩) p.length h] 25)) _ _ Zl).ext Zx
 have H:jq d (W+2) 38 #["","",(),()]:=by rw[f];exact jq.after _ _ Zl
 have⟨ae,D,ag⟩:=jI H u f;obtain⟨aj,av,aD,b⟩:=lL d;have c2:=fun a=>(F.ext (b.jC a)).c 0 (.slice (some ⟨g,l,none⟩) p.length h) rfl;obtain⟨-,d0,d1,-⟩:=jq.pq fun a=>(G.ext (b.jC a));have e:=x.trans u;have e0:=fun a=>(e.trans (b.jC a)).jm U;have e1:=fun a=>(e.trans (b.jC a)).jm V;have y0:=fun a=>(e.trans (b.jC a)).jm X;have y1:=fun a=>(e.trans (b.jC a)).jm Y;have y2:=fun a=>(e.trans (b.jC a)).jm Z;have y3:=fun a=>(e.trans (b.jC a)).jm x3;have E:=Zy b;clear b U V X Y Z x3 F G H u f e x;go_enter func81,ntmps81;go_upto_region 1 with(fail);rw[<-ag.o];refine lq E 18 [([0,1,2,3,4,5,6,7,8,9,10,11,12,13,14],15)] [16,17] ?_ ?_
 . exact jA
 refine nE ?_;intro K2 O;go_wp2_with fail;have s:Ext d d.drew:=jA;refine(K7 d.drew I _ (.slice aa m.asks.length ac) m.owns (HO.ext jT.stays ((af.trans D).trans s)) C).mono ?_;rw[z];simp only[M.De];rintro q w1 ⟨rfl,L⟩;have o:=Zy (s.trans L);have n:=Zy (ae.ext o);clear s L z;go_wp2_with fail;refine kk E O o ?_;clear O K2;refine qX [_,_] rfl fun ah N=>?_;(repeat (go_big_quiet_step (fail)));refine qn N ?_;clear N ah;obtain⟨gz,g0,g1,g2,g3,-⟩:=n.ca;obtain⟨f0,f1,f2,f3,-⟩:=n.fz;go_wp2_with fail;have J:=n.KV c.name c.jE (.slice xa c.fields.length xb) (.slice xc c.methods.length xd);refine PG (jM Oc rfl (W+2) rfl [c.name,c.jE,.slice xa c.fields.length xb,.slice xc c.methods.length xd] (hQ.kX J.1) rfl) rfl ?_;exact⟨rfl,(D.trans o).own J.2 (fun au q=>Zm)⟩
theorem EZ(w:World)(I:Nat->Prop){v:Value}(p:jl)(i:SliceOf 2 jo w I v p)(r:Ref)(b:Class)(h:cls? p r=some b):Calls prog 81 #[.agg #[v],.agg #[r.keeper,r.name]] w fun e d=>(∃a,e=.returned (.agg a.toArray)/\jT d I b a)/\Ext w d:=by
 obtain⟨a,c,g⟩:=oW w I v p i r b h;refine(g w Kp.rr).mono ?_;rintro e d ⟨rfl,f⟩;exact⟨⟨a,rfl,jT.stays _ _ _ _ _ _ (Ext.same f) (fun _ c=>c) c⟩,f⟩
theorem M.sM(b:owned p r=true):has p r.keeper=true/\∃a,cls? p r=some a:=by
 unfold owned at b;obtain⟨a,c⟩:=Vh.1 b;refine⟨?_,a,c⟩;obtain⟨g,h,f,d,e,-⟩:=Om c;have:=(Tt.1 e).1;unfold has;rw[d];simp;omega
theorem M.Fq(a:cls? p r=some c):jE p r=c.jE:=by
 unfold jE;rw[a];rfl
theorem M.Cf{k:Int}(b:has p k=true){n:ByteArray}(a:(M.resolve p k n).2=1):owned p (M.resolve p k n).1=true/\(M.resolve p k n).1.name=n:=by
 rw[<-zg b]at a |-;exact JV p n 4 k a
theorem M.Ml(b:cls? p r=some c)(a:c.jE=none_):ku p (f+1) r=some [r]:=by
 rw[ku,Fq b,Ty a]
theorem M.Oi(d:cls? p r=some c)(a:c.jE≠none_)(b:(M.resolve p r.keeper c.jE).2≠1):ku p (f+1) r=none:=by
 rw[ku,Fq d,T9 a,T9 b]
theorem M.Oj(d:cls? p r=some c)(a:c.jE≠none_)(b:(M.resolve p r.keeper c.jE).2=1):ku p (f+1) r=(ku p f (M.resolve p r.keeper c.jE).1).map (r::·):=by
 rw[ku,Fq d,T9 a,Ty b]
def RX(r:Ref):List Value:=[.int .i64 r.keeper,.string r.name]
def NU(w w':World)(o:Option (List Ref))(e:Ending):Prop:=∃v,e=.returned (.tuple #[v,.bool o.isSome])/\SliceOf 2 qN w' (fun b=>w.heap.size<=b) v (o.getD [])
theorem DY{a:Option (List Ref)}(b:a=none){g:Nat}:NU w (W.alloc (.cells #[] 64)) a (.returned (.tuple #[.slice (some ⟨g,0,none⟩) 0 0,.bool false])):=by
 subst b;exact⟨_,rfl,_,_,rfl,Tu _,Zl,fun d e c=>by simp at c⟩
theorem uo(w:World)(I:Nat->Prop)(hI:∀f,I f->f<w.heap.size){v:Value}(p:jl)(hp:SliceOf 2 jo w I v p)(aT:kv p=true)(r:Ref)(hr:owned p r=true):Calls prog 120 #[.agg #[v],.agg #[r.keeper,r.name]] w fun b w'=>NU w w' (nk p r) b/\Ext w w':=by
 obtain⟨C,F,rfl,hn,bZ⟩:=hp.form;obtain⟨l,H⟩:∃l,nk p r=l:=⟨_,rfl⟩;rw[H];unfold nk at H;obtain⟨i,o⟩:=S9 ((((w.alloc (.cells #[.slice C p.length F] 25)).alloc (.cells #[r.keeper,r.name] 64)).alloc (.cells #[r.keeper,r.name] 64)).alloc (.cells #[r.keeper,r.name] 64));have aa:Ext w i:=by rw[o];exact Zx
 have b2:jq i w 25 #[.slice C p.length F]:=by rw[o];exact(jq.new _ _ _).ext Zx
 have b6:jq i (w+2) 64 #[r.keeper,r.name]:=by rw[o];exact(jq.after (W:=(w.alloc (.cells #[.slice C p.length F] 25)).alloc (.cells #[r.keeper,r.name] 64)) _ _ Zl).ext Zx
 have b7:jq i (w+3) 64 #[r.keeper,r.name]:=by rw[o];exact jq.after _ _ Zl
 have aY:i.heap.size=w+4:=by rw[o];simp
 have aU:i.ownsRow w 64 2 (.slice (some ⟨w+2,0,none⟩) 1 1) 1 (RX r):=⟨rfl,.inr ⟨w+2,1,_,rfl,Zm,b6,Tu _,by unfold maxLen;omega,Zl,by simp[RX]⟩⟩;have⟨HP,bg,bu,bN,bF,bU,bI,bM,HO⟩:=AV (hp.ext jo.stays aa) b2 b7 aU aa aY hI aT H;have⟨HR,bR⟩:=jw hr o;clear hp b2 b6 b7 aU aa aY hI aT H hr o;go_enter func120,ntmps120;go_upto_region 3 with(fail);rw[<-bR.o];go_wp2;go_loopw [6] (fun ah wr=>∃(a:Nat)(k:List Ref)(d:Ref)(g m:Nat),a<=6/\k.length=a/\ah=.slice (some ⟨g,0,none⟩) (a+1) m/\Zz (wr.ownsRow w 64 2 (g,a+1,m) (a+1) ((k++[d]).flatMap RX))/\g≠w+3/\Zz (w+2<=g/\owned p d=true/\l=(ku p (6 - a) d).map (k++ ·))/\jq wr (w+3) 64 #[d.keeper,d.name]/\Kp (fun f=>w.heap.size+2<=f) i wr) (fun ah _=>8 - (match ah with| .slice _ n _=>n|_=>0))
 case atStart=>exact⟨0,[],r,w.heap.size+2,1,Zm,rfl,rfl,Zy (by simpa using bN.o),Zm,Zy ⟨Zm,HR.o,by rw[<-HO.o];simp⟩,bu,Kp.rr⟩
 case round=>
  obtain⟨a,k,d,g,m,hm,aL,rfl,Y,cK,j,aM,q⟩:=hrel;have⟨N,P,bK⟩:=jI aL aM q;have T:Zz (Ext w wr):=Zy (bF.own q fun f hb=>Zm);have aD:Zz ((w:Nat)+4<=(wr:Nat)):=Zy (Tf q.size bU.o);have av:=Zy (HP.keep jo.stays (q.same fun f hb b=>Te (bI.o f hb)) (fun _ c=>c));have J:=bg.kp q Zm;have bq:=Zy J;clear aM q aL;by_cases cZ:a<6
  . have dk:((a+1:Nat):Int)<=6:=Zm
    obtain⟨af,e,hc⟩:=sM j.2.1;have bE:=Zy (Cf af (n:=e.jE));have bT:=fun W hE=>Zy (E5 W I (.slice C p.length F) p (av.ext jo.stays hE) bM d.keeper af e.jE);have⟨aj,R⟩:=jw (EZ wr I p av d e hc) hc;obtain⟨cz,c0,-⟩:=J.ca;obtain⟨E,D,a1,-⟩:=P.ca;clear J hc af;go_wp2_with fail;refine aj.mono ?_;rintro b w4 ⟨⟨cs,rfl,aN⟩,aF⟩;obtain⟨xa,xb,xc,xd,rfl⟩:=aN.form;obtain⟨w5,aV,aG,b8⟩:=nu w4 #[e.name,e.jE,.slice xa e.fields.length xb,.slice xc e.methods.length xd] 38;have t:=aF.trans aG;have⟨A,bn,bz,bB,bO,ay⟩:=pR t (bq.ext t) (P.ext t) b8 (jr (D:=fun _=>False) Y t fun _ _ _ c=>c) aV;clear aF aG t b8 aV c0 cz D a1 E aj aN;obtain⟨sz,-,s1,-⟩:=bB.ca;cases hs:e.jE.toList.isEmpty
    . have ag:e.jE≠none_:=fun b=>by
       have:=l7 e.jE;rw[hs]at this;exact absurd b (Va this.symm)
      obtain⟨dz,d0,-⟩:=bn.ca;obtain⟨E,D,-⟩:=bz.ca;obtain⟨h,s⟩:∃h,M.resolve p d.keeper e.jE=h:=⟨_,rfl⟩;have B:=bT w5 A;rw[s]at B;have ai:Zz (h.2=1->owned p h.1=true):=Zy (fun b=>by have:=bE.o;rw[s]at this;exact(this b).1);have ax:Zz (h.2=1->l=(ku p (6 - (a+1)) h.1).map ((k++[d])++ ·)):=Zy (fun b=>by
       have:=j.2.2;rw[show 6 - a=(6 - (a+1))+1 by omega,Oj R.o ag (by rw[s];exact b),s]at this;rw[this];cases ku p (6 - (a+1)) h.1<;>simp)
      have au:Zz (h.2≠1->l=none):=Zy (fun b=>by
       have:=j.2.2;rw[show 6 - a=(6 - (a+1))+1 by omega,Oi R.o ag (by rw[s];exact b)]at this;simpa using this)
      obtain⟨⟨y,z⟩,rc⟩:=h;simp only at B ai ax au;clear s ag;go_upto_region 7 with(fail);rw[<-ay.o];go_wp2_with fail;refine B.mono ?_;rintro b K ⟨rfl,ae⟩;obtain⟨L,aW,aH,b9⟩:=nu K #[y,z] 64;have G:=A.trans (ae.trans aH);have⟨S,bA,Q⟩:=jI G (P.ext G) b9;have aB:Zz ((wr:Nat)<=K):=Zy (A.trans ae).size;have⟨bP,aA⟩:=jw (jr (D:=fun _=>False) Y G fun _ _ _ c=>c) aW;clear ae aH G b9 aW d0 dz D E s1 sz B;by_cases x:rc=1
      . subst x;obtain⟨rz,r0,r1,-⟩:=Q.ca;go_upto_region 10 with(fail);rw[<-aA.o];obtain⟨w8,aX,u,Z⟩:=nu L #[y,z] 64;have⟨bf,bQ,bG,ak,bC⟩:=nC (hQ.kX Z) (jr (D:=fun _=>False) bP u fun _ _ _ c=>c) (S.trans u) u (Q.ext u);have aC:Zz ((L:Nat)<w8/\(K:Nat)<L/\(w:Nat)<=w8):=Zy ⟨Z.lt,Q.lt,Tf bG.size aD.o⟩;have bS:=Zy aX;clear u Z aX;have bY:=aC.2.2;have bW:a+1+1<=4294967296:=Zm
        go_upto_region 11 with(rw[<-bS.o];refine jF AB rfl (.tmp 36) (.tmp 38) rfl w (g,a+1,m) (a+1) ((k++[d]).flatMap RX) rfl bQ L 1 [y,z] rfl rfl bf Zt bW bY ?_;intro g9 c9 w9 aK aI aO;have bL:=Zy aK;have V:=Zy aI;have bH:=Zy aO;clear aK aI aO);have cO:g<wr:=by
         obtain⟨g',c',b,-,c,-⟩:=ky Y (Nat.succ_pos a);cases b;exact c
        have aQ:¬(Value.slice (some ⟨g,0,none⟩) (a+1) m).ownBlock=some K.heap.size:=by simp[Value.ownBlock];have:=aB.o;omega
        have aR:¬(Value.slice (some ⟨g,0,none⟩) (a+1) m).ownBlock=some (w.heap.size+3):=by simp[Value.ownBlock];omega
        have⟨bD,O⟩:=jw (bC.kp V aQ) ((bA.ext ak).kp V aR);obtain⟨rz,r0,r1,-⟩:=bD.ca;obtain⟨E,D,a1,-⟩:=O.ca;obtain⟨f0,f1,-⟩:=O.fz;clear aQ aR;have aP:g9≠w+3/\w+2<=g9:=by
         have h1:=bH.o;simp only[Value.ownBlock,TQ]at h1;have:=j.1;have:=aC.o;have:=aB.o;have:=aD.o;omega
        have U:=Zy aP;have bX:¬(∃c,(Value.slice (some ⟨g,0,none⟩) (a+1) m).ownBlock=some c/\c<w.heap.size+2):=by simp[Value.ownBlock];have:=j.1;omega
        have bJ:Zz (Kp (fun f=>w.heap.size+2<=f) w8 w9):=Zy (V.weak fun aZ _ hk=>by
         simp only[Value.ownBlock,TQ]at hk;have:=j.1;omega)
        clear aP bX;go_wp2_with fail;have hP:Kp (·=w+3) w9 ((w9.setCell ⟨w+3,0,none⟩ y).setCell ⟨w+3,1,none⟩ z):=Kp.duo (D:=(·=w+3)) rfl _ _;have bV:=jr bL hP fun aZ hk _ b=>by
         simp only[Value.ownBlock,TQ]at hk;have:=U.1;omega
        go_round
        case rel=>exact⟨a+1,k++[d],⟨y,z⟩,g9,c9,Zm,by simp[N.o],rfl,Zy (by simpa [RX]using bV),U.o.1,Zy ⟨U.o.2,ai.o Zl,ax.o Zl⟩,O.o.duo _ _,(((bK.o.trans S.o.any).trans ak.o.any).trans bJ.o).trans (hP.weak fun aZ _ b=>Zm)⟩
        case measure=>simp;omega
      . have cu:(rc==1)=false:=SK.2 x;have X:=Zy (au x);have cB:(rc !=1)=true:=by simpa using x
        clear x;go_wp2_with fail;rw[<-aA.o];go_ret2;exact⟨DY X,(T.trans S).alloc _⟩
    . have aS:e.jE=none_:=by
       have:=l7 e.jE;rw[hs]at this;simpa using this.symm
      have aJ:l=some (k++[d]):=by
       have:=j.2.2;rw[show 6 - a=(6 - (a+1))+1 by omega,Ml R.o aS]at this;simpa using this
      clear aS;go_wp2_with fail;rw[<-ay.o];go_ret2;refine⟨⟨_,by rw[aJ];rfl,?_⟩,T.trans A⟩;rw[aJ];exact SliceOf.mD RX bO (by simp[N.o]) rfl (fun _ _=>rfl) (fun _ _=>rfl) (fun f c _=>c) (by simp[N.o];omega)
  . have dk:¬((a+1:Nat):Int)<=6:=Zm
    obtain rfl:a=6:=Zm
    have X:Zz (l=none):=Zy j.o.2.2;clear J;go_wp2;go_ret2;exact⟨DY X,T.alloc _⟩
theorem zM(w:World)(I:Nat->Prop)(hI:∀c,I c->c<w.heap.size)(v:Value)(p:jl)(o:SliceOf 2 jo w I v p)(F:kv p=true)(k:Int)(E:has p k=true)(nm:ByteArray):Calls prog 156 #[.agg #[v],k,nm] w fun j w'=>j=.returned (.tuple #[.agg #[.int .i64 (find p k nm).1.keeper,.string (find p k nm).1.name],.int .i64 (find p k nm).2])/\Ext w w':=by
 obtain⟨R,T,rfl,hn,ak⟩:=o.form;obtain⟨s,hF⟩:∃s,find p k nm=s:=⟨_,rfl⟩;rw[hF];unfold find at hF;have h:=Zy (Cf E (n:=nm));obtain⟨b,e⟩:=S9 ((w.alloc (.cells #[.slice R p.length T] 25)).alloc (.cells #[Tj,""] 64));have l:Ext w b:=by rw[e];exact Zx
 have J:Zz (jq b w 25 #[.slice R p.length T]):=Zy (by rw[e];exact(jq.new _ _ _).ext Zx);have ae:Zz (jq b (w+1) 64 #[Tj,""]):=Zy (by rw[e];exact jq.after _ _ Zl);have⟨i,HP,L,ah,ag,aj⟩:=pR (E5 b I _ p (o.ext jo.stays l) F k E nm) (o.ext jo.stays l) l F hI e;obtain⟨C,B,-⟩:=J.ca;obtain⟨z,W⟩:∃z,M.resolve p k nm=z:=⟨_,rfl⟩;rw[W]at i h hF;obtain⟨⟨q,r⟩,rc⟩:=z;obtain⟨⟨fk,fn⟩,fc⟩:=s;simp only at i h hF |-;have x:=Zy hF;clear hF W e l o F hI E;go_enter func156,ntmps156;go_wp2_with fail;rw[<-aj.o];refine i.mono ?_;rintro j w1 ⟨rfl,U⟩;obtain⟨w2,X,V,S⟩:=nu w1 #[q,r] 64;have d:=U.trans V;have⟨N,f,aa,K,ai,Q⟩:=pR d (ae.ext d) (J.ext d) S (HP.ext jo.stays d) X;have t:Zz (∀A,Ext w2 A->∀G H,Ext w ((A.setCell ⟨w+1,0,none⟩ G).setCell ⟨w+1,1,none⟩ H)):=Zy (fun A hW G H=>((L.trans N).trans hW).own (Kp.duo (D:=(·=w+1)) rfl G H) (fun c j=>Zm));clear U V d S X B C i;by_cases n:rc=1
 . subst n;have u:=Zy (uo w2 I (fun c hb=>Tf (ag.o c hb) ((L.trans N).size)) p ai.o ah.o ⟨q,r⟩ (h.o Zl).1);obtain⟨y,D⟩:∃y,nk p ⟨q,r⟩=y:=⟨_,rfl⟩;rw[D]at u;have P:=Zy D;clear D h;obtain⟨C,B,-⟩:=aa.ca;obtain⟨rz,Y,Z,-⟩:=K.ca;go_upto_region 4 with(fail);rw[<-Q.o];go_wp2_with fail;refine u.mono ?_;rintro j w3 ⟨⟨vl,rfl,-⟩,m⟩;have⟨O,g,af⟩:=jI m (f.ext m) (K.ext m);clear m B C Y Z rz u;obtain⟨gz,g0,g1,-⟩:=g.ca;obtain⟨f0,f1,-⟩:=g.fz;obtain⟨rz,Y,Z,-⟩:=af.ca;cases y with
   |none=>
    have a:=x.o;simp only[P.o,Ua,U3,Uy,Uq]at a;cases a;simp only[Ua];go_wp2_with fail;refine PG (hU qF rfl (w+1) rfl [Tj,""] (hQ.kX (g.duo _ _)) rfl) rfl ?_;exact⟨rfl,t _ O _ _⟩
   |some av=>
    have a:=x.o;simp only[P.o,Ul,Uy]at a;cases a;simp only[Ul];go_wp2_with fail;refine PG (hU qF rfl (w+1) rfl [q,r] (hQ.kX (g.duo _ _)) rfl) rfl ?_;exact⟨rfl,t _ O _ _⟩
 . have a:=x.o;rw[T9 n]at a;cases a;have au:(rc !=1)=true:=by simpa using n
   clear n;obtain⟨gz,g0,g1,-⟩:=f.ca;obtain⟨f0,f1,-⟩:=f.fz;go_upto_region 3 with(fail);rw[<-Q.o];go_wp2_with fail;refine PG (hU qF rfl (w+1) rfl [Tj,""] (hQ.kX (f.duo _ _)) rfl) rfl ?_;exact⟨rfl,t _ Kp.rr _ _⟩
theorem Ak(a b:Int)(m n:ByteArray):(a=b/\m=n)\/(a=b/\(m.toList==n.toList)=false/\m≠n)\/((a==b)=false/\a≠b):=by
 by_cases c:a=b
 . by_cases d:m=n
   . exact .inl ⟨c,d⟩
   . exact .inr (.inl ⟨c,by rw[uB];exact SS d,d⟩)
 . exact .inr (.inr ⟨SK.2 c,c⟩)
theorem Mc{l:List Ref}{x: Ref}(c:l[k]?=some x)(a:(l.take k).contains r=false)(b:x≠r):(l.take (k+1)).contains r=false:=by
 rw[Td,c];simp only[List.contains_eq_mem,decide_eq_false_iff_not]at a |-;simp[a,Ne.symm b]
theorem PS(w:World){I:Nat->Prop}(v:Value){l:List Ref}(k:SliceOf 2 qN w I v l)(r:Ref):Calls prog 239 #[v,.agg #[r.keeper,r.name]] w fun c L=>c=.returned (.bool (l.contains r))/\Ext w L:=by
 obtain⟨Q,U,rfl,hn,aa⟩:=k.form;obtain⟨e,f⟩:=r;obtain⟨g,m⟩:∃g,l.contains (⟨e,f⟩:Ref)=g:=⟨_,rfl⟩;rw[m];have s:=Zy m;obtain⟨N,D,n,x⟩:=nu w #[e,f] 64;have⟨F,E,t,H⟩:=kD x (k.ext qN.stays n) n D;clear n x D k m;go_enter func239,ntmps239;go_wp2_with fail;rw[<-H.o];go_loopw [5] (fun p wr=>∃a:Nat,a<=l.length/\p=.int .i64 a/\Ext N wr/\Zz ((l.take a).contains (⟨e,f⟩:Ref)=false)) (fun p _=>l.length - (intOf p).toNat)
 case atStart=>exact⟨0,Tz _,rfl,Kp.rr,Zy Zl⟩
 case round=>
  obtain⟨a,hk,rfl,b,h⟩:=hrel;have d:=Zy b;by_cases B:a<l.length
  . have J:(a:Int)<l.length:=Zm
    obtain⟨q,o⟩:∃q,l[a]?=some q:=⟨l[a]'B,CU B⟩;obtain⟨R,ag,V,rfl,Z,rfl,-,z⟩:=(E.ext qN.stays b).get o;obtain⟨K,X⟩:=z.two;have Y:=jv K;have y:=F.ext b;obtain⟨W,S,T,-⟩:=y.ca;have j:=Zy o;clear o z y;obtain⟨O,P⟩:=q;simp only at*;rcases Ak O e P f with⟨rfl,rfl⟩|⟨rfl,af,C⟩|⟨ae,A⟩
    . have u:g=true:=by rw[<-s.o];simpa using Tx j.o
      have G:=Zy u;clear u;go_wp2_with fail;go_quiet (fail);go_wp2;go_ret;exact⟨by rw[G.o];rfl,(t.trans d).trans (Kp.rr.drewN _)⟩
    . have i:=Zy (Mc j h (fun c=>C (congrArg Ref.name c)));clear C b;go_wp2_with fail;go_quiet (fail);go_wp2;go_round
      case rel=>exact⟨a+1,Zm,Zk,d.o.trans (Kp.rr.drewN _),i⟩
      case measure=>exact Zj
    . have i:=Zy (Mc j h (fun c=>A (congrArg Ref.keeper c)));clear A b;go_wp2_with fail;go_quiet (fail);go_wp2;go_round
      case rel=>exact⟨a+1,Zm,Zk,d.o.trans (Kp.rr.drewN _),i⟩
      case measure=>exact Zj
  . have J:¬(a:Int)<l.length:=Zm
    clear b;go_wp2;go_ret;exact⟨by have:=h.o;rw[Tq Zm]at this;rw[<-s.o,this];rfl,t.trans d⟩
theorem Ll(w:World)(I:Nat->Prop)(hI:∀c,I c->c<w.heap.size){v:Value}(p:jl)(i:SliceOf 2 jo w I v p)(G:kv p=true)(a top:Ref)(F:owned p a=true):Calls prog 228 #[.agg #[v],.agg #[a.keeper,a.name],.agg #[top.keeper,top.name]] w fun f J=>f=.returned (.bool (((nk p a).getD []).contains top))/\Ext w J:=by
 obtain⟨z,A,rfl,N,L⟩:=i.form;obtain⟨b,e⟩:=S9 (((w.alloc (.cells #[.slice z p.length A] 25)).alloc (.cells #[a.keeper,a.name] 64)).alloc (.cells #[top.keeper,top.name] 64));have d:Ext w b:=by rw[e];exact Zx
 have m:jq b (w+2) 64 #[top.keeper,top.name]:=by rw[e];exact jq.after _ _ Zl
 have k:=Zy (uo b I (fun c E=>Tf (hI c E) d.size) p (i.ext jo.stays d) G a F);obtain⟨j,g⟩:∃j,((nk p a).getD []).contains top=j:=⟨_,rfl⟩;rw[g];have⟨r,s,t,y⟩:=kD g m d e;clear g m d e i hI;go_enter func228,ntmps228;go_wp2_with fail;rw[<-y.o];refine k.mono ?_;rintro f K ⟨⟨H,rfl,q⟩,h⟩;have l:=Zy (PS K H q top);rw[r.o]at l;have u:=Zy (t.trans h);have o:=s.ext h;obtain⟨D,B,C,-⟩:=o.ca;clear q h o k;go_wp2_with fail;refine l.mono ?_;rintro f O ⟨rfl,n⟩;have x:=Zy (u.trans n);clear n B C D;go_wp2;go_ret;exact⟨rfl,x⟩
theorem M.Kh(p:jl)(a:Int)(k:Kind):agree p a a k=true:=by
 unfold agree;by_cases b:(find p a k.name).2=1<;>simp[b]
theorem E8(w:World)(I:Nat->Prop)(hI:∀A,I A->A<w.heap.size)(v:Value)(p:jl)(q:SliceOf 2 jo w I v p)(aG:kv p=true)(x y:Int)(hx:has p x=true)(hy:has p y=true)(k:Kind):Calls prog 227 #[.agg #[v],x,y,.agg #[k.kind,k.name]] w fun a w'=>a=.returned (.bool (agree p x y k))/\Ext w w':=by
 obtain⟨J,K,rfl,hn,aK⟩:=q.form;obtain⟨kk,g⟩:=k;obtain⟨b,n⟩:∃b,agree p x y ⟨kk,g⟩=b:=⟨_,rfl⟩;rw[n];have Z:Zz (x=y->b=true):=Zy (fun a=>by subst a;rw[<-n];exact Kh _ _ _);unfold agree at n;have X:=Zy n;obtain⟨h,r⟩:=S9 ((w.alloc (.cells #[.slice J p.length K] 25)).alloc (.cells #[kk,g] 109));have C:Ext w h:=by rw[r];exact Zx
 have Y:Zz (jq h w 25 #[.slice J p.length K]):=Zy (by rw[r];exact(jq.new _ _ _).ext Zx);have D:Zz (jq h (w+1) 109 #[kk,g]):=Zy (by rw[r];exact jq.after _ _ Zl);have m:=fun z (B:Ext h z) aH hq=>Zy (zM z I (fun A e=>Tf (hI A e) ((C.trans B).size)) (.slice J p.length K) p ((q.ext jo.stays C).ext jo.stays B) aG aH hq g);have⟨F,G⟩:=jw C r;clear n C r;obtain⟨V,k0,-⟩:=D.ca;cases T:(kk==1)
 . cases aF:(x==y)
   . have s:=m h Kp.rr x hx;obtain⟨R1,R⟩:∃H,find p x g=H:=⟨_,rfl⟩;obtain⟨R2,S⟩:∃H,find p y g=H:=⟨_,rfl⟩;have e:=X.o;simp only at e;rw[T,R,S,Bool.false_or]at e;have u:=fun z B=>m z B y hy;rw[R]at s;rw[S]at u;obtain⟨⟨r1,n1⟩,N⟩:=R1;obtain⟨⟨r2,n2⟩,l⟩:=R2;simp only at e s u;have t:=Zy e;clear e R S m Z q hI;have U:=D.c 1 g rfl;obtain⟨O,L,-⟩:=Y.ca;go_enter func227,ntmps227;go_upto_region 3 with(fail);rw[<-G.o];go_wp2_with fail;refine s.mono ?_;rintro a w1 ⟨rfl,ae⟩;obtain⟨w2,ax,af,b9⟩:=nu w1 #[r1,n1] 64;have o:=ae.trans af;have⟨aA,az⟩:=jw o b9;have W:=u w2 o;have ai:=Y.ext o;have aj:=D.ext o;have aB:=Zy ax;clear ae af o b9 ax k0 U V L O s u;obtain⟨V,-,U,-⟩:=aj.ca;obtain⟨O,L,-⟩:=ai.ca;clear ai aj;go_upto_region 4 with(fail);rw[<-aB.o];go_wp2_with fail;refine W.mono ?_;rintro a w3 ⟨rfl,ag⟩;obtain⟨w4,ay,ah,aa⟩:=nu w3 #[r2,n2] 64;have Q:=ag.trans ah;have i:=Zy ((F.trans aA).trans Q);have ak:=az.ext Q;have j:=Zy ay;obtain⟨xz,x0,x1,-⟩:=ak.ca;obtain⟨yz,y0,y1,-⟩:=aa.ca;clear ag ah Q aa ak ay U V L O W;by_cases f:N=1
     . by_cases d:l=1
       . subst f d;have e:=t.o;simp only[and_self,Uy]at e;have E:=Zy e;clear e;rcases Ak r1 r2 n1 n2 with⟨rfl,rfl⟩|⟨rfl,aL,av⟩|⟨T,au⟩
         . have c:Zz (true=b):=Zy (by have:=E.o;simpa using this);go_upto_region 5 with(fail);rw[<-j.o];go_wp2;go_ret;exact⟨by rw[<-c.o];rfl,i⟩
         . have c:Zz (false=b):=Zy (by have:=E.o;rw[SS (fun a=>av (congrArg Ref.name a))]at this;exact this);clear av;go_upto_region 5 with(fail);rw[<-j.o];go_wp2;go_ret;exact⟨by rw[<-c.o];rfl,i⟩
         . have c:Zz (false=b):=Zy (by have:=E.o;rw[SS (fun a=>au (congrArg Ref.keeper a))]at this;exact this);clear au;go_upto_region 5 with(fail);rw[<-j.o];go_wp2;go_ret;exact⟨by rw[<-c.o];rfl,i⟩
       . subst f;have c:Zz (false=b):=Zy (by have:=t.o;rw[T9 (fun a=>d a.2)]at this;simpa using this);have aC:(l==1)=false:=SK.2 d;have aD:(l !=1)=true:=by simpa using d
         clear d;go_upto_region 5 with(fail);rw[<-j.o];go_wp2;go_ret;exact⟨by rw[<-c.o];rfl,i⟩
     . have aI:(N==1)=false:=SK.2 f;have aJ:(N !=1)=true:=by simpa using f
       by_cases d:l=1
       . subst d;have c:Zz (false=b):=Zy (by have:=t.o;rw[T9 (fun a=>f a.1)]at this;simpa using this);clear f;go_upto_region 5 with(fail);rw[<-j.o];go_wp2;go_ret;exact⟨by rw[<-c.o];rfl,i⟩
       . have c:Zz (true=b):=Zy (by have:=t.o;rw[T9 (fun a=>f a.1)]at this;simpa [f,d]using this);have aC:(l==1)=false:=SK.2 d;have aD:(l !=1)=true:=by simpa using d
         clear f d;go_upto_region 5 with(fail);rw[<-j.o];go_wp2;go_ret;exact⟨by rw[<-c.o];rfl,i⟩
   . have P:Zz (b=true):=Zy (Z (Ue.1 aF));clear m q hI;go_enter func227,ntmps227;go_wp2_with fail;rw[<-G.o];go_ret;exact⟨by rw[P.o];rfl,F⟩
 . have P:Zz (b=true):=Zy (by rw[<-X.o];simp only;rw[T];rfl);clear m q hI;go_enter func227,ntmps227;go_wp2_with fail;rw[<-G.o];go_ret;exact⟨by rw[P.o];rfl,F⟩
theorem take_same{l r:List α}{x:α}(b:l[k]?=some x)(c:r[k]?=some x)(a:l.take k=r.take k):l.take (k+1)=r.take (k+1):=by
 rw[Td,Td,b,c,a]
theorem NG(w:World)(I:Nat->Prop){U V:List Value}(a b:M.Method)(ha:jy w I a U)(hb:jy w I b V):Calls prog 199 #[.agg U.toArray,.agg V.toArray] w fun g w'=>g=.returned (.bool (decide (a.ret=b.ret)&&decide (a.args=b.args)))/\Ext w w':=by
 obtain⟨va,vc,vm,rfl,B,-,-⟩:=ha;obtain⟨ub,uc,um,rfl,C,-,-⟩:=hb;obtain⟨a1,c1,rfl,ai,az⟩:=B.form;obtain⟨a2,c2,rfl,F,aA⟩:=C.form;obtain⟨an,c,⟨l,n⟩,al,ag,ac,am⟩:=a;obtain⟨bn,f,⟨t,o⟩,bl,bs,bc,bm⟩:=b;simp only at*;obtain⟨h,D⟩:∃h,(decide ((⟨l,n⟩:Kind)=⟨t,o⟩)&&decide (c=f))=h:=⟨_,rfl⟩;rw[D];obtain⟨w1,H,Z,T⟩:=nu w #[an,.slice a1 c.length c1,l,n,al,ag,vc,vm] 113;obtain⟨w0,G,E,s⟩:=nu w1 #[bn,.slice a2 f.length c2,t,o,bl,bs,uc,um] 113;have u:=Z.trans E;have A:=T.ext E;have S:Zz ((w1:Nat)=w+1):=Zy (by rw[H];simp);rw[H]at G;have⟨r,m,H1,H2⟩:=kD G D (B.ext mV.stays u) (C.ext mV.stays u);rw[S.o]at s;have⟨k,Q,R⟩:=jI u A s;clear Z E u T H G B C D S;obtain⟨pz,-,p1,p2,p3,-⟩:=A.ca;obtain⟨qz,-,q1,q2,q3,-⟩:=s.ca;clear A s;by_cases j:c.length=f.length
 . have ah:((c.length:Int) !=f.length)=false:=by simp[j]
   rcases Ak l t n o with⟨rfl,rfl⟩|⟨rfl,aj,p⟩|⟨aj,p⟩
   . have v:Zz (decide (c=f)=h):=Zy (by have:=m.o;simpa using this);have x:=Zy j;clear j m p2 p3 q2 q3;obtain⟨-,-,-,p2,p3,-⟩:=Q.ca;obtain⟨-,-,-,q2,q3,-⟩:=R.ca;go_enter func199,ntmps199;go_wp2_with fail;rw[<-r.o];go_loopw [5] (fun L wr=>∃d:Nat,d<=c.length/\L=.int .i64 d/\Ext w0 wr/\Zz (c.take d=f.take d)) (fun L _=>c.length - (intOf L).toNat)
     case atStart=>exact⟨0,Tz _,rfl,Kp.rr,Zy Zl⟩
     case round=>
      obtain⟨d,hk,rfl,i,P⟩:=hrel;have q:=Zy i;obtain⟨pz,-,p1,-⟩:=(Q.ext i).ca;obtain⟨qz,-,q1,-⟩:=(R.ext i).ca;by_cases af:d<c.length
      . have dk:(d:Int)<c.length:=Zm
        have ax:(d:Int)<f.length:=Te x.o
        obtain⟨N,J⟩:∃N,c[d]?=some N:=⟨c[d]'af,CU af⟩;obtain⟨O,K⟩:∃O,f[d]?=some O:=⟨f[d]'(Te x.o),CU _⟩;obtain⟨g1,o1,au,rfl,-,rfl,-,W⟩:=(H1.ext mV.stays i).get J;obtain⟨g2,o2,av,rfl,-,rfl,-,X⟩:=(H2.ext mV.stays i).get K;obtain⟨e0,e1⟩:=W.two;obtain⟨f0,f1⟩:=X.two;have ez:=jv e0;have fz:=jv f0;obtain⟨xk,xn⟩:=N;obtain⟨yk,yn⟩:=O;have⟨y,z⟩:=jw J K;clear J K W X i;simp only at*;rcases Ak xk yk xn yn with⟨rfl,rfl⟩|⟨rfl,ai,F⟩|⟨ay,ae⟩
        . have e:=Zy (take_same y z P);go_wp2_with fail;go_quiet (fail);go_wp2;go_round
          case rel=>exact⟨d+1,Zm,Zk,q.o.trans (Kp.rr.drewN _),e⟩
          case measure=>exact Zj
        . have e:Zz (false=h):=Zy (by rw[<-v.o];exact(SS fun g=>F (by have:=y.o;rw[g,z.o]at this;injection this with this;injection this with _ this;exact this.symm)).symm);clear F;go_wp2_with fail;go_quiet (fail);go_wp2;go_ret;exact⟨by rw[<-e.o];rfl,(k.trans q).trans (Kp.rr.drewN _)⟩
        . have e:Zz (false=h):=Zy (by rw[<-v.o];exact(SS fun g=>ae (by have:=y.o;rw[g,z.o]at this;injection this with this;injection this with this _;exact this.symm)).symm);clear ae;go_wp2_with fail;go_quiet (fail);go_wp2;go_ret;exact⟨by rw[<-e.o];rfl,(k.trans q).trans (Kp.rr.drewN _)⟩
      . have dk:¬(d:Int)<c.length:=Zm
        have e:Zz (true=h):=Zy (by have Y:=P.o;rw[Tq Zm,Tq (Te x.o)]at Y;rw[<-v.o];exact(Tw Y).symm);clear i;go_wp2;go_ret;exact⟨by rw[<-e.o];rfl,k.trans q⟩
   . have e:Zz (false=h):=Zy (by rw[<-m.o,SS (p:=(⟨l,n⟩:Kind)=⟨l,o⟩) (fun g=>p (by injection g)),TB]);clear p j;go_enter func199,ntmps199;go_wp2_with fail;rw[<-r.o];go_ret;exact⟨by rw[<-e.o];rfl,k⟩
   . have e:Zz (false=h):=Zy (by rw[<-m.o,SS (p:=(⟨l,n⟩:Kind)=⟨t,o⟩) (fun g=>p (by injection g)),TB]);clear p j;go_enter func199,ntmps199;go_wp2_with fail;rw[<-r.o];go_ret;exact⟨by rw[<-e.o];rfl,k⟩
 . have ah:((c.length:Int) !=f.length)=true:=by simp;omega
   have e:Zz (false=h):=Zy (by rw[<-m.o,SS (p:=c=f) (fun g=>j (by rw[g])),Vt]);clear j;go_enter func199,ntmps199;go_wp2_with fail;rw[<-r.o];go_ret;exact⟨by rw[<-e.o];rfl,k⟩
theorem Av{l:List α}{x:α}{q:α->Bool}(b:l[k]?=some x)(a:q x=false):l.all q=false:=by
 rw[VX];exact⟨x,Tx b,by simp[a]⟩
theorem wI{l:List α}{x:α}{q:α->Bool}(b:l[k]?=some x)(a:q x=true)(h0:(l.take k).all q=true):(l.take (k+1)).all q=true:=by
 rw[Td,b,VZ,h0];simp[a]
theorem Fa(w:World)(I:Nat->Prop)(hI:∀d,I d->d<w.heap.size)(v:Value)(p:jl)(hp:SliceOf 2 jo w I v p)(aj:kv p=true)(x y:Int)(hx:has p x=true)(hy:has p y=true)(cs:List Value)(m:M.Method)(hm:jy w I m cs):Calls prog 200 #[.agg #[v],.int .i64 x,y,.agg cs.toArray] w fun E w'=>E=.returned (.bool (jY p x y m))/\Ext w w':=by
 obtain⟨va,vc,vm,rfl,F,-,-⟩:=hm;obtain⟨a1,D,rfl,az,aB⟩:=F.form;obtain⟨q,t,rfl,hn,ay⟩:=hp.form;obtain⟨X,b,⟨r,s⟩,W,Y,ac,am⟩:=m;simp only at*;obtain⟨n,G⟩:∃n,jY p x y ⟨X,b,⟨r,s⟩,W,Y,ac,am⟩=n:=⟨_,rfl⟩;rw[G];obtain⟨w1,K,af,Z⟩:=nu w #[.slice q p.length t] 25;obtain⟨w0,J,H,C⟩:=nu w1 #[X,.slice a1 b.length D,r,s,W,Y,vc,vm] 113;have k:=af.trans H;have ae:=Z.ext H;have V:Zz ((w1:Nat)=w+1):=Zy (by rw[K];simp);rw[K]at J;have⟨ai,R,H1⟩:=jI J G (F.ext mV.stays k);rw[V.o]at C;have Q:=fun j (a:Ext w0 j) (c:Kind)=>Zy (E8 j I (fun d l=>Tf (hI d l) ((k.trans a).size)) (.slice q p.length t) p ((hp.ext jo.stays k).ext jo.stays a) aj x y hx hy c);have⟨T,B,o⟩:=jI k ae C;clear af H k Z K J F G V ae C;go_enter func200,ntmps200;go_wp2_with fail;rw[<-ai.o];go_loopw [9] (fun N wr=>∃c:Nat,c<=b.length/\N=.int .i64 c/\Ext w0 wr/\Zz ((b.take c).all (agree p x y)=true)) (fun N _=>b.length - (intOf N).toNat)
 case atStart=>exact⟨0,Tz _,rfl,Kp.rr,Zy Zl⟩
 case round=>
  obtain⟨c,hk,rfl,a,O⟩:=hrel;have h:=Zy a;by_cases ag:c<b.length
  . have dk:(c:Int)<b.length:=Zm
    obtain⟨xx,L⟩:∃x,b[c]?=some x:=⟨b[c]'ag,CU ag⟩;obtain⟨g1,o1,av,rfl,-,rfl,-,d1⟩:=(H1.ext mV.stays a).get L;obtain⟨e0,e1⟩:=d1.two;obtain⟨xk,xn⟩:=xx;obtain⟨au,ax,aA,f⟩:=lL wr;have p0:=fun e=>(B.ext (a.trans (f.jC e))).c 0 (.slice q p.length t) rfl;have q1:=fun e=>(o.ext (a.trans (f.jC e))).c 1 (.slice (some ⟨g1,o1,none⟩) b.length D) rfl;have r0:=fun e=>(f.jC e).jm e0;have r1:=fun e=>(f.jC e).jm e1;have aC:=(o.ext a).c 1 (.slice (some ⟨g1,o1,none⟩) b.length D) rfl;have⟨g,U⟩:=jw f L;have P:=fun j (u:Ext wr j)=>Q j (h.trans u) ⟨xk,xn⟩;clear L d1 f a e0 e1;simp only at*;obtain⟨d,l⟩:∃d,agree p x y ⟨xk,xn⟩=d:=⟨_,rfl⟩;rw[l]at P;have S:=Zy l;clear l;go_wp2_with fail;refine zJ g ?_ ?_;rotate_left;(repeat (go_big_quiet_step ((go_at_call 227;refine(P _ (g.jC _)).o.mono ?_;rintro E w6 ⟨rfl,z⟩;exact⟨rfl,g.o.o w6 ((g.jC _).trans z)⟩))));refine TP ?_;(rintro _ ⟨sW,rfl⟩);rotate_left
    . exact jA
    cases d
    . have i:Zz (false=n):=Zy (by rw[<-R.o];unfold jY;rw[Av U.o S.o,TB]);go_wp2;go_ret;exact⟨by rw[<-i.o];rfl,(T.trans h).trans (g.jC sW)⟩
    . have i:=Zy (wI U S O);go_wp2;go_round
      case rel=>exact⟨c+1,Zm,Zk,h.o.trans (g.o.jC sW),i⟩
      case measure=>exact Zj
  . have dk:¬(c:Int)<b.length:=Zm
    have p0:=(B.ext a).c 0 (.slice q p.length t) rfl;obtain⟨-,-,q1,q2,q3,-⟩:=(o.ext a).ca;have pz:=(B.ext a).lt;have qz:=(o.ext a).lt;have A:=Q wr h ⟨r,s⟩;have i:Zz (agree p x y ⟨r,s⟩=n):=Zy (by have u:=O.o;rw[Tq Zm]at u;rw[<-R.o];unfold jY;rw[u,TJ]);simp only at A;rw[i.o]at A;clear a;go_wp2_with fail;refine A.mono ?_;rintro E w6 ⟨rfl,z⟩;have ah:=Zy ((T.trans h).trans z);clear z;go_wp2;go_ret;exact⟨rfl,ah⟩
theorem Ao{t e: Nat}(i:Elem t e k)(w:World){h:Array Oper}{rest:List Oper}{b:Oper}{a:Act}{Q:Exit->Act->World->Prop}(m:b.guard=none)(s x:Operand)
    (p:b.op=.call {callee:=.builtin .append,args:=#[s,x],argTypes:=#[t,t]}) {base n c:Nat} {d:Option Addr} {v:Value} {xs:List Value} (u:a.eval s=v) (q:w.ownsRow base e k v n xs) (y:a.eval x=.slice d 0 c)
    (j:wpList prog h Q rest (a.put b.dst v) w):wpList prog h Q (b::rest) a w:=by
 obtain⟨L,M,bytes,g,f,J,I,F,K,H,D⟩:=i;refine Wx m fun z l=>?_;have r:(Builtin.append_ #[t,t] b.type #[v,.slice d 0 c]).run prog w=.ok v w:=by
  rcases q.2 with⟨rfl,rfl⟩|⟨C,A,B,rfl,G,E,o,_⟩
  . cases d<;>simp[Builtin.append_,underlying,g,sizeOf,typeInfo,f,Uu,Builtin.lenOf,Builtin.firstCells,loadCells,loadCellsFrom]
  . cases d<;>simp[Builtin.append_,underlying,g,sizeOf,typeInfo,f,Uu,Builtin.lenOf,Builtin.firstCells,o,storeCells,loadCells,loadCellsFrom]
 unfold Oper.wp execOp;simp only[p,resolve,invoke,builtin,Uu,Sem.run_pure,UT,List.map_toArray,Ur,Vb,u,y,r];exact l _ _ j
theorem nJ{t: Nat}(r:Elem t b k)(w:World){C:Array Oper}{rest:List Oper}{i:Oper}{a:Act}{Q:Exit->Act->World->Prop}(y:i.guard=none)(s x:Operand)
    (z:i.op=.call {callee:=.builtin .append,args:=#[s,x],argTypes:=#[t,t]}) (base:Nat) (v:Value) (n:Nat) (xs:List Value) (A:a.eval s=v) (p:w.ownsRow base b k v n xs)
    (d:Option Addr) (m c:Nat) (h:List Value) (B:a.eval x=.slice d m c) (P:Flat w k (.slice d m c) m h)
    (S:n+m<=4294967296) (M:base<=w)
    (j:∀q g,g.ownsRow base b k q (n+m) (xs++h)->Kp (fun D=>v.ownBlock=some D) w g->(∀e,q.ownBlock=some e->v.ownBlock=some e\/w.heap.size<=e)->wpList prog C Q rest (a.put i.dst q) g):
    wpList prog C Q (i::rest) a w:=by
 obtain⟨u,⟨a1,c1,E,F,G⟩,H⟩:=P;cases E;cases m with
 |zero=>
  have T:h=[]:=Us.1 (by rw[u,UM]);subst T;exact Ao r w y s x z A p B (j v w (by simpa using p) Kp.rr fun e l=>.inl l)
 | succ m =>
  cases d with
  |none=>exact absurd (F rfl) Zm
  |some d=>
   obtain⟨Y,Z,bytes,V,R,W,U,N,X,o,L⟩:=r;refine wpList_append_lies w y s x t z base b Y Z k bytes V R W U N X o v n xs A p d (m+1) c h B u (G d rfl) H Zm (by unfold maxLen;omega) ?_ M w rfl ?_
   . have:(n+(m+1))*bytes<=4294967296*4096:=Vg S L;omega
   . intro I c' g J f K h5;refine j _ g J ⟨f.os,f.tape,f.output,f.size,fun k o O=>f.block k o (fun b=>O b.symm)⟩ fun e l=>?_;have b:I=e:=by simpa [Value.ownBlock]using l
     subst b;exact K.imp id fun j=>Zm
end Go.Proofs.YtenhnldnpdlniaaGreat
