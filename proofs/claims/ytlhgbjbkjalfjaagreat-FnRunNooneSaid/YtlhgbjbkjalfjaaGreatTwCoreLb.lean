/- Walks. -/
import Derived.Test.YtlhgbjbkjalfjaaGreatTwCoreLa
import Derived.Deep.RegionLaw
import Derived.Deep.AppendLies
import Derived.Lib.SlBytesRow
import Derived.Deep.Quiet
import Derived.Deep.RegionWith
import Derived.Deep.RegionHeld3
import Derived.StillTailTactics
import Derived.Maps.RangeWalk
import Derived.Laws.CopyOwn
import Derived.RangeFuncKeeps
import Derived.RangeFuncNested
import Derived.RangeFuncBound
import Derived.RangeFuncCalls
import Derived.RangeFuncLeaves
import Derived.Shelf.Abstract
import Derived.Shelf.RegionOpen
import Derived.TacticsInMore
import Derived.LoopNIn
import Derived.LoopIn
set_option maxRecDepth 100000
set_option maxHeartbeats 4000000
set_option linter.all false
namespace Go.Proofs.YtlhgbjbkjalfjaaGreat
open Go Go.RowKit Tryz M
theorem si{n a b:Int}{w:World}:Calls prog 136 #[n,a,b] w fun c d=>c=.returned (.bool (decide (a<=n)&&decide (n<=b)))/\w=d:=by
 go_enter func136,ntmps136;go_wp2
 . go_ret;exact⟨hQ (by rw[Tz (p:=a<=n) Zm];rfl),rfl⟩
 . go_ret;exact⟨hQ (by rw[SL (p:=a<=n) Zm];rfl),rfl⟩
theorem lM(s:ByteArray)(w:World):Calls prog 177 #[s] w fun g j=>g=.returned (.bool (jJ s))/\w=j:=by
 by_cases h:s.size=0
 . have i:((s.size:Int)==0)=true:=by simp[h]
   go_enter func177,ntmps177;go_wp2;go_ret;exact⟨hQ (by unfold jJ;rw[SL Zm];rfl),rfl⟩
 have i:((s.size:Int)==0)=false:=SF.2 Zm;by_cases k:6<s.size
 . go_enter func177,ntmps177;go_wp2;go_ret;exact⟨hQ (by unfold jJ;rw[SL (p:=s.size<=6) Zm];simp),rfl⟩
 go_enter func177,ntmps177;go_wp2;go_loop [3] (fun c=>∃a:Nat,a<=s.size/\c=.int .i64 a/\(s.data.toList.take a).all letter=true) (fun c=>s.size - (intOf c).toNat)
 case atStart=>exact⟨0,SV _,rfl,by simp⟩
 case round =>
  obtain⟨a,l,rfl,f⟩:=hrel;have d:=Zy f;clear f;by_cases b:a<s.size
  . go_wp2
    . go_ret;exact⟨hQ (AL s a b (DK Zp)).symm,rfl⟩
    . go_round
      case rel=>
       refine⟨a+1,Zm,by go_num,?_⟩;rw[Ct s a b,We,d.o];simp[DL (c:=s[a]) Zp]
      case measure=>simp[intOf];omega
    . go_ret;exact⟨hQ (AL s a b (DJ Zp)).symm,rfl⟩
  . go_wp2;go_ret;refine⟨hQ ?_,rfl⟩;have e:=d.o;rw[TV Zr]at e;unfold jJ;rw[e,Tz Zm,Tz Zm];rfl
theorem rQ:Elem 61 37 2:=kP (z:=.agg #[Tc,Tc]) (bytes:=16) underlying61 Zo rfl Zn Zn
theorem hH.l7{w:World}{b:Nat}{t:TypeId}{cs:Array Value}(a:hZ w b t cs):hH w b 0 cs.toList:=by
 intro d e c;rw[Tm];exact a.c d e (by simpa using c)
theorem hH.nL{W:World}{g:Nat}(t:TypeId)(cs:Array Value)(a:W=g):hH (W.alloc (.cells cs t)) g 0 cs.toList:=by
 subst a;exact hH.l7 (hZ.new W t cs)
theorem jA{w:World}{base e k n:Nat}{v:Value}{xs:List Value}(c:w.ownsRow base e k v n xs):∃b a,v=.slice b n a:=by
 rcases c.2 with⟨rfl,rfl⟩|⟨f,a,d,rfl,_⟩
 . exact⟨_,_,rfl⟩
 . exact⟨_,_,rfl⟩
theorem qj{w:World}{base e k n:Nat}{v:Value}{xs:List Value}(a:w.ownsRow base e k v n xs){g:Nat}(b:v.ownBlock=some g):base<=g/\g<w:=a.lt g b
theorem CL{t e k:Nat}(o:Elem t e k){W:Array Oper}{h:Oper}{a:Act}{w:World}{K:Act->World->Prop}{Q:Exit->Act->World->Prop}{p:Prop}(E:h.guard=none)(s x:Operand)
    (L:h.op=.call {callee:=.builtin .append,args:=#[s,x],argTypes:=#[t,t]}) (base:Nat) (v:Value) (n:Nat) (xs:List Value) (N:a.eval s=v) (M:w.ownsRow base e k v n xs)
    (g c:Nat) (f:List Value) (R:a.eval x=.slice (some ⟨g,0,none⟩) 1 c) (hl:f.length=k) (J:hH w g 0 f) (u:∀m∈f,m.oneCell'=true)
    (I:n+1<=4294967296) (B:base<=w)
    (r:∀b j i,i.ownsRow base e k (.slice (some ⟨b,0,none⟩) (n+1) j) (n+1) (xs++f)->Kp (fun q=>v.ownBlock=some q) w i->(v.ownBlock=some b\/w.heap.size=b)->K (a.put h.dst (.slice (some ⟨b,0,none⟩) (n+1) j)) i):
    if Region.wanted h (yielded W a.tmps)=true then Oper.wp prog h a w K Q else p:=by
 obtain⟨U,X,bytes,P,F,S,O,C,T,l,A⟩:=o;refine step_append_lies w E s x t L base e U X k bytes P F S O C T l v n xs N M g 1 c f R Zm ?_ u Zm (by unfold maxLen;omega) ?_ B w rfl ?_
 . intro V m G;have:=J V m G;rw[Tm]at this;unfold Addr.add;split
   . rename_i H;subst H;exact this
   . simpa using this
 . have:(n+1)*bytes<=4294967296*4096:=UL I A;omega
 . intro b j i y d z Y;exact r b j i y ⟨d.os,d.tape,d.output,d.size,fun k l D=>d.block k l (fun e=>D e.symm)⟩ (z.imp id Eq.symm)
theorem jo{t e k:Nat}(p:Elem t e k){o:Array Oper}{rest:List Oper}{j:Oper}{a:Act}{w:World}{Q:Exit->Act->World->Prop}(E:j.guard=none)(s x:Operand)
    (K:j.op=.call {callee:=.builtin .append,args:=#[s,x],argTypes:=#[t,t]}) (base:Nat) (v:Value) (n:Nat) (xs:List Value) (M:a.eval s=v) (L:w.ownsRow base e k v n xs)
    (g c:Nat) (f:List Value) (P:a.eval x=.slice (some ⟨g,0,none⟩) 1 c) (hl:f.length=k) (J:hH w g 0 f) (u:∀m∈f,m.oneCell'=true)
    (I:n+1<=4294967296) (B:base<=w)
    (r:∀b i h,h.ownsRow base e k (.slice (some ⟨b,0,none⟩) (n+1) i) (n+1) (xs++f)->Kp (fun q=>v.ownBlock=some q) w h->(v.ownBlock=some b\/w.heap.size=b)->wpList prog o Q rest (a.put j.dst (.slice (some ⟨b,0,none⟩) (n+1) i)) h):
    wpList prog o Q (j::rest) a w:=by
 obtain⟨T,V,bytes,O,F,R,N,C,S,l,A⟩:=p;refine wpList_append_lies w E s x t K base e T V k bytes O F R N C S l v n xs M L g 1 c f P Zm ?_ u Zm (by unfold maxLen;omega) ?_ B w rfl ?_
 . intro U m G;have:=J U m G;rw[Tm]at this;unfold Addr.add;split
   . rename_i H;subst H;exact this
   . simpa using this
 . have:(n+1)*bytes<=4294967296*4096:=UL I A;omega
 . intro b i h y d z W;exact r b i h y ⟨d.os,d.tape,d.output,d.size,fun k l D=>d.block k l (fun e=>D e.symm)⟩ (z.imp id Eq.symm)
theorem CK(w:World)(k a:Nat){g:TypeId}{cs:Array Value}{vs:Value}(n:Nat)(f:Int)(b:hZ w k g cs)(h0:cs[a]?=some vs)(e:cs[a+1]?=some (.int .i64 f))(j:∃c d,vs=.slice c n d)(x y:Int)(o:f<=(n:Int)):Calls prog 194 #[some (k,a),.agg #[x,y]] w fun i l=>i=.returned (.bool false)/\Ext w l:=by
 obtain⟨c,d,rfl⟩:=j;have h:=b.c a _ h0;have m:=b.c (a+1) _ e;have p:=jc h;clear b h0 e;go_enter func194,ntmps194;go_wp2;go_quiet (fail);go_wp2;go_ret;exact⟨rfl,kx⟩
theorem Kc(w:World)(k a d:Nat){t:TypeId}{cs:Array Value}{vs:Value}(n:Nat){xs:List Value}(m:Int)(f:hZ w k t cs)(h0:cs[a]?=some vs)(z:cs[a+1]?=some (.int .i64 m))(x y:Int) (o:w.ownsRow d 37 2 vs n xs) (X:n<=1000) (W:(n:Int)<m) (E:vs.ownBlock≠some k) (C:d<=w):Calls prog 194 #[some (k,a),.agg #[x,y]] w fun j p=>j=.returned (.bool true)/\∃b e,p.ownsRow d 37 2 (.slice (some ⟨b,0,none⟩) (n+1) e) (n+1) (xs++[.int .i64 x,.int .i64 y])/\(vs.ownBlock=some b\/w.heap.size<=b)/\hZ p k t (cs.setIfInBounds a (.slice (some ⟨b,0,none⟩) (n+1) e))/\Kp (fun i=>i=k\/vs.ownBlock=some i) w p:=by
 obtain⟨u,e,rfl⟩:=jA o;have v:=f.c a _ h0;have M:=f.c (a+1) _ z;have O:=f.frozen a;have T:=jc v;have⟨q,J,s,F⟩:=jU f o E h0;clear f h0 z o E;have Q:(m<=(n:Int))=False:=by simp;omega
 have R:n+1<=4294967296:=Zm
 have A:∀h,Ext w h->h.ownsRow d 37 2 (.slice u n e) n xs:=fun h P=>jb J P fun _ _ _ x=>x;have H:=Zy A;clear A;go_enter func194,ntmps194;go_wp2;go_quiet (fail);go_wp2;clear M Q;go_region_law (refine CL rQ rfl (.tmp 19) (.tmp 21) rfl d (.slice u n e) n xs rfl (H _ kx) (w+1) 1 [x,y] (by simp[Act.eval]) rfl (hH.nL _ _ Zl) Zt R Zr ?_;intro b L Z B l D;have g:=(q.ext kx).kp l s;have U:=g.c a _ F;have V:=g.frozen a;have z1:=g.lt;have G:=Zy g;have K:=Zy B;have I:=Zy l;have r:=Zy D;clear B l D g v O T)
 all_goals
  go_wp2;go_ret;refine⟨rfl,b,L,jb K ((Kp.refl (·=k) _).setCell (fun _=>rfl) _) (fun Y S _ j=>?_),?_,G.jy _ _,?_⟩
  . cases S;have N:b=k:=j;subst N;rcases r.o with c|c
    . exact s c
    . have:=q.lt;simp at c;omega
  . rcases r.o with c|c
    . exact .inl c
    . right;simp at c;omega
  . refine Kp.setCell (Kp.trans ((kx:Ext w _).any) (I.weak fun i _ C=>.inr C)) (fun _=>.inl rfl) _
def Su{α:Type}(l:List α)(q:α->Bool)(e:Ending):Prop:=∃n:Int,e=.returned (.int .i64 n)/\decide (0<=n)=l.any q
theorem Gi{α:Type}{l:List α}{q:α->Bool}{k:Nat}{x:α}(b:l[k]?=some x)(a:q x=true):l.any q=true:=Wn.2 ⟨x,RA b,a⟩
theorem xO{α:Type}{l:List α}{q:α->Bool}{k:Nat}{x:α}(b:l[k]?=some x)(a:q x=false)(h0:(l.take k).any q=false):(l.take (k+1)).any q=false:=by
 rw[TQ,b,List.any_append,h0];simp[a]
theorem J9{w:World}(I:Nat->Prop)(v:Value)(l:List M.Field)(i:SliceOf 3 lv w I v l)(b:ByteArray):Calls prog 199 #[v,b] w fun o q=>Su l (fun c=>c.name.toList==b.toList) o/\Ext w q:=by
 obtain⟨r,t,rfl,B,z⟩:=i.form;go_enter func199,ntmps199;go_wp2;go_loopw [5] (fun e wr=>∃a:Nat,a<=l.length/\e=.int .i64 a/\wr=w/\Zz ((l.take a).any (fun c=>c.name.toList==b.toList)=false)) (fun e _=>l.length - (intOf e).toNat)
 case atStart=>exact⟨0,SV _,rfl,rfl,Zy Zl⟩
 case round =>
  obtain⟨a,A,rfl,rfl,g⟩:=hrel;by_cases k:a<l.length
  . have n:(a:Int)<l.length:=Zm
    obtain⟨f,d⟩:∃f,l[a]?=some f:=⟨l[a]'k,Ou k⟩;obtain⟨s,C,u,rfl,y,rfl,-,j⟩:=i.get d;obtain⟨p,-⟩:=j.three;have x:=jc p;have h:=Zy d;clear d j;cases m:(f.name.toList==b.toList)
    . go_wp2;go_round
      case rel=>exact⟨a+1,Zm,by go_num,trivial,Zy (xO h.o m g.o)⟩
      case measure=>simp[intOf];omega
    . go_wp2;go_ret;exact⟨⟨_,rfl,by rw[Gi h.o m];simp⟩,Kp.rr⟩
  . have n:¬(a:Int)<l.length:=Zm
    go_wp2;go_ret;exact⟨⟨_,rfl,by have:=g.o;rw[TV Zm]at this;rw[this];decide⟩,Kp.rr⟩
theorem Ja{w:World}(I:Nat->Prop)(v:Value)(l:List M.Method)(i:SliceOf 8 jd w I v l)(b:ByteArray):Calls prog 201 #[v,b] w fun o q=>Su l (fun c=>c.name.toList==b.toList) o/\Ext w q:=by
 obtain⟨r,t,rfl,B,z⟩:=i.form;go_enter func201,ntmps201;go_wp2;go_loopw [5] (fun e wr=>∃a:Nat,a<=l.length/\e=.int .i64 a/\wr=w/\Zz ((l.take a).any (fun c=>c.name.toList==b.toList)=false)) (fun e _=>l.length - (intOf e).toNat)
 case atStart=>exact⟨0,SV _,rfl,rfl,Zy Zl⟩
 case round =>
  obtain⟨a,A,rfl,rfl,g⟩:=hrel;by_cases k:a<l.length
  . have n:(a:Int)<l.length:=Zm
    obtain⟨f,d⟩:∃f,l[a]?=some f:=⟨l[a]'k,Ou k⟩;obtain⟨s,C,u,rfl,y,⟨_,_,_,rfl,-,-,-⟩,-,j⟩:=i.get d;obtain⟨p,-⟩:=j.eight;have x:=jc p;have h:=Zy d;clear d j;cases m:(f.name.toList==b.toList)
    . go_wp2;go_round
      case rel=>exact⟨a+1,Zm,by go_num,trivial,Zy (xO h.o m g.o)⟩
      case measure=>simp[intOf];omega
    . go_wp2;go_ret;exact⟨⟨_,rfl,by rw[Gi h.o m];simp⟩,Kp.rr⟩
  . have n:¬(a:Int)<l.length:=Zm
    go_wp2;go_ret;exact⟨⟨_,rfl,by have:=g.o;rw[TV Zm]at this;rw[this];decide⟩,Kp.rr⟩
theorem OI{w:World}(I:Nat->Prop)(v r:Value)(l:List Class)(e:SliceOf 4 jh w I v l)(b:ByteArray):Calls prog 183 #[.agg #[v,r],b] w fun z B=>Su l (fun d=>d.name.toList==b.toList) z/\Ext w B:=by
 obtain⟨u,x,rfl,N,K⟩:=e.form;obtain⟨C,q,k,m⟩:=nu w #[.slice u l.length x,r] 145;obtain⟨G,E,-⟩:=m.ca;have⟨s,c,t⟩:=jB e k q;clear k m q e;go_enter func183,ntmps183;go_wp2_with fail;rw[<-t.o];go_loopw [5] (fun g wr=>∃a:Nat,a<=l.length/\g=.int .i64 a/\wr=C/\Zz ((l.take a).any (fun d=>d.name.toList==b.toList)=false)) (fun g _=>l.length - (intOf g).toNat)
 case atStart=>exact⟨0,SV _,rfl,rfl,Zy Zl⟩
 case round =>
  obtain⟨a,L,rfl,rfl,i⟩:=hrel;by_cases o:a<l.length
  . have y:(a:Int)<l.length:=Zm
    obtain⟨h,f⟩:∃h,l[a]?=some h:=⟨l[a]'o,Ou o⟩;obtain⟨D,O,F,rfl,J,⟨_,_,rfl,-,-⟩,-,n⟩:=s.get f;obtain⟨A,-⟩:=(n.ext c).four;have H:=jc A;have j:=Zy f;clear f n;cases p:(h.name.toList==b.toList)
    . go_wp2;go_round
      case rel=>exact⟨a+1,Zm,by go_num,trivial,Zy (xO j.o p i.o)⟩
      case measure=>simp[intOf];omega
    . go_wp2;go_ret;exact⟨⟨_,rfl,by rw[Gi j.o p];simp⟩,c⟩
  . have y:¬(a:Int)<l.length:=Zm
    go_wp2;go_ret;exact⟨⟨_,rfl,by have:=i.o;rw[TV Zm]at this;rw[this];decide⟩,c⟩
def Qv(l:List M.Ask)(nm:ByteArray)(e:Ending):Prop:=∃n:Int,e=.returned (.int .i64 n)/\((∃x∈l,(x.name.toList==nm.toList)=true/\n=x.keeper)\/(l.any (fun f=>f.name.toList==nm.toList)=false/\n= -1))
theorem Mx{w:World}(I:Nat->Prop)(v q:Value)(l:List M.Ask)(e:SliceOf 2 mQ w I v l)(b:ByteArray):Calls prog 184 #[.agg #[q,v],b] w fun y B=>Qv l b y/\Ext w B:=by
 obtain⟨t,u,rfl,O,L⟩:=e.form;obtain⟨C,p,j,k⟩:=nu w #[q,.slice t l.length u] 145;obtain⟨G,-,E,-⟩:=k.ca;have⟨r,d,s⟩:=jB e j p;clear j k p e;go_enter func184,ntmps184;go_wp2_with fail;rw[<-s.o];go_loopw [5] (fun g wr=>∃a:Nat,a<=l.length/\g=.int .i64 a/\wr=C/\Zz ((l.take a).any (fun z=>z.name.toList==b.toList)=false)) (fun g _=>l.length - (intOf g).toNat)
 case atStart=>exact⟨0,SV _,rfl,rfl,Zy Zl⟩
 case round =>
  obtain⟨a,N,rfl,rfl,h⟩:=hrel;by_cases n:a<l.length
  . have x:(a:Int)<l.length:=Zm
    obtain⟨c,f⟩:∃c,l[a]?=some c:=⟨l[a]'n,Ou n⟩;obtain⟨D,P,F,rfl,K,rfl,-,m⟩:=r.get f;obtain⟨A,H⟩:=(m.ext d).two;have J:=jc A;have i:=Zy f;clear f m;cases o:(c.name.toList==b.toList)
    . go_wp2;go_round
      case rel=>exact⟨a+1,Zm,by go_num,trivial,Zy (xO i.o o h.o)⟩
      case measure=>simp[intOf];omega
    . go_wp2;go_ret;exact⟨⟨_,rfl,.inl ⟨c,RA i,o,rfl⟩⟩,d⟩
  . have x:¬(a:Int)<l.length:=Zm
    go_wp2;go_ret;exact⟨⟨_,rfl,.inr ⟨by have:=h.o;rwa[TV Zm]at this,rfl⟩⟩,d.o⟩
theorem IB{s:ByteArray}:decide (s=none_)=(s.toList==[]):=by
 rw[<-mh];cases s.toList<;>rfl
theorem MB(k:Int)(s:ByteArray){w:World}:Calls prog 246 #[.agg #[k,s]] w fun f j=>f=.returned (.bool (sZ ⟨k,s⟩))/\Ext w j:=by
 have a:sZ ⟨k,s⟩=if k=0\/k=1\/k=3 then(s.toList==[])else if k=2 then jJ s else false:=by
  unfold sZ;simp only[IB]
 by_cases c:k=2
 . subst c;rw[Tt Zn,Tv rfl]at a;rw[a];clear a;go_enter func246,ntmps246;go_wp2_with (go_at_call 177;refine(lM _ _).mono ?_;rintro f j ⟨rfl,rfl⟩)
   all_goals
    go_ret;exact⟨rfl,kx⟩
 have d:=SF.2 c;obtain⟨b,e⟩:∃b,(s.toList==[])=b:=⟨_,rfl⟩;by_cases g:k=0
 . subst g;rw[Tv (.inl rfl),e]at a;rw[a];clear a d;cases b
   all_goals
    go_enter func246,ntmps246;go_wp2_with fail
    all_goals
     go_ret;exact⟨rfl,kx⟩
 by_cases h:k=1
 . subst h;rw[Tv (.inr (.inl rfl)),e]at a;rw[a];clear a d;cases b
   all_goals
    go_enter func246,ntmps246;go_wp2_with fail
    all_goals
     go_ret;exact⟨rfl,kx⟩
 by_cases i:k=3
 . subst i;rw[Tv (.inr (.inr rfl)),e]at a;rw[a];clear a d;cases b
   all_goals
    go_enter func246,ntmps246;go_wp2_with fail
    all_goals
     go_ret;exact⟨rfl,kx⟩
 rw[Tt Zm,Tt c]at a;rw[a];clear a;have l:=SF.2 g;have m:=SF.2 h;have n:=SF.2 i;go_enter func246,ntmps246;go_wp2_with fail
 all_goals
  go_ret;exact⟨rfl,kx⟩
theorem kJ{w:World}(I:Nat->Prop)(v:Value)(l:List Tag)(m:SliceOf 2 kF w I v l):Calls prog 234 #[v] w fun c s=>c=.returned (.bool (l.all sZ))/\Ext w s:=by
 obtain⟨t,x,rfl,E,C⟩:=m.form;go_enter func234,ntmps234;go_wp2;go_loopw [3] (fun g wr=>∃a:Nat,a<=l.length/\g=.int .i64 a/\Ext w wr/\Zz ((l.take a).any (fun b=> !sZ b)=false)) (fun g _=>l.length - (intOf g).toNat)
 case atStart=>exact⟨0,SV _,rfl,Kp.rr,Zy Zl⟩
 case round =>
  obtain⟨a,D,rfl,e,h⟩:=hrel;have i:=Zy e;by_cases p:a<l.length
  . have q:(a:Int)<l.length:=Zm
    obtain⟨b,d⟩:∃b,l[a]?=some b:=⟨l[a]'p,Ou p⟩;obtain⟨u,F,y,rfl,B,rfl,-,o⟩:=m.get d;obtain⟨r,z⟩:=(o.ext e).two;have A:=jc r;have k:=Zy d;clear d o e;go_wp2_with fail;refine(MB b.kind b.name).mono ?_;rintro c G ⟨rfl,n⟩;have j:=Zy (i.trans n);clear n;cases f:sZ b
    . go_wp2;go_ret;exact⟨hQ (by
       rw[UI,TY];exact⟨fun c=>(by cases c),fun c=>by rw[c b (RA k.o)]at f;cases f⟩),j.o⟩
    . go_wp2;go_round
      case rel=>exact⟨a+1,Zm,by go_num,j.o,Zy (xO k.o (by rw[f];rfl) h)⟩
      case measure=>simp[intOf];omega
  . have q:¬(a:Int)<l.length:=Zm
    go_wp2;go_ret;exact⟨hQ (by
     have:=h.o;rw[TV Zm,UK]at this;symm;rw[TY];intro b d;simpa using this b d),i.o⟩
def jY(v:Val):List Value:=[.int .i64 v.kind,.int .i64 v.n]
def mY:lZ Val:=fun _ _ x cs=>cs=jY x
theorem mY.stays:jM mY:=fun _ _ _ _ _ _ _ _ a=>a
def mg(t:Tag):List Value:=[.int .i64 t.kind,.string t.name]
def uR(n:Int):List Value:=[.int .i64 n]
theorem vT:Elem 135 209 2:=kP (z:=.agg #[Tc, ""]) (bytes:=24) underlying135 Zo rfl Zn Zn
theorem flat_get{α:Type}{enc:α->List Value}{k:Nat}(m:∀b,(enc b).length=k):∀(l:List α) (j:Nat) (f:Value),(l.flatMap enc)[j]?=some f->∃d e b,l[d]?=some b/\(enc b)[e]?=some f/\j=d*k+e:=by
 intro l;induction l with
 |nil=>intro j f a;simp at a
 |cons b p n=>
  intro j f a;rw[UA]at a;rcases Uc j (enc b).length with c|c
  . rw[Te c]at a;exact⟨0,j,b,rfl,a,Zm⟩
  . rw[TS c]at a;obtain⟨d,e,o,g,h,i⟩:=n _ _ a;refine⟨d+1,e,o,by simpa using g,h,?_⟩;rw[m]at i c;rw[UT];omega
theorem ou{α:Type}{enc:α->List Value}{k:Nat}(b:∀a,(enc a).length=k)(l:List α):(l.flatMap enc).length=l.length*k:=by
 induction l with
 |nil=>simp
 |cons a d c=>rw[UA,TP,c,b,TE,UT];omega
theorem oN{α:Type}{enc:α->List Value}(c:∀b,∀a∈enc b,a.oneCell'=true)(l:List α):∀a∈l.flatMap enc,a.oneCell'=true:=by
 intro a d;obtain⟨b,_,e⟩:=List.mem_flatMap.1 d;exact c b a e
theorem SliceOf.flat{α:Type}{k:Nat}{R:lZ α}{enc:α->List Value}(hR:∀w I b d,R w I b d->d=enc b)(r:∀b,(enc b).length=k){w:World}{I:Nat->Prop}{e:Addr}{n g:Nat}{xs:List α}(m:SliceOf k R w I (.slice (some e) n g) xs):∀c a,(xs.flatMap enc)[c]?=some a->w.cell? (e.add c)=some a:=by
 intro c a t;obtain⟨u,f,b,o,p,rfl⟩:=flat_get r xs c a t;obtain⟨v,z,d,h,_,s,y,q⟩:=m.get o;cases h;have j:=hR _ _ _ _ s;subst j;have:=q f a p;unfold Addr.add;split
 . rename_i x;have i:u*k=0:=Zm
   have l:f=0:=Zm
   rw[i,l]at this;exact this
 . simpa [Ue]using this
theorem wQ(x:Val):∀a∈jY x,a.oneCell'=true:=by simp[jY,Value.oneCell']
theorem tX(x:Tag):∀a∈mg x,a.oneCell'=true:=by simp[mg,Value.oneCell']
theorem CZ(x:Int):∀a∈uR x,a.oneCell'=true:=by simp[uR,Value.oneCell']
structure Flat(w:World)(k:Nat)(v:Value)(n:Nat)(xs:List Value):Prop where
 len:xs.length=n*k
 ex:∃a c,v=.slice a n c/\(a=none->n=0)/\∀ad,a=some ad->∀j u,xs[j]?=some u->w.cell? (ad.add j)=some u
 one:∀u∈xs,u.oneCell'=true
theorem SliceOf.toFlat{α:Type}{k:Nat}{R:lZ α}{enc:α->List Value}(hR:∀w I x b,R w I x b->b=enc x)(c:∀x,(enc x).length=k)(g:∀x,∀h∈enc x,h.oneCell'=true){w:World}{I:Nat->Prop}{v:Value}{xs:List α}(a:SliceOf k R w I v xs):Flat w k v xs.length (xs.flatMap enc):=by
 obtain⟨d,e,rfl,_⟩:=a.form;refine⟨ou c xs,⟨d,e,rfl,?_,?_⟩,oN g xs⟩
 . rintro rfl;cases xs with
   |nil=>rfl
   |cons x j=>
    obtain⟨_,_,_,f,_⟩:=a.get (i:=0) (x:=x) rfl;cases f
 . rintro i rfl;exact a.flat hR c
theorem qi{w:World}{base e k n:Nat}{v:Value}{xs:List Value}(a:w.ownsRow base e k v n xs)(c:∀d∈xs,d.oneCell'=true):Flat w k v n xs:=by
 refine⟨a.1,?_,c⟩;rcases a.2 with⟨rfl,rfl⟩|⟨h,b,g,rfl,_⟩
 . exact⟨none,0,rfl,fun _=>rfl,fun _ e=>by cases e⟩
 . exact⟨_,b,rfl,(fun e=>by cases e),fun f e=>by cases e;exact a.cells rfl⟩
theorem Eh{w:World}{base e k n c g:Nat}{xs:List Value}(f:w.ownsRow base e k (g,n,c) n xs)(j:∀b∈xs,b.oneCell'=true){i:Nat}(d:Nat):Flat w k (.slice (some ⟨g,i*k,none⟩) (n - i) d) (n - i) (xs.drop (i*k)):=by
 refine⟨by rw[Ui,f.1,Nat.sub_mul],⟨_,d,rfl,(fun e=>by cases e),fun m e o b a=>?_⟩,fun b a=>j b (Vv a)⟩;cases e;rw[UD]at a;have:=f.cells (g:=g) rfl _ _ a;unfold Addr.add at this |-;split at this<;>split
 . rename_i l h;rw[show i*k=0 by omega];exact this
 . omega
 . rename_i l h;rw[h]at this;simpa using this
 . simpa using this
theorem M4{w:World}{a:Addr}{v:Value}(c:w.cell? a=some v):a.block<w:=by
 rcases Uc a.block w with b|b
 . exact b
 . simp[World.cell?,Ub b]at c
theorem Flat.ext{w g:World}{k n:Nat}{v:Value}{xs:List Value}(l:Flat w k v n xs)(q:Ext w g):Flat g k v n xs:=by
 obtain⟨m,⟨h,i,j,o,c⟩,p⟩:=l;exact⟨m,⟨h,i,j,o,fun a b e f d=>(Un (q.block _ (M4 (c a b e f d)) fun r=>r)).trans (c a b e f d)⟩,p⟩
theorem jR{t e k:Nat}(o:Elem t e k)(w:World){l:Array Oper}{rest:List Oper}{g:Oper}{a:Act}{Q:Exit->Act->World->Prop}(G:g.guard=none)(s x:Operand)
    (J:g.op=.call {callee:=.builtin .append,args:=#[s,x],argTypes:=#[t,t]}) (base:Nat) (v:Value) (n:Nat) (xs:List Value) (L:a.eval s=v) (K:w.ownsRow base e k v n xs)
    (f:Addr) (m c:Nat) (j:List Value) (O:a.eval x=.slice (some f) m c) (F:Flat w k (.slice (some f) m c) m j)
    (I:n+m<=8589934592) (C:base<=w)
    (z:∀h d,d.ownsRow base e k h (n+m) (xs++j)->Kp (fun p=>v.ownBlock=some p) w d->wpList prog l Q rest (a.put g.dst h) d):
    wpList prog l Q (g::rest) a w:=by
 obtain⟨S,T,bytes,N,H,P,M,D,R,i,B⟩:=o;obtain⟨r,⟨U,V,q,_,u⟩,y⟩:=F;cases q;refine wpList_append_own w G s x t J base e S T k bytes N H P M D R i v n xs L K f m c j O r (u f rfl) y (by unfold maxLen;omega) ?_ C ?_
 . have:(n+m)*bytes<=8589934592*4096:=UL I B;omega
 . intro h d A b _;exact z h d A ⟨b.os,b.tape,b.output,b.size,fun k i E=>b.block k i (fun e=>E e.symm)⟩
theorem kG(W:World)(e k:Nat)(a:Nat)(b:a<=W){g:Nat}(c:W=g):(W.alloc (.cells #[] e)).ownsRow a e k (.slice (some ⟨g,0,none⟩) 0 0) 0 []:=by
 subst c;exact⟨by simp,.inr ⟨_,0,#[],rfl,b,heap_alloc_new W _,T9 _,by simp,by simp,by simp⟩⟩
theorem uq{w:World}{v:Value}{n:Nat}{xs:List Value}(a:Flat w 2 v n xs)(y:n<=4294967296):Calls prog 111 #[v] w fun q e=>(∃d,q=.returned d/\e.ownsRow w 37 2 d n xs)/\Ext w e:=by
 obtain⟨f,g,rfl,b,i⟩:=a.ex;have x:=fun o=>U0 (P:=prog) o 61 37 f n g 0 0 underlying61;have c:=a.len;cases f with
 |none=>
  obtain rfl:=b rfl;have t:=TR (by simpa using c);subst t;clear a b i c;go_enter func111,ntmps111;go_wp2;go_ret;exact⟨⟨_,rfl,Tf _ _ _ _⟩,Kp.rr⟩
 |some p=>
  have k:=Zy (a.ext (jw (.cells #[] 37):Ext w _));have s:0+n<=8589934592:=Zm
  clear a b i c;go_enter func111,ntmps111;go_wp2_with (at_builtin;refine jR rQ _ rfl _ _ rfl w _ 0 [] rfl (kG w _ 2 _ (T9 _) rfl) p n g xs rfl k s Zl ?_);intro d e j h;have⟨m,l⟩:=jf j h;clear j h;go_wp2;go_ret;exact⟨⟨_,rfl,by simpa using m.o⟩,(jw _:Ext w _).own l.o (fun u r=>by simp only[Value.ownBlock,TT]at r;omega)⟩
theorem qX{w:World}{v:Value}{n:Nat}{xs:List Value}(a:Flat w 2 v n xs)(y:n<=4294967296):Calls prog 158 #[v] w fun q e=>(∃d,q=.returned d/\e.ownsRow w 209 2 d n xs)/\Ext w e:=by
 obtain⟨f,g,rfl,b,i⟩:=a.ex;have x:=fun o=>U0 (P:=prog) o 135 209 f n g 0 0 underlying135;have c:=a.len;cases f with
 |none=>
  obtain rfl:=b rfl;have t:=TR (by simpa using c);subst t;clear a b i c;go_enter func158,ntmps158;go_wp2;go_ret;exact⟨⟨_,rfl,Tf _ _ _ _⟩,Kp.rr⟩
 |some p=>
  have k:=Zy (a.ext (jw (.cells #[] 209):Ext w _));have s:0+n<=8589934592:=Zm
  clear a b i c;go_enter func158,ntmps158;go_wp2_with (at_builtin;refine jR vT _ rfl _ _ rfl w _ 0 [] rfl (kG w _ 2 _ (T9 _) rfl) p n g xs rfl k s Zl ?_);intro d e j h;have⟨m,l⟩:=jf j h;clear j h;go_wp2;go_ret;exact⟨⟨_,rfl,by simpa using m.o⟩,(jw _:Ext w _).own l.o (fun u r=>by simp only[Value.ownBlock,TT]at r;omega)⟩
theorem yM{w:World}{v:Value}{n:Nat}{xs:List Value}(a:Flat w 1 v n xs)(y:n<=4294967296):Calls prog 110 #[v] w fun q e=>(∃d,q=.returned d/\e.ownsRow w 3 1 d n xs)/\Ext w e:=by
 obtain⟨f,g,rfl,b,i⟩:=a.ex;have x:=fun o=>U0 (P:=prog) o 26 3 f n g 0 0 underlying26;have c:=a.len;cases f with
 |none=>
  obtain rfl:=b rfl;have t:=TR (by simpa using c);subst t;clear a b i c;go_enter func110,ntmps110;go_wp2;go_ret;exact⟨⟨_,rfl,Tf _ _ _ _⟩,Kp.rr⟩
 |some p=>
  have k:=Zy (a.ext (jw (.cells #[] 3):Ext w _));have s:0+n<=8589934592:=Zm
  clear a b i c;go_enter func110,ntmps110;go_wp2_with (at_builtin;refine jR Al _ rfl _ _ rfl w _ 0 [] rfl (kG w _ 1 _ (T9 _) rfl) p n g xs rfl k s Zl ?_);intro d e j h;have⟨m,l⟩:=jf j h;clear j h;go_wp2;go_ret;exact⟨⟨_,rfl,by simpa using m.o⟩,(jw _:Ext w _).own l.o (fun u r=>by simp only[Value.ownBlock,TT]at r;omega)⟩
def kD{α:Type}(R:lZ α)(w:World)(I:Nat->Prop):List α->List (List Value)->Prop
 |[],[]=>True
 |x::xs,c::cs=>R w I x c/\kD R w I xs cs
 |_,_=>False
theorem kD.get{α:Type}{R:lZ α}{w:World}{I:Nat->Prop}:∀{xs:List α} {css:List (List Value)},kD R w I xs css->∀(i:Nat) (x:α),xs[i]?=some x->∃a,css[i]?=some a/\R w I x a
 |[],[],_,i,x,h=>by simp at h
 |y::xs,a::cs,h,0,x,hx=>by
  simp at hx;subst hx;exact⟨a,rfl,h.1⟩
 |y::xs,a::cs,h,i+1,x,hx=>by
  obtain⟨b,c,d⟩:=kD.get h.2 i x (by simpa using hx);exact⟨b,by simpa using c,d⟩
 |[],_::_,h,_,_,_=>h.elim
 |_::_,[],h,_,_,_=>h.elim
theorem mI{k:Nat}:∀{css:List (List Value)},(∀c∈css,c.length=k)->∀(i:Nat) (c:List Value),css[i]?=some c->∀(j:Nat) (a:Value),c[j]?=some a->css.flatten[i*k+j]?=some a
 |[],_,i,c,h,_,_,_=>by simp at h
 |d::r,hk,0,c,h,j,a,hu=>by
  simp at h;subst h;rw[UZ,Te (SX ((Tw.1 hu).1))];simpa using hu
 |d::r,hk,i+1,c,h,j,a,hu=>by
  have b:=hk d Zl;rw[UZ,TS (by rw[b,UT];omega)];have:=mI (fun c e=>hk c (TU _ e)) i c (by simpa using h) j a hu;rw[b,show(i+1)*k+j - k=i*k+j by rw[UT];omega];exact this
theorem SliceOf.row{α:Type}{k:Nat}{R:lZ α}{w:World}{I:Nat->Prop}{g:Nat}{xs:List α}(css:List (List Value)){cells:List Value}(f:hH w g 0 cells)(i:cells=css.flatten)(d:∀a∈css,a.length=k)(hR:kD R w I xs css) (hI:I g) {b:Nat} (h:xs.length<=b) (l:xs.length<=4294967296):SliceOf k R w I (g,xs.length,b) xs:=
 ⟨_,b,rfl,h,l,fun e q n=>by
  obtain⟨a,c,m⟩:=hR.get e q n;refine⟨g,0,a,rfl,hI,m,d a (RA c),fun o p j=>?_⟩;have:=f _ _ (by rw[i];exact mI d e a c o p j);simpa [Ue]using this⟩
theorem SliceOf.css{α:Type}{k:Nat}{R:lZ α}{w:World}{I:Nat->Prop}{v:Value}:∀{xs:List α},SliceOf k R w I v xs->∃d:List (List Value),d.length=xs.length/\(∀c∈d,c.length=k)/\kD R w I xs d/\∀(p:Addr) (n c:Nat),v=.slice (some p) n c->∀(i:Nat) (c:List Value),d[i]?=some c->∃a b,p=⟨a,b,none⟩/\I a/\hH w a (b+i*k) c:=by
 intro xs g;obtain⟨B,P,rfl,Q,S,G⟩:=g;have M:∀(o:List α) (e:Nat),(∀(i:Nat) (h:α),o[i]?=some h->∃a b f,B=some ⟨a,b,none⟩/\I a/\R w I h f/\f.length=k/\hH w a (b+(e+i)*k) f)→
     ∃d:List (List Value),d.length=o.length/\(∀c∈d,c.length=k)/\kD R w I o d/\∀(i:Nat) (c:List Value),d[i]?=some c->∃a b,B=some ⟨a,b,none⟩/\I a/\hH w a (b+(e+i)*k) c:=by
  intro o;induction o with
  |nil=>exact fun e _=>⟨[],rfl,by simp,trivial,fun i c g=>by simp at g⟩
  | cons O T L =>
   intro e g;obtain⟨d,q,r,s,t⟩:=L (e+1) (fun i h A=>by
    obtain⟨a,b,f,j,l,z,y,m⟩:=g (i+1) h (by simpa using A);exact⟨a,b,f,j,l,z,y,by rw[show e+1+i=e+(i+1) by omega];exact m⟩)
   obtain⟨a,b,f,j,l,z,y,m⟩:=g 0 O rfl;refine⟨f::d,by simp[q],fun c u=>(Ud.1 u).elim (fun E=>by rw[E];exact y) (r c),⟨z,s⟩,fun i c x=>?_⟩;cases i with
   |zero=>simp at x;subst x;exact⟨a,b,j,l,m⟩
   |succ i=>
    obtain⟨C,N,F,H,u⟩:=t i c (by simpa using x);exact⟨C,N,F,H,by rw[show e+(i+1)=e+1+i by omega];exact u⟩
 obtain⟨d,q,r,s,t⟩:=M xs 0 (fun i h A=>by simpa using G i h A);refine⟨d,q,r,s,fun p n c K i D J=>?_⟩;cases K;obtain⟨a,b,j,l,m⟩:=t i D J;cases j;exact⟨a,b,rfl,l,by simpa using m⟩
theorem kD.snoc{α:Type}{R:lZ α}{w:World}{I:Nat->Prop}{x:α}{c:List Value}:∀{xs:List α} {css:List (List Value)},kD R w I xs css->R w I x c->kD R w I (xs++[x]) (css++[c])
 |[],[],_,h=>⟨h,trivial⟩
 |_::_,_::_,h,hx=>⟨h.1,kD.snoc h.2 hx⟩
 |[],_::_,h,_=>h.elim
 |_::_,[],h,_=>h.elim
theorem kD.keep{α:Type}{R:lZ α}(hR:jM R){w d:World}{I J:Nat->Prop}(c:Same I w d)(b:∀a,I a->J a):∀{xs:List α} {css:List (List Value)},kD R w I xs css->kD R d J xs css
 |[],[],_=>trivial
 |_::_,_::_,h=>⟨hR _ _ _ _ _ _ c b h.1,kD.keep hR c b h.2⟩
 |[],_::_,h=>h.elim
 |_::_,[],h=>h.elim
theorem SliceOf.inside{α:Type}{k:Nat}{R:lZ α}(hR:∀w I c b,R w I c b->R w (fun a=>I a/\a<w) c b)(x:0<k){w:World}{I:Nat->Prop}{v:Value}{xs:List α}(j:SliceOf k R w I v xs):SliceOf k R w (fun a=>I a/\a<w) v xs:=by
 obtain⟨f,g,h,l,m,n⟩:=j;refine⟨f,g,h,l,m,fun s c r=>?_⟩;obtain⟨a,t,b,i,o,q,e,d⟩:=n s c r;have p:a<w:=by
  cases b with
  |nil=>simp at e;omega
  |cons u y=>exact jc (d 0 u rfl)
 exact⟨a,t,b,i,⟨o,p⟩,hR _ _ _ _ q,e,d⟩
theorem Dk{k:Nat}:∀{css:List (List Value)},(∀c∈css,c.length=k)->css.flatten.length=css.length*k
 |[],_=>by simp
 |c::r,h=>by
  rw[UZ,TP,Dk (fun c a=>h c (TU _ a)),h c Zl,TE,UT];omega
theorem FH{k:Nat}(m:0<k):∀{css:List (List Value)},(∀c∈css,c.length=k)->∀a e,css.flatten[a]?=some e->∃b d c,css[b]?=some c/\c[d]?=some e/\a=b*k+d
 |[],_,a,e,h=>by simp at h
 |c::t,h,a,e,hu=>by
  have g:=h c Zl;rw[UZ]at hu;rcases Uc a c.length with f|f
  . rw[Te f]at hu;exact⟨0,a,c,rfl,hu,Zm⟩
  . rw[TS f]at hu;obtain⟨b,d,i,j,l,n⟩:=FH m (fun c g=>h c (TU _ g)) _ _ hu;exact⟨b+1,d,i,by simpa using j,l,by rw[UT];omega⟩
def One{α:Type}(R:lZ α):Prop:=∀w I x cs,R w I x cs->∀u∈cs,u.oneCell'=true
theorem One.SK:One nC:=fun _ _ _ _ b c a=>by subst b;simp at a;rcases a with rfl|rfl<;>rfl
theorem One.ins:One uN:=fun _ _ _ _ b c a=>by subst b;simp at a;rcases a with rfl|rfl|rfl|rfl<;>rfl
theorem One.ask:One mQ:=fun _ _ _ _ b c a=>by subst b;simp at a;rcases a with rfl|rfl<;>rfl
theorem One.field:One lv:=fun _ _ _ _ b c a=>by subst b;simp at a;rcases a with rfl|rfl|rfl<;>rfl
theorem One.smap:One kM:=fun _ _ _ _ b c a=>by obtain⟨_,_,_,_,rfl⟩:=b.form;simp at a;rcases a with rfl|rfl|rfl<;>rfl
theorem One.Re:One jd:=fun _ _ _ _ b c a=>by obtain⟨_,_,_,_,_,_,rfl⟩:=b.form;simp at a;rcases a with rfl|rfl|rfl|rfl|rfl|rfl|rfl|rfl<;>rfl
theorem One.cls:One jh:=fun _ _ _ _ b c a=>by obtain⟨_,_,_,_,rfl⟩:=b.form;simp at a;rcases a with rfl|rfl|rfl|rfl<;>rfl
theorem One.keep:One ja:=fun _ _ _ _ b c a=>by obtain⟨_,_,_,_,rfl⟩:=b.form;simp at a;rcases a with rfl|rfl<;>rfl
theorem kD.one{α:Type}{R:lZ α}(d:One R){w:World}{I:Nat->Prop}:∀{xs:List α} {css:List (List Value)},kD R w I xs css->∀b∈css.flatten,b.oneCell'=true
 |[],[],_=>by simp
 |_::_,c::css,h=>by
  intro b a;rw[UZ,TZ]at a;rcases a with a|a
  . exact d _ _ _ _ h.1 b a
  . exact kD.one d h.2 b a
 |[],_::_,h=>h.elim
 |_::_,[],h=>h.elim
theorem kD.len{α:Type}{R:lZ α}{w:World}{I:Nat->Prop}:∀{xs:List α} {css:List (List Value)},kD R w I xs css->css.length=xs.length
 |[],[],_=>rfl
 |_::_,_::_,h=>by rw[TE,TE,kD.len h.2]
 |[],_::_,h=>h.elim
 |_::_,[],h=>h.elim
theorem SliceOf.cells{α:Type}{k:Nat}{R:lZ α}(B:One R)(y:0<k){w:World}{I:Nat->Prop}{a:Option Addr}{n c:Nat}{xs:List α}(h:SliceOf k R w I (.slice a n c) xs):∃b,(∀c∈b,c.length=k)/\kD R w I xs b/\Flat w k (.slice a n c) n b.flatten:=by
 obtain⟨b,s,f,i,t⟩:=h.css;have x:=h;obtain⟨D,F,d,-,-,u⟩:=x;cases d;refine⟨b,f,i,by rw[Dk f,s],⟨_,_,rfl,fun d=>?_,fun m d A l z=>?_⟩,i.one B⟩
 . cases xs with
   |nil=>rfl
   |cons C g=>obtain⟨_,_,_,e,_⟩:=u 0 C rfl;rw[d]at e;cases e
 . subst d;obtain⟨j,g,o,p,e,rfl⟩:=FH y f A l z;obtain⟨E,H,rfl,-,v⟩:=t m _ _ rfl j o p;have:=v g l e;unfold Addr.add;split
   . rename_i G;have q:j*k=0:=Zm
     have r:g=0:=Zm
     rw[q,r]at this;exact this
   . simpa [Ue]using this
theorem SliceOf.owned{α:Type}{k:Nat}{R:lZ α}{w:World}{I:Nat->Prop}{base e n:Nat}{v:Value}{css:List (List Value)}{xs:List α}(f:w.ownsRow base e k v n css.flatten)(d:∀h∈css,h.length=k)(l:0<k)(hR:kD R w I xs css) (hI:∀b,base<=b->b<w.heap.size->I b) (o:xs.length<=4294967296):SliceOf k R w I v xs:=by
 have p:n=xs.length:=by
  have:=f.1;rw[Dk d,hR.len]at this;exact(Nat.eq_of_mul_eq_mul_right l this).symm
 subst p;rcases f.2 with⟨rfl,i⟩|⟨g,r,s,rfl,j,c,m,_,t,q⟩
 . have:xs=[]:=UN.1 i;subst this;exact SliceOf.nil _ _ _ _
 . refine SliceOf.row css (g:=g) (cells:=css.flatten) (fun u x a=>?_) rfl d hR (hI g j (Tg.1 c).1) m o;rw[<-q,Uu]at a;split at a
   . simp only[World.cell?,c];simpa [Tm]using a
   . cases a
theorem Bg{t e k:Nat}(h:Elem t e k)(w:World){g:Array Oper}{rest:List Oper}{b:Oper}{a:Act}{Q:Exit->Act->World->Prop}(l:b.guard=none)(s x:Operand)
    (o:b.op=.call {callee:=.builtin .append,args:=#[s,x],argTypes:=#[t,t]}) {base n c:Nat} {v:Value} {xs:List Value} (r:a.eval s=v) (p:w.ownsRow base e k v n xs) (u:a.eval x=.slice none 0 c)
    (i:wpList prog g Q rest (a.put b.dst v) w):wpList prog g Q (b::rest) a w:=by
 obtain⟨K,L,bytes,f,d,I,H,E,J,G,C⟩:=h;refine VS l fun y j=>?_;have q:(Builtin.append_ #[t,t] b.type #[v,.slice none 0 c]).run prog w=.ok v w:=by
  rcases p.2 with⟨rfl,rfl⟩|⟨B,z,A,rfl,F,D,m,_⟩
  . simp[Builtin.append_,underlying,f,sizeOf,typeInfo,d,U8,Builtin.lenOf,Builtin.firstCells]
  . simp[Builtin.append_,underlying,f,sizeOf,typeInfo,d,U8,Builtin.lenOf,Builtin.firstCells,m,storeCells]
 unfold Oper.wp execOp;simp only[o,resolve,invoke,builtin,U8,Sem.run_pure,U6,List.map_toArray,UU,VR,r,u,q];exact j _ _ i
theorem jK{t e k:Nat}(i:Elem t e k)(w:World){u:Array Oper}{rest:List Oper}{d:Oper}{a:Act}{Q:Exit->Act->World->Prop}(o:d.guard=none)(s x:Operand)
    (p:d.op=.call {callee:=.builtin .append,args:=#[s,x],argTypes:=#[t,t]}) (base:Nat) (v:Value) (n:Nat) (xs:List Value) (q:a.eval s=v) (f:w.ownsRow base e k v n xs)
    (b:Option Addr) (m c:Nat) (g:List Value) (r:a.eval x=.slice b m c) (l:Flat w k (.slice b m c) m g)
    (F:n+m<=8589934592) (D:base<=w)
    (j:∀y h,h.ownsRow base e k y (n+m) (xs++g)->Kp (fun z=>v.ownBlock=some z) w h->wpList prog u Q rest (a.put d.dst y) h):
    wpList prog u Q (d::rest) a w:=by
 cases b with
 |some b=>exact jR i w o s x p base v n xs q f b m c g r l F D j
 |none=>
  obtain⟨B,⟨H,I,A,C,-⟩,-⟩:=l;cases A;have E:=C rfl;subst E;have G:=UN.1 (by rw[B,Ua]);subst G;refine Bg i w o s x p q f r (j v w (by simpa using f) Kp.rr)
structure oh(w:World)(rb:Nat)(v:Value)(zs:List Int)(p:Nat):Prop where
 blk:hZ w rb 94 #[v,.int .i64 p]
 QH:BytesAt w v zs
 own:zs.length≠0->∀a n c,v=.slice (some a) n c->a.block≠rb
 len:zs.length<=2000
theorem add_block(a:Addr)(i:Nat):(a.add i).block=a.block:=by
 unfold Addr.add;split<;>rfl
theorem BytesAt.kp{D:Nat->Prop}{W d:World}{v:Value}{c:List Int}(b:BytesAt W v c)(n:Kp D W d)(m:c.length≠0->∀a o i,v=.slice (some a) o i->¬D a.block):BytesAt d v c:=by
 rcases b with b|⟨a,j,e,k,f,l⟩
 . exact .inl b
 . exact .inr ⟨a,j,e,k,fun h g=>(Un (n.block _ (yJ (f h g)) (by rw[add_block];exact m Zm a _ _ e))).trans (f h g),l⟩
theorem oh.ext{w d:World}{c p:Nat}{v:Value}{e:List Int}(a:oh w c v e p)(b:Ext w d):oh d c v e p:=
 ⟨a.blk.ext b,a.QH.ext b,a.own,a.len⟩
theorem oh.next{w:World}{a p:Nat}{v:Value}{d:List Int}(b:oh w a v d p)(q:Nat):oh (w.setCell (a,1) q) a v d q/\Kp (·=a) w (w.setCell (a,1) q):=by
 have c:Kp (·=a) w (w.setCell (a,1) q):=nH;exact⟨⟨b.blk.jy 1 _,b.QH.kp c (fun h e i f g=>b.own h e i f g),b.own,b.len⟩,c⟩
def Qi(n:Int)(e:Ending):Prop:=∃k:Nat,e=.returned (.int .i64 k)/\(k=0\/(k:Int)<n)
theorem Kq{a b:Int}(h:0<=a)(i:a<9223372036854775808)(j:0<=b)(k:b<9223372036854775808):0<=bits .xor .i64 a b:=by
 obtain⟨c,rfl⟩:∃c:Nat,a=c:=⟨a.toNat,Zm⟩;obtain⟨d,rfl⟩:∃d:Nat,b=d:=⟨b.toNat,Zm⟩;have l:c ^^^ d<2 ^ 63:=Nat.xor_lt_two_pow Zm Zm;have e:(BitVec.ofInt 64 (c:Int)).toNat=c:=by
  rw[BitVec.ofInt_natCast,BitVec.toNat_ofNat];exact Wm Zm
 have f:(BitVec.ofInt 64 (d:Int)).toNat=d:=by
  rw[BitVec.ofInt_natCast,BitVec.toNat_ofNat];exact Wm Zm
 have g:bits .xor .i64 (c:Int) (d:Int)=IntKind.i64.wrap (((BitVec.ofInt 64 (c:Int)^^^ BitVec.ofInt 64 (d:Int)).toNat:Nat):Int):=rfl;rw[g,BitVec.toNat_xor,e,f];simp only[IntKind.wrap,IntKind.bits,IntKind.signed];have:((2:Int)^ 63)=9223372036854775808:=by decide
 simp;omega
theorem IK{n r:Int}(h0:0<=r)(a:r<n):Qi n (.returned r):=⟨r.toNat,by rw[W9 h0],.inr Zm⟩
theorem jQ(w:World)(h p:Nat)(v:Value)(a:List Int)(n:Int)(c:oh w h v a p)(Y:p<=1000000)(X:n<=1000000000):Calls prog 39 #[some h,n] w fun t G=>Qi n t/\oh G h v a (p+1)/\Kp (·=h) w G:=by
 obtain⟨va,vc,rfl⟩:=c.QH.form;obtain⟨P,M,N,-⟩:=c.blk.ca;have S:=c.blk.frozen 1;have E:=c.next (p+1);have⟨i,z⟩:=jf E c;have W:=c.len;clear E c;by_cases U:n<1
 . go_enter func39,ntmps39;go_wp2;go_ret;exact⟨⟨0,rfl,.inl rfl⟩,i⟩
 by_cases u:a.length=0
 . obtain rfl:=UN.1 u;go_enter func39,ntmps39;go_wp2;go_ret;exact⟨⟨0,rfl,.inl rfl⟩,i⟩
 have T:((a.length:Int)==0)=false:=SF.2 Zm;rcases z.o.QH with⟨-,t⟩|⟨H,O,A,V,o,j⟩
 . subst t;simp at u
 cases A;have l:=fun b e=>by
  have q:Kp (·=h) w (w.setCell (h,1) (.int .i64 ((p:Int)+1))):=nH;exact(Un (q.block _ (yJ (o b e)) (by rw[add_block];exact z.own u H _ _ rfl))).trans (o b e)
 by_cases q:p<a.length
 . have s:=l p q;have k:=Bu j q;obtain⟨d,m⟩:∃d,a.getD p 0=d:=⟨_,rfl⟩;rw[m]at s k;obtain⟨K,L⟩:=k;clear l o j m;go_enter func39,ntmps39;go_wp2;go_ret;exact⟨IK (Int.emod_nonneg _ Zm) (Int.emod_lt_of_pos _ Zm),i⟩
 . obtain⟨b,e⟩:∃b,p % a.length=b:=⟨_,rfl⟩;obtain⟨f,x⟩:∃f,(p*7+3)% a.length=f:=⟨_,rfl⟩;obtain⟨g,y⟩:∃g,p / a.length=g:=⟨_,rfl⟩;have C:b<a.length:=by rw[<-e];exact Nat.mod_lt _ Zm
   have D:f<a.length:=by rw[<-x];exact Nat.mod_lt _ Zm
   have Z:g<=p:=by rw[<-y];exact Nat.div_le_self _ _
   have s:=l b C;have I:=l f D;have k:=Bu j C;have B:=Bu j D;obtain⟨d,m⟩:∃d,a.getD b 0=d:=⟨_,rfl⟩;obtain⟨r,F⟩:∃r,a.getD f 0=r:=⟨_,rfl⟩;rw[m]at s k;rw[F]at I B;have A:(p:Int)% (a.length:Int)=b:=by rw[<-e];simp
   have Q:((p:Int)*7+3)% (a.length:Int)=f:=by rw[<-x];simp
   have R:(p:Int)/ (a.length:Int)=g:=by rw[<-y];simp
   obtain⟨K,L⟩:=k;obtain⟨aa,ae⟩:=B;clear l o j m F e x y;go_enter func39,ntmps39;go_wp2_with fail;go_quiet (fail);go_wp2_with fail;have J:0<=bits BinOp.xor IntKind.i64 (d*131+r*1117+p*29+g*53) ((d*131+r*1117+p*29+g*53)/ 64):=Kq Zm Zm Zm Zm;go_ret;exact⟨IK (Int.tmod_nonneg _ J) (Int.tmod_lt_of_pos _ Zm),i.1.ext (Kp.rr.drewN _),i.2.drewN _⟩
def BV(e:Ending):Prop:=∃b,e=.returned (.bool b)
theorem J2(w:World)(a p:Nat)(v:Value)(b:List Int)(n:Int)(d:oh w a v b p)(j:p<=1000000)(i:n<=1000000000)(k: -1000000000<=n):Calls prog 36 #[some a,n] w fun c f=>BV c/\oh f a v b (p+1)/\Kp (·=a) w f:=by
 have g:=Zy (jQ w a p v b n d j i);clear d;go_enter func36,ntmps36;go_wp2_with fail;refine g.mono ?_;rintro c m ⟨⟨l,rfl,-⟩,e⟩;have h:=Zy e;clear e;go_wp2;go_ret;exact⟨⟨_,rfl⟩,h⟩
theorem PT(w:World){v:Value}(d:List Int)(f:BytesAt w v d):Calls prog 13 #[v] w fun b o=>(∃m y A,b=.returned (.pointer (some ⟨m,0,none⟩))/\w.heap.size<=m/\oh o m y A 0)/\Ext w o:=by
 obtain⟨z,n,rfl⟩:=f.form;by_cases t:2000<d.length
 . rcases f with⟨-,rfl⟩|⟨a,q,j,r,g,l⟩
   . simp at t
   cases j;have h:Zz (BytesAt w (.slice (some a) 2000 n) (d.take 2000)):=Zy (.inr ⟨a,n,by rw[Tj,U5 Zm],by rw[Tj];omega,fun x s=>by
    rw[Tj]at s;rw[g x Zm];simp only[List.getD,Uu];rw[Tv Zm],fun c u=>l c (Uv u)⟩)
   have i:=Zy (by have:=yJ (g 0 Zm);rwa[add_block]at this);clear g l;go_enter func13,ntmps13;go_wp2;go_ret;refine⟨⟨w,_,d.take 2000,rfl,T9 _,hZ.new _ _ _,h.ext (jw _),fun _ p c e b=>?_,by rw[Tj];omega⟩,kx⟩;cases b;have:=i.o;omega
 . have h:=Zy f;have i:Zz (∀a c e,Value.slice z d.length n=.slice (some a) c e->d.length≠0->a.block<w):=Zy (fun a c e b k=>by
    rcases f with⟨-,rfl⟩|⟨p,q,j,r,g,l⟩
    . simp at k
    . cases b;cases j;have:=yJ (g 0 Zm);rwa[add_block]at this)
   clear f;go_enter func13,ntmps13;go_wp2;go_ret;exact⟨⟨w,_,d,rfl,T9 _,hZ.new _ _ _,h.ext (jw _),fun k a c e b=>Nat.ne_of_lt (i a c e b k),Zm⟩,kx⟩
theorem Bo(w:World)(x:Int)(h0:0<=x)(f:x<256):(convert 22 9 (.slice (some ⟨w,0,none⟩) 1 1)).run prog (w.alloc (.cells #[.int .u8 x] 5))=.ok (.string (M.bs [UInt8.ofNat x.toNat])) (w.alloc (.cells #[.int .u8 x] 5)):=by
 refine Lib.run_convert_whole (P:=prog) _ 22 5 9 underlying22 underlying5 underlying9 w 0 (M.bs [UInt8.ofNat x.toNat]) ?_ 1;intro e g;have b:e=0:=by
  have:(M.bs [UInt8.ofNat x.toNat]).size=1:=rfl;omega
 subst b;rw[(hZ.new w 5 #[.int .u8 x]).cell];have c:x.toNat % 256=x.toNat:=Wm Zm;have d:=W9 h0;have a:(M.bs [UInt8.ofNat x.toNat])[0]=UInt8.ofNat x.toNat:=rfl;simp[a,UInt8.toNat_ofNat',c,d]
theorem CQ(l:List UInt8):(M.bs l).size=l.length:=by simp[M.bs,ByteArray.size]
theorem Jb{n:Int}{w:World}(h0: -9223372036854775808<=n)(o:n<=9223372036854775807):Calls prog 185 #[n] w fun i l=>(∃b,i=.returned (.string b)/\(0<=n->n<=2->b=M.bs (M.digit n))/\9*(b.size:Int)<=n.natAbs+18)/\Ext w l:=by
 go_enter func185,ntmps185;go_wp2;go_loopw [0,3] (fun d k wr=>∃(a:Int) (b:ByteArray),d=.int .i64 a/\k=.string b/\a<=n/\((a=n/\b.size=0)\/0<=a/\9*(b.size:Int)+a<=n)/\Zz (n<=2->a=n/\b=⟨#[]⟩)/\Ext w wr) (fun d _ _=>(intOf d).toNat)
 case atStart=>exact⟨n,⟨#[]⟩,rfl,rfl,Int.le_refl _,.inl ⟨rfl,rfl⟩,Zy (fun _=>⟨rfl,rfl⟩),Kp.rr⟩
 case round=>
  obtain⟨a,b,rfl,rfl,q,r,g,f⟩:=hrel;have e:=Zy f;clear f;have s:b.size<=1030000000000000000:=Zm
  by_cases p:9<a
  . have h:=Bo wr (48+a % 10) Zm Zm;have c:=CQ [UInt8.ofNat (48+a % 10).toNat];simp only[VI]at c;go_wp2;go_round
    case rel=>exact⟨a / 10,_,rfl,rfl,Zm,.inr ⟨Zm,by rw[UW,c];omega⟩,Zy (fun _=>Zm),e.o.trans (jw _)⟩
    case measure=>simp[intOf];omega
  . have h:=Bo wr ((48+a)% 256) Zm Zm;have c:=CQ [UInt8.ofNat ((48+a)% 256).toNat];simp only[VI]at c;go_wp2;go_ret;refine⟨⟨_,rfl,fun m j=>?_,by rw[UW,c];omega⟩,e.o.trans (jw _)⟩;obtain⟨rfl,rfl⟩:=g.o j;have:a=0\/a=1\/a=2:=Zm
    rcases this with rfl|rfl|rfl<;>rfl
theorem Ka(n:Int)(w:World)(h0: -9223372036854775807<=n)(j:n<=9223372036854775807):Calls prog 140 #[n] w fun b f=>(∃a,b=.returned (.string a)/\(0<=n->n<=2->a=M.bs (M.digit n))/\9*(a.size:Int)<=n.natAbs+27)/\Ext w f:=by
 by_cases i:n<0
 . have e:(ByteArray.mk #[45]).size=1:=rfl;go_enter func140,ntmps140;go_wp2_with fail;refine(Jb Zm Zm).mono ?_;rintro b g ⟨⟨a,rfl,-,d⟩,c⟩;go_wp2;go_ret;exact⟨⟨_,rfl,fun h _=>Zm,by rw[UW,e];omega⟩,c⟩
 . go_enter func140,ntmps140;go_wp2_with fail;refine(Jb Zm Zm).mono ?_;rintro b g ⟨⟨a,rfl,d,k⟩,c⟩;go_wp2;go_ret;exact⟨⟨_,rfl,d,Zm⟩,c⟩
def Ky(m:Nat)(e:Ending):Prop:=∃t:ByteArray,e=.returned (.string t)/\t.size<=m
theorem PS(w:World)(d p:Nat)(v:Value)(f:List Int)(s:ByteArray)(L:oh w d v f p)(hp:p<=900000)(hs:s.size<=100000000):Calls prog 83 #[some d,s] w fun i X=>Ky (s.size+1) i/\(∃b,b<=p+4/\oh X d v f b)/\Kp (·=d) w X:=by
 have G:=Zy (jQ w d p v f (s.size+1) L Zm Zm);clear L;go_enter func83,ntmps83;go_wp2_with fail;refine G.mono ?_;rintro i w1 ⟨⟨c,rfl,hk⟩,Q,N⟩;have az:c<=s.size:=Zm
 have⟨H,aa⟩:=jf (jQ w1 d (p+1) v f 256 Q Zm Zm) N;clear Q N hk;go_wp2_with fail;refine H.mono ?_;rintro i n ⟨⟨K,rfl,hc⟩,x,O⟩;obtain⟨l,m⟩:=SS (n.alloc (.cells #[.int .i64 32,.int .i64 48,.int .i64 49,.int .i64 57,.int .i64 45,.int .i64 97,.int .i64 35,.int .i64 63,.int .i64 33,.int .i64 47,K] 3));have r:Ext n l:=by rw[m];exact kx
 have Y:Zz (hZ l n 3 #[.int .i64 32,.int .i64 48,.int .i64 49,.int .i64 57,.int .i64 45,.int .i64 97,.int .i64 35,.int .i64 63,.int .i64 33,.int .i64 47,K]):=Zy (by rw[m];exact hZ.new _ _ _);have⟨I,ae⟩:=jf (jQ l d (p+1+1) v f 11 (x.ext r) Zm Zm) ((aa.trans O).trans r.any);have HZ:=Zy x.blk.lt;have ai:=Zy m;clear x O r m;go_wp2_with fail;rw[<-ai.o];refine I.mono ?_;rintro i o ⟨⟨a,rfl,hj⟩,R,u⟩;have ay:a<11:=Zm
 have T:=Y.kp u (SX HZ.o);obtain⟨e,U,V,W⟩:∃e:Int,o.cell? (n,a)=some (.int .i64 e)/\0<=e/\e<256:=by
  have ak:=T.cell a;have:a=0\/a=1\/a=2\/a=3\/a=4\/a=5\/a=6\/a=7\/a=8\/a=9\/a=10:=Zm
  rcases this with rfl|rfl|rfl|rfl|rfl|rfl|rfl|rfl|rfl|rfl|rfl
  all_goals first|exact⟨_,ak,Zm,Zm⟩|skip
 have⟨ah,af⟩:=jf R (ae.trans u);have au:=jc U;clear R u T hj hc;have Z:=Bo o e V W;obtain⟨q,A⟩:=SS (o.alloc (.cells #[.int .u8 e] 5));have t:Ext o q:=by rw[A];exact kx
 have⟨J,ag,aj⟩:=jB (jQ q d (p+1+1+1) v f 3 (ah.ext t) Zm Zm) (af.trans t.any) A;clear t A;go_wp2_with fail;rw[<-aj.o];refine J.mono ?_;rintro i w6 ⟨⟨B,rfl,hm⟩,S,P⟩;have h:Zz (∃b,b<=p+4/\oh w6 d v f b):=Zy ⟨_,Zm,S⟩;have g:=Zy (ag.trans P);clear S P au U G H I J Z;obtain⟨C,y⟩:∃C,M.bs [UInt8.ofNat e.toNat]=C:=⟨_,rfl⟩;have z:C.size=1:=by rw[<-y];rfl
 rw[y];have D:(s.extract 0 c).size=c:=by rw[VQ];omega
 have E:(s.extract c s.size).size=s.size - c:=by rw[VQ];omega
 have F:(s.extract (c+1) s.size).size=s.size - (c+1):=by rw[VQ];omega
 have ax:B=0\/B=1\/B=2:=Zm
 clear hm y V W;rcases ax with rfl|rfl|rfl
 . go_wp2_with fail;go_quiet (fail);go_wp2;go_ret;refine⟨⟨_,rfl,?_⟩,?_,g.drewN _⟩
   . simp only[UW,z,D,E,F];omega
   . obtain⟨b,j,k⟩:=h.o;exact⟨b,j,k.ext (Kp.rr.drewN _)⟩
 . by_cases av:c<s.size
   . go_wp2_with fail;go_quiet (fail);go_wp2;go_ret;refine⟨⟨_,rfl,?_⟩,?_,g.drewN _⟩
     . simp only[UW,z,D,E,F];omega
     . obtain⟨b,j,k⟩:=h.o;exact⟨b,j,k.ext (Kp.rr.drewN _)⟩
   . go_wp2;go_ret;exact⟨⟨_,rfl,Zm⟩,h.o,g.o⟩
 . by_cases av:c<s.size
   . go_wp2_with fail;go_quiet (fail);go_wp2;go_ret;refine⟨⟨_,rfl,?_⟩,?_,g.drewN _⟩
     . simp only[UW,z,D,E,F];omega
     . obtain⟨b,j,k⟩:=h.o;exact⟨b,j,k.ext (Kp.rr.drewN _)⟩
   . go_wp2;go_ret;exact⟨⟨_,rfl,Zm⟩,h.o,g.o⟩
theorem yE{a b:ByteArray}(d:(a.toList==b.toList)=true):a=b:=by
 have c:=Uq.1 d;rw[Ut,Ut]at c;exact ByteArray.ext (Wl.1 c)
def RP(s:ByteArray)(e:Ending):Prop:=∃n b,e=.returned (.tuple #[.int .i64 n,.bool b])/\(b=true->0<=n->n<=2->s=M.bs (M.digit n))/\ -100000<=n/\n<=100000
theorem rE(s:ByteArray){w:World}(I:s.size<=4000000000):Calls prog 176 #[s] w fun n F=>RP s n/\Ext w F:=by
 by_cases J:s.size=0
 . go_enter func176,ntmps176;go_wp2;go_ret2;exact⟨⟨_,_,rfl,fun b=>by(cases b),Zm,Zm⟩,Kp.rr⟩
 by_cases B:((s[0]'Zm).toNat:Int)=45
 . skip;by_cases j:s.size=1\/5<s.size
   . go_enter func176,ntmps176;go_wp2_with fail
     all_goals (go_ret2;exact⟨⟨_,_,rfl,fun b=>by(cases b),Zm,Zm⟩,Kp.rr⟩)
   have v:((s.size:Int)==1)=false:=SF.2 Zm;have x:decide ((5:Int)<s.size)=false:=SL Zm;go_enter func176,ntmps176;go_wp2;go_loopw [4,6] (fun t f wr=>∃(a:Nat) (e:Int) (c:Int),1<=a/\a<=s.size/\f=.int .i64 a/\t=.int .i64 e/\0<=e/\e+1<=c/\Zz (c=10 ^ (a - 1))/\Ext w wr) (fun _ f _=>s.size - (intOf f).toNat)
   case atStart=>exact⟨1,0,1,Zm,Zm,rfl,rfl,Zm,Zm,Zy Zl,Kp.rr⟩
   case round=>
    obtain⟨a,e,c,y,z,rfl,rfl,D,E,g,h⟩:=hrel;have d:=Zy h;clear h;have C:c<=10000:=by
     rw[g.o];have q:(10 ^ (a - 1):Nat)<=10 ^ 4:=Nat.pow_le_pow_right Zm Zm;have r:=Int.ofNat_le.2 q;simpa using r
    by_cases A:a<s.size
    . go_wp2_with fail
      all_goals first
       |(go_ret2;exact⟨⟨_,_,rfl,fun b=>by(cases b),Zm,Zm⟩,d.o⟩)
       |skip
      go_round
      case rel=>
       refine⟨a+1,_,c*10,Zm,Zm,by go_num,rfl,Zm,Zm,Zy ?_,d.o⟩;rw[g.o,show a+1 - 1=(a - 1)+1 by omega,Int.pow_succ]
      case measure=>simp[intOf];omega
    . go_wp2_with fail;refine(Ka _ _ Zm Zm).mono ?_;rintro n G ⟨⟨u,rfl,k,-⟩,i⟩;have l:=Zy k;clear k;cases j:(u.toList==s.toList)
      . go_wp2;go_ret2;exact⟨⟨_,_,rfl,fun b=>by(cases b),Zm,Zm⟩,d.o.trans i⟩
      . have m:=Zy (yE j);go_wp2;go_ret2;exact⟨⟨_,_,rfl,fun _ o p=>by rw[<-m.o];exact l o p,Zm,Zm⟩,d.o.trans i⟩
 . have H:=SF.2 B;by_cases j:s.size=0\/4<s.size
   . go_enter func176,ntmps176;go_wp2_with fail
     all_goals (go_ret2;exact⟨⟨_,_,rfl,fun b=>by(cases b),Zm,Zm⟩,Kp.rr⟩)
   have v:((s.size:Int)==0)=false:=SF.2 Zm;have x:decide ((4:Int)<s.size)=false:=SL Zm;go_enter func176,ntmps176;go_wp2;go_loopw [4,6] (fun t f wr=>∃(a:Nat) (e:Int) (c:Int),0<=a/\a<=s.size/\f=.int .i64 a/\t=.int .i64 e/\0<=e/\e+1<=c/\Zz (c=10 ^ (a - 0))/\Ext w wr) (fun _ f _=>s.size - (intOf f).toNat)
   case atStart=>exact⟨0,0,1,Zm,Zm,rfl,rfl,Zm,Zm,Zy Zl,Kp.rr⟩
   case round=>
    obtain⟨a,e,c,y,z,rfl,rfl,D,E,g,h⟩:=hrel;have d:=Zy h;clear h;have C:c<=10000:=by
     rw[g.o];have q:(10 ^ (a - 0):Nat)<=10 ^ 4:=Nat.pow_le_pow_right Zm Zm;have r:=Int.ofNat_le.2 q;simpa using r
    by_cases A:a<s.size
    . go_wp2_with fail
      all_goals first
       |(go_ret2;exact⟨⟨_,_,rfl,fun b=>by(cases b),Zm,Zm⟩,d.o⟩)
       |skip
      go_round
      case rel=>
       refine⟨a+1,_,c*10,Zm,Zm,by go_num,rfl,Zm,Zm,Zy ?_,d.o⟩;rw[g.o,show a+1 - 0=(a - 0)+1 by omega,Int.pow_succ]
      case measure=>simp[intOf];omega
    . go_wp2_with fail;refine(Ka _ _ Zm Zm).mono ?_;rintro n G ⟨⟨u,rfl,k,-⟩,i⟩;have l:=Zy k;clear k;cases j:(u.toList==s.toList)
      . go_wp2;go_ret2;exact⟨⟨_,_,rfl,fun b=>by(cases b),Zm,Zm⟩,d.o.trans i⟩
      . have m:=Zy (yE j);go_wp2;go_ret2;exact⟨⟨_,_,rfl,fun _ o p=>by rw[<-m.o];exact l o p,Zm,Zm⟩,d.o.trans i⟩
def og(s:ByteArray):List Value:=[.string s]
def kV:lZ ByteArray:=fun _ _ x cs=>cs=og x
theorem kV.stays:jM kV:=fun _ _ _ _ _ _ _ _ a=>a
theorem yY(x:ByteArray):∀a∈og x,a.oneCell'=true:=by simp[og,Value.oneCell']
theorem Ao:Elem 95 9 1:=kP (z:= "") (bytes:=16) underlying95 Zo rfl Zn Zn
namespace M
theorem QF(a b:List UInt8):bs a++bs b=bs (a++b):=by
 apply ByteArray.ext;apply Wl.1;simp[bs]
theorem QG(s:ByteArray)(k:Nat)(a:k<s.size):s.extract k (k+1)=bs [s[k]]:=by
 apply ByteArray.ext;apply Wl.1;rw[Lib.extract_data];have b:k<s.data.toList.length:=by simpa using a
 rw[Vy b];simp[bs];rfl
theorem Ki{s:ByteArray}{k:Nat}(a:k<s.size):s.data.toList.drop k=s[k]::s.data.toList.drop (k+1):=by
 have b:k<s.data.toList.length:=by simpa using a
 rw[Vy b];rfl
end M
theorem A9 (s : ByteArray) (w : World) (S : s.size <= 4000000000) :Calls prog 131 #[s] w fun j q=>(∃A,j=.returned A/\SliceOf 1 kV q (fun e=>w<=e/\e<q) A (M.words s))/\Ext w q:=by
 have v:=kG w 9 1 w (T9 _) rfl;have C:=Zy v;clear v;go_enter func131,ntmps131;go_wp2;go_loopw [3,4,5] (fun N D p wr=>∃(a:Nat) (c:List UInt8) (b:List ByteArray),a<=s.size/\p=.int .i64 a/\D=.string (M.bs c)/\c.length<=a/\b.length<=a/\Zz (b.map (·.data.toList)++M.mV c (s.data.toList.drop a)=M.mV [] s.data.toList)/\
     wr.ownsRow w 9 1 N b.length (b.flatMap og)/\Ext w wr) (fun _ _ p _=>s.size - (intOf p).toNat)
 case atStart=>exact⟨0,[],[],SV _,rfl,rfl,T9 _,T9 _,Zy Zl,C,jw _⟩
 case round =>
  obtain⟨a,c,b,Q,rfl,rfl,O,R,i,o,u⟩:=hrel;obtain⟨y,z,rfl⟩:=jA o;have⟨g,f⟩:=jf o u;clear o u;have P:=CQ c;by_cases x:a<s.size
  . have t:=Zy (M.Ki x);by_cases J:((s[a]).toNat:Int)=32
    . go_wp2_with (refine jo Ao rfl (.tmp 17) (.tmp 19) rfl w (.slice y b.length z) b.length (b.flatMap og) rfl (jb (D:=fun _=>False) g (jw _) fun _ _ _ r=>r) wr 1 (og (M.bs c)) rfl rfl (hH.nL _ _ rfl) (yY _) Zm (by have:=f.size;simp;omega) ?_;rintro F E B m l H);have k:=Kp.own (f.alloc _) l (fun e n=>(qj g n).1);go_round
      case rel=>
       refine⟨a+1,[],b++[M.bs c],Zm,by go_num,rfl,by simp,by simp;omega,Zy ?_,by simpa using m,k⟩;have h:s[a]=32:=by
        apply UInt8.toNat_inj.1;simp;omega
       have d:=i.o;rw[t.o,M.mV,Tv h]at d;rw[<-d];simp[M.bs]
      case measure=>simp[intOf];omega
    . have T:=M.QG s a x;have L:=CQ [s[a]];simp only[VI]at L;go_wp2;go_round
      case rel=>
       refine⟨a+1,c++[s[a]],b,Zm,by go_num,by rw[M.QF],by simp;omega,Zm,Zy ?_,g.o,f.o⟩;have h:s[a]≠32:=fun j=>J (by rw[j];rfl);have d:=i.o;rw[t.o,M.mV,Tt h]at d;exact d
      case measure=>simp[intOf];omega
  . go_wp2_with (refine jo Ao rfl (.tmp 28) (.tmp 30) rfl w (.slice y b.length z) b.length (b.flatMap og) rfl (jb (D:=fun _=>False) g (jw _) fun _ _ _ r=>r) wr 1 (og (M.bs c)) rfl rfl (hH.nL _ _ rfl) (yY _) Zm (by have:=f.size;simp;omega) ?_;rintro F E B m l H);have k:=Kp.own (f.alloc _) l (fun e n=>(qj g n).1);go_ret;refine⟨⟨_,rfl,?_⟩,k⟩;have I:a=s.size:=Zm
    have d:=i.o;rw[I,Vm Zl,M.mV]at d;have K:M.words s=b++[M.bs c]:=by
     unfold M.words;rw[<-d,TB,List.map_map];congr 1;exact List.map_id _
    rw[K];have G:=SliceOf.lS (R:=kV) (I:=fun e=>w<=e/\e<B) og (l:=b++[M.bs c]) m Zl Zl (fun _ _=>rfl) (fun _ _=>rfl) (fun e h d=>⟨h,d⟩) Zr;simpa using G
theorem BO(k:Int)(s:ByteArray){w:World}:Calls prog 198 #[.agg #[k,s]] w fun a b=>BV a/\Ext w b:=by
 go_enter func198,ntmps198;go_wp2_with (go_at_call 177;refine(lM _ _).mono ?_;rintro a b ⟨rfl,rfl⟩)
 all_goals
  go_ret;exact⟨⟨_,rfl⟩,kx⟩
theorem Df:yH 128 2:=⟨_,underlying128,by kernel_rfl⟩
theorem mE:yH 140 4:=⟨_,underlying140,by kernel_rfl⟩
def RN(m:Nat)(e:Ending):Prop:=∃k s b,e=.returned (.tuple #[.agg #[.int .i64 k,.string s],.bool b])/\s.size<=m
theorem yB(s:ByteArray){w:World}:Calls prog 196 #[s] w fun c e=>RN s.size c/\Ext w e:=by
 cases g:(s.toList==[35])
 . cases d:jJ s
   . have a:=fun b=>Zy (lM s b);simp only[d]at a;go_enter func196,ntmps196;go_wp2_with fail;refine(a _).o.mono ?_;rintro c f ⟨rfl,rfl⟩;go_wp2_with fail;refine Cv (iY Df rfl w rfl [Tc, ""] (hH.nL _ _ rfl) rfl) rfl ?_;exact⟨⟨_,_,_,rfl,SV _⟩,kx⟩
   . have a:=fun b=>Zy (lM s b);simp only[d]at a;go_enter func196,ntmps196;go_wp2_with fail;refine(a _).o.mono ?_;rintro c f ⟨rfl,rfl⟩;go_wp2_with fail;refine Cv (iY Df rfl w rfl [.int .i64 2,s] (hH.nL _ _ rfl) rfl) rfl ?_;exact⟨⟨_,_,_,rfl,T9 _⟩,kx⟩
 . go_enter func196,ntmps196;go_wp2_with fail;refine Cv (iY Df rfl w rfl [.int .i64 1, ""] (hH.nL _ _ rfl) rfl) rfl ?_;exact⟨⟨_,_,_,rfl,SV _⟩,kx⟩
def Qz(op:Int)(e:Ending):Prop:=∃b,e=.returned (.bool b)/\(b=true->1<=op/\op<=15)
theorem F6(op a:Int)(n m:ByteArray){w:World}:Calls prog 138 #[.agg #[op,a,n,m]] w fun c e=>Qz op c/\Ext w e:=by
 by_cases f:1<=op/\op<=15
 . go_enter func138,ntmps138;go_wp2_with (first
    |(go_at_call 177;refine(lM _ _).mono ?_;rintro c e ⟨rfl,rfl⟩)
    |(go_at_call 136;refine(si).mono ?_;rintro c e ⟨rfl,rfl⟩))
   all_goals
    go_ret;exact⟨⟨_,rfl,fun _=>f⟩,kx⟩
 . have b:∀d:Int,1<=d->d<=15->(op==d)=false:=fun d g h=>SF.2 Zm;have i:=b 1 Zm Zm;have r:=b 2 Zm Zm;have s:=b 3 Zm Zm;have t:=b 4 Zm Zm;have u:=b 5 Zm Zm;have v:=b 6 Zm Zm;have x:=b 7 Zm Zm;have y:=b 8 Zm Zm;have z:=b 9 Zm Zm;have j:=b 10 Zm Zm;have k:=b 11 Zm Zm;have l:=b 12 Zm Zm;have o:=b 13 Zm Zm;have p:=b 14 Zm Zm;have q:=b 15 Zm Zm;clear b;go_enter func138,ntmps138;go_wp2_with fail
   all_goals
    go_ret;exact⟨⟨_,rfl,fun c=>by simp at c⟩,kx⟩
theorem CE(op:Nat)(h:op<=15){w:World}:Calls prog 139 #[op] w fun c g=>Ky 4 c/\Ext w g:=by
 go_enter func139,ntmps139;have b:hZ (w.alloc (.cells #["",.string ⟨#[110,117,109]⟩,.string ⟨#[116,97,107,101]⟩,.string ⟨#[112,117,116]⟩,.string ⟨#[97,100,100]⟩,.string ⟨#[110,117,108,108]⟩,.string ⟨#[110,101,119]⟩,.string ⟨#[103,101,116]⟩,.string ⟨#[115,101,116]⟩,.string ⟨#[99,97,108,108]⟩,.string ⟨#[114,101,116]⟩,.string ⟨#[122,101,114,111]⟩,.string ⟨#[110,105,108]⟩,.string ⟨#[103,111]⟩,.string ⟨#[111,117,116]⟩,.string ⟨#[99,97,115,116]⟩] 9)) w 9 _:=hZ.new w 9 _;obtain⟨a,e,f⟩:∃a:ByteArray,(w.alloc (.cells #["",.string ⟨#[110,117,109]⟩,.string ⟨#[116,97,107,101]⟩,.string ⟨#[112,117,116]⟩,.string ⟨#[97,100,100]⟩,.string ⟨#[110,117,108,108]⟩,.string ⟨#[110,101,119]⟩,.string ⟨#[103,101,116]⟩,.string ⟨#[115,101,116]⟩,.string ⟨#[99,97,108,108]⟩,.string ⟨#[114,101,116]⟩,.string ⟨#[122,101,114,111]⟩,.string ⟨#[110,105,108]⟩,.string ⟨#[103,111]⟩,.string ⟨#[111,117,116]⟩,.string ⟨#[99,97,115,116]⟩] 9)).cell? (w,op)=some (.string a)/\a.size<=4:=by
  have d:=b.cell op;have:op=0\/op=1\/op=2\/op=3\/op=4\/op=5\/op=6\/op=7\/op=8\/op=9\/op=10\/op=11\/op=12\/op=13\/op=14\/op=15:=Zm
  rcases this with rfl|rfl|rfl|rfl|rfl|rfl|rfl|rfl|rfl|rfl|rfl|rfl|rfl|rfl|rfl|rfl<;>exact⟨_,d,by decide⟩
 have i:=jc e;clear b;go_wp2;go_ret;exact⟨⟨_,rfl,f⟩,kx⟩
structure qC(C:World->Prop)(T:Type)(f:T->World):Prop where
 jv:∀s,C (f s)
 o:∀W,C W->∃s,W=f s
theorem qC.ex(C:World->Prop)(w:World)(c:C w):∃(a:Type) (f:a->World),Nonempty a/\qC C a f:=⟨{b:World // C b},Subtype.val,⟨⟨w,c⟩⟩,fun d=>d.2,fun b c=>⟨⟨b,c⟩,rfl⟩⟩
theorem ll(w:World):∃(a:Type) (f:a->World),Nonempty a/\qC (fun b=>Ext w b) a f:=qC.ex _ w Kp.rr
theorem Mk{P:Program}{id:Nat}{Q:Exit->Act->World->Prop}{a:Act}{w:World}{l:List Oper}{d:Type}(f:d->World)(h0:∃b,w.drew=f b)(i:P.follows .mixedOrders=true)(h:Region.lexB .any l.toArray=true)(g:wpQuiet P l.toArray (fun c=>∃b,c=f b) (fun e=>∀c,(∃b,c=f b)->Q .normal e c) l a):(Code.region id l.toArray true).wp P Q a w:=
 wp_region_quiet (C:=fun c=>∃b,c=f b) i h h0 (by simpa using g)
theorem qn{P:Program}{f:Array Oper}{C:World->Prop}{K b:Act->Prop}{a:Act}(e:∀c,b c->K c)(d:b a):wpQuiet P f C K [] a:=TD (e _ d)
theorem F5{P:Program}{h:Array Oper}{C:World->Prop}{K c d:Act->Prop}{a:Act}(g:∀b,c b->d b->K b)(e:c a)(f:d a):wpQuiet P h C K [] a:=TD (g _ e f)
theorem kk{C:World->Prop}{d:Type}{f:d->World}{c R:Act->World->Prop}{a:Act}{w:World}(g:Zz (qC C d f))(j:∀e b,(∃k,b=f k)->R e b->c e b)(h:C w)(i:R a w):c a w:=j _ _ (g.o.o _ h) i
theorem C8{P:Program}{id:Nat}{Q:Exit->Act->World->Prop}{a:Act}{w:World}{l:List Oper}{C:World->Prop}{d:Type}{f:d->World}(e:Zz (qC C d f))(h0:C w.drew)
    (h:wpQuiet P l.toArray (fun b=>∃c,b=f c) (fun g=>∀b,(∃c,b=f c)->Q .normal g b) l a) (j:P.follows .mixedOrders=true:=by kernel_rfl) (i:Region.lexB .any l.toArray=true:=by kernel_rfl):(Code.region id l.toArray true).wp P Q a w:=
 Mk f (e.o.o _ h0) j i h
def BL(o:Oper):Bool:=
 match o.op with
 | .move _| .assign _| .load _ _| .fieldAddr _ _ _| .indexAddr _ _ _| .binOp _ _ _ _ _| .unOp _ _ _| .field _ _ _| .build _ _| .extract _ _| .slice _ _ _ _ _| .nilCheck _| .index _ _ _| .pick _ _ _=>true
 | .call c=>(match c.callee with| .builtin .len=>true|_=>false)
 |_=>false
theorem IC{P:Program}{w a:World}{s:Sem Value}{f:FuncId}{args:Array Value}:Sem.run P (do pure (Next.value (<-s)):Sem Next) w≠ .ok (.enter f args) a:=by
 simp only[U8];cases Sem.run P s w<;>simp[Result.andThen]
theorem rX{α:Type}{P:Program}{w c:World}{s:Sem α}{k:α->Sem Next}{f:FuncId}{args:Array Value}(d:∀b a,Sem.run P (k b) a≠ .ok (.enter f args) c):Sem.run P (s>>= k) w≠ .ok (.enter f args) c:=by
 rw[U8];cases Sem.run P s w with
 |ok b a=>exact d b a
 |halt _ _=>simp[Result.andThen]
theorem GV{P:Program}{d:Oper}(c:BL d=true)(a:Act){w h:World}{f:FuncId}{args:Array Value}:(execOp a.eval d).run P w≠ .ok (.enter f args) h:=by
 unfold BL at c;unfold execOp;split at c
 any_goals (rename_i b;simp only[b];first|exact IC|(simp;done))
 case h_12=>
  rename_i b;simp only[b];split
  any_goals (first|(simp;done)|(simp[runtimePanic];done))
  split
  any_goals (first|(simp;done)|(simp[runtimePanic];done))
  refine rX fun _ _=>rX fun _ _=>?_;split
  . refine rX fun _ _=>?_;simp
  . simp
 case h_14=>
  rename_i b;simp only[b];refine rX fun _ _=>?_;simp
 case h_15=>
  rename_i e b;simp only[b];split at c
  . rename_i g;simp only[resolve,g,U8,Sem.run_pure,U6,invoke,builtin];cases Sem.run P (Builtin.len_ e.argTypes d.type (Array.map a.eval e.args)) w<;>simp[Result.andThen]
  . cases c
 case h_16=>cases c
section
variable {P:Program} {ops:Array Oper} {md:Region.Mode} {Q:Exit->Act->World->Prop} {C:World->Prop} {n:Nat}
def mR(P:Program)(ops:Array Oper)(C:World->Prop)(o:Oper)(v:Value)(a:Act):Prop:=
 (Region.wanted o (yielded ops a.tmps)=true/\∀w,C w->(execOp a.eval o).run P w=.ok (.value v) w\/((execOp a.eval o).run P w=.ok .skip w/\v=undef))\/
 (Region.wanted o (yielded ops a.tmps)=false/\v=undef)
theorem wB{b:Oper}{a:Act}{K:Act->Prop}(j:BL b=true)(d:if Region.wanted b (yielded ops a.tmps)then b.quiet P a C K else K (a.put b.dst undef)):∃f,mR P ops C b f a/\K (a.put b.dst f):=by
 cases e:Region.wanted b (yielded ops a.tmps)
 . rw[e]at d;exact⟨undef,.inr ⟨e,rfl⟩,by simpa using d⟩
 . rw[e]at d;obtain⟨f,h,i⟩:b.quiet P a C K:=by simpa using d
   refine⟨f,.inl ⟨e,fun g l=>?_⟩,i⟩;have c:=h g l;unfold Oper.quietAt at c;generalize k:(execOp a.eval b).run P g=r at c;unfold Oper.quietUpon at c;split at c
   . obtain⟨rfl,rfl⟩:=c;exact .inl rfl
   . obtain⟨rfl,rfl⟩:=c;exact .inr ⟨rfl,rfl⟩
   . exact absurd k (GV j a)
   . exact c.elim
theorem mR.wpOp{i:Nat}{e:Oper}{v:Value}{a:Act}(g:ops[i]?=some e)(j:mR P ops C e v a){K:Act->World->Prop}{w:World}(f:C w)(c:K (a.put e.dst v) w):wpOp P ops Q i K a w:=by
 unfold Go.wpOp;simp only[g];rcases j with⟨d,h⟩|⟨d,rfl⟩
 . simp only[d,U2];rcases h w f with b|⟨b,rfl⟩
   . simp only[Oper.wp,b,Oper.upon];exact .inl c
   . simp only[Oper.wp,b,Oper.upon];exact .inl c
 . simp only[d,Vn,TA];exact c
theorem mR.of_same{b:Oper}{v:Value}{a c:Act}(f:mR P ops C b v a)(d:execOp c.eval b=execOp a.eval b)(e:Region.wanted b (yielded ops c.tmps)=Region.wanted b (yielded ops a.tmps)):mR P ops C b v c:=by
 unfold mR at*;rw[d,e];exact f
theorem MG{j:Nat}{c e:Oper}{v:Value}(E:ops[j]?=some e)(D:c.apart ops e=true)(G:∀p m,c.op≠ .select p m) (A:∀p m,e.op≠ .select p m)(y:∀o a w,Q (.panic o) (a.put c.dst v) w->Q (.panic o) a w) {K:Act->World->Prop} {a:Act} {w:World}(g:mR P ops C c v a) (b:wpOp P ops Q j K (a.put c.dst v) w):wpOp P ops Q j (fun u t=>mR P ops C c v u/\K (u.put c.dst v) t) a w:=by
 obtain⟨q,h,x⟩:=Oper.apart_spec D;have i:∀(a:Act),mR P ops C c v a->∀d,mR P ops C c v (a.put e.dst d):=fun a g d=>
  g.of_same (Ww c G a e.dst d x) (Wj c a e.dst d x)
 have H:∀l,mR P ops C c v {a with defers:=l::a.defers}:=fun l=>g.of_same rfl rfl;unfold wpOp at*;simp only[E]at*;rw[Wj e a c.dst v q]at b;split
 . rename_i s;simp only[s,U2]at b;rcases b with b|⟨z,F⟩
   case inr=>exact .inr ⟨by unfold Oper.asks at*;rw[Ww e A a c.dst v q]at z;exact z,F⟩
   refine .inl ?_;unfold Oper.wp at*;rw[Ww e A a c.dst v q]at b;generalize (execOp a.eval e).run P w=r at*;cases r with
   | ok n t =>
    cases n<;>simp only[Oper.upon]at b |-
    case value d=>exact⟨i a g d,by rw[<-UR a v d h];exact b⟩
    case skip=>exact⟨i a g _,by rw[<-UR a v undef h];exact b⟩
    case defer l=>
     refine⟨i _ (H l) _,?_⟩;rw[<-UR _ v undef h,<-Act.put_defers];exact b
    case enter f args=>
     refine Calls.mono b fun B I k=>?_;cases B with
     |returned d=>exact⟨i a g d,by rw[<-UR a v d h];exact k⟩
     |panicked o=>exact y _ _ _ k
     |outgrown=>exact k
    case row row args=>exact Rows.mono b fun d I k=>⟨i a g d,by rw[<-UR a v d h];exact k⟩
   |halt J t=>
    cases J<;>simp only[Oper.upon]at b |-
    case panic d=>exact y _ _ _ b
 . rename_i s;simp only[s]at b;exact⟨i a g _,by rw[<-UR a v undef h];exact b⟩
def uM(P:Program)(md:Region.Mode)(ops:Array Oper)(n:Nat)(C:World->Prop)(Q:Exit->Act->World->Prop):Nat->Array Bool->Act->World->Prop
 |0,listed,a,w=>Region.ready md ops listed=[]/\Q .normal a w
 |fuel+1,listed,a,w=>
  (Region.ready md ops listed=[]->Q .normal a w)/\
  ∀i∈Region.ready md ops listed,wpOp P ops Q i (fun a' w'=>(i<n->C w')/\uM P md ops n C Q fuel (listed.setIfInBounds i true) a' w') a w
theorem xh:∀(fuel:Nat) (listed:Array Bool) (a:Act) (w:World),uM P md ops n C Q fuel listed a w->wpAny P md ops Q fuel listed a w
 |0,_,_,_,h=>h
 |fuel+1,_,_,_,h=>⟨h.1,fun e d=>wpOp_mono (fun b f c=>xh fuel _ b f c.2) (h.2 e d)⟩
theorem He {i : Nat} {g : Oper} {v : Value} (E : ops[i]? = some g) (O : ∀ (j : Nat) (S : Oper) o m, ops[j]? = some S -> S.op ≠ .select o m)(V:∀F a w,Q (.panic F) (a.put g.dst v) w->Q (.panic F) a w) (ae:∀j,n<=j->Region.waitsFor md ops j i=true\/ops[j]?=none):∀(p:Nat) (listed:Array Bool) (a:Act) (w:World),(∀j h,ops[j]?=some h->j≠i->listed.getD j true=false->(∀b∈h.after,Region.binds md b=true->b.on≠i)->g.apart ops h=true)→ i∈Region.ready md ops listed->mR P ops C g v a->C w->i<n→ uM P md ops n C Q p (listed.setIfInBounds i true) (a.put g.dst v) w->uM P md ops n C Q (p+1) listed a w:=by
 intro p;induction p with
 |zero=>
  intro listed a w _ f y q I l;refine⟨fun d=>(by rw[d]at f;cases f),fun j u=>?_⟩;by_cases c:j=i
  . subst c;exact y.wpOp E q ⟨fun _=>q,l⟩
  . have:=Wv u c;rw[l.1]at this;cases this
 | succ p ih =>
  intro listed a w H f y q I l;refine⟨fun d=>(by rw[d]at f;cases f),fun j u=>?_⟩;by_cases c:j=i
  . subst c;exact y.wpOp E q ⟨fun _=>q,l⟩
  . have e:=l.2 j (Wv u c);obtain⟨L,h,r,W⟩:=VU.1 u;have M:∀b∈h.after,Region.binds md b=true->b.on≠i:=fun b B A D=>by
     have e:=W b B A;have G:=(VU.1 f).1;rw[D]at e;rcases Uc i listed.size with z|z
     . simp[z]at G e;rw[G]at e;cases e
     . simp[Ub z]at e
    have K:j<n:=by
     rcases Uc j n with d|d
     . exact d
     . rcases ae j d with x|x
       . obtain⟨af,N,b,B,A,D⟩:=Region.waitsFor_spec x;rw[r]at N;cases N;exact absurd D (M b B A)
       . rw[r]at x;cases x
    have U:=MG r (H j h r c L M) (fun o m=>O i g o m E) (fun o m=>O j h o m r) V y e;have X:∀k s,ops[k]?=some s->k≠i->(listed.setIfInBounds j true).getD k true=false→
        (∀b∈s.after,Region.binds md b=true->b.on≠i)->g.apart ops s=true:=fun k s Y Z R aa=>by
     refine H k s Y Z ?_ aa;by_cases J:j=k
     . subst J;exact L
     . rw[getD_set_ne true J]at R;exact R
    refine wpOp_mono (fun T w' t=>⟨fun _=>t.2.1 K,ih (listed.setIfInBounds j true) T w' X (Wv f (Ne.symm c)) t.1 (t.2.1 K) I ?_⟩) U;rw[Vt _ _ c];exact t.2.2
def MJ(md:Region.Mode)(ops:Array Oper)(n:Nat):List Nat->Array Bool->Option (Array Bool)
 |[],listed=>some listed
 |i::q,listed=>
  if decide (i<n)&&(Region.ready md ops listed).contains i&&Region.free md ops listed i&&((ops[i]?).map BL).getD false then MJ md ops n q (listed.setIfInBounds i true)else none
def Iu(md:Region.Mode)(ops:Array Oper)(n:Nat):List (List Nat×Nat)->List Nat->Array Bool->Bool
 |[],q,listed=>match MJ md ops n q listed with
  |some L=>Region.seqB md ops (ops.size - n) n L
  |none=>false
 |(q,i)::r,q',listed=>match MJ md ops n q listed with
  |some L=>decide (Region.ready md ops L=[i])&&decide (i<n)&&Iu md ops n r q' (L.setIfInBounds i true)
  |none=>false
def costs:List (List Nat×Nat)->List Nat->Nat
 |[],q=>q.length
 |(q,_)::r,q'=>q.length+1+costs r q'
def zH(md:Region.Mode)(ops:Array Oper)(n:Nat):Bool:=(List.range ops.size).all fun j=>decide (j<n)|| (List.range n).all fun i=>Region.waitsFor md ops j i
def Dv(ops:Array Oper)(n:Nat)(segs:List (List Nat×Nat))(q:List Nat):Bool:=
 Region.noSelect ops&&zH .any ops n&&decide (costs segs q=n)&&decide (n<=ops.size)&&Iu .any ops n segs q (Array.replicate ops.size false)
def tq(P:Program)(l:List Oper)(C:World->Prop)(Q:Exit->Act->World->Prop)(fin:Act->World->Prop):List (List Nat×Nat)->List Nat->Act->World->Prop
 |[],q,a,w=>wpQuiet P l.toArray C (fun a'=>fin a' w) (q.filterMap (l[·]?)) a
 |(q,i)::r,q',a,w=>wpQuiet P l.toArray C (fun a'=>wpList P l.toArray (Exit.then (fun a'' w'=>C w'/\tq P l C Q fin r q' a'' w') Q) (l[i]?).toList a' w) (q.filterMap (l[·]?)) a
theorem BQ(b:zH md ops n=true){i:Nat}(d:i<n)(j:Nat)(f:n<=j):Region.waitsFor md ops j i=true\/ops[j]?=none:=by
 rcases Uc j ops.size with e|c
 . unfold zH at b;have a:=TY.1 b j (V6.2 e);simp only[VZ,Tq,TY]at a;rcases a with a|a
   . omega
   . exact .inl (a i (V6.2 d))
 . exact .inr (Ub c)
theorem ry{l:List Oper}(s:Region.noSelect l.toArray=true)(t:zH md l.toArray n=true)(o:∀b a x v w,Q (.panic b) (a.put x v) w->Q (.panic b) a w){K:Act->Prop}{w:World}(k:C w)(e:Nat)(d:Array Bool)
    (m:∀f,K f->uM P md l.toArray n C Q e d f w):∀(q:List Nat) (listed:Array Bool) (a:Act),MJ md l.toArray n q listed=some d→
    wpQuiet P l.toArray C K (q.filterMap (l[·]?)) a->uM P md l.toArray n C Q (e+q.length) listed a w
 |[],listed,a,ho,h=>by
  simp only[MJ,TT]at ho;subst ho;exact m a h
 | i :: q, listed, a, ho, h => by
  unfold MJ at ho;split at ho
  . rename_i p;simp only[Ty,Tq]at p;obtain⟨⟨⟨g,y⟩,z⟩,j⟩:=p;cases c:l[i]? with
    |none=>simp[c]at j
    |some u=>
     have r:l.toArray[i]?=some u:=by simpa using c
     have B:BL u=true:=by simpa [c]using j
     rw[List.filterMap_cons,c]at h;simp only[wpQuiet]at h;obtain⟨v,D,A⟩:=wB B h;have:=ry s t o k e d m q _ _ ho A;exact He r (Region.noSelect_spec s) (fun b a w=>o b a _ _ w) (BQ t g) _ _ _ _ (Region.free_spec r z) (by simpa using y) D k g this
  . cases ho
theorem wW{l:List Oper}:∀(t:List Oper) (k:Nat) (listed:Array Bool) (a:Act) (w:World),n<=k->(∀b,t[b]?=l[k+b]?)→
    Region.seqB md l.toArray t.length k listed=true->wpList P l.toArray Q t a w->uM P md l.toArray n C Q t.length listed a w
 |[],_,_,_,_,_,_,hB,h=>⟨by simpa [Region.seqB]using hB,h⟩
 |o::t,k,listed,a,w,hk,hl,hB,h=>by
  have i:l.toArray[k]?=some o:=by simpa using(hl 0).symm
  simp only[TE,Region.seqB,Ty,Tq]at hB;refine⟨fun d=>(by rw[hB.1]at d;cases d),fun c e=>?_⟩;rw[hB.1]at e;have j:c=k:=by simpa using e
  subst j;have p:wpOp P l.toArray Q c (wpList P l.toArray Q t) a w:=by unfold wpOp;simp only[i];exact h
  exact wpOp_mono (fun f q g=>⟨fun m=>absurd m (Wu.2 hk),wW t (c+1) _ f q Zm (fun b=>by have:=hl (b+1);simpa [Ue,Vf 1 b]using this) hB.2 g⟩) p
theorem KR{e:Oper}{a:Act}{w:World}{next K:Act->World->Prop}(b:e.wp P a w next (Exit.then K Q)):e.wp P a w next Q:=by
 unfold Oper.wp at*;generalize (execOp a.eval e).run P w=r at*;cases r with
 | ok n i =>
  cases n<;>simp only[Oper.upon]at b |-
  case value g=>exact b
  case skip=>exact b
  case defer d=>exact b
  case enter f args=>
   refine Calls.mono b fun h l c=>?_;cases h with
   |returned g=>exact c
   |panicked k=>exact c
   |outgrown=>exact c
  case row row args=>exact b
 |halt j i=>
  cases j<;>simp only[Oper.upon]at b |-
  case panic g=>exact b
theorem FY{l:List Oper}(u:Region.noSelect l.toArray=true)(v:zH md l.toArray n=true)(p:∀z a E L w,Q (.panic z) (a.put E L) w->Q (.panic z) a w)(I:n<=l.length):∀(y:List (List Nat×Nat)) (e:List Nat) (listed:Array Bool) (a:Act) (w:World),C w→
    Iu md l.toArray n y e listed=true->tq P l C Q (fun j d=>wpList P l.toArray Q (l.drop n) j d) y e a w->uM P md l.toArray n C Q ((l.length - n)+costs y e) listed a w
 |[],e,listed,a,w,hC,b,h=>by
  unfold Iu at b;split at b
  . rename_i g o;refine ry u v p hC _ g (fun j c=>?_) e listed a o h;have:=wW (md:=md) (C:=C) (l:=l) (l.drop n) n g j w (T9 _) (fun f=>by simp[UD]) (by simpa using b) c;simpa using this
  . cases b
 | (q, i) :: r, e, listed, a, w, hC, b, h => by
  unfold Iu at b;split at b
  . rename_i g o;simp only[Ty,Tq]at b;obtain⟨⟨t,M⟩,b⟩:=b;have F:l.length - n+costs ((q,i)::r) e=((l.length - n+costs r e)+1)+q.length:=by simp[costs];omega
    rw[F];refine ry u v p hC _ g (fun j c=>?_) q listed a o h;refine⟨fun A=>(by rw[t]at A;cases A),fun f B=>?_⟩;rw[t]at B;have H:f=i:=by simpa using B
    subst H;cases s:l[f]? with
    |none=>
     exfalso;have:f∈Region.ready md l.toArray g:=by rw[t];simp
     obtain⟨_,D,J,_⟩:=VU.1 this;simp[s]at J
    | some D =>
     rw[s]at c;simp only[Option.toList,wpList]at c;unfold wpOp;have K:l.toArray[f]?=some D:=by simpa using s
     simp only[K];have step:∀k d,C d/\tq P l C Q (fun j d=>wpList P l.toArray Q (l.drop n) j d) r e k d->(f<n->C d)/\uM P md l.toArray n C Q (l.length - n+costs r e) (g.setIfInBounds f true) k d:=
      fun k d m=>⟨fun _=>m.1,FY u v p I r e _ k d m.1 b m.2⟩
     split
     . rename_i x;rw[Tv x]at c;rcases c with c|c
       . left;exact Oper.wp_mono (fun k d G=>step k d G) (KR c)
       . right;exact c
     . rename_i x;rw[Tt x]at c;exact step _ _ c
  . cases b
end
theorem MF{P:Program}{l:List Oper}{C:World->Prop}{Q:Exit->Act->World->Prop}{d:Act->World->Prop}{q:List Nat}{a:Act}{w:World}{e:List Oper}(f:q.filterMap (l[·]?)=e)(b:∀K:Act->Prop,(∀c,d c w->K c)->wpQuiet P l.toArray C K e a):tq P l C Q d [] q a w:=by
 subst f;exact b _ fun _ b=>b
theorem Ko{P:Program}{l:List Oper}{C:World->Prop}{Q:Exit->Act->World->Prop}{e:Act->World->Prop}{q:List Nat}{i:Nat}{r:List (List Nat×Nat)}{g:List Nat}{a:Act}{w:World}{h f:List Oper}(o:q.filterMap (l[·]?)=h)(p:(l[i]?).toList=f)(j:∀K:Act->Prop,(∀b,(∀K2:Act->World->Prop,(∀d c,C c->tq P l C Q e r g d c->K2 d c)->wpList P l.toArray (Exit.then K2 Q) f b w)->K b)->wpQuiet P l.toArray C K h a):tq P l C Q e ((q,i)::r) g a w:=by
 subst o p;refine j _ fun b k=>?_;exact k _ fun _ _ m n=>⟨m,n⟩
theorem wU{P:Program}{id:Nat}{Q:Exit->Act->World->Prop}{a:Act}{w:World}{l:List Oper}{i:Type}(f:i->World)(n:Nat)(d:List (List Nat×Nat))(q:List Nat)(h0:∃b,w.drew=f b)(u:P.follows .mixedOrders=true)(e:Dv l.toArray n d q=true)(t:∀g a k v w,Q (.panic g) (a.put k v) w->Q (.panic g) a w)(o:tq P l (fun c=>∃b,c=f b) Q (fun j c=>wpList P l.toArray Q (l.drop n) j c) d q a w.drew):(Code.region id l.toArray true).wp P Q a w:=by
 unfold Dv at e;simp only[Ty,Tq]at e;obtain⟨⟨⟨⟨p,r⟩,x⟩,h⟩,s⟩:=e;refine wp_region_any u (xh (C:=fun c=>∃b,c=f b) (n:=n) _ _ _ _ ?_);have:=FY (C:=fun c=>∃b,c=f b) (md:=.any) p r t (by simpa using h) d q _ a w.drew h0 s o;have m:l.length - n+costs d q=l.toArray.size:=by
  have:n<=l.length:=by simpa using h
  simp;omega
 rw[m]at this;exact this
section
variable {P:Program} {l:List Oper} {C:World->Prop} {Q:Exit->Act->World->Prop} {fin:Act->World->Prop} {q:List Nat} {i j:Nat} {q':List Nat} {r:List (List Nat×Nat)} {a:Act} {w:World} {o o2:Oper}
theorem uJ(e:List Oper)(g:q.filterMap (l[·]?)=e)(h:(l[i]?).toList=[o])(f:∀K:Act->Prop,(∀c,(∀K2:Act->World->Prop,(∀d b,C b->tq P l C Q fin r q' d b->K2 d b)->wpList P l.toArray (Exit.then K2 Q) [o] c w)->K c)->wpQuiet P l.toArray C K e a):tq P l C Q fin ((q,i)::r) q' a w:=Ko g h f
theorem kN(f:(l[i]?).toList=[o])(d:∀K2:Act->World->Prop,(∀c b,C b->tq P l C Q fin r q' c b->K2 c b)->wpList P l.toArray (Exit.then K2 Q) [o] a w):tq P l C Q fin (([],i)::r) q' a w:=uJ [] rfl f fun _ e=>qn e d
theorem r9(c:List Oper)(e:q.filterMap (l[·]?)=c)(d:∀K:Act->Prop,(∀b,fin b w->K b)->wpQuiet P l.toArray C K c a):tq P l C Q fin [] q a w:=MF e d
theorem ku(b:fin a w):tq P l C Q fin [] [] a w:=r9 [] rfl fun _ c=>qn c b
theorem AJ{d:List Oper}{e:Exit->Act->World->Prop}(c:List Oper)(h:q.filterMap (l[·]?)=c)(g:d=[])(f:∀K:Act->Prop,(∀b,e .normal b w->K b)->wpQuiet P l.toArray C K c a):tq P l C Q (fun b i=>wpList P l.toArray e d b i) [] q a w:=by
 subst g;exact r9 c h f
theorem tH{d:List Oper}{b:Exit->Act->World->Prop}(g:d=[])(e:b .normal a w):tq P l C Q (fun c h=>wpList P l.toArray b d c h) [] [] a w:=AJ [] rfl g fun _ f=>qn f e
end
theorem jW{P:Program}{id:Nat}{Q:Exit->Act->World->Prop}{a:Act}{w:World}{l:List Oper}{C:World->Prop}{g:Type}{f:g->World}(i:Zz (qC C g f))(n:Nat)(d:List (List Nat×Nat))(q:List Nat)(h0:C w.drew)
    (c:tq P l (fun e=>∃p,e=f p) Q (fun j e=>wpList P l.toArray Q (l.drop n) j e) d q a w.drew) (o:P.follows .mixedOrders=true:=by kernel_rfl) (k:Dv l.toArray n d q=true:=by kernel_rfl)
    (m:∀h a b r w,Q (.panic h) (a.put b r) w->Q (.panic h) a w:=by exact fun _ _ b _ _ c=>by cases b<;>exact c):(Code.region id l.toArray true).wp P Q a w:=wU f n d q (i.o.o _ h0) o k m c
theorem lJ{P G:Prop}(e:G)(d:Zz G->P:=by(intro c;(first|refine uJ [_] rfl rfl fun b a=>?_|refine uJ [_,_] rfl rfl fun b a=>?_|refine uJ [_,_,_] rfl rfl fun b a=>?_|refine uJ [_,_,_,_] rfl rfl fun b a=>?_|refine uJ [_,_,_,_,_] rfl rfl fun b a=>?_|refine uJ [_,_,_,_,_,_] rfl rfl fun b a=>?_|refine uJ [_,_,_,_,_,_,_] rfl rfl fun b a=>?_|refine uJ [_,_,_,_,_,_,_,_] rfl rfl fun b a=>?_|refine uJ [_,_,_,_,_,_,_,_,_] rfl rfl fun b a=>?_|refine uJ [_,_,_,_,_,_,_,_,_,_] rfl rfl fun b a=>?_|refine uJ [_,_,_,_,_,_,_,_,_,_,_] rfl rfl fun b a=>?_|refine uJ [_,_,_,_,_,_,_,_,_,_,_,_] rfl rfl fun b a=>?_|refine uJ [_,_,_,_,_,_,_,_,_,_,_,_,_] rfl rfl fun b a=>?_|refine uJ [_,_,_,_,_,_,_,_,_,_,_,_,_,_] rfl rfl fun b a=>?_|refine uJ [_,_,_,_,_,_,_,_,_,_,_,_,_,_,_] rfl rfl fun b a=>?_|refine uJ [_,_,_,_,_,_,_,_,_,_,_,_,_,_,_,_] rfl rfl fun b a=>?_|refine uJ [_,_,_,_,_,_,_,_,_,_,_,_,_,_,_,_,_] rfl rfl fun b a=>?_|refine uJ [_,_,_,_,_,_,_,_,_,_,_,_,_,_,_,_,_,_] rfl rfl fun b a=>?_|refine uJ [_,_,_,_,_,_,_,_,_,_,_,_,_,_,_,_,_,_,_] rfl rfl fun b a=>?_|refine uJ [_,_,_,_,_,_,_,_,_,_,_,_,_,_,_,_,_,_,_,_] rfl rfl fun b a=>?_);(repeat (go_big_quiet_step (fail)));exact qn a c.o)):P:=d (Zy e)
theorem rC{P G:Prop}(e:G)(d:Zz G->P:=by(intro c;(first|refine AJ [_] rfl rfl fun b a=>?_|refine AJ [_,_] rfl rfl fun b a=>?_|refine AJ [_,_,_] rfl rfl fun b a=>?_|refine AJ [_,_,_,_] rfl rfl fun b a=>?_|refine AJ [_,_,_,_,_] rfl rfl fun b a=>?_);(repeat (go_big_quiet_step (fail)));exact qn a c.o)):P:=d (Zy e)
inductive MT where
 |fin (q:List Nat)
 |one (q:List Nat) (i:Nat) (t:MT)
 |two (q:List Nat) (i j:Nat) (ti tj:MT)
def MT.cost:MT->Nat
 | .fin q=>q.length
 | .one q _ t=>q.length+1+t.cost
 | .two q _ _ ti _=>q.length+1+ti.cost
def MT.ok(md:Region.Mode)(ops:Array Oper)(n:Nat):MT->Array Bool->Bool
 | .fin q,listed=>match MJ md ops n q listed with
  |some L=>Region.seqB md ops (ops.size - n) n L
  |none=>false
 | .one q i t,listed=>match MJ md ops n q listed with
  |some L=>decide (Region.ready md ops L=[i])&&decide (i<n)&&t.ok md ops n (L.setIfInBounds i true)
  |none=>false
 | .two q i j ti tj,listed=>match MJ md ops n q listed with
  |some L=>decide (Region.ready md ops L=[i,j])&&decide (i<n)&&decide (j<n)&&decide (tj.cost=ti.cost)&&ti.ok md ops n (L.setIfInBounds i true)&&tj.ok md ops n (L.setIfInBounds j true)
  |none=>false
def Nu(ops:Array Oper)(n:Nat)(t:MT):Bool:=
 Region.noSelect ops&&zH .any ops n&&decide (t.cost=n)&&decide (n<=ops.size)&&t.ok .any ops n (Array.replicate ops.size false)
def xM(P:Program)(l:List Oper)(C:World->Prop)(Q:Exit->Act->World->Prop)(fin:Act->World->Prop):MT->Act->World->Prop
 | .fin q,a,w=>wpQuiet P l.toArray C (fun a'=>fin a' w) (q.filterMap (l[·]?)) a
 | .one q i t,a,w=>wpQuiet P l.toArray C (fun a'=>wpList P l.toArray (Exit.then (fun a'' w'=>C w'/\xM P l C Q fin t a'' w') Q) (l[i]?).toList a' w) (q.filterMap (l[·]?)) a
 | .two q i j ti tj,a,w=>wpQuiet P l.toArray C (fun a'=>wpList P l.toArray (Exit.then (fun a'' w'=>C w'/\xM P l C Q fin ti a'' w') Q) (l[i]?).toList a' w/\wpList P l.toArray (Exit.then (fun a'' w'=>C w'/\xM P l C Q fin tj a'' w') Q) (l[j]?).toList a' w) (q.filterMap (l[·]?)) a
section
variable {P:Program} {ops:Array Oper} {md:Region.Mode} {Q:Exit->Act->World->Prop} {C:World->Prop} {n:Nat}
theorem y9{l:List Oper}{i:Array Bool}{j:Nat}{a:Act}{w:World}{K g:Act->World->Prop}(o:j∈Region.ready md l.toArray i)(b:wpList P l.toArray (Exit.then K Q) (l[j]?).toList a w) (step:∀c d,K c d->g c d):wpOp P l.toArray Q j g a w:=by
 cases e:l[j]? with
 |none=>
  exfalso;obtain⟨_,h,m,_⟩:=VU.1 o;simp[e]at m
 |some h=>
  rw[e]at b;simp only[Option.toList,wpList]at b;unfold wpOp;have n:l.toArray[j]?=some h:=by simpa using e
  simp only[n];split
  . rename_i f;rw[Tv f]at b;rcases b with b|b
    . left;exact Oper.wp_mono (fun c d k=>step c d k) (KR b)
    . right;exact b
  . rename_i f;rw[Tt f]at b;exact step _ _ b
theorem xe{l:List Oper}(j:Region.noSelect l.toArray=true)(k:zH md l.toArray n=true)(f:∀A a D K w,Q (.panic A) (a.put D K) w->Q (.panic A) a w)(z:n<=l.length):∀(t:MT) (listed:Array Bool) (a:Act) (w:World),C w→
    t.ok md l.toArray n listed=true->xM P l C Q (fun m d=>wpList P l.toArray Q (l.drop n) m d) t a w->uM P md l.toArray n C Q ((l.length - n)+t.cost) listed a w
 | .fin q',listed,a,w,hC,b,h=>by
  unfold MT.ok at b;split at b
  . rename_i e r;refine ry j k f hC _ e (fun m g=>?_) q' listed a r h;have:=wW (md:=md) (C:=C) (l:=l) (l.drop n) n e m w (T9 _) (fun u=>by simp[UD]) (by simpa using b) g;simpa using this
  . cases b
 | .one q i t,listed,a,w,hC,b,h=>by
  unfold MT.ok at b;split at b
  . rename_i e r;simp only[Ty,Tq]at b;obtain⟨⟨s,H⟩,b⟩:=b;have x:l.length - n+(MT.one q i t).cost=((l.length - n+t.cost)+1)+q.length:=by simp[MT.cost];omega
    rw[x];refine ry j k f hC _ e (fun m g=>?_) q listed a r h;refine⟨fun p=>(by rw[s]at p;cases p),fun u y=>?_⟩;have I:u=i:=by rw[s]at y;simpa using y
    subst I;exact y9 y g fun o d c=>⟨fun _=>c.1,xe j k f z t _ o d c.1 b c.2⟩
  . cases b
 | .two q i u ti tj,listed,a,w,hC,b,h=>by
  unfold MT.ok at b;split at b
  . rename_i e r;simp only[Ty,Tq]at b;obtain⟨⟨⟨⟨⟨s,H⟩,L⟩,G⟩,E⟩,F⟩:=b;have x:l.length - n+(MT.two q i u ti tj).cost=((l.length - n+ti.cost)+1)+q.length:=by simp[MT.cost];omega
    rw[x];refine ry j k f hC _ e (fun m g=>?_) q listed a r h;refine⟨fun p=>(by rw[s]at p;cases p),fun B v=>?_⟩;have J:B=i\/B=u:=by rw[s]at v;simpa using v
    rcases J with rfl|rfl
    . exact y9 v g.1 fun o d c=>⟨fun _=>c.1,xe j k f z ti _ o d c.1 E c.2⟩
    . rw[<-G];exact y9 v g.2 fun o d c=>⟨fun _=>c.1,xe j k f z tj _ o d c.1 F c.2⟩
  . cases b
end
section
variable {P:Program} {l:List Oper} {C:World->Prop} {Q:Exit->Act->World->Prop} {fin:Act->World->Prop} {q:List Nat} {i j:Nat} {t ti tj:MT} {a:Act} {w:World} {qs os oj:List Oper}
theorem P6(d:q.filterMap (l[·]?)=qs)(b:∀K:Act->Prop,(∀c,fin c w->K c)->wpQuiet P l.toArray C K qs a):xM P l C Q fin (.fin q) a w:=by
 subst d;exact b _ fun _ b=>b
theorem P7(j:q.filterMap (l[·]?)=qs)(k:(l[i]?).toList=os)(e:∀K:Act->Prop,(∀b,(∀K2:Act->World->Prop,(∀d c,C c->xM P l C Q fin t d c->K2 d c)->wpList P l.toArray (Exit.then K2 Q) os b w)->K b)->wpQuiet P l.toArray C K qs a):xM P l C Q fin (.one q i t) a w:=by
 subst j k;refine e _ fun b f=>?_;exact f _ fun _ _ g h=>⟨g,h⟩
theorem P8(m:q.filterMap (l[·]?)=qs)(o:(l[i]?).toList=os)(n:(l[j]?).toList=oj)(g:∀K:Act->Prop,(∀d,(∀K2:Act->World->Prop,(∀c b,C b->xM P l C Q fin ti c b->K2 c b)->wpList P l.toArray (Exit.then K2 Q) os d w)->(∀K2:Act->World->Prop,(∀c b,C b->xM P l C Q fin tj c b->K2 c b)->wpList P l.toArray (Exit.then K2 Q) oj d w)->K d)->wpQuiet P l.toArray C K qs a):xM P l C Q fin (.two q i j ti tj) a w:=by
 subst m o n;refine g _ fun d h k=>?_;exact⟨h _ fun _ _ e f=>⟨e,f⟩,k _ fun _ _ e f=>⟨e,f⟩⟩
end
theorem Cz{P:Program}{id:Nat}{Q:Exit->Act->World->Prop}{a:Act}{w:World}{l:List Oper}{h:Type}(f:h->World)(n:Nat)(t:MT)(h0:∃b,w.drew=f b)(s:P.follows .mixedOrders=true)(d:Nu l.toArray n t=true)(r:∀e a j u w,Q (.panic e) (a.put j u) w->Q (.panic e) a w)(m:xM P l (fun c=>∃b,c=f b) Q (fun i c=>wpList P l.toArray Q (l.drop n) i c) t a w.drew):(Code.region id l.toArray true).wp P Q a w:=by
 unfold Nu at d;simp only[Ty,Tq]at d;obtain⟨⟨⟨⟨o,p⟩,v⟩,g⟩,q⟩:=d;refine wp_region_any s (xh (C:=fun c=>∃b,c=f b) (n:=n) _ _ _ _ ?_);have:=xe (C:=fun c=>∃b,c=f b) (md:=.any) o p r (by simpa using g) t _ a w.drew h0 q m;have k:l.length - n+t.cost=l.toArray.size:=by
  have:n<=l.length:=by simpa using g
  simp;omega
 rw[k]at this;exact this
section
variable {P:Program} {l:List Oper} {C:World->Prop} {Q:Exit->Act->World->Prop} {fin:Act->World->Prop} {q:List Nat} {i j:Nat} {t ti tj:MT} {a:Act} {w:World} {o o2:Oper}
theorem Je(e:List Oper)(g:q.filterMap (l[·]?)=e)(h:(l[i]?).toList=[o])(f:∀K:Act->Prop,(∀c,(∀K2:Act->World->Prop,(∀d b,C b->xM P l C Q fin t d b->K2 d b)->wpList P l.toArray (Exit.then K2 Q) [o] c w)->K c)->wpQuiet P l.toArray C K e a):xM P l C Q fin (.one q i t) a w:=P7 g h f
theorem jX(f:(l[i]?).toList=[o])(d:∀K2:Act->World->Prop,(∀c b,C b->xM P l C Q fin t c b->K2 c b)->wpList P l.toArray (Exit.then K2 Q) [o] a w):xM P l C Q fin (.one [] i t) a w:=Je [] rfl f fun _ e=>qn e d
theorem EJ(c:List Oper)(e:q.filterMap (l[·]?)=c)(d:∀K:Act->Prop,(∀b,fin b w->K b)->wpQuiet P l.toArray C K c a):xM P l C Q fin (.fin q) a w:=P6 e d
theorem kL(b:fin a w):xM P l C Q fin (.fin []) a w:=EJ [] rfl fun _ c=>qn c b
theorem Sn{d:List Oper}{e:Exit->Act->World->Prop}(c:List Oper)(h:q.filterMap (l[·]?)=c)(g:d=[])(f:∀K:Act->Prop,(∀b,e .normal b w->K b)->wpQuiet P l.toArray C K c a):xM P l C Q (fun b i=>wpList P l.toArray e d b i) (.fin q) a w:=by
 subst g;exact EJ c h f
theorem OQ{d:List Oper}{b:Exit->Act->World->Prop}(g:d=[])(e:b .normal a w):xM P l C Q (fun c h=>wpList P l.toArray b d c h) (.fin []) a w:=Sn [] rfl g fun _ f=>qn f e
theorem two(e:List Oper)(g:q.filterMap (l[·]?)=e)(k:(l[i]?).toList=[o])(h:(l[j]?).toList=[o2])(f:∀K:Act->Prop,(∀d,(∀K2:Act->World->Prop,(∀c b,C b->xM P l C Q fin ti c b->K2 c b)->wpList P l.toArray (Exit.then K2 Q) [o] d w)->(∀K2:Act->World->Prop,(∀c b,C b->xM P l C Q fin tj c b->K2 c b)->wpList P l.toArray (Exit.then K2 Q) [o2] d w)->K d)->wpQuiet P l.toArray C K e a):xM P l C Q fin (.two q i j ti tj) a w:=P8 g k h f
theorem Fw(h:(l[i]?).toList=[o])(g:(l[j]?).toList=[o2])(d:(∀K2:Act->World->Prop,(∀c b,C b->xM P l C Q fin ti c b->K2 c b)->wpList P l.toArray (Exit.then K2 Q) [o] a w))(e:(∀K2:Act->World->Prop,(∀c b,C b->xM P l C Q fin tj c b->K2 c b)->wpList P l.toArray (Exit.then K2 Q) [o2] a w)):xM P l C Q fin (.two [] i j ti tj) a w:=two [] rfl h g fun _ f=>F5 f d e
end
theorem qp{P:Program}{id:Nat}{Q:Exit->Act->World->Prop}{a:Act}{w:World}{l:List Oper}{C:World->Prop}{e:Type}{f:e->World}(h:Zz (qC C e f))(n:Nat)(t:MT)(h0:C w.drew)
    (c:xM P l (fun d=>∃o,d=f o) Q (fun i d=>wpList P l.toArray Q (l.drop n) i d) t a w.drew) (m:P.follows .mixedOrders=true:=by kernel_rfl) (j:Nu l.toArray n t=true:=by kernel_rfl)
    (k:∀g a b p w,Q (.panic g) (a.put b p) w->Q (.panic g) a w:=by exact fun _ _ b _ _ c=>by cases b<;>exact c):(Code.region id l.toArray true).wp P Q a w:=Cz f n t (h.o.o _ h0) m j k c
theorem Bi{P G:Prop}(e:G)(d:Zz G->P:=by(intro c;(first|refine Je [_] rfl rfl fun b a=>?_|refine Je [_,_] rfl rfl fun b a=>?_|refine Je [_,_,_] rfl rfl fun b a=>?_|refine Je [_,_,_,_] rfl rfl fun b a=>?_|refine Je [_,_,_,_,_] rfl rfl fun b a=>?_|refine Je [_,_,_,_,_,_] rfl rfl fun b a=>?_|refine Je [_,_,_,_,_,_,_] rfl rfl fun b a=>?_);(repeat (go_big_quiet_step (fail)));exact qn a c.o)):P:=d (Zy e)
def qL(D:Nat->Bool)(j:Nat):Nat->Bool:=fun i=>if i=j then true else D i
def RU(md:Region.Mode)(ops:Array Oper)(j k:Nat):Bool:=match ops[j]? with
 |some o=>o.after.any fun e=>Region.binds md e&&decide (e.on=k)
 |none=>false
def Cj(ops:Array Oper)(n:Nat)(ds:List (List Nat)):Bool:=
 zH .any ops n&&decide (n<=ops.size)&&((List.range n).all fun j=>((ops[j]?).map (fun o=>o.after.all fun e=> !Region.binds .any e || decide (e.on<j))).getD false&&(ds.getD j []).all fun k=>RU .any ops j k)&&
 Region.seqB .any ops (ops.size - n) n (Array.replicate n true++Array.replicate (ops.size - n) false)
theorem OO{n:Nat}{D:Nat->Bool}{j:Nat}(l:j<n)(i:D j=false):((List.range n).filter fun a=> !D a).length=((List.range n).filter fun a=> !qL D j a).length+1:=by
 have p:∀b:List Nat,b.Nodup->(if j∈b then(b.filter fun a=> !D a).length=(b.filter fun a=> !qL D j a).length+1 else(b.filter fun a=> !D a).length=(b.filter fun a=> !qL D j a).length):=by
  intro b o;induction b with
  |nil=>simp
  |cons d b c=>
   have f:=Wd.1 o;have c:=c f.2;by_cases e:d=j
   . subst e;rw[Tt f.1]at c;simp[qL,i];simpa [qL]using c
   . have g:qL D j d=D d:=Tt e;have h:(j∈d::b)=(j∈b):=by simp[Ne.symm e]
     simp only[List.filter_cons,g,h];cases k:D d<;>split at c<;>rename_i m<;>simp[m,k,c]
 have:=p (List.range n) List.nodup_range;rwa[Tv (V6.2 l)]at this
section
variable {P:Program} {Q:Exit->Act->World->Prop} {n:Nat}
theorem Lv{l:List Oper}(ds:List (List Nat))(J:(Nat->Bool)->Act->World->Prop)(x:Cj l.toArray n ds=true)(step:∀D a w e,e<n->D e=false->(∀d∈ds.getD e [],D d=true)->J D a w->wpList P l.toArray (Exit.then (J (qL D e)) Q) (l[e]?).toList a w)(S:∀D a w,(∀b,b<n->D b=true)->J D a w->wpList P l.toArray Q (l.drop n) a w):∀(m:Nat) (c:Array Bool) (a:Act) (w:World),c.size=l.length->(∀b,n<=b->b<l.length->c[b]?=some false)->((List.range n).filter fun b=> !c.getD b false).length=m->J (fun b=>c.getD b false) a w→ uM P .any l.toArray n (fun _=>True) Q ((l.length - n)+m) c a w:=by
 unfold Cj at x;simp only[Ty,Tq,TY,V6]at x;obtain⟨⟨⟨ht,hn⟩,r⟩,hs⟩:=x;have ak:n<=l.length:=by simpa using hn
 intro m;induction m with
 | zero =>
  intro c a w z hF q y;have k:∀b,b<n->c.getD b false=true:=fun b i=>by
   have T:=UN.1 q;cases r:c.getD b false with
   |true=>rfl
   |false=>
    have:b∈(List.range n).filter fun b=> !c.getD b false:=List.mem_filter.2 ⟨V6.2 i,by rw[r];rfl⟩;rw[T]at this;cases this
  have V:c=Array.replicate n true++Array.replicate (l.toArray.size - n) false:=by
   apply Array.ext
   . simp[z];omega
   . intro b f h;by_cases i:b<n
     . rw[Array.getElem_append_left (by simpa using i)];have:=k b i;simp[f]at this;simpa using this
     . rw[Array.getElem_append_right (by simpa using Nat.le_of_not_lt i)];have:=hF b Zm Zm;rw[Vx f]at this;simpa using this
  have:=wW (P:=P) (Q:=Q) (md:=.any) (C:=fun _=>True) (l:=l) (l.drop n) n c a w (T9 _) (fun e=>by simp[UD]) (by rw[V];simpa using hs) (S _ _ _ k y);simpa using this
 | succ m ih =>
  intro c a w z hF q y;have W:∃b,b<n/\c.getD b false=false:=by
   cases F:(List.range n).filter fun b=> !c.getD b false with
   |nil=>rw[F]at q;cases q
   |cons b ax=>
    have:b∈(List.range n).filter fun b=> !c.getD b false:=by rw[F];simp
    obtain⟨f,h⟩:=List.mem_filter.1 this;exact⟨b,V6.1 f,by simpa using h⟩
  have ag : ∃ b, b < n /\ c.getD b false = false /\ ∀ d, d < b -> c.getD d false = true := by
   obtain⟨u,f,h⟩:=W;induction u using Nat.strongRecOn with
   |ind u ai=>
    by_cases g:∃d,d<u/\c.getD d false=false
    . obtain⟨d,aa,ae⟩:=g;exact ai d aa Zm ae
    . exact⟨u,f,h,fun d j=>by
       cases A:c.getD d false with
       |true=>rfl
       |false=>exact absurd ⟨d,j,A⟩ g⟩
  obtain⟨b,i,G,af⟩:=ag;have E:∀d,d<l.length->c.getD d true=c.getD d false:=fun d j=>by
   have Z:d<c.size:=Zm
   simp[Z]
  have M:b∈Region.ready .any l.toArray c:=by
   refine VU.2 ⟨by rw[E b Zm];exact G,?_⟩;have f:=(r b i).1;cases K:l.toArray[b]? with
   |none=>rw[K]at f;cases f
   |some aj=>
    rw[K]at f;simp only[WZ,Vp,VP,VZ,Vl,Tq]at f;refine⟨aj,rfl,fun v p o=>af _ ((f v p).resolve_left (by rw[o];simp))⟩
  refine⟨fun g=>(by rw[g]at M;cases M),fun e H=>?_⟩;obtain⟨X,oj,s,k⟩:=VU.1 H;have Y:e<l.length:=by
   rcases Uc e l.length with g|g
   . exact g
   . simp[g]at s
  have C:e<n:=by
   rcases Uc e n with g|g
   . exact g
   . rcases BQ ht i e g with t|t
     . obtain⟨au,L,v,p,o,B⟩:=Region.waitsFor_spec t;rw[s]at L;cases L;have:=k v p o;rw[B,G]at this;cases this
     . rw[s]at t;cases t
  have I:c.getD e false=false:=by rw[<-E e Y];exact X
  have ah:=step (fun b=>c.getD b false) a w e C I (fun d j=>by
   have f:=(r e C).2 d j;unfold RU at f;rw[s]at f;obtain⟨av,hq,h⟩:=Array.any_eq_true.1 f;simp only[Ty,Tq]at h;obtain⟨o,B⟩:=h;have p:=Array.getElem_mem hq;rw[<-B];exact k _ p o) y
  refine y9 H ah fun O w' U=>⟨fun _=>trivial,?_⟩;have N:(fun b=>(c.setIfInBounds e true).getD b false)=qL (fun b=>c.getD b false) e:=by
   funext d;unfold qL;by_cases j:d=e
   . subst j;have:d<c.size:=Zm
     simp[this]
   . rw[Tt j,getD_set_ne false (Ne.symm j)]
  refine ih (c.setIfInBounds e true) O w' (by simpa using z) (fun b f h=>by
   rw[Array.getElem?_setIfInBounds_ne Zm];exact hF b f h) ?_ (by rw[N];exact U)
  have A:=OO (D:=fun b=>c.getD b false) C I;rw[q]at A;have R:(List.filter (fun b=> !(c.setIfInBounds e true).getD b false) (List.range n))=(List.filter (fun b=> !qL (fun b=>c.getD b false) e b) (List.range n)):=by
   apply List.filter_congr;intro ay _;rw[<-N]
  rw[R];omega
end
theorem Rk{P:Program}{id:Nat}{Q:Exit->Act->World->Prop}{a:Act}{w:World}{l:List Oper}(n:Nat)(ds:List (List Nat))(J:Act->(Nat->Bool)->Act->World->Prop)
    (h0:J a (fun _=>false) a w.drew)
    (step:∀c d f e,e<n->c e=false->(∀h∈ds.getD e [],c h=true)->J a c d f->wpList P l.toArray (Exit.then (J a (qL c e)) Q) (l[e]?).toList d f)
    (j:∀c d f,(∀b,b<n->c b=true)->J a c d f->wpList P l.toArray Q (l.drop n) d f)
    (p:P.follows .mixedOrders=true:=by kernel_rfl) (g:Cj l.toArray n ds=true:=by kernel_rfl):(Code.region id l.toArray true).wp P Q a w:=by
 refine wp_region_any p (xh (C:=fun _=>True) (n:=n) _ _ _ _ ?_);have u:n<=l.length:=by
  unfold Cj at g;simp only[Ty,Tq]at g;simpa using g.1.1.2
 have m:((List.range n).filter fun b=> !(Array.replicate l.length false).getD b false).length=n:=by
  have:(List.range n).filter (fun b=> !(Array.replicate l.length false).getD b false)=List.range n:=by
   apply List.filter_eq_self.2;intro s q;have:s<l.length:=SX (V6.1 q)
   simp[this]
  rw[this,List.length_range]
 have r:(fun b=>(Array.replicate l.length false).getD b false)=fun _=>false:=by
  funext h;by_cases o:h<l.length<;>simp[o]
 have:=Lv (P:=P) (Q:=Q) ds (J a) g step j n (Array.replicate l.length false) a w.drew Zl (fun b t k=>by simp[k]) m (by rw[r];exact h0);have i:l.length - n+n=l.toArray.size:=by simp;omega
 rw[i]at this;simpa using this
def upd(s:Nat->Value)(j:Nat)(x:Value):Nat->Value:=fun i=>if i=j then x else s i
structure MS(SP:Nat->World->Value->Prop)(WP:(Nat->Bool)->World->Prop)(D:Nat->Bool)(j:Nat)(W W':World)(x:Value):Prop where
 old:∀k y,SP k W y->SP k W' y
 Td:WP (qL D j) W'
 new:SP j W' x
theorem Rl{P:Program}{id:Nat}{Q:Exit->Act->World->Prop}{a:Act}{w:World}{l:List Oper}(n:Nat)(ds:List (List Nat))(F:(Nat->Value)->Act)(j:Nat->World->Value->Prop)(g:(Nat->Bool)->World->Prop)
    (y:F (fun _=>undef)=a) (h0:g (fun _=>false) w.drew)
    (step:∀c d e f,f<n->c f=false->g c e->(∀i∈ds.getD f [],j i e (d i))->∀K:Act->World->Prop,(∀q m,MS j g c f e m q->K (F (upd d f q)) m)->wpList P l.toArray (Exit.then K Q) (l[f]?).toList (F d) e)
    (s:∀c d e,(∀b,b<n->c b=true)->g c e->(∀b,b<n->j b e (d b))->wpList P l.toArray Q (l.drop n) (F d) e)
    (C:P.follows .mixedOrders=true:=by kernel_rfl) (v:Cj l.toArray n ds=true:=by kernel_rfl):(Code.region id l.toArray true).wp P Q a w:=by
 subst y;refine Rk n ds (fun _ c a w=>∃d,a=F d/\g c w/\∀b,c b=true->j b w (d b)) ⟨_,rfl,h0,fun _ t=>by cases t⟩ ?_ ?_ C v
 . rintro c _ e f z x A ⟨d,rfl,p,k⟩;refine step c d e f z x p (fun i B=>k i (A i B)) _ fun q m ⟨u,h2,h3⟩=>⟨_,rfl,h2,fun b h=>?_⟩;unfold upd;split
   . rename_i o;subst o;exact h3
   . rename_i o;unfold qL at h;rw[Tt o]at h;exact u _ _ (k b h)
 . rintro c _ e r ⟨d,rfl,p,k⟩;exact s c d e r p fun b h=>k b (r b h)
theorem js{P:Program}{l:List Oper}{Q:Exit->Act->World->Prop}{j:Nat}{b:Oper}{a:Act}{w:World}(c:wpList P l.toArray Q [b] a w)(d:(l[j]?).toList=[b]:=by rfl):wpList P l.toArray Q (l[j]?).toList a w:=by rw[d];exact c
def mG:List Nat->Nat->(Nat->Value)->Array Value->Array Value
 |[],_,_,t=>t
 |d::r,j,s,t=>mG r (j+1) s (t.setIfInBounds d (s j))
theorem zY(t:Array Value)(g:Nat->Value):∀(l:List Nat) (j:Nat),(∀a d,l[a]?=some d->g (j+a)=t.getD d undef)->mG l j g t=t
 |[],_,_=>rfl
 | d :: r, j, h => by
  have c:g j=t.getD d undef:=h 0 d rfl;have k:t.setIfInBounds d (g j)=t:=by
   rw[c];apply Array.ext
   . simp
   . intro m e f;by_cases b:d=m
     . subst b;simp[f]
     . rw[Array.getElem_setIfInBounds_ne (by simpa using e) b]
  rw[mG,k];exact zY t g r (j+1) fun a b i=>by
   have:=h (a+1) b (by simpa using i);rwa[Ue,Vf 1 a]
theorem PU{P:Program}{id:Nat}{Q:Exit->Act->World->Prop}{t:Array Value}{g:List Deferred}{w:World}{l:List Oper}(n:Nat)(ds:List (List Nat))(e:List Nat)(m:Nat->World->Value->Prop)(h:(Nat->Bool)->World->Prop)
    (h0:h (fun _=>false) w.drew)
    (step:∀b c d f,f<n->b f=false->h b d->(∀k∈ds.getD f [],m k d (c k))->∀K:Act->World->Prop,(∀s p,MS m h b f d p s->K ⟨mG e 0 (upd c f s) t,g⟩ p)->wpList P l.toArray (Exit.then K Q) (l[f]?).toList ⟨mG e 0 c t,g⟩ d)
    (x:∀b c d,(∀a,a<n->b a=true)->h b d->(∀a,a<n->m a d (c a))->wpList P l.toArray Q (l.drop n) ⟨mG e 0 c t,g⟩ d)
    (F:P.follows .mixedOrders=true:=by kernel_rfl) (z:Cj l.toArray n ds=true:=by kernel_rfl):(Code.region id l.toArray true).wp P Q ⟨t,g⟩ w:=by
 have B:mG e 0 (fun a=>t.getD (e.getD a 0) undef) t=t:=zY t _ e 0 fun a G q=>by simp[q]
 have i:(⟨t,g⟩:Act)=⟨mG e 0 (fun a=>t.getD (e.getD a 0) undef) t,g⟩:=by rw[B]
 rw[i];refine Rk n ds (fun _ b v w=>∃c,v=⟨mG e 0 c t,g⟩/\h b w/\∀a,b a=true->m a w (c a)) ⟨_,rfl,h0,fun _ q=>by cases q⟩ ?_ ?_ F z
 . rintro b _ d f C A D ⟨c,rfl,r,o⟩;refine step b c d f C A r (fun k E=>o k (D k E)) _ fun s p ⟨y,h2,h3⟩=>⟨_,rfl,h2,fun a j=>?_⟩;unfold upd;split
   . rename_i i;subst i;exact h3
   . rename_i i;unfold qL at j;rw[Tt i]at j;exact y _ _ (o a j)
 . rintro b _ d u ⟨c,rfl,r,o⟩;exact x b c d u r fun a j=>o a (u a j)
theorem PV{P:Program}{id:Nat}{Q:Exit->Act->World->Prop}{t:Array Value}{f:List Deferred}{w:World}{l:List Oper}(n:Nat)(ds:List (List Nat))(d:List Nat)(h:(Nat->Bool)->(Nat->Value)->World->Prop)
    (h0:∀a,h (fun _=>false) a w.drew)
    (step:∀b a c e,e<n->b e=false->h b a c->(∀A∈ds.getD e [],b A=true)->∀K:Act->World->Prop,(∀m i,h (qL b e) (upd a e m) i->K ⟨mG d 0 (upd a e m) t,f⟩ i)->wpList P l.toArray (Exit.then K Q) (l[e]?).toList ⟨mG d 0 a t,f⟩ c)
    (q:∀b a c,(∀g,g<n->b g=true)->h b a c->wpList P l.toArray Q (l.drop n) ⟨mG d 0 a t,f⟩ c)
    (z:P.follows .mixedOrders=true:=by kernel_rfl) (r:Cj l.toArray n ds=true:=by kernel_rfl):(Code.region id l.toArray true).wp P Q ⟨t,f⟩ w:=by
 have u:mG d 0 (fun g=>t.getD (d.getD g 0) undef) t=t:=zY t _ d 0 fun g B j=>by simp[j]
 have p:(⟨t,f⟩:Act)=⟨mG d 0 (fun g=>t.getD (d.getD g 0) undef) t,f⟩:=by rw[u]
 rw[p];refine Rk n ds (fun _ b o w=>∃a,o=⟨mG d 0 a t,f⟩/\h b a w) ⟨_,rfl,h0 _⟩ ?_ ?_ z r
 . rintro b _ c e x s y ⟨a,rfl,k⟩;exact step b a c e x s k y _ fun m i j=>⟨_,rfl,j⟩
 . rintro b _ c v ⟨a,rfl,k⟩;exact q b a c v k
structure uA(w:World)(E k n:Nat)(pf old:Value)(xs ys:List Value)(D:Nat->Bool)(s:Nat->Value)(W:World):Prop where
 ext:Ext w W
 d3:D 3=true->D 0=true
 d6:D 6=true->D 3=true/\D 5=true
 e1:D 1=true->s 1=pf
 e2:D 2=true->s 2=old
 e4:D 4=true->s 4=.agg ys.toArray
 e7:D 7=true->s 7=pf
 r0:D 0=true->D 3=false->∃b,s 0=.slice (some ⟨b,0,none⟩) 0 0/\W.ownsRow w.heap.size E k (.slice (some ⟨b,0,none⟩) 0 0) 0 []
 r3:D 3=true->D 6=false->W.ownsRow w.heap.size E k (s 3) n xs
 r5:D 5=true->D 6=false->∃b,s 5=.slice (some ⟨b,0,none⟩) 1 1/\hH W b 0 ys/\(D 3=false->∀g,D 0=true->(s 0).ownBlock=some g->g≠b)
 r6:D 6=true->∃g c,s 6=.slice (some ⟨g,0,none⟩) (n+1) c/\W.ownsRow w.heap.size E k (.slice (some ⟨g,0,none⟩) (n+1) c) (n+1) (xs++ys)
namespace uA
variable {w:World} {E k n:Nat} {pf old:Value} {xs ys:List Value} {D:Nat->Bool} {s:Nat->Value} {W:World}
theorem start(s:Nat->Value):uA w E k n pf old xs ys (fun _=>false) s w.drew:=⟨jg,by simp,by simp,by simp,by simp,by simp,by simp,by simp,by simp,by simp,by simp⟩
theorem q1(a:uA w E k n pf old xs ys D s W):uA w E k n pf old xs ys (qL D 1) (upd s 1 pf) W:=
 ⟨a.ext,a.d3,a.d6,fun _=>rfl,a.e2,a.e4,a.e7,a.r0,a.r3,a.r5,a.r6⟩
theorem q2(a:uA w E k n pf old xs ys D s W):uA w E k n pf old xs ys (qL D 2) (upd s 2 old) W:=
 ⟨a.ext,a.d3,a.d6,a.e1,fun _=>rfl,a.e4,a.e7,a.r0,a.r3,a.r5,a.r6⟩
theorem q4(a:uA w E k n pf old xs ys D s W):uA w E k n pf old xs ys (qL D 4) (upd s 4 (.agg ys.toArray)) W:=
 ⟨a.ext,a.d3,a.d6,a.e1,a.e2,fun _=>rfl,a.e7,a.r0,a.r3,a.r5,a.r6⟩
theorem q7(a:uA w E k n pf old xs ys D s W):uA w E k n pf old xs ys (qL D 7) (upd s 7 pf) W:=
 ⟨a.ext,a.d3,a.d6,a.e1,a.e2,a.e4,fun _=>rfl,a.r0,a.r3,a.r5,a.r6⟩
theorem q0(a:uA w E k n pf old xs ys D s W)(d:D 0=false)(hl:0<ys.length):uA w E k n pf old xs ys (qL D 0) (upd s 0 (.slice (some ⟨W,0,none⟩) 0 0)) (W.alloc (.cells #[] E)):=by
 have c:D 3=false:=by cases b:D 3 with|false=>rfl|true=>rw[a.d3 b]at d;cases d
 have i:D 6=false:=by cases b:D 6 with|false=>rfl|true=>rw[(a.d6 b).1]at c;cases c
 refine⟨a.ext.alloc _,fun _=>rfl,a.d6,a.e1,a.e2,a.e4,a.e7,fun _ _=>⟨_,rfl,kG W _ _ _ a.ext.size rfl⟩,fun b=>absurd (show D 3=true from b) (by simp[c]),fun b h=>?_,fun b=>absurd (show D 6=true from b) (by simp[i])⟩;obtain⟨f,g,e,-⟩:=a.r5 b h;refine⟨f,g,e.ext (jw _),fun _ l _ j=>?_⟩;simp[upd,Value.ownBlock]at j;have:=jc (e 0 _ (Ou hl));omega
theorem q3(b:uA w E k n pf old xs ys D s W)(e:D 3=false)(h0:D 0=true){v:Value}{d:World}(o:d.ownsRow w E k v n xs)(f:Kp (fun c=>(s 0).ownBlock=some c) W d)(p:∀c,(s 0).ownBlock=some c->w.heap.size<=c):uA w E k n pf old xs ys (qL D 3) (upd s 3 v) d:=by
 have i:D 6=false:=by cases a:D 6 with|false=>rfl|true=>rw[(b.d6 a).1]at e;cases e
 refine⟨b.ext.own f p,fun _=>h0,fun a=>⟨rfl,(b.d6 a).2⟩,b.e1,b.e2,b.e4,b.e7,fun _ a=>(by cases a),fun _ _=>o,fun a h=>?_,fun a=>absurd (show D 6=true from a) (by simp[i])⟩;obtain⟨c,g,l,m⟩:=b.r5 a h;exact⟨c,g,l.kp f (fun j=>m e _ h0 j rfl),fun a=>(by cases a)⟩
theorem q5(a:uA w E k n pf old xs ys D s W)(j:D 5=false):uA w E k n pf old xs ys (qL D 5) (upd s 5 (.slice (some ⟨W,0,none⟩) 1 1)) (W.alloc (.cells ys.toArray E)):=by
 have i:D 6=false:=by cases b:D 6 with|false=>rfl|true=>rw[(a.d6 b).2]at j;cases j
 have l:Ext W (W.alloc (.cells ys.toArray E)):=jw _;refine⟨a.ext.alloc _,a.d3,fun b=>absurd (show D 6=true from b) (by simp[i]),a.e1,a.e2,a.e4,a.e7,fun b d=>?_,fun b p=>?_,fun _ _=>⟨_,rfl,hH.nL _ _ rfl,fun _ h c q=>?_⟩,fun b=>absurd (show D 6=true from b) (by simp[i])⟩
 . obtain⟨g,c,e⟩:=a.r0 b d;exact⟨g,c,jb e l fun _ _ _ f=>f⟩
 . exact jb (a.r3 b p) l fun _ _ _ f=>f
 . have d:D 3=false:=by assumption
   obtain⟨g,o,e⟩:=a.r0 c d;have m:(s 0).ownBlock=some h:=q;rw[o]at m;have:=e.lt h m;omega
theorem q6(a:uA w E k n pf old xs ys D s W)(i:D 6=false)(f:D 3=true)(h:D 5=true){g c:Nat}{d:World}(m:d.ownsRow w E k (g,n+1,c) (n+1) (xs++ys))(l:Kp (fun e=>(s 3).ownBlock=some e) W d):uA w E k n pf old xs ys (qL D 6) (upd s 6 (g,n+1,c)) d:=by
 have o:=(a.r3 f i).lt;refine⟨a.ext.own l (fun e j=>(o e j).1),a.d3,fun _=>⟨f,h⟩,a.e1,a.e2,a.e4,a.e7,fun _ b=>absurd f (by simp[show D 3=false from b]),fun _ b=>(by cases b),fun _ b=>(by cases b),fun _=>⟨g,c,rfl,m⟩⟩
end uA
inductive Dl:List Nat->Prop
 |mk (l:List Nat):Dl l
theorem PW{P:Program}{id:Nat}{Q:Exit->Act->World->Prop}{t:Array Value}{j:List Deferred}{w d:World}{l:List Oper}{f:List Nat}{h k n i m s:Nat}{A z:TypeId}{cells:Array Value}{g:Value}{xs o:List Value}
    (_:Dl f) (_:Elem A h k) (_:Zz (hZ d i z cells)) (_:cells[m]?=some g) (_:Zz (hH d s 0 o)) (_:Zz (Flat d k g n xs)) (y:d=w)
    (step:∀a c e b,b<8->a b=false->uA d h k n (some (i,m)) g xs o a c e->(∀k∈[[],[],[1],[0,2],[],[4],[3,5],[]].getD b [],a k=true)->∀K:Act->World->Prop,(∀r p,uA d h k n (some (i,m)) g xs o (qL a b) (upd c b r) p->K ⟨mG f 0 (upd c b r) t,j⟩ p)->wpList P l.toArray (Exit.then K Q) (l[b]?).toList ⟨mG f 0 c t,j⟩ e)
    (u:∀a c e,(∀q,q<8->a q=true)->uA d h k n (some (i,m)) g xs o a c e->wpList P l.toArray Q (l.drop 8) ⟨mG f 0 c t,j⟩ e)
    (x:P.follows .mixedOrders=true:=by kernel_rfl) (v:Cj l.toArray 8 [[],[],[1],[0,2],[],[4],[3,5],[]]=true:=by kernel_rfl):(Code.region id l.toArray true).wp P Q ⟨t,j⟩ w:=by
 subst y;exact PV 8 [[],[],[1],[0,2],[],[4],[3,5],[]] f _ uA.start step u x v
theorem KV {P : Prop} {G : (Nat -> Value) -> Nat -> Nat -> World -> Prop} {e : World} {l k n B y c : Nat} {N M : TypeId} {cells : Array Value} {a : Option Addr} {xs u : List Value} (C : List Nat) (D : Nat)
    (p:Elem N l k) (w:yH l k) (q:Zz (hZ e B M cells)) (hc:cells[D]?=some (.slice a n c)) (s:Zz (hH e y 0 u)) (r:Zz (Flat e k (.slice a n c) n xs)) (K:n+1<=4294967296)
    (hX:∀j f o g,Ext e g->g.ownsRow e l k (.slice (some ⟨f,0,none⟩) (n+1) o) (n+1) (xs++u)->G j f o g)
    (aa : Dl C -> Zz (∀ j f o g, Ext e g -> g.ownsRow e l k (.slice (some ⟨f, 0, none⟩) (n + 1) o) (n + 1) (xs ++ u) -> G j f o g) -> Elem N l k -> yH l k -> Zz (hZ e B M cells) -> Zz (cells[D]? = some (.slice a n c)) -> Zz (hH e y 0 u) -> Zz (Flat e k (.slice a n c) n xs) -> n + 1 <= 4294967296 -> P := by
     (intro ae Q p w q z s r K
      refine PW ae p q z.o s r rfl ?_ ?_
      . intro O j g h hj i b m ag d;have af:h=0\/h=1\/h=2\/h=3\/h=4\/h=5\/h=6\/h=7:=Zm
        rcases af with rfl|rfl|rfl|rfl|rfl|rfl|rfl|rfl
        . refine js ?_;simp (decide:=true)only[mG,upd,U2,TA,Tu,Tk,Ti,Nat.reduceAdd]at d |-;go_wp2_with fail;exact b.q0 i Zl
        . refine js ?_;simp (decide:=true)only[mG,upd,U2,TA,Tu,Tk,Ti,Nat.reduceAdd]at d |-;go_wp2_with fail;exact b.q1
        . have U:=b.e1 (m 1 Zl);have J:=q.o.ext b.ext;have ai:=J.c _ _ z.o;have yz:=J.lt;refine js ?_;simp (decide:=true)only[mG,upd,U2,TA,Tu,Tk,Ti,Nat.reduceAdd]at d |-;rw[U]at d |-;go_wp2_with fail;exact b.q2
        . have E:=m 0 Zl;obtain⟨A,v,L⟩:=b.r0 E i;have V:=b.e2 (m 2 Zl);have hs:=fun f (hg:(j 0).ownBlock=some f)=>(L.lt f (by rw[<-v];exact hg)).1;refine js ?_;simp (decide:=true)only[mG,upd,U2,TA,Tu,Tk,Ti,Nat.reduceAdd]at d |-;rw[v,V]at d |-;refine jK p _ rfl _ _ rfl _ _ 0 [] rfl L _ _ _ _ rfl (r.o.ext b.ext) Zm b.ext.size ?_;intro ah R t kA;rw[Tm,TW]at t;exact d _ _ (b.q3 i E t (by rw[v];exact kA) hs)
        . have hY:=s.o.ext b.ext;refine js ?_;simp (decide:=true)only[mG,upd,U2,TA,Tu,Tk,Ti,Nat.reduceAdd]at d |-;refine CP w rfl rfl rfl hY rfl ?_;exact d _ _ b.q4
        . have W:=b.e4 (m 4 Zl);refine js ?_;simp (decide:=true)only[mG,upd,U2,TA,Tu,Tk,Ti,Nat.reduceAdd]at d |-;rw[W]at d |-;go_wp2_with fail;exact b.q5 i
        . have F:=m 3 Zl;have H:=m 5 Zl;have t:=b.r3 F i;obtain⟨A,X,T,-⟩:=b.r5 H i;refine js ?_;simp (decide:=true)only[mG,upd,U2,TA,Tu,Tk,Ti,Nat.reduceAdd]at d |-;rw[X]at d |-;refine jo p rfl _ _ rfl _ _ _ _ rfl t A 1 _ rfl rfl T Zt Zm b.ext.size ?_;intro f c R x kR _;exact d _ _ (b.q6 i F H x kR)
        . refine js ?_;simp (decide:=true)only[mG,upd,U2,TA,Tu,Tk,Ti,Nat.reduceAdd]at d |-;go_wp2_with fail;exact b.q7
      . intro O j wr I b;obtain⟨g9,S,Y,x⟩:=b.r6 (I 6 Zn);have Z:=b.e7 (I 7 Zn);simp (decide:=true)only[mG,Tu,Tk,Ti,Nat.reduceAdd];rw[Y,Z];exact Q.o j g9 S wr b.ext x)):P:=
 aa (.mk C) (Zy hX) p w q (Zy hc) s r K
end Go.Proofs.YtlhgbjbkjalfjaaGreat
namespace Go.Proofs.YtlhgbjbkjalfjaaGreat
open Go Go.RowKit Tryz M
variable {a: Act}{K d e next: Act->World->Prop}{Q: Exit->Act->World->Prop}{F: Fence}{q: List Nat}{l: List Oper}{c cs xs: List Value}{b f g gf i id k m n p: Nat}{I J: Nat->Prop}{P: Program}{α: Type}{v: Value}{W w: World}{C: World->Prop}
theorem kM.inside{x:SMap}(a:kM w I x cs):kM w (fun b=>I b/\b<w) x cs:=by
 obtain⟨e,f,d,c,b⟩:=a;exact⟨e,f,d,c.inside (fun _ _ _ _ a=>a) Zm,b.inside (fun _ _ _ _ a=>a) Zm⟩
theorem jd.inside{x:M.Method}(a:jd w I x cs):jd w (fun b=>I b/\b<w) x cs:=by
 obtain⟨f,g,h,e,c,b,d⟩:=a;exact⟨f,g,h,e,c.inside (fun _ _ _ _ a=>a) Zm,b.inside (fun _ _ _ _ a=>a) Zm,d.inside (fun _ _ _ _ a=>kM.inside a) Zm⟩
theorem jh.inside{x:Class}(a:jh w I x cs):jh w (fun b=>I b/\b<w) x cs:=by
 obtain⟨e,f,d,c,b⟩:=a;exact⟨e,f,d,c.inside (fun _ _ _ _ a=>a) Zm,b.inside (fun _ _ _ _ a=>jd.inside a) Zm⟩
theorem ja.inside{x:mD}(a:ja w I x cs):ja w (fun b=>I b/\b<w) x cs:=by
 obtain⟨f,e,d,c,b⟩:=a;exact⟨f,e,d,c.inside (fun _ _ _ _ a=>jh.inside a) Zm,b.inside (fun _ _ _ _ a=>a) Zm⟩
theorem oh.turn{h: World}{d: Nat}{e:List Int}(a:oh w d v e p)(g:Kp (·=b) w h)(l:d≠b)(m:e.length≠0->∀f n c,v=.slice (some f) n c->f.block≠b):oh h d v e p:=
 ⟨a.blk.kp g l,a.QH.kp g fun k i o c j=>m k i o c j,a.own,a.len⟩
theorem oh.below{h:List Int}(d:oh w g v h p):g<w/\(h.length≠0->∀a f b,v=.slice (some a) f b->a.block<w):=by
 refine⟨d.blk.lt,fun e a f b c=>?_⟩;rcases d.QH with⟨-,j⟩|⟨l,m,i,o,k,n⟩
 . rw[j]at e;simp at e
 . rw[i]at c;cases c;have:=yJ (k 0 Zm);rwa[add_block]at this
theorem Mv (I : Nat -> Prop) {cs: List Value} (c : M.Method) (ah : jd w I c cs) :Calls prog 212 #[.agg cs.toArray] w fun f w'=>BV f/\Ext w w':=by
 obtain⟨va,vc,vm,rfl,-,O,B⟩:=ah;obtain⟨ca,cc,rfl,aH,az⟩:=O.form;obtain⟨ae,af,rfl,hn,ay⟩:=B.form;obtain⟨Y,V,C,D⟩:=nu w #[c.name,va,c.ret.kind,c.ret.name,c.locals,c.stack,.slice ca c.code.length cc,.slice ae c.maps.length af] 132;obtain⟨cz,-,-,-,-,-,-,-,c7,-⟩:=D.ca;have⟨HB,H,n,K⟩:=jU D (B.ext kM.stays C) C V;clear C D V O B;by_cases h5:5<c.maps.length
 . have ai:(5:Int)<c.maps.length:=Zm
   go_enter func212,ntmps212;go_wp2_with fail;rw[<-K.o];go_wp2;go_ret;exact⟨⟨_,rfl⟩,n.o⟩
 have ai:¬(5:Int)<c.maps.length:=Zm
 go_enter func212,ntmps212;go_wp2_with fail;rw[<-K.o];go_wp2;go_loopw [3] (fun E wr=>∃h:Nat,h<=c.maps.length/\E=.int .i64 h/\Ext Y wr) (fun E _=>c.maps.length - (intOf E).toNat)
 case atStart=>exact⟨0,SV _,rfl,Kp.rr⟩
 case round =>
  obtain⟨h,hk,rfl,z⟩:=hrel;have J:=Zy z;have d7:=z.je c7;have dz:=jc d7;by_cases R:h<c.maps.length
  . have dk:(h:Int)<c.maps.length:=Zm
    obtain⟨b,X⟩:∃b,c.maps[h]?=some b:=⟨c.maps[h]'R,Ou R⟩;obtain⟨b',au,cs,rfl,hI,⟨vl,vs,rfl,F,G⟩,-,Q⟩:=H.o.get X;obtain⟨j,k,rfl,-,aG⟩:=F.form;obtain⟨l,m,rfl,-,aM⟩:=G.form;obtain⟨g0,g1,g2⟩:=(Q.ext z).three;have gz:=jc g0;obtain⟨Z,W,P,L⟩:=nu wr #[.int .i64 b.at_,.slice j b.locals.length k,.slice l b.stack.length m] 137;have i:Zz (Ext Y Z):=Zy (J.o.trans P);have N:=HB.o.ext i.o;have⟨r,s,aa⟩:=jB (F.ext kF.stays i.o) (G.ext kF.stays i.o) W;obtain⟨av,ag,aI,y⟩:=ll Z;obtain⟨-,x0,x1,x2,-⟩:=hZ.lC fun v=>(L.ext (y.jv v));obtain⟨-,-,-,-,-,m4,m5,m6,m7,-⟩:=hZ.lC fun v=>(N.ext (y.jv v));have a:=Zy y;have HJ:=Zy (fun(t:Nat) (x:SMap) (A:c.maps[t]?=some x)=>(show∀v,(ag v).cell? ⟨b',au+t*3,none⟩=some (.int .i64 x.at_)from fun v=>by
     obtain⟨_,_,ax,e2,_,⟨_,_,rfl,_,_⟩,-,aj⟩:=H.o.get A;cases e2;exact((aj.ext i.o).ext (y.jv v)).three.1))
    clear y X Q z P W L N F G;obtain⟨q1,S⟩:∃u,(decide (1<=b.at_)&&decide (b.at_<=(c.code.length:Int) - 1))=u:=⟨_,rfl⟩;have o:=Zy S;clear S;obtain⟨q3,aK⟩:∃u,((b.locals.length:Int) !=c.locals)=u:=⟨_,rfl⟩;obtain⟨q4,aL⟩:∃u,decide (c.stack<(b.stack.length:Int))=u:=⟨_,rfl⟩;obtain⟨q5,T⟩:∃u,b.locals.all sZ=u:=⟨_,rfl⟩;obtain⟨q6,U⟩:∃u,b.stack.all sZ=u:=⟨_,rfl⟩;have⟨p,q⟩:=jf T U;clear T U;go_wp2_with fail;rw[<-aa.o];cases q1
    . go_wp2_with fail;refine C8 a ?_ ?_;rotate_left;(repeat (go_big_quiet_step ((first|(go_at_call 136;refine(si).mono ?_;rintro f d ⟨rfl,rfl⟩;rw[o.o];exact⟨rfl,a.o.o _ (a.o.jv _)⟩)|(go_at_call 234;with_reducible refine(kJ I (.slice j b.locals.length k) b.locals (r.o.ext kF.stays (a.o.jv _))).mono ?_;rintro f d ⟨rfl,e⟩;rw[p.o];exact⟨rfl,a.o.o d ((a.o.jv _).trans e)⟩)|(go_at_call 234;with_reducible refine(kJ I (.slice l b.stack.length m) b.stack (s.o.ext kF.stays (a.o.jv _))).mono ?_;rintro f d ⟨rfl,e⟩;rw[q.o];exact⟨rfl,a.o.o d ((a.o.jv _).trans e)⟩)))));refine TD ?_;(rintro _ ⟨g,rfl⟩);rotate_left
      . exact jg
      go_wp2;go_ret;exact⟨⟨_,rfl⟩,(n.o.trans i.o).trans (a.o.jv g)⟩
    by_cases aF:0<h
    . have ak:decide ((0:Int)<(h:Int))=true:=Tz Zm;obtain⟨t,hj⟩:∃t,h=t+1:=⟨h - 1,Zm⟩;have aA:IntKind.i64.wrap ((h:Int) - 1)=(t:Int):=by rw[TK _ Zm];omega
      have aB:(h:Int) - 1=(t:Int):=Zm
      have aC:(0:Int)<=(t:Int):=Zm
      have aD:(t:Int)<c.maps.length:=Zm
      obtain⟨x,A⟩:∃x,c.maps[t]?=some x:=⟨c.maps[t]'Zm,Ou Zm⟩;have yj:=HJ.o t x A;clear A hj;obtain⟨q2,aJ⟩:∃u,decide (b.at_<=x.at_)=u:=⟨_,rfl⟩;cases q2;rotate_left
      . go_wp2_with fail;refine C8 a ?_ ?_;rotate_left;(repeat (go_big_quiet_step ((first|(go_at_call 136;refine(si).mono ?_;rintro f d ⟨rfl,rfl⟩;rw[o.o];exact⟨rfl,a.o.o _ (a.o.jv _)⟩)|(go_at_call 234;with_reducible refine(kJ I (.slice j b.locals.length k) b.locals (r.o.ext kF.stays (a.o.jv _))).mono ?_;rintro f d ⟨rfl,e⟩;rw[p.o];exact⟨rfl,a.o.o d ((a.o.jv _).trans e)⟩)|(go_at_call 234;with_reducible refine(kJ I (.slice l b.stack.length m) b.stack (s.o.ext kF.stays (a.o.jv _))).mono ?_;rintro f d ⟨rfl,e⟩;rw[q.o];exact⟨rfl,a.o.o d ((a.o.jv _).trans e)⟩)))));refine TD ?_;(rintro _ ⟨g,rfl⟩);rotate_left
        . exact jg
        go_wp2;go_ret;exact⟨⟨_,rfl⟩,(n.o.trans i.o).trans (a.o.jv g)⟩
      cases q3;rotate_left
      . go_wp2_with fail;refine C8 a ?_ ?_;rotate_left;(repeat (go_big_quiet_step ((first|(go_at_call 136;refine(si).mono ?_;rintro f d ⟨rfl,rfl⟩;rw[o.o];exact⟨rfl,a.o.o _ (a.o.jv _)⟩)|(go_at_call 234;with_reducible refine(kJ I (.slice j b.locals.length k) b.locals (r.o.ext kF.stays (a.o.jv _))).mono ?_;rintro f d ⟨rfl,e⟩;rw[p.o];exact⟨rfl,a.o.o d ((a.o.jv _).trans e)⟩)|(go_at_call 234;with_reducible refine(kJ I (.slice l b.stack.length m) b.stack (s.o.ext kF.stays (a.o.jv _))).mono ?_;rintro f d ⟨rfl,e⟩;rw[q.o];exact⟨rfl,a.o.o d ((a.o.jv _).trans e)⟩)))));refine TD ?_;(rintro _ ⟨g,rfl⟩);rotate_left
        . exact jg
        go_wp2;go_ret;exact⟨⟨_,rfl⟩,(n.o.trans i.o).trans (a.o.jv g)⟩
      cases q4;rotate_left
      . go_wp2_with fail;refine C8 a ?_ ?_;rotate_left;(repeat (go_big_quiet_step ((first|(go_at_call 136;refine(si).mono ?_;rintro f d ⟨rfl,rfl⟩;rw[o.o];exact⟨rfl,a.o.o _ (a.o.jv _)⟩)|(go_at_call 234;with_reducible refine(kJ I (.slice j b.locals.length k) b.locals (r.o.ext kF.stays (a.o.jv _))).mono ?_;rintro f d ⟨rfl,e⟩;rw[p.o];exact⟨rfl,a.o.o d ((a.o.jv _).trans e)⟩)|(go_at_call 234;with_reducible refine(kJ I (.slice l b.stack.length m) b.stack (s.o.ext kF.stays (a.o.jv _))).mono ?_;rintro f d ⟨rfl,e⟩;rw[q.o];exact⟨rfl,a.o.o d ((a.o.jv _).trans e)⟩)))));refine TD ?_;(rintro _ ⟨g,rfl⟩);rotate_left
        . exact jg
        go_wp2;go_ret;exact⟨⟨_,rfl⟩,(n.o.trans i.o).trans (a.o.jv g)⟩
      cases q5
      . go_wp2_with fail;refine C8 a ?_ ?_;rotate_left;(repeat (go_big_quiet_step ((first|(go_at_call 136;refine(si).mono ?_;rintro f d ⟨rfl,rfl⟩;rw[o.o];exact⟨rfl,a.o.o _ (a.o.jv _)⟩)|(go_at_call 234;with_reducible refine(kJ I (.slice j b.locals.length k) b.locals (r.o.ext kF.stays (a.o.jv _))).mono ?_;rintro f d ⟨rfl,e⟩;rw[p.o];exact⟨rfl,a.o.o d ((a.o.jv _).trans e)⟩)|(go_at_call 234;with_reducible refine(kJ I (.slice l b.stack.length m) b.stack (s.o.ext kF.stays (a.o.jv _))).mono ?_;rintro f d ⟨rfl,e⟩;rw[q.o];exact⟨rfl,a.o.o d ((a.o.jv _).trans e)⟩)))));refine TD ?_;(rintro _ ⟨g,rfl⟩);rotate_left
        . exact jg
        go_wp2;go_ret;exact⟨⟨_,rfl⟩,(n.o.trans i.o).trans (a.o.jv g)⟩
      cases q6
      . go_wp2_with fail;refine C8 a ?_ ?_;rotate_left;(repeat (go_big_quiet_step ((first|(go_at_call 136;refine(si).mono ?_;rintro f d ⟨rfl,rfl⟩;rw[o.o];exact⟨rfl,a.o.o _ (a.o.jv _)⟩)|(go_at_call 234;with_reducible refine(kJ I (.slice j b.locals.length k) b.locals (r.o.ext kF.stays (a.o.jv _))).mono ?_;rintro f d ⟨rfl,e⟩;rw[p.o];exact⟨rfl,a.o.o d ((a.o.jv _).trans e)⟩)|(go_at_call 234;with_reducible refine(kJ I (.slice l b.stack.length m) b.stack (s.o.ext kF.stays (a.o.jv _))).mono ?_;rintro f d ⟨rfl,e⟩;rw[q.o];exact⟨rfl,a.o.o d ((a.o.jv _).trans e)⟩)))));refine TD ?_;(rintro _ ⟨g,rfl⟩);rotate_left
        . exact jg
        go_wp2;go_ret;exact⟨⟨_,rfl⟩,(n.o.trans i.o).trans (a.o.jv g)⟩
      go_wp2_with fail;refine C8 a ?_ ?_;rotate_left;(repeat (go_big_quiet_step ((first|(go_at_call 136;refine(si).mono ?_;rintro f d ⟨rfl,rfl⟩;rw[o.o];exact⟨rfl,a.o.o _ (a.o.jv _)⟩)|(go_at_call 234;with_reducible refine(kJ I (.slice j b.locals.length k) b.locals (r.o.ext kF.stays (a.o.jv _))).mono ?_;rintro f d ⟨rfl,e⟩;rw[p.o];exact⟨rfl,a.o.o d ((a.o.jv _).trans e)⟩)|(go_at_call 234;with_reducible refine(kJ I (.slice l b.stack.length m) b.stack (s.o.ext kF.stays (a.o.jv _))).mono ?_;rintro f d ⟨rfl,e⟩;rw[q.o];exact⟨rfl,a.o.o d ((a.o.jv _).trans e)⟩)))));refine TD ?_;(rintro _ ⟨g,rfl⟩);rotate_left
      . exact jg
      go_wp2;go_round
      case rel=>exact⟨h+1,Zm,by go_num,i.o.trans (a.o.jv g)⟩
      case measure=>simp[intOf];omega
    . have ak:decide ((0:Int)<(h:Int))=false:=SL Zm;cases q3;rotate_left
      . go_wp2_with fail;refine C8 a ?_ ?_;rotate_left;(repeat (go_big_quiet_step ((first|(go_at_call 136;refine(si).mono ?_;rintro f d ⟨rfl,rfl⟩;rw[o.o];exact⟨rfl,a.o.o _ (a.o.jv _)⟩)|(go_at_call 234;with_reducible refine(kJ I (.slice j b.locals.length k) b.locals (r.o.ext kF.stays (a.o.jv _))).mono ?_;rintro f d ⟨rfl,e⟩;rw[p.o];exact⟨rfl,a.o.o d ((a.o.jv _).trans e)⟩)|(go_at_call 234;with_reducible refine(kJ I (.slice l b.stack.length m) b.stack (s.o.ext kF.stays (a.o.jv _))).mono ?_;rintro f d ⟨rfl,e⟩;rw[q.o];exact⟨rfl,a.o.o d ((a.o.jv _).trans e)⟩)))));refine TD ?_;(rintro _ ⟨g,rfl⟩);rotate_left
        . exact jg
        go_wp2;go_ret;exact⟨⟨_,rfl⟩,(n.o.trans i.o).trans (a.o.jv g)⟩
      cases q4;rotate_left
      . go_wp2_with fail;refine C8 a ?_ ?_;rotate_left;(repeat (go_big_quiet_step ((first|(go_at_call 136;refine(si).mono ?_;rintro f d ⟨rfl,rfl⟩;rw[o.o];exact⟨rfl,a.o.o _ (a.o.jv _)⟩)|(go_at_call 234;with_reducible refine(kJ I (.slice j b.locals.length k) b.locals (r.o.ext kF.stays (a.o.jv _))).mono ?_;rintro f d ⟨rfl,e⟩;rw[p.o];exact⟨rfl,a.o.o d ((a.o.jv _).trans e)⟩)|(go_at_call 234;with_reducible refine(kJ I (.slice l b.stack.length m) b.stack (s.o.ext kF.stays (a.o.jv _))).mono ?_;rintro f d ⟨rfl,e⟩;rw[q.o];exact⟨rfl,a.o.o d ((a.o.jv _).trans e)⟩)))));refine TD ?_;(rintro _ ⟨g,rfl⟩);rotate_left
        . exact jg
        go_wp2;go_ret;exact⟨⟨_,rfl⟩,(n.o.trans i.o).trans (a.o.jv g)⟩
      cases q5
      . go_wp2_with fail;refine C8 a ?_ ?_;rotate_left;(repeat (go_big_quiet_step ((first|(go_at_call 136;refine(si).mono ?_;rintro f d ⟨rfl,rfl⟩;rw[o.o];exact⟨rfl,a.o.o _ (a.o.jv _)⟩)|(go_at_call 234;with_reducible refine(kJ I (.slice j b.locals.length k) b.locals (r.o.ext kF.stays (a.o.jv _))).mono ?_;rintro f d ⟨rfl,e⟩;rw[p.o];exact⟨rfl,a.o.o d ((a.o.jv _).trans e)⟩)|(go_at_call 234;with_reducible refine(kJ I (.slice l b.stack.length m) b.stack (s.o.ext kF.stays (a.o.jv _))).mono ?_;rintro f d ⟨rfl,e⟩;rw[q.o];exact⟨rfl,a.o.o d ((a.o.jv _).trans e)⟩)))));refine TD ?_;(rintro _ ⟨g,rfl⟩);rotate_left
        . exact jg
        go_wp2;go_ret;exact⟨⟨_,rfl⟩,(n.o.trans i.o).trans (a.o.jv g)⟩
      cases q6
      . go_wp2_with fail;refine C8 a ?_ ?_;rotate_left;(repeat (go_big_quiet_step ((first|(go_at_call 136;refine(si).mono ?_;rintro f d ⟨rfl,rfl⟩;rw[o.o];exact⟨rfl,a.o.o _ (a.o.jv _)⟩)|(go_at_call 234;with_reducible refine(kJ I (.slice j b.locals.length k) b.locals (r.o.ext kF.stays (a.o.jv _))).mono ?_;rintro f d ⟨rfl,e⟩;rw[p.o];exact⟨rfl,a.o.o d ((a.o.jv _).trans e)⟩)|(go_at_call 234;with_reducible refine(kJ I (.slice l b.stack.length m) b.stack (s.o.ext kF.stays (a.o.jv _))).mono ?_;rintro f d ⟨rfl,e⟩;rw[q.o];exact⟨rfl,a.o.o d ((a.o.jv _).trans e)⟩)))));refine TD ?_;(rintro _ ⟨g,rfl⟩);rotate_left
        . exact jg
        go_wp2;go_ret;exact⟨⟨_,rfl⟩,(n.o.trans i.o).trans (a.o.jv g)⟩
      go_wp2_with fail;refine C8 a ?_ ?_;rotate_left;(repeat (go_big_quiet_step ((first|(go_at_call 136;refine(si).mono ?_;rintro f d ⟨rfl,rfl⟩;rw[o.o];exact⟨rfl,a.o.o _ (a.o.jv _)⟩)|(go_at_call 234;with_reducible refine(kJ I (.slice j b.locals.length k) b.locals (r.o.ext kF.stays (a.o.jv _))).mono ?_;rintro f d ⟨rfl,e⟩;rw[p.o];exact⟨rfl,a.o.o d ((a.o.jv _).trans e)⟩)|(go_at_call 234;with_reducible refine(kJ I (.slice l b.stack.length m) b.stack (s.o.ext kF.stays (a.o.jv _))).mono ?_;rintro f d ⟨rfl,e⟩;rw[q.o];exact⟨rfl,a.o.o d ((a.o.jv _).trans e)⟩)))));refine TD ?_;(rintro _ ⟨g,rfl⟩);rotate_left
      . exact jg
      go_wp2;go_round
      case rel=>exact⟨h+1,Zm,by go_num,i.o.trans (a.o.jv g)⟩
      case measure=>simp[intOf];omega
  . have dk:¬(h:Int)<c.maps.length:=Zm
    clear z;go_wp2;go_ret;exact⟨⟨_,rfl⟩,n.o.trans J.o⟩
theorem Cf:∀{css:List (List Value)},(∀c∈css,c.length=k)->∀{q:Nat} {c:List Value},css[q]?=some c->∀{r:Nat},r<k->∀a,css.flatten.set (q*k+r) a=(css.set q (c.set r a)).flatten
 |[],_,q,c,h,_,_,_=>by simp at h
 |d::t,hk,0,c,h,r,hr,a=>by
  simp at h;subst h;have b:=hk d Zl;simp only[Ua,Tm,UZ,Ti];rw[List.set_append_left _ _ Zm]
 |d::t,hk,q+1,c,h,r,hr,a=>by
  have b:=hk d Zl;have f:=Cf (fun g e=>hk g (TU _ e)) (q:=q) (c:=c) (by simpa using h) hr a;simp only[UZ,Tk];rw[List.set_append_right _ _ (by rw[b,UT];omega),b,show(q+1)*k+r - k=q*k+r by rw[UT];omega,f]
structure kv{α:Type}(e k:Nat)(R:lZ α)(w:World)(I:Nat->Prop)(base:Nat)(v:Value)(css:List (List Value))(xs:List α):Prop where
 own:w.ownsRow base e k v xs.length css.flatten
 len:∀c∈css,c.length=k
 all:kD R w I xs css
section
variable {α:Type} {e k:Nat} {R:lZ α} {w w':World} {I J:Nat->Prop} {base:Nat} {v:Value} {css:List (List Value)} {xs:List α} {D:Nat->Prop}
theorem kv.slice(b:kv e k R w I base v css xs)(c:0<k)(hI:∀a,base<=a->a<w.heap.size->I a)(hl:xs.length<=4294967296):SliceOf k R w I v xs:=
 SliceOf.owned b.own b.len c b.all hI hl
theorem kv.keep(c:kv e k R w I base v css xs)(hR:jM R)(d:Kp D w w')(h:∀b,v.ownBlock=some b->¬D b)(hI:∀a,I a->¬D a)(f:∀a,I a->J a):kv e k R w' J base v css xs:=
 ⟨jb c.own d (fun b g _=>h b g),c.len,c.all.keep hR (Kp.same d hI) f⟩
theorem kv.ext(b:kv e k R w I base v css xs)(hR:jM R)(c:Ext w w'):kv e k R w' I base v css xs:=b.keep hR c (fun _ _ a=>a) (fun _ _ a=>a) fun _ a=>a
theorem kv.get(b:kv e k R w I base (g,n,f) css xs){q:Nat}{x:α}(m:xs[q]?=some x):∃a,css[q]?=some a/\a.length=k/\R w I x a/\hH w g (q*k) a:=by
 obtain⟨a,c,h⟩:=b.all.get q x m;refine⟨a,c,b.len a (RA c),h,fun o p l=>?_⟩;rcases b.own.2 with⟨d,_⟩|⟨t,r,s,d,u,i,v,_,y,j⟩
 . cases d
 . cases d;have:=mI b.len q a c o p l;rw[<-j,Uu]at this;split at this
   . simp only[World.cell?,i];simpa using this
   . cases this
theorem oD(d:w.ownsRow base e k (g,n,b) n css.flatten)(hl:∀c∈css,c.length=k){q:Nat}{c:List Value}(f:css[q]?=some c){r:Nat}(h:r<k)(a:Value):(w.setCell (g,q*k+r) a).ownsRow base e k (g,n,b) n (css.set q (c.set r a)).flatten:=by
 rw[<-Cf hl f h a];exact(d.stored _ a).1
theorem Az(hR:jM R)(b:Same I w w')(a:∀e,I e->J e){c:List Value}:∀{xs:List α} {css:List (List Value)} {q:Nat} {x:α},kD R w I xs css->xs[q]?=some x->R w' J x c->kD R w' J xs (css.set q c)
 |[],[],q,x,_,hx,_=>by simp at hx
 |y::xs,d::css,0,x,h,hx,hr=>by simp at hx;subst hx;exact⟨hr,h.2.keep hR b a⟩
 |y::xs,d::css,q+1,x,h,hx,hr=>⟨hR _ _ _ _ _ _ b a h.1,Az hR b a h.2 (by simpa using hx) hr⟩
 |[],_::_,_,_,h,_,_=>h.elim
 |_::_,[],_,_,h,_,_=>h.elim
theorem nW(hl:∀c∈css,c.length=k){q:Nat}{c:List Value}(d:c.length=k):∀a∈css.set q c,a.length=k:=fun a e=>by
 rcases UG e with b|b
 . exact hl a b
 . rw[b];exact d
theorem kv.set1(d:kv e k R w I base (g,n,f) css xs)(m:n=xs.length)(hR:jM R)(hI:∀b,I b->b≠g){q:Nat}{x:α}{c:List Value}(s:xs[q]?=some x)(h:css[q]?=some c){r:Nat}(p:r<k){a:Value}(o:R (w.setCell (g,q*k+r) a) J x (c.set r a)) (j:∀b,I b->J b):kv e k R (w.setCell (g,q*k+r) a) J base (g,n,f) (css.set q (c.set r a)) xs/\Kp (·=g) w (w.setCell (g,q*k+r) a):=by
 subst m;have i:Kp (·=g) w (w.setCell (g,q*k+r) a):=nH;have l:=d.len c (RA h);exact⟨⟨oD d.own d.len h p a,nW d.len (by rw[Ux];exact l),Az hR (Kp.same i hI) j d.all s o⟩,i⟩
theorem Oq{D:Nat->Prop}{q: Nat}(w:World)(a:D g)(b c d e:Value):Kp D w ((((w.setCell (g,q*4) b).setCell (g,q*4+1) c).setCell (g,q*4+2) d).setCell (g,q*4+3) e):=
 ((((Kp.refl D w).setCell (p:=⟨g,q*4,none⟩) (fun _=>a) b).setCell (p:=⟨g,q*4+1,none⟩) (fun _=>a) c).setCell (p:=⟨g,q*4+2,none⟩) (fun _=>a) d).setCell (p:=⟨g,q*4+3,none⟩) (fun _=>a) e
theorem II(p:w.ownsRow base e 4 (g,n,i) n css.flatten)(hl:∀c∈css,c.length=4){q:Nat}{u0 u1 u2 u3:Value}(o:css[q]?=some [u0,u1,u2,u3])(a b d h:Value):((((w.setCell (g,q*4) a).setCell (g,q*4+1) b).setCell (g,q*4+2) d).setCell (g,q*4+3) h).ownsRow base e 4 (g,n,i) n (css.set q [a,b,d,h]).flatten:=by
 have f:=(Tw.1 o).1;have j:=oD p hl o (r:=0) Zn a;rw[U3]at j;have k:=oD (css:=css.set q [a,u1,u2,u3]) j (nW hl rfl) (q:=q) (c:=[a,u1,u2,u3]) (TJ f) (r:=1) Zn b;rw[UQ]at k;have l:=oD (css:=css.set q [a,b,u2,u3]) k (nW hl rfl) (q:=q) (c:=[a,b,u2,u3]) (TJ f) (r:=2) Zn d;rw[UQ]at l;have m:=oD (css:=css.set q [a,b,d,u3]) l (nW hl rfl) (q:=q) (c:=[a,b,d,u3]) (TJ f) (r:=3) Zn h;rw[UQ]at m;exact m
theorem kv.nI(h:kv e 4 R w I base (g,n,i) css xs)(m:n=xs.length)(hR:jM R)(hI:∀f,I f->f≠g){q:Nat}{x:α}{u0 u1 u2 u3:Value}(p:xs[q]?=some x)(l:css[q]?=some [u0,u1,u2,u3]){a b c d:Value}(o:R ((((w.setCell (g,q*4) a).setCell (g,q*4+1) b).setCell (g,q*4+2) c).setCell (g,q*4+3) d) J x [a,b,c,d]) (k:∀f,I f->J f):kv e 4 R ((((w.setCell (g,q*4) a).setCell (g,q*4+1) b).setCell (g,q*4+2) c).setCell (g,q*4+3) d) J base (g,n,i) (css.set q [a,b,c,d]) xs/\Kp (·=g) w ((((w.setCell (g,q*4) a).setCell (g,q*4+1) b).setCell (g,q*4+2) c).setCell (g,q*4+3) d):=by
 subst m;have j:=Oq (D:=(·=g)) (q:=q) w rfl a b c d;exact⟨⟨II h.own h.len l a b c d,nW h.len rfl,Az hR (Kp.same j hI) k h.all p o⟩,j⟩
theorem Qr{D:Nat->Prop}{q: Nat}(w:World)(a:D g)(b c d e f h i j:Value):Kp D w ((((((((w.setCell (g,q*8) b).setCell (g,q*8+1) c).setCell (g,q*8+2) d).setCell (g,q*8+3) e).setCell (g,q*8+4) f).setCell (g,q*8+5) h).setCell (g,q*8+6) i).setCell (g,q*8+7) j):=
 ((((((((Kp.refl D w).setCell (p:=⟨g,q*8,none⟩) (fun _=>a) b).setCell (p:=⟨g,q*8+1,none⟩) (fun _=>a) c).setCell (p:=⟨g,q*8+2,none⟩) (fun _=>a) d).setCell (p:=⟨g,q*8+3,none⟩) (fun _=>a) e).setCell (p:=⟨g,q*8+4,none⟩) (fun _=>a) f).setCell (p:=⟨g,q*8+5,none⟩) (fun _=>a) h).setCell (p:=⟨g,q*8+6,none⟩) (fun _=>a) i).setCell (p:=⟨g,q*8+7,none⟩) (fun _=>a) j
theorem Oc(z:w.ownsRow base e 8 (g,n,m) n css.flatten)(hl:∀c∈css,c.length=8){q:Nat}{u0 u1 u2 u3 u4 u5 u6 u7:Value}(y:css[q]?=some [u0,u1,u2,u3,u4,u5,u6,u7])(a b d f h j k l:Value):((((((((w.setCell (g,q*8) a).setCell (g,q*8+1) b).setCell (g,q*8+2) d).setCell (g,q*8+3) f).setCell (g,q*8+4) h).setCell (g,q*8+5) j).setCell (g,q*8+6) k).setCell (g,q*8+7) l).ownsRow base e 8 (g,n,m) n (css.set q [a,b,d,f,h,j,k,l]).flatten:=by
 have i:=(Tw.1 y).1;have o:=oD z hl y (r:=0) Zn a;rw[U3]at o;have p:=oD (css:=css.set q [a,u1,u2,u3,u4,u5,u6,u7]) o (nW hl rfl) (q:=q) (c:=[a,u1,u2,u3,u4,u5,u6,u7]) (TJ i) (r:=1) Zn b;rw[UQ]at p;have r:=oD (css:=css.set q [a,b,u2,u3,u4,u5,u6,u7]) p (nW hl rfl) (q:=q) (c:=[a,b,u2,u3,u4,u5,u6,u7]) (TJ i) (r:=2) Zn d;rw[UQ]at r;have s:=oD (css:=css.set q [a,b,d,u3,u4,u5,u6,u7]) r (nW hl rfl) (q:=q) (c:=[a,b,d,u3,u4,u5,u6,u7]) (TJ i) (r:=3) Zn f;rw[UQ]at s;have t:=oD (css:=css.set q [a,b,d,f,u4,u5,u6,u7]) s (nW hl rfl) (q:=q) (c:=[a,b,d,f,u4,u5,u6,u7]) (TJ i) (r:=4) Zn h;rw[UQ]at t;have u:=oD (css:=css.set q [a,b,d,f,h,u5,u6,u7]) t (nW hl rfl) (q:=q) (c:=[a,b,d,f,h,u5,u6,u7]) (TJ i) (r:=5) Zn j;rw[UQ]at u;have v:=oD (css:=css.set q [a,b,d,f,h,j,u6,u7]) u (nW hl rfl) (q:=q) (c:=[a,b,d,f,h,j,u6,u7]) (TJ i) (r:=6) Zn k;rw[UQ]at v;have x:=oD (css:=css.set q [a,b,d,f,h,j,k,u7]) v (nW hl rfl) (q:=q) (c:=[a,b,d,f,h,j,k,u7]) (TJ i) (r:=7) Zn l;rw[UQ]at x;exact x
theorem kv.SE(l:kv e 8 R w I base (g,n,m) css xs)(s:n=xs.length)(hR:jM R)(hI:∀k,I k->k≠g){q:Nat}{x:α}{u0 u1 u2 u3 u4 u5 u6 u7:Value}(u:xs[q]?=some x)(r:css[q]?=some [u0,u1,u2,u3,u4,u5,u6,u7]){a b c d f h i j:Value}(t:R ((((((((w.setCell (g,q*8) a).setCell (g,q*8+1) b).setCell (g,q*8+2) c).setCell (g,q*8+3) d).setCell (g,q*8+4) f).setCell (g,q*8+5) h).setCell (g,q*8+6) i).setCell (g,q*8+7) j) J x [a,b,c,d,f,h,i,j]) (p:∀k,I k->J k):kv e 8 R ((((((((w.setCell (g,q*8) a).setCell (g,q*8+1) b).setCell (g,q*8+2) c).setCell (g,q*8+3) d).setCell (g,q*8+4) f).setCell (g,q*8+5) h).setCell (g,q*8+6) i).setCell (g,q*8+7) j) J base (g,n,m) (css.set q [a,b,c,d,f,h,i,j]) xs/\Kp (·=g) w ((((((((w.setCell (g,q*8) a).setCell (g,q*8+1) b).setCell (g,q*8+2) c).setCell (g,q*8+3) d).setCell (g,q*8+4) f).setCell (g,q*8+5) h).setCell (g,q*8+6) i).setCell (g,q*8+7) j):=by
 subst s;have o:=Qr (D:=(·=g)) (q:=q) w rfl a b c d f h i j;exact⟨⟨Oc l.own l.len r a b c d f h i j,nW l.len rfl,Az hR (Kp.same o hI) p l.all u t⟩,o⟩
end
theorem DN{R:lZ α}{b:α}(a:R w I b c):∀{xs:List α} {css:List (List Value)} {q:Nat},kD R w I xs css->kD R w I (xs.set q b) (css.set q c)
 |[],[],_,_=>trivial
 |_::_,_::_,0,h=>⟨a,h.2⟩
 |_::_,_::_,_+1,h=>⟨h.1,DN a h.2⟩
 |[],_::_,_,h=>h.elim
 |_::_,[],_,h=>h.elim
theorem FT{R:lZ α}:∀{xs:List α} {css:List (List Value)} (q:Nat),kD R w I xs css->kD R w I (xs.take q) (css.take q)
 |[],[],_,_=>by simp;trivial
 |_::_,_::_,0,_=>trivial
 |_::_,_::_,q+1,h=>⟨h.1,FT q h.2⟩
 |[],_::_,_,h=>h.elim
 |_::_,[],_,h=>h.elim
theorem CW{R:lZ α}:∀{xs:List α} {css:List (List Value)},css.length=xs.length->(∀(k:Nat) (x:α) (c:List Value),xs[k]?=some x->css[k]?=some c->R w I x c)->kD R w I xs css
 |[],[],_,_=>trivial
 |x::xs,c::css,hl,h=>⟨h 0 x c rfl rfl,CW (by simpa using hl) fun k e a d b=>h (k+1) e a (by simpa using d) (by simpa using b)⟩
 |[],_::_,hl,_=>by simp at hl
 |_::_,[],hl,_=>by simp at hl
theorem wJ:∀{css:List (List Value)},(∀c∈css,c.length=k)->∀a,(css.take a).flatten=css.flatten.take (a*k)
 |[],_,a=>by simp
 |c::t,h,0=>by simp
 |c::t,h,a+1=>by
  have b:=h c Zl;rw[Us,UZ,UZ,wJ (fun e d=>h e (TU _ d)) a,UT,List.take_append,b,V7,TV (l:=c) Zm]
section
variable {α:Type} {e k:Nat} {R:lZ α} {w w':World} {I:Nat->Prop} {base:Nat} {v:Value} {css:List (List Value)} {xs:List α}
theorem kv.head{a: Nat}(j:kv e k R w I base (g,n,a) css xs)(q:Nat)(f:q<=xs.length):kv e k R w I base (g,q,a) (css.take q) (xs.take q):=by
 obtain⟨⟨o,u⟩,d,l⟩:=j;have p:(xs.take q).length=q:=by rw[Tj];omega
 refine⟨?_,fun h c=>d h (Uv c),FT q l⟩;rw[p,wJ d];refine⟨by rw[Tj,o];exact U5 (UL f (T9 _)),.inr ?_⟩;rcases u with⟨b,_⟩|⟨x,v,i,b,m,c,y,r,s,t⟩
 . cases b
 . cases b;refine⟨g,a,i,rfl,m,c,Zm,r,s,?_⟩;rw[<-t,List.take_take,U5 (UL f (T9 _))]
theorem kv.low(a:kv e k R w I base v css xs)(d:b<=base):kv e k R w I b v css xs:=
 ⟨⟨a.own.1,a.own.2.imp id fun⟨c,cap,cur,h1,h2,h3⟩=>⟨c,cap,cur,h1,TL d h2,h3⟩⟩,a.len,a.all⟩
theorem kv.inside(hR:∀w I c d,R w I c d->R w (fun a=>I a/\a<w) c d)(b:kv e k R w I base v css xs):kv e k R w (fun a=>I a/\a<w) base v css xs:=
 ⟨b.own,b.len,CW (b.all.len) fun j c d i f=>by
  obtain⟨l,g,h⟩:=b.all.get j c i;rw[g]at f;cases f;exact hR _ _ _ _ h⟩
theorem kv.clear{t ty:TypeId}(G:Elem t e k){z:Value}(E:(prog.info? e).map (·.zero)=some (some z))(H:z.cells.all Value.oneCell'=true)(hR:jM R){g n l:Nat}(i:kv e k R w I base (g,n,l) css xs)(y:n=xs.length)(hI:∀s,I s->s≠g)(q c:Nat)(r:q<=n):∃d,(Builtin.clear_ #[t] ty #[.slice (some ⟨g,q*k,none⟩) (n - q) c]).run prog w=.ok (.tuple #[]) d/\kv e k R d I base (g,q,l) (css.take q) (xs.take q)/\Kp (·=g) w d:=by
 subst y;obtain⟨af,b,bytes,B,v,D,ae,aa,X,hk,hb⟩:=G;obtain rfl:b=z:=by rw[v]at E;simpa [D]using E
 have W:∀d,(zeroValue e).run prog d=.ok b d:=fun d=>by simp[zeroValue,typeInfo,v,D]
 have j:=i.head q r;obtain⟨⟨hl,V⟩,J,h3⟩:=i;rcases V with⟨m,_⟩|⟨Z,Y,f,m,K,u,y,N,T,U⟩
 . cases m
 cases m;by_cases Q:xs.length - q=0
 . refine⟨w,?_,j,Kp.rr⟩;rw[Q];simp[Builtin.clear_,Uf B]
 . obtain⟨a,O⟩:∃a,xs.length - q=a+1:=⟨xs.length - q - 1,Zm⟩;have p:(Builtin.zeroCells b.cells (a+1)).toList.length=(a+1)*k:=by simp[Builtin.zeroCells,X]
   have P:∀F∈(Builtin.zeroCells b.cells (a+1)).toList,F.oneCell'=true:=fun F C=>by
    simp only[Builtin.zeroCells,Array.toList_map,Vw]at C;obtain⟨h,-,rfl⟩:=C;have x:h % b.cells.size<b.cells.size:=Nat.mod_lt _ Zm;rw[getElem!_pos b.cells (h % b.cells.size) x];exact(Array.all_eq_true.1 H) _ x
   have L:q*k+(a+1)*k<=f.size:=by
    rw[T,<-Nat.add_mul];exact UL Zm (T9 _)
   have A:=run_storeCells_at prog g (q*k) e (Builtin.zeroCells b.cells (a+1)).toList 0 f w u (by rw[p];simpa using L) P;rw[U3,p]at A;refine⟨w.setRow g (f.toList.take (q*k)++(Builtin.zeroCells b.cells (a+1)).toList++f.toList.drop (q*k+(a+1)*k)).toArray,?_,?_,⟨rfl,rfl,rfl,by simp[World.setRow],fun h _ o=>setRow_other w g h _ o⟩⟩
   . rw[O];simp[Builtin.clear_,Uf B,W,A]
   . have M:Kp (·=g) w (w.setRow g (f.toList.take (q*k)++(Builtin.zeroCells b.cells (a+1)).toList++f.toList.drop (q*k+(a+1)*k)).toArray):=⟨rfl,rfl,rfl,by simp[World.setRow],fun h _ o=>setRow_other w g h _ o⟩;refine⟨⟨j.own.1,.inr ⟨g,l,_,?_,K,setRow_heap w g f _ e (0,0) u,?_,N,?_,?_⟩⟩,j.len,j.all.keep hR (M.same hI) fun _ i=>i⟩
     . rw[Tj,U5 r]
     . rw[Tj];omega
     . simp only[UY,TP,Tj,Ui,p,Array.length_toList];omega
     . have S:(xs.take q).length=q:=by rw[Tj];omega
       rw[S,wJ J,<-U,List.take_take,U5 (UL r (T9 _)),U1,List.take_append_of_le_length (by rw[Tj,Array.length_toList];omega),List.take_take,Nat.min_self]
theorem kv.Sa(a:kv e 4 R w I base (g,n,i) css xs)(m:n=xs.length)(hR:jM R)(hI:∀h,I h->h≠g){q:Nat}{k:α}{u0 u1 u2 u3:Value}(l:css[q]?=some [u0,u1,u2,u3]){b c d f:Value}(o:R w I k [b,c,d,f]):kv e 4 R ((((w.setCell (g,q*4) b).setCell (g,q*4+1) c).setCell (g,q*4+2) d).setCell (g,q*4+3) f) I base (g,n,i) (css.set q [b,c,d,f]) (xs.set q k)/\Kp (·=g) w ((((w.setCell (g,q*4) b).setCell (g,q*4+1) c).setCell (g,q*4+2) d).setCell (g,q*4+3) f):=by
 subst m;have j:=Oq (D:=(·=g)) (q:=q) w rfl b c d f;refine⟨⟨?_,nW a.len rfl,(DN o a.all).keep hR (j.same hI) fun _ a=>a⟩,j⟩;rw[Ux];exact II a.own a.len l b c d f
theorem kv.R4(b:kv e 2 R w I base (g,n,f) css xs)(m:n=xs.length)(hR:jM R)(hI:∀d,I d->d≠g){q:Nat}{l:α}{u0 u1:Value}(j:css[q]?=some [u0,u1]){a c:Value}(o:R w I l [a,c]):kv e 2 R ((w.setCell (g,q*2) a).setCell (g,q*2+1) c) I base (g,n,f) (css.set q [a,c]) (xs.set q l)/\Kp (·=g) w ((w.setCell (g,q*2) a).setCell (g,q*2+1) c):=by
 subst m;have k:Kp (·=g) w ((w.setCell (g,q*2) a).setCell (g,q*2+1) c):=nH;refine⟨⟨?_,nW b.len rfl,(DN o b.all).keep hR (k.same hI) fun _ b=>b⟩,k⟩;rw[Ux];have p:=(Tw.1 j).1;have h:=oD b.own b.len j (r:=0) Zn a;rw[U3]at h;have i:=oD (css:=css.set q [a,u1]) h (nW b.len rfl) (q:=q) (c:=[a,u1]) (TJ p) (r:=1) Zn c;rw[UQ]at i;exact i
theorem kv.snoc{v':Value}{c:List Value}{x:α}(b:kv e k R w I base v css xs)(hR:jM R)(g:Kp (fun a=>v.ownBlock=some a) w W)(hI:∀a,I a->¬v.ownBlock=some a)(f:∀a,I a->J a)(j:W.ownsRow base e k v' (xs.length+1) (css.flatten++c)) (h:c.length=k) (l:R W J x c):kv e k R W J base v' (css++[c]) (xs++[x]):=
 ⟨by rw[TP,List.flatten_append];simpa using j,fun d i=>(TZ.1 i).elim (b.len d) fun b=>by simp at b;rw[b];exact h,(b.all.keep hR (g.same hI) f).snoc l⟩
end
theorem QZ:Elem 30 107 4:=kP (z:=.agg #[Tc, "",Tc, ""]) (bytes:=48) underlying30 Zo rfl Zn Zn
theorem QK(a:Flat w 4 v n xs)(y:n<=4294967296):Calls prog 62 #[v] w fun q e=>(∃d,q=.returned d/\e.ownsRow w 107 4 d n xs)/\Ext w e:=by
 obtain⟨f,g,rfl,b,i⟩:=a.ex;have x:=fun o=>U0 (P:=prog) o 30 107 f n g 0 0 underlying30;have c:=a.len;cases f with
 |none=>
  obtain rfl:=b rfl;have t:=TR (by simpa using c);subst t;clear a b i c;go_enter func62,ntmps62;go_wp2;go_ret;exact⟨⟨_,rfl,Tf _ _ _ _⟩,Kp.rr⟩
 |some p=>
  have k:=Zy (a.ext (jw (.cells #[] 107):Ext w _));have s:0+n<=8589934592:=Zm
  clear a b i c;go_enter func62,ntmps62;go_wp2_with (at_builtin;refine jR QZ _ rfl _ _ rfl w _ 0 [] rfl (kG w _ 4 _ (T9 _) rfl) p n g xs rfl k s Zl ?_);intro d e j h;have⟨m,l⟩:=jf j h;clear j h;go_wp2;go_ret;exact⟨⟨_,rfl,by simpa using m.o⟩,(jw _:Ext w _).own l.o (fun u r=>by simp only[Value.ownBlock,TT]at r;omega)⟩
theorem Pk:Elem 31 112 3:=kP (z:=.agg #[Tc,Tc, ""]) (bytes:=32) underlying31 Zo rfl Zn Zn
theorem O7(a:Flat w 3 v n xs)(y:n<=4294967296):Calls prog 63 #[v] w fun q e=>(∃d,q=.returned d/\e.ownsRow w 112 3 d n xs)/\Ext w e:=by
 obtain⟨f,g,rfl,b,i⟩:=a.ex;have x:=fun o=>U0 (P:=prog) o 31 112 f n g 0 0 underlying31;have c:=a.len;cases f with
 |none=>
  obtain rfl:=b rfl;have t:=TR (by simpa using c);subst t;clear a b i c;go_enter func63,ntmps63;go_wp2;go_ret;exact⟨⟨_,rfl,Tf _ _ _ _⟩,Kp.rr⟩
 |some p=>
  have k:=Zy (a.ext (jw (.cells #[] 112):Ext w _));have s:0+n<=8589934592:=Zm
  clear a b i c;go_enter func63,ntmps63;go_wp2_with (at_builtin;refine jR Pk _ rfl _ _ rfl w _ 0 [] rfl (kG w _ 3 _ (T9 _) rfl) p n g xs rfl k s Zl ?_);intro d e j h;have⟨m,l⟩:=jf j h;clear j h;go_wp2;go_ret;exact⟨⟨_,rfl,by simpa using m.o⟩,(jw _:Ext w _).own l.o (fun u r=>by simp only[Value.ownBlock,TT]at r;omega)⟩
theorem JH:Elem 142 47 4:=kP (z:=.agg #["", "",(),()]) (bytes:=80) underlying142 Zo rfl Zn Zn
theorem QJ(a:Flat w 4 v n xs)(y:n<=4294967296):Calls prog 59 #[v] w fun q e=>(∃d,q=.returned d/\e.ownsRow w 47 4 d n xs)/\Ext w e:=by
 obtain⟨f,g,rfl,b,i⟩:=a.ex;have x:=fun o=>U0 (P:=prog) o 142 47 f n g 0 0 underlying142;have c:=a.len;cases f with
 |none=>
  obtain rfl:=b rfl;have t:=TR (by simpa using c);subst t;clear a b i c;go_enter func59,ntmps59;go_wp2;go_ret;exact⟨⟨_,rfl,Tf _ _ _ _⟩,Kp.rr⟩
 |some p=>
  have k:=Zy (a.ext (jw (.cells #[] 47):Ext w _));have s:0+n<=8589934592:=Zm
  clear a b i c;go_enter func59,ntmps59;go_wp2_with (at_builtin;refine jR JH _ rfl _ _ rfl w _ 0 [] rfl (kG w _ 4 _ (T9 _) rfl) p n g xs rfl k s Zl ?_);intro d e j h;have⟨m,l⟩:=jf j h;clear j h;go_wp2;go_ret;exact⟨⟨_,rfl,by simpa using m.o⟩,(jw _:Ext w _).own l.o (fun u r=>by simp only[Value.ownBlock,TT]at r;omega)⟩
theorem JG:Elem 143 150 2:=kP (z:=.agg #["",Tc]) (bytes:=24) underlying143 Zo rfl Zn Zn
theorem QI(a:Flat w 2 v n xs)(y:n<=4294967296):Calls prog 61 #[v] w fun q e=>(∃d,q=.returned d/\e.ownsRow w 150 2 d n xs)/\Ext w e:=by
 obtain⟨f,g,rfl,b,i⟩:=a.ex;have x:=fun o=>U0 (P:=prog) o 143 150 f n g 0 0 underlying143;have c:=a.len;cases f with
 |none=>
  obtain rfl:=b rfl;have t:=TR (by simpa using c);subst t;clear a b i c;go_enter func61,ntmps61;go_wp2;go_ret;exact⟨⟨_,rfl,Tf _ _ _ _⟩,Kp.rr⟩
 |some p=>
  have k:=Zy (a.ext (jw (.cells #[] 150):Ext w _));have s:0+n<=8589934592:=Zm
  clear a b i c;go_enter func61,ntmps61;go_wp2_with (at_builtin;refine jR JG _ rfl _ _ rfl w _ 0 [] rfl (kG w _ 2 _ (T9 _) rfl) p n g xs rfl k s Zl ?_);intro d e j h;have⟨m,l⟩:=jf j h;clear j h;go_wp2;go_ret;exact⟨⟨_,rfl,by simpa using m.o⟩,(jw _:Ext w _).own l.o (fun u r=>by simp only[Value.ownBlock,TT]at r;omega)⟩
theorem Q0:Elem 44 216 3:=kP (z:=.agg #["",Tc, ""]) (bytes:=40) underlying44 Zo rfl Zn Zn
theorem QL(a:Flat w 3 v n xs)(y:n<=4294967296):Calls prog 101 #[v] w fun q e=>(∃d,q=.returned d/\e.ownsRow w 216 3 d n xs)/\Ext w e:=by
 obtain⟨f,g,rfl,b,i⟩:=a.ex;have x:=fun o=>U0 (P:=prog) o 44 216 f n g 0 0 underlying44;have c:=a.len;cases f with
 |none=>
  obtain rfl:=b rfl;have t:=TR (by simpa using c);subst t;clear a b i c;go_enter func101,ntmps101;go_wp2;go_ret;exact⟨⟨_,rfl,Tf _ _ _ _⟩,Kp.rr⟩
 |some p=>
  have k:=Zy (a.ext (jw (.cells #[] 216):Ext w _));have s:0+n<=8589934592:=Zm
  clear a b i c;go_enter func101,ntmps101;go_wp2_with (at_builtin;refine jR Q0 _ rfl _ _ rfl w _ 0 [] rfl (kG w _ 3 _ (T9 _) rfl) p n g xs rfl k s Zl ?_);intro d e j h;have⟨m,l⟩:=jf j h;clear j h;go_wp2;go_ret;exact⟨⟨_,rfl,by simpa using m.o⟩,(jw _:Ext w _).own l.o (fun u r=>by simp only[Value.ownBlock,TT]at r;omega)⟩
theorem Q7:Elem 45 132 8:=kP (z:=.agg #["",(),Tc, "",Tc,Tc,(),()]) (bytes:=128) underlying45 Zo rfl Zn Zn
theorem QP(a:Flat w 8 v n xs)(y:n<=4294967296):Calls prog 102 #[v] w fun q e=>(∃d,q=.returned d/\e.ownsRow w 132 8 d n xs)/\Ext w e:=by
 obtain⟨f,g,rfl,b,i⟩:=a.ex;have x:=fun o=>U0 (P:=prog) o 45 132 f n g 0 0 underlying45;have c:=a.len;cases f with
 |none=>
  obtain rfl:=b rfl;have t:=TR (by simpa using c);subst t;clear a b i c;go_enter func102,ntmps102;go_wp2;go_ret;exact⟨⟨_,rfl,Tf _ _ _ _⟩,Kp.rr⟩
 |some p=>
  have k:=Zy (a.ext (jw (.cells #[] 132):Ext w _));have s:0+n<=8589934592:=Zm
  clear a b i c;go_enter func102,ntmps102;go_wp2_with (at_builtin;refine jR Q7 _ rfl _ _ rfl w _ 0 [] rfl (kG w _ 8 _ (T9 _) rfl) p n g xs rfl k s Zl ?_);intro d e j h;have⟨m,l⟩:=jf j h;clear j h;go_wp2;go_ret;exact⟨⟨_,rfl,by simpa using m.o⟩,(jw _:Ext w _).own l.o (fun u r=>by simp only[Value.ownBlock,TT]at r;omega)⟩
theorem Q4:Elem 126 128 2:=kP (z:=.agg #[Tc, ""]) (bytes:=24) underlying126 Zo rfl Zn Zn
theorem QN(a:Flat w 2 v n xs)(y:n<=4294967296):Calls prog 155 #[v] w fun q e=>(∃d,q=.returned d/\e.ownsRow w 128 2 d n xs)/\Ext w e:=by
 obtain⟨f,g,rfl,b,i⟩:=a.ex;have x:=fun o=>U0 (P:=prog) o 126 128 f n g 0 0 underlying126;have c:=a.len;cases f with
 |none=>
  obtain rfl:=b rfl;have t:=TR (by simpa using c);subst t;clear a b i c;go_enter func155,ntmps155;go_wp2;go_ret;exact⟨⟨_,rfl,Tf _ _ _ _⟩,Kp.rr⟩
 |some p=>
  have k:=Zy (a.ext (jw (.cells #[] 128):Ext w _));have s:0+n<=8589934592:=Zm
  clear a b i c;go_enter func155,ntmps155;go_wp2_with (at_builtin;refine jR Q4 _ rfl _ _ rfl w _ 0 [] rfl (kG w _ 2 _ (T9 _) rfl) p n g xs rfl k s Zl ?_);intro d e j h;have⟨m,l⟩:=jf j h;clear j h;go_wp2;go_ret;exact⟨⟨_,rfl,by simpa using m.o⟩,(jw _:Ext w _).own l.o (fun u r=>by simp only[Value.ownBlock,TT]at r;omega)⟩
theorem Q3:Elem 129 140 4:=kP (z:=.agg #[Tc,Tc, "", ""]) (bytes:=48) underlying129 Zo rfl Zn Zn
theorem QM(a:Flat w 4 v n xs)(y:n<=4294967296):Calls prog 156 #[v] w fun q e=>(∃d,q=.returned d/\e.ownsRow w 140 4 d n xs)/\Ext w e:=by
 obtain⟨f,g,rfl,b,i⟩:=a.ex;have x:=fun o=>U0 (P:=prog) o 129 140 f n g 0 0 underlying129;have c:=a.len;cases f with
 |none=>
  obtain rfl:=b rfl;have t:=TR (by simpa using c);subst t;clear a b i c;go_enter func156,ntmps156;go_wp2;go_ret;exact⟨⟨_,rfl,Tf _ _ _ _⟩,Kp.rr⟩
 |some p=>
  have k:=Zy (a.ext (jw (.cells #[] 140):Ext w _));have s:0+n<=8589934592:=Zm
  clear a b i c;go_enter func156,ntmps156;go_wp2_with (at_builtin;refine jR Q3 _ rfl _ _ rfl w _ 0 [] rfl (kG w _ 4 _ (T9 _) rfl) p n g xs rfl k s Zl ?_);intro d e j h;have⟨m,l⟩:=jf j h;clear j h;go_wp2;go_ret;exact⟨⟨_,rfl,by simpa using m.o⟩,(jw _:Ext w _).own l.o (fun u r=>by simp only[Value.ownBlock,TT]at r;omega)⟩
theorem Q6:Elem 130 137 3:=kP (z:=.agg #[Tc,(),()]) (bytes:=56) underlying130 Zo rfl Zn Zn
theorem QO(a:Flat w 3 v n xs)(y:n<=4294967296):Calls prog 157 #[v] w fun q e=>(∃d,q=.returned d/\e.ownsRow w 137 3 d n xs)/\Ext w e:=by
 obtain⟨f,g,rfl,b,i⟩:=a.ex;have x:=fun o=>U0 (P:=prog) o 130 137 f n g 0 0 underlying130;have c:=a.len;cases f with
 |none=>
  obtain rfl:=b rfl;have t:=TR (by simpa using c);subst t;clear a b i c;go_enter func157,ntmps157;go_wp2;go_ret;exact⟨⟨_,rfl,Tf _ _ _ _⟩,Kp.rr⟩
 |some p=>
  have k:=Zy (a.ext (jw (.cells #[] 137):Ext w _));have s:0+n<=8589934592:=Zm
  clear a b i c;go_enter func157,ntmps157;go_wp2_with (at_builtin;refine jR Q6 _ rfl _ _ rfl w _ 0 [] rfl (kG w _ 3 _ (T9 _) rfl) p n g xs rfl k s Zl ?_);intro d e j h;have⟨m,l⟩:=jf j h;clear j h;go_wp2;go_ret;exact⟨⟨_,rfl,by simpa using m.o⟩,(jw _:Ext w _).own l.o (fun u r=>by simp only[Value.ownBlock,TT]at r;omega)⟩
def Iter{α:Type}(P:Program)(gf:Nat)(lb:Array Value)(encs:α->Array Value)(Dit Bd:Nat->Prop)(S Sp Bnd:List α->Prop)(It0:World->Prop)(Nx:List α->α->Prop:=fun _ _=>True):Prop:=
 ∀(l:Nat) (J Jx:List α->World->Prop) (W:World),It0 W->(∀s A B,J s A->Kp Dit A B->J s B)->(∀s A B,Jx s A->Kp Dit A B->Jx s B)->(∀s A,J s A->Bnd s)→
  (∀pre x W1,Nx pre x->J pre W1->YieldAt Fence.wide 8 P l (encs x) W1 fun e W'=>Kp Bd W1 W'/\((e=.returned (.bool true)/\J (pre++[x]) W')\/(e=.returned (.bool false)/\Jx (pre++[x]) W')))→
  J [] W->CallsIn Fence.wide 9 P gf (#[.func (.yield l) #[] #[]]++lb) W fun e W'=>(∃v,e=.returned v)/\((∃xs,S xs/\J xs W')\/(∃pre,Sp pre/\Jx pre W'))
def roundEnd{α:Type}(Bb:Nat->Prop)(I:List α->World->Prop)(Ix:Code->List α->World->Prop)(xs:List α)(W:World):Exit->Act->World->Prop
 | .normal,_,W'=>Kp Bb W W'/\I xs W'
 | .ret,_,W'=>Kp Bb W W'/\Ix .ret xs W'
 | .exit id,_,W'=>Kp Bb W W'/\Ix (.exit id) xs W'
 | .goto t,_,W'=>Kp Bb W W'/\Ix (.goto t) xs W'
 | .panic _,_,_=>False
 | .outgrown,_,_=>False
theorem Kp.putObj(W:World)(l:Nat)(b:Obj):Kp (·=l) W (W.putObj l b):=
 ⟨rfl,rfl,rfl,by simp,fun _ _ a=>World.putObj_heap_other a⟩
theorem En {g : Operand} {F : Array Tmp} {assign body : Code} {Q : Exit -> Act -> World -> Prop} {lb : Array Value}
    (hg:a.eval g=.func (.func gf) #[] lb) (eg:∀args w,(callFunc gf args).run P w=.ok (.enter gf args) w) {encs:α->Array Value} (aF:∀x,(encs x).size=F.size)
    {Y Z T:List α->Prop} {B Bb:Nat->Prop} {V:World->Prop} {X:List α->α->Prop} (aG:Iter P gf lb encs B (fun f=>Bb f\/f=w+1) Y Z T V X)
    (hIt:∀W,Ext w W->V W) (hD1:¬B w) (hD2:¬B (w+1)) (hB1:¬Bb w) (hB2:¬Bb (w+1))
    (I:List α->World->Prop) (D:Code->List α->World->Prop)
    (hI:∀l h n,I l h->Kp (fun f=>B f\/f=w+1) h n->I l n) (hIx:∀c l h n,D c l h->Kp (fun f=>B f\/f=w+1) h n->D c l n) (h0:I [] w) (hIB:∀l h,I l h->T l)
    (O:List α->α->World->Act->World->Prop)
    (hassign:∀(d:List α) (x:α) (W:World) (K:Act->World->Prop),X d x->I d W->w.heap.size+1<(W:Nat)->(∀p j,O d x W p j->K p j)→
     assign.wpIn (Fence.wide.inRound (w+1)) 8 P (Exit.then K (fun _ _ _=>False)) {tmps:=(F.zip (encs x)).foldl (fun M (aH,ai)=>M.setIfInBounds aH ai) a.tmps,defers:=[]} W)
    (hAx:∀d x W p j,O d x W p j->Kp Bb W j)
    (hbody:∀(d:List α) (x:α) (W:World) (p:Act) (j G:World),O d x W p j->Kp (·=w+1) j G->G.heap.size=j→
     body.wpIn (Fence.wide.inRound (w+1)) 8 P (roundEnd Bb I D (d++[x]) G) p G)
    (hdone:∀(xs:List α) (W:World),Y xs->I xs W->W.heap[w.heap.size]?=some (.deferred (some []))->Q .normal {a with defers:={target:=.collected w,args:=#[]}::a.defers} W)
    (hstop:∀(c:Code) (d:List α) (W:World),Z d->D c d W->W.heap[w.heap.size]?=some (.deferred (some []))->c.wpIn Fence.wide 10 P Q {a with defers:={target:=.collected w,args:=#[]}::a.defers} W):
    (Code.rangeFunc g F assign body).wpIn Fence.wide 10 P Q a w:=by
 refine wpIn_rangeFunc ?_;intro fn ax;show∃aK mark w₁ aI aL aJ args w₂,(Instr.enterLoop fn a.tmps F assign body none).run P w=_/\_
 obtain⟨i,r⟩:∃i:LoopState->Option Code->Loop,i=fun st pe=>{state:=st,pending:=pe,fn,tmps:=a.tmps,params:=F,assign,body,defers:=w.heap.size}:=⟨_,rfl⟩;obtain⟨o,J⟩:∃o,(w.alloc (.deferred (some []))).alloc (.loop (i .ready none))=o:=⟨_,rfl⟩;have au:o.heap[w.heap.size+1]?=some (.loop (i .ready none)):=by
  rw[<-J];have:=World.alloc_heap_new (w.alloc (.deferred (some []))) (.loop (i .ready none));rwa[Tp]at this
 have ak:o.heap[w.heap.size]?=some (.deferred (some [])):=by
  rw[<-J];exact(Wo _ _ _ Zl).trans (World.alloc_heap_new w _)
 have ae:Ext w o:=by rw[<-J];exact(jw _).alloc _
 have aj:=hI _ _ _ h0 ae.any;have s:∀{U:Nat->Prop} {h n:World} {t:Obj} {f:Nat},Kp U h n->¬U f->h.heap[f]?=some t->n.heap[f]?=some t:=fun b R ho=>
  (b.block _ (Tg.1 ho).1 R).trans ho
 refine⟨w+1,[{target:=.collected w,args:=#[]}],o,{target:=.fn (.func gf) lb,args:=#[.func (.yield (w+1)) #[] #[]]},o,gf,
  #[.func (.yield (w+1)) #[] #[]]++lb,o,?_,?_,?_,?_,fun b=>by simp[Fence.wide]at b,?_⟩
 . rw[<-J,r];exact run_enterLoop_outer _ _ _ _ _
 . simp only[resolve,hg];simp[go_sem]
 . intro f' _;trivial
 . simp[invoke,go_sem,eg]
 . refine(aG (w+1)
    (fun d W=>I d W/\W.heap[w.heap.size+1]?=some (.loop (i .ready none))/\W.heap[w.heap.size]?=some (.deferred (some [])))
    (fun d W=>∃c,D c d W/\W.heap[w.heap.size+1]?=some (.loop (i .done (some c)))/\W.heap[w.heap.size]?=some (.deferred (some [])))
    o (hIt _ ae)
    (fun l h n A m=>⟨hI l h n A.1 (m.weak fun _ _ b=>.inl b),s m hD2 A.2.1,s m hD1 A.2.2⟩)
    (fun l h n A m=>by
     obtain⟨c,hc,q,R⟩:=A;exact⟨c,hIx c l h n hc (m.weak fun _ _ b=>.inl b),s m hD2 q,s m hD1 R⟩)
    (fun l h A=>hIB l h A.1) ?_ ⟨aj,au,ak⟩).mono ?_
   . rintro d x W aD ⟨E,q,m⟩;have aB:=(Tg.1 q).1;have hy:=run_yield (P:=P) (args:=encs x) q (by rw[r];exact aF x);rw[r]at hy;refine⟨fn,_,assign,body,hy,roundIn_of_wpIn ax (hassign d x W _ aD E aB ?_)⟩;intro p j af;have S:=hAx _ _ _ _ _ af;have ag:=s S hB2 q;have ay:=s S hB1 m;refine⟨_,run_beginRound ag (by rw[r]),?_⟩;have aC:=(Tg.1 ag).1;have aA:(j.putObj (w+1) (.loop {i .ready none with state:=.busy})).heap[w.heap.size+1]?=some (.loop {i .ready none with state:=.busy}):=World.putObj_heap_same aC;have az:(j.putObj (w+1) (.loop {i .ready none with state:=.busy})).heap[w.heap.size]?=some (.deferred (some [])):=(World.putObj_heap_other Zm).trans ay;refine wpIn_mono (hbody d x W p j _ af (Kp.putObj _ _ _) Zl) ?_;have L:∀(e:World),Kp Bb (j.putObj (w+1) (.loop {i .ready none with state:=.busy})) e->∀t,Kp (fun f=>Bb f\/f=w+1) W (e.putObj (w+1) t):=fun e h3 t=>
      (((S.weak fun _ _ b=>.inl b).trans ((Kp.putObj _ _ _).weak fun _ _ b=>.inr b)).trans (h3.weak fun _ _ b=>.inl b)).trans ((Kp.putObj _ _ _).weak fun _ _ b=>.inr b)
     have H:∀(jump:Option Code) (e:World),Kp Bb (j.putObj (w+1) (.loop {i .ready none with state:=.busy})) e→
         (Instr.endRound (w+1) jump).run P e=.ok (.bool jump.isNone) (e.putObj (w+1) (.loop (i (if jump.isNone then .ready else .done) jump)))/\
         (e.putObj (w+1) (.loop (i (if jump.isNone then .ready else .done) jump))).heap[w.heap.size+1]?=some (.loop (i (if jump.isNone then .ready else .done) jump))/\
         (e.putObj (w+1) (.loop (i (if jump.isNone then .ready else .done) jump))).heap[w.heap.size]?=some (.deferred (some [])):=fun jump e k=>by
      have ah:=s k hB2 aA;have:=run_endRound (P:=P) jump ah;rw[r]at this |-;exact⟨this,World.putObj_heap_same (Tg.1 ah).1,(World.putObj_heap_other Zm).trans (s k hB1 az)⟩
     have N:∀(e:World) (t:Obj),Kp (fun f=>B f\/f=w+1) e (e.putObj (w+1) t):=fun e t=>(Kp.putObj _ _ _).weak fun _ _ b=>.inr b;rintro aa a3 e C;cases aa with
     |normal=>
      obtain⟨k,u⟩:=C;obtain⟨z,y,v⟩:=H none e k;exact⟨_,_,z,L _ k _,.inl ⟨rfl,hI _ _ _ u (N _ _),y,v⟩⟩
     |ret=>
      obtain⟨k,u⟩:=C;obtain⟨z,y,v⟩:=H (some .ret) e k;exact⟨_,_,z,L _ k _,.inr ⟨rfl,.ret,hIx _ _ _ _ u (N _ _),y,v⟩⟩
     |exit id=>
      obtain⟨k,u⟩:=C;obtain⟨z,y,v⟩:=H (some (.exit id)) e k;exact⟨_,_,z,L _ k _,.inr ⟨rfl,.exit id,hIx _ _ _ _ u (N _ _),y,v⟩⟩
     |goto M=>
      obtain⟨k,u⟩:=C;obtain⟨z,y,v⟩:=H (some (.goto M)) e k;exact⟨_,_,z,L _ k _,.inr ⟨rfl,.goto M,hIx _ _ _ _ u (N _ _),y,v⟩⟩
     |panic ch=>exact C.elim
     |outgrown=>exact C.elim
   . rintro aa W2 ⟨⟨ai,rfl⟩,(⟨xs,hS,E,q,m⟩|⟨d,av,c,E,q,m⟩)⟩
     . exact⟨none,_,by have:=run_endLoop (P:=P) q (by rw[r];simp);rw[r]at this;exact this,
        hdone xs _ hS (hI _ _ _ E ((Kp.putObj _ _ _).weak fun _ _ b=>.inr b)) ((World.putObj_heap_other Zm).trans m)⟩
     . exact⟨some c,_,by have:=run_endLoop (P:=P) q (by rw[r];simp);rw[r]at this;exact this,
        hstop c d _ av (hIx _ _ _ _ E ((Kp.putObj _ _ _).weak fun _ _ b=>.inr b)) ((World.putObj_heap_other Zm).trans m)⟩
theorem Cu(w:World)(k a:Nat){e:TypeId}{cs:Array Value}(vs:Value)(n:Nat)(d:hZ w k e cs)(h0:cs[a]?=some vs)(h:∃b c,vs=.slice b n c)(c:Nat)(l:n<c)(m:c<=1000):Calls prog 166 #[some (k,a),.int .i64 c] w fun g i=>g=.returned (.tuple #[(),.bool false])/\w=i:=by
 obtain⟨b,j,rfl⟩:=h;have f:=d.c a _ h0;have q:=jc f;have o:(n:Int) - c<0:=Zm
 have p:IntKind.i64.wrap ((n:Int) - c)=(n:Int) - c:=TK _ Zm;clear d h0;go_enter func166,ntmps166;go_wp2;go_ret2;exact⟨rfl,rfl⟩
theorem o9(w:World)(k b C:Nat)(v:TypeId)(cs:Array Value)(vs:Value)(n:Nat)(xs:List Val)(g:hZ w k v cs)(h0:cs[b]?=some vs)(j:w.ownsRow C 37 2 vs n (xs.flatMap jY))(hl:xs.length=n)(c:Nat) (V:c<=n) (W:0<c) (hn:n<=1000) (z:vs.ownBlock≠some k):Calls prog 166 #[some (k,b),c] w fun e r=>∃q,e=.returned (.tuple #[q,.bool true])/\r.ownsRow w 37 2 q c ((xs.drop (n - c)).flatMap jY)/\(∃x d,vs=.slice x n d/\hZ r k v (cs.setIfInBounds b (.slice x (n - c) d)))/\Kp (·=k) w r:=by
 obtain⟨T,m,rfl,Y,Z,X⟩:=jT j Zm;obtain⟨a,K⟩:∃a,n=a+c:=⟨n - c,Zm⟩;have B:n - c=a:=Zm
 have l:=g.c b _ h0;have J:=g.frozen b;have L:=jc l;have hw:IntKind.i64.wrap ((n:Int) - c)=(a:Int):=by rw[TK _ Zm];omega
 have ah:(n:Int) - c=(a:Int):=Zm
 have aa:(0:Int)<=(a:Int):=Zm
 have ae:(a:Int)<=n:=Zm
 have af:(n:Int)<=m:=Zm
 have ag:¬m=a:=Zm
 have o:=Eh j (oN wQ xs) (i:=a) (m - a);have A:n - a=c:=Zm
 have t:=Zy A;have y:(xs.flatMap jY).drop (a*2)=(xs.drop a).flatMap jY:=by
  rw[<-V9 a xs,Uz,List.drop_left' (by rw[ou (k:=2) (fun _=>rfl)];simp;omega)];simp
 rw[y]at o;have⟨F,u,s,Q,P⟩:=ni o B g j z;clear o y B g j z h0 K A;go_enter func166,ntmps166;go_wp2_with fail;refine(uq F Zm).mono ?_;rintro e O ⟨⟨q,rfl,p⟩,i⟩;obtain⟨H,d,rfl⟩:=jA p;have G:=Zy p;have h:=s.ext i;have R:=i.je l;have S:=h.frozen b;have z1:=h.lt;have⟨D,E⟩:=jf h i;clear i p h l J L;go_wp2;go_ret2;refine⟨_,rfl,?_,⟨_,_,rfl,by rw[u.o];exact D.jy _ _⟩,Kp.setCell (p:=⟨k,b,none⟩) (D:=(·=k)) E.any (fun _=>rfl) _⟩;have f:O.ownsRow w 37 2 (.slice H (n - a) d) c ((xs.drop (n - c)).flatMap jY):=by
  have f:=G.o;rw[t.o]at f;rw[t.o,u.o];exact f
 refine jb (D:=(·=k)) f (Kp.setCell (p:=⟨k,b,none⟩) (D:=(·=k)) Kp.rr (fun _=>rfl) _) (fun N hq U e=>?_);have I:N=k:=e;subst I;have:=s.lt;omega
theorem Ol(w:World)(k d:Nat){h:TypeId}{cs:Array Value}(vs:Value)(a:hZ w k h cs)(h0:cs[d]?=some vs)(c:∃i j,vs=.slice i 0 j):Calls prog 164 #[some (k,d)] w fun b l=>b=.returned (.tuple #[.agg #[Tc,Tc],.bool false])/\Ext w l:=by
 have⟨f,e,g⟩:=jB a h0 c;have m:=a.lt;clear a h0 c;go_enter func164,ntmps164;go_wp2_with fail;refine(Cu _ _ _ _ 0 (f.ext kx) e g 1 Zm Zm).mono ?_;rintro b n ⟨rfl,rfl⟩;go_wp2;refine Cv (v:=.tuple #[.agg #[Tc,Tc],.bool false]) (by simp[results,results164,go_sem]) rfl ?_;exact⟨rfl,kx⟩
theorem Om(w:World)(k d j:Nat){l:TypeId}{cs:Array Value}(vs:Value)(n:Nat)(xs:List Val)(x:Val)(f:hZ w k l cs)(h0:cs[d]?=some vs)(v:w.ownsRow j 37 2 vs (n+1) ((xs++[x]).flatMap jY))(hl:xs.length=n)(J:n+1<=1000) (s:vs.ownBlock≠some k):Calls prog 164 #[some (k,d)] w fun o y=>o=.returned (.tuple #[.agg #[x.kind,x.n],.bool true])/\(∃b c,vs=.slice b (n+1) c/\hZ y k l (cs.setIfInBounds d (.slice b n c)))/\Kp (·=k) w y:=by
 have⟨A,z,H,G⟩:=jU f h0 v s;have u:=f.lt;have r:(xs++[x]).drop (n+1 - 1)=[x]:=by rw[V7,<-hl,List.drop_left]
 have⟨C,F⟩:=jf r hl;have m:=hZ.new w 37 #[Tc,Tc];clear f h0 v s r hl;go_enter func164,ntmps164;go_wp2_with fail;refine(o9 _ k d j _ _ _ (n+1) (xs++[x]) (A.ext kx) z (jb (D:=fun _=>False) H kx fun _ _ _ x=>x) (by have:=F.o;simp;omega) 1 Zm Zm J G.o).mono ?_;rintro o i ⟨T,rfl,a,⟨b,c,rfl,p⟩,h⟩;rw[C.o]at a;obtain⟨g,N,rfl,P,Q,O⟩:=jT a Zm;have q0:=a.cells (g:=g) rfl 0 x.kind rfl;have q1:=a.cells (g:=g) rfl 1 x.n rfl;simp only[Addr.add_lit,Tm]at q0 q1;have e:=m.kp h Zm;obtain⟨-,K,L,-⟩:=e.ca;obtain⟨u0,u1,-⟩:=e.fz;have⟨B,E,I⟩:=jB p h u;clear a p h m e u;go_wp2;have t:∀D:Nat->Prop,D w.heap.size->Kp D i ((i.setCell w x.kind).setCell (w,1) x.n):=fun D q=>((Kp.refl D i).setCell (p:=⟨w,0,none⟩) (fun _=>q) _).setCell (p:=⟨w,1,none⟩) (fun _=>q) _;refine Cv (v:=.tuple #[.agg #[x.kind,x.n],.bool true]) (by simp[results,results164,go_sem,K,L]) rfl ?_;refine⟨rfl,⟨b,c,rfl,?_⟩,?_⟩
 . exact B.kp (t (·=w) rfl) (SX I.o)
 . exact(((jw _:Ext w _).any).trans E).own (t (·=w) rfl) (fun S R=>Zm)
def AP(ops:Array Oper):Bool:=ops.all fun o=>match o.op with| .defer _=>false|_=>true
theorem GM{b:Array Oper}(d:AP b=true)(j:Nat)(a:Oper)(f:b[j]?=some a)(c:Call):a.op≠ .defer c:=by
 intro e;have:=VP.1 d a (Array.mem_of_getElem? f);simp[e]at this
section
variable {F:Fence} {m:Nat} {P:Program} {ops:Array Oper} {md:Region.Mode} {Q:Exit->Act->World->Prop} {C:World->Prop} {n:Nat}
theorem mR.wpOpIn(hF:∀b,F.fn b){i:Nat}{c:Oper}{v:Value}{a:Act}(k:∀g,c.op≠ .defer g)(j:ops[i]?=some c)(n:mR P ops C c v a){K:Act->World->Prop}{w:World}(h:C w)(e:K (a.put c.dst v) w):wpOpIn F m P ops Q i K a w:=by
 unfold Go.wpOpIn;simp only[j];rcases n with⟨f,l⟩|⟨f,rfl⟩
 . simp only[f,U2];refine⟨fun b _=>hF b,?_⟩;rw[Oper.semAt_eq _ _ _ k];rcases l w h with d|⟨d,rfl⟩
   . rw[d];exact e
   . rw[d];exact e
 . simp only[f,Vn,TA];exact⟨fun b _=>hF b,e⟩
theorem Jn(hF:∀i,F.fn i){j:Nat}{c f:Oper}{v:Value}(D:∀n,f.op≠ .defer n)(I:ops[j]?=some f)(H:c.apart ops f=true)(E:∀s q,c.op≠ .select s q) (J:∀s q,f.op≠ .select s q)(x:∀n a w,Q (.panic n) (a.put c.dst v) w->Q (.panic n) a w) {K:Act->World->Prop} {a:Act} {w:World}(h:mR P ops C c v a) (b:wpOpIn F m P ops Q j K (a.put c.dst v) w):wpOpIn F m P ops Q j (fun B z=>mR P ops C c v B/\K (B.put c.dst v) z) a w:=by
 obtain⟨u,k,p⟩:=Oper.apart_spec H;have o:∀(a:Act),mR P ops C c v a->∀e,mR P ops C c v (a.put f.dst e):=fun a h e=>
  h.of_same (Ww c E a f.dst e p) (Wj c a f.dst e p)
 unfold wpOpIn at*;simp only[I]at*;rw[Wj f a c.dst v u,about_put f w a c.dst v u]at b;split
 . rename_i y;simp only[y,U2]at b;unfold Oper.wpIn at*;refine⟨fun i _=>hF i,?_⟩;have b:=b.2;rw[Oper.semAt_eq _ _ _ D,Ww f J a c.dst v u]at b;rw[Oper.semAt_eq _ _ _ D];generalize (execOp a.eval f).run P w=r at*;cases r with
   | ok A z =>
    cases A<;>simp only[Oper.uponIn]at b |-
    case value e=>exact⟨o a h e,by rw[<-UR a v e k];exact b⟩
    case skip=>exact⟨o a h _,by rw[<-UR a v undef k];exact b⟩
    case defer d=>
     refine⟨(h.of_same rfl rfl:mR P ops C c v {a with defers:=d::a.defers}).of_same (Ww c E _ f.dst undef p) (Wj c _ f.dst undef p),?_⟩;rw[<-UR _ v undef k,<-Act.put_defers];exact b
    case enter i args=>
     refine⟨b.1,CallsIn.mono b.2 fun t G g=>?_⟩;cases t with
     |returned e=>exact⟨o a h e,by rw[<-UR a v e k];exact g⟩
     |panicked n=>exact x _ _ _ g
     |outgrown=>exact g
    case row row args=>exact⟨b.1,RowsIn.mono b.2 fun e G g=>⟨o a h e,by rw[<-UR a v e k];exact g⟩⟩
    case round l i tmps assign body=>
     refine⟨b.1,RoundIn.mono b.2 fun t G g=>?_⟩;cases t with
     |returned e=>exact⟨o a h e,by rw[<-UR a v e k];exact g⟩
     |panicked n=>exact x _ _ _ g
     |outgrown=>exact g
   |halt A z=>
    cases A<;>simp only[Oper.uponIn]at b |-
    case panic e=>exact x _ _ _ b
 . rename_i y;simp only[y]at b;exact⟨fun i _=>hF i,o a h _,by rw[<-UR a v undef k];exact b.2⟩
def uh(F:Fence)(m:Nat)(P:Program)(md:Region.Mode)(ops:Array Oper)(n:Nat)(C:World->Prop)(Q:Exit->Act->World->Prop):Nat->Array Bool->Act->World->Prop
 |0,listed,a,w=>Region.ready md ops listed=[]/\Q .normal a w
 |fuel+1,listed,a,w=>
  (Region.ready md ops listed=[]->Q .normal a w)/\
  ∀i∈Region.ready md ops listed,wpOpIn F m P ops Q i (fun a' w'=>(i<n->C w')/\uh F m P md ops n C Q fuel (listed.setIfInBounds i true) a' w') a w
theorem Bf:∀(fuel:Nat) (listed:Array Bool) (a:Act) (w:World),uh F m P md ops n C Q fuel listed a w->wpAnyIn F m P md ops Q fuel listed a w
 |0,_,_,_,h=>h
 |fuel+1,_,_,_,h=>⟨h.1,fun e d=>wpOpIn_mono (fun b f c=>Bf fuel _ b f c.2) (h.2 e d)⟩
theorem Fx (hF : ∀ X, F.fn X) (J : ∀ (j : Nat) (u : Oper), ops[j]? = some u -> ∀ y, u.op ≠ .defer y) {i : Nat} {g : Oper} {v : Value} (t : ops[i]? = some g) (U : ∀ (j : Nat) (u : Oper) q p, ops[j]? = some u -> u.op ≠ .select q p)(Z:∀y a w,Q (.panic y) (a.put g.dst v) w->Q (.panic y) a w) (ah:∀j,n<=j->Region.waitsFor md ops j i=true\/ops[j]?=none):∀(r:Nat) (listed:Array Bool) (a:Act) (w:World),(∀j h,ops[j]?=some h->j≠i->listed.getD j true=false->(∀b∈h.after,Region.binds md b=true->b.on≠i)->g.apart ops h=true)→ i∈Region.ready md ops listed->mR P ops C g v a->C w->i<n→ uh F m P md ops n C Q r (listed.setIfInBounds i true) (a.put g.dst v) w->uh F m P md ops n C Q (r+1) listed a w:=by
 intro r;induction r with
 |zero=>
  intro listed a w _ f D s M o;refine⟨fun d=>(by rw[d]at f;cases f),fun j A=>?_⟩;by_cases c:j=i
  . subst c;exact D.wpOpIn hF (J _ _ t) t s ⟨fun _=>s,o⟩
  . have:=Wv A c;rw[o.1]at this;cases this
 | succ r ih =>
  intro listed a w L f D s M o;refine⟨fun d=>(by rw[d]at f;cases f),fun j A=>?_⟩;by_cases c:j=i
  . subst c;exact D.wpOpIn hF (J _ _ t) t s ⟨fun _=>s,o⟩
  . have e:=o.2 j (Wv A c);obtain⟨R,h,k,aa⟩:=VU.1 A;have S:∀b∈h.after,Region.binds md b=true->b.on≠i:=fun b H G I=>by
     have e:=aa b H G;have K:=(VU.1 f).1;rw[I]at e;rcases Uc i listed.size with E|E
     . simp[E]at K e;rw[K]at e;cases e
     . simp[Ub E]at e
    have O:j<n:=by
     rcases Uc j n with d|d
     . exact d
     . rcases ah j d with B|B
       . obtain⟨ai,T,b,H,G,I⟩:=Region.waitsFor_spec B;rw[k]at T;cases T;exact absurd I (S b H G)
       . rw[k]at B;cases B
    have Y:=Jn hF (J _ _ k) k (L j h k c R S) (fun q p=>U i g q p t) (fun q p=>U j h q p k) Z D e;have ae:∀l x,ops[l]?=some x->l≠i->(listed.setIfInBounds j true).getD l true=false→
        (∀b∈x.after,Region.binds md b=true->b.on≠i)->g.apart ops x=true:=fun l x hk af V ag=>by
     refine L l x hk af ?_ ag;by_cases N:j=l
     . subst N;exact R
     . rw[getD_set_ne true N]at V;exact V
    refine wpOpIn_mono (fun W w' z=>⟨fun _=>z.2.1 O,ih (listed.setIfInBounds j true) W w' ae (Wv f (Ne.symm c)) z.1 (z.2.1 O) M ?_⟩) Y;rw[Vt _ _ c];exact z.2.2
def rZ(F:Fence)(m:Nat)(P:Program)(l:List Oper)(C:World->Prop)(Q:Exit->Act->World->Prop)(fin:Act->World->Prop):List (List Nat×Nat)->List Nat->Act->World->Prop
 |[],q,a,w=>wpQuiet P l.toArray C (fun a'=>fin a' w) (q.filterMap (l[·]?)) a
 |(q,i)::r,q',a,w=>wpQuiet P l.toArray C (fun a'=>wpListIn F m P l.toArray (Exit.then (fun a'' w'=>C w'/\rZ F m P l C Q fin r q' a'' w') Q) (l[i]?).toList a' w) (q.filterMap (l[·]?)) a
theorem wS(hF:∀A,F.fn A){l:List Oper}(s:AP l.toArray=true)(u:Region.noSelect l.toArray=true)(v:zH md l.toArray n=true)(p:∀b a z y w,Q (.panic b) (a.put z y) w->Q (.panic b) a w){K:Act->Prop}{w:World}(k:C w)(e:Nat)(d:Array Bool)
    (o:∀f,K f->uh F m P md l.toArray n C Q e d f w):∀(q:List Nat) (listed:Array Bool) (a:Act),MJ md l.toArray n q listed=some d→
    wpQuiet P l.toArray C K (q.filterMap (l[·]?)) a->uh F m P md l.toArray n C Q (e+q.length) listed a w
 |[],listed,a,ho,h=>by
  simp only[MJ,TT]at ho;subst ho;exact o a h
 | i :: q, listed, a, ho, h => by
  unfold MJ at ho;split at ho
  . rename_i r;simp only[Ty,Tq]at r;obtain⟨⟨⟨g,B⟩,D⟩,j⟩:=r;cases c:l[i]? with
    |none=>simp[c]at j
    |some x=>
     have t:l.toArray[i]?=some x:=by simpa using c
     have G:BL x=true:=by simpa [c]using j
     rw[List.filterMap_cons,c]at h;simp only[wpQuiet]at h;obtain⟨y,H,E⟩:=wB G h;have:=wS hF s u v p k e d o q _ _ ho E;exact Fx hF (GM s) t (Region.noSelect_spec u) (fun b a w=>p b a _ _ w) (BQ v g) _ _ _ _ (Region.free_spec t D) (by simpa using B) H k g this
  . cases ho
theorem CB:∀(t:List Oper) (k:Nat) (listed:Array Bool) (a:Act) (w:World),n<=k->(∀b,t[b]?=l[k+b]?)→
    Region.seqB md l.toArray t.length k listed=true->wpListIn F m P l.toArray Q t a w->uh F m P md l.toArray n C Q t.length listed a w
 |[],_,_,_,_,_,_,hB,h=>⟨by simpa [Region.seqB]using hB,h⟩
 |o::t,k,listed,a,w,hk,hl,hB,h=>by
  have i:l.toArray[k]?=some o:=by simpa using(hl 0).symm
  simp only[TE,Region.seqB,Ty,Tq]at hB;refine⟨fun d=>(by rw[hB.1]at d;cases d),fun c e=>?_⟩;rw[hB.1]at e;have j:c=k:=by simpa using e
  subst j;have q:wpOpIn F m P l.toArray Q c (wpListIn F m P l.toArray Q t) a w:=by unfold wpOpIn;simp only[i];exact h
  exact wpOpIn_mono (fun f r g=>⟨fun p=>absurd p (Wu.2 hk),CB t (c+1) _ f r Zm (fun b=>by have:=hl (b+1);simpa [Ue,Vf 1 b]using this) hB.2 g⟩) q
theorem OV{g:Oper}(b:g.wpIn F m P a w next (Exit.then K Q)):g.wpIn F m P a w next Q:=by
 unfold Oper.wpIn at*;refine⟨b.1,?_⟩;replace b:=b.2;generalize (g.semAt F.round a.eval).run P w=r at*;cases r with
 | ok n j =>
  cases n<;>simp only[Oper.uponIn]at b |-
  case value h=>exact b
  case skip=>exact b
  case defer d=>exact b
  case enter f args=>
   refine⟨b.1,CallsIn.mono b.2 fun e k c=>?_⟩;cases e with
   |returned h=>exact c
   |panicked i=>exact c
   |outgrown=>exact c
  case row row args=>exact b
  case round l f tmps assign body=>
   refine⟨b.1,RoundIn.mono b.2 fun e k c=>?_⟩;cases e with
   |returned h=>exact c
   |panicked i=>exact c
   |outgrown=>exact c
 |halt o j=>
  cases o<;>simp only[Oper.uponIn]at b |-
  case panic h=>exact b
theorem Eb(hF:∀o,F.fn o){l:List Oper}(u:AP l.toArray=true)(y:Region.noSelect l.toArray=true)(z:zH md l.toArray n=true)(t:∀D a I R w,Q (.panic D) (a.put I R) w->Q (.panic D) a w)(M:n<=l.length):∀(B:List (List Nat×Nat)) (d:List Nat) (listed:Array Bool) (a:Act) (w:World),C w→
    Iu md l.toArray n B d listed=true->rZ F m P l C Q (fun j c=>wpListIn F m P l.toArray Q (l.drop n) j c) B d a w->uh F m P md l.toArray n C Q ((l.length - n)+costs B d) listed a w
 |[],d,listed,a,w,hC,b,h=>by
  unfold Iu at b;split at b
  . rename_i g s;refine wS hF u y z t hC _ g (fun j e=>?_) d listed a s h;have:=CB (F:=F) (m:=m) (md:=md) (C:=C) (l:=l) (l.drop n) n g j w (T9 _) (fun f=>by simp[UD]) (by simpa using b) e;simpa using this
  . cases b
 | (q, i) :: r, d, listed, a, w, hC, b, h => by
  unfold Iu at b;split at b
  . rename_i g s;simp only[Ty,Tq]at b;obtain⟨⟨x,S⟩,b⟩:=b;have J:l.length - n+costs ((q,i)::r) d=((l.length - n+costs r d)+1)+q.length:=by simp[costs];omega
    rw[J];refine wS hF u y z t hC _ g (fun j e=>?_) q listed a s h;refine⟨fun E=>(by rw[x]at E;cases E),fun f G=>?_⟩;rw[x]at G;have L:f=i:=by simpa using G
    subst L;cases v:l[f]? with
    |none=>
     exfalso;have:f∈Region.ready md l.toArray g:=by rw[x];simp
     obtain⟨_,H,N,_⟩:=VU.1 this;simp[v]at N
    | some H =>
     rw[v]at e;simp only[Option.toList,wpListIn]at e;unfold wpOpIn;have O:l.toArray[f]?=some H:=by simpa using v
     simp only[O];have step:∀k c,C c/\rZ F m P l C Q (fun j c=>wpListIn F m P l.toArray Q (l.drop n) j c) r d k c->(f<n->C c)/\uh F m P md l.toArray n C Q (l.length - n+costs r d) (g.setIfInBounds f true) k c:=
      fun k c p=>⟨fun _=>p.1,Eb hF u y z t M r d _ k c p.1 b p.2⟩
     split
     . rename_i A;rw[Tv A]at e;exact Oper.wpIn_mono (fun k c K=>step k c K) (OV e)
     . rename_i A;rw[Tt A]at e;exact⟨fun o _=>hF o,step _ _ e.2⟩
  . cases b
end
theorem Km{e:List Oper}(f:q.filterMap (l[·]?)=e)(b:∀K:Act->Prop,(∀c,d c w->K c)->wpQuiet P l.toArray C K e a):rZ F m P l C Q d [] q a w:=by
 subst f;exact b _ fun _ b=>b
theorem Jm{r:List (List Nat×Nat)}{g:List Nat}{h f:List Oper}(p:q.filterMap (l[·]?)=h)(s:(l[i]?).toList=f)(j:∀K:Act->Prop,(∀b,(∀K2:Act->World->Prop,(∀d c,C c->rZ F m P l C Q e r g d c->K2 d c)->wpListIn F m P l.toArray (Exit.then K2 Q) f b w)->K b)->wpQuiet P l.toArray C K h a):rZ F m P l C Q e ((q,i)::r) g a w:=by
 subst p s;refine j _ fun b k=>?_;exact k _ fun _ _ n o=>⟨n,o⟩
theorem IX{i:Type}(f:i->World)(n:Nat)(d:List (List Nat×Nat))(q:List Nat)(h0:∃b,w.drew=f b)(hF:∀f,F.fn f)(x:AP l.toArray=true)(v:P.follows .mixedOrders=true)(e:Dv l.toArray n d q=true)(u:∀g a k y w,Q (.panic g) (a.put k y) w->Q (.panic g) a w)(p:rZ F m P l (fun c=>∃b,c=f b) Q (fun j c=>wpListIn F m P l.toArray Q (l.drop n) j c) d q a w.drew):(Code.region id l.toArray true).wpIn F m P Q a w:=by
 unfold Dv at e;simp only[Ty,Tq]at e;obtain⟨⟨⟨⟨r,s⟩,z⟩,h⟩,t⟩:=e;refine wpIn_region_any v (Bf (C:=fun c=>∃b,c=f b) (n:=n) _ _ _ _ ?_);have:=Eb hF x (C:=fun c=>∃b,c=f b) (md:=.any) r s u (by simpa using h) d q _ a w.drew h0 t p;have o:l.length - n+costs d q=l.toArray.size:=by
  have:n<=l.length:=by simpa using h
  simp;omega
 rw[o]at this;exact this
section
variable {F:Fence} {m:Nat} {P:Program} {l:List Oper} {C:World->Prop} {Q:Exit->Act->World->Prop} {fin:Act->World->Prop} {q:List Nat} {i j:Nat} {q':List Nat} {r:List (List Nat×Nat)} {a:Act} {w:World} {o o2:Oper}
theorem NB(e:List Oper)(g:q.filterMap (l[·]?)=e)(h:(l[i]?).toList=[o])(f:∀K:Act->Prop,(∀c,(∀K2:Act->World->Prop,(∀d b,C b->rZ F m P l C Q fin r q' d b->K2 d b)->wpListIn F m P l.toArray (Exit.then K2 Q) [o] c w)->K c)->wpQuiet P l.toArray C K e a):rZ F m P l C Q fin ((q,i)::r) q' a w:=Jm g h f
theorem RX(f:(l[i]?).toList=[o])(d:∀K2:Act->World->Prop,(∀c b,C b->rZ F m P l C Q fin r q' c b->K2 c b)->wpListIn F m P l.toArray (Exit.then K2 Q) [o] a w):rZ F m P l C Q fin (([],i)::r) q' a w:=NB [] rfl f fun _ e=>qn e d
theorem Qo(c:List Oper)(e:q.filterMap (l[·]?)=c)(d:∀K:Act->Prop,(∀b,fin b w->K b)->wpQuiet P l.toArray C K c a):rZ F m P l C Q fin [] q a w:=Km e d
theorem NC(b:fin a w):rZ F m P l C Q fin [] [] a w:=Qo [] rfl fun _ c=>qn c b
end
theorem Ow{g:Type}{f:g->World}(i:Zz (qC C g f))(n:Nat)(d:List (List Nat×Nat))(q:List Nat)(h0:C w.drew)(hF:∀f,F.fn f)
    (c:rZ F m P l (fun e=>∃s,e=f s) Q (fun j e=>wpListIn F m P l.toArray Q (l.drop n) j e) d q a w.drew) (r:AP l.toArray=true:=by kernel_rfl) (p:P.follows .mixedOrders=true:=by kernel_rfl) (k:Dv l.toArray n d q=true:=by kernel_rfl)
    (o:∀h a b t w,Q (.panic h) (a.put b t) w->Q (.panic h) a w:=by exact fun _ _ b _ _ c=>by cases b<;>exact c):(Code.region id l.toArray true).wpIn F m P Q a w:=IX f n d q (i.o.o _ h0) hF r p k o c
end Go.Proofs.YtlhgbjbkjalfjaaGreat
namespace Go
variable {F:Fence} {n:Nat} {P:Program}
def J3(P:Program)(l:Nat)(R:Ending->World->Prop):Exit->Act->World->Prop
 | .panic chain,a,w=>a.defers=[]/\R (.panicked chain) w
 |e,a,w=>roundPost P l R e a w
theorem BN{l:Nat}{f:FuncId}{tmps:Array Value}{x c:Code}{w:World}{R:Ending->World->Prop}(hF:F.fn f)(M:∃fn,P.funcs[f]?=some fn)
    (H:x.wpIn (F.inRound l) n P (Exit.then (fun p A=>∃y,(Instr.beginRound l).run P A=.ok () y/\c.wpIn (F.inRound l) n P (J3 P l R) p y) (fun _ _ _=>False))
     {tmps:=tmps,defers:=[]} w):
    RoundIn F n P l f tmps x c w R:=by
 refine⟨hF,fun r s N=>?_⟩;let a:Frame:={(default:Frame)with fn:=f,kind:=.normal,roundOf:=some l}
 have I:Frame.round l f tmps x c .normal=a.atR {tmps:=tmps,defers:=[]} [.code x,.beginRound,.code c]:=by
  simp[Frame.round,Frame.atR,a]
 have e:(F.inRound l).room ((r::s).length+1+n):=N;have d:(F.inRound l).fn a.fn:=hF;obtain⟨E,p,A,m,k⟩:=H a [.beginRound,.code c] (r::s) rfl d e;rw[<-I]at k;cases E with
 | normal =>
  obtain⟨y,K,J⟩:=m;have v:StepsIn (Machine.fenced P (F.inRound l)) P (lone (a.atR p [.beginRound,.code c]) (r::s) A) (lone (a.atR p [.code c]) (r::s) y):=
   .one (fenced_calm (fr:=a.atR p [.beginRound,.code c]) d e rfl) (stepR_beginRound rfl K)
  obtain⟨G,q,D,o,t⟩:=J a [] (r::s) rfl d e;cases G with
  |normal=>
   obtain⟨i,j,g,b⟩:=o;exact⟨.returned i,j,b,(StepsIn.trans k v).trans (StepsIn.trans t (.one (fenced_calm (fr:=a.atR q []) d e rfl) (stepR_round_end rfl rfl g)))⟩
  |ret=>
   obtain⟨i,j,g,b⟩:=o;obtain⟨u,h⟩:=t.2 rfl;exact⟨.returned i,j,b,(StepsIn.trans k v).trans (StepsIn.trans h (.one (fenced_calm (fr:=a.atR q (.code .ret::u)) d e rfl) (stepR_round_ret rfl rfl g)))⟩
  |exit id=>
   obtain⟨i,j,g,b⟩:=o;obtain⟨u,z,h⟩:=t.2 rfl rfl;exact⟨.returned i,j,b,(StepsIn.trans k v).trans (StepsIn.trans h (.one (fenced_calm (fr:=a.atR q (.code (.exit id)::u)) d e rfl) (stepR_round_exit rfl rfl z g)))⟩
  |goto C=>
   obtain⟨i,j,g,b⟩:=o;obtain⟨u,z,h⟩:=t.2 rfl rfl;exact⟨.returned i,j,b,(StepsIn.trans k v).trans (StepsIn.trans h (.one (fenced_calm (fr:=a.atR q (.code (.goto C)::u)) d e rfl) (stepR_round_goto rfl rfl z g)))⟩
  |panic chain=>
   obtain⟨L,b⟩:=o;obtain⟨O,h⟩:=t;have B:({a.atR q O with mode:=.panicking chain}:Frame).leaving P D (.panicked chain):=⟨rfl,L,M⟩;exact⟨.panicked chain,D,b,(StepsIn.trans k v).trans (StepsIn.trans h (.one (fenced_leaving (n:=n) d e B) (step_leave_panicked B)))⟩
  |outgrown=>exact o.elim
 |exit id=>exact m.elim
 |goto C=>exact m.elim
 |ret=>exact m.elim
 |panic chain=>exact m.elim
 |outgrown=>exact m.elim
def Code.yG(f:FuncId)(P:Program)(c:Code)(Q:Exit->Act->World->Prop)(a:Act)(w:World):Prop:=
 ∀(b:Frame) (k:List Item) (cs:List Frame),b.roundOf=none->b.fn=f->∃e a' w',Q e a' w'/\ArrivesIn (Machine.fenced P Fence.wide) P (lone (b.atR a (.code c::k)) cs w) b k cs e a' w'
theorem EM{f:FuncId}{c:Code}{Q:Exit->Act->World->Prop}{a:Act}{w:World}(e:c.wpIn Fence.wide n P Q a w):c.yG f P Q a w:=
 fun b h d g _=>e b h d g trivial (room_wide _)
theorem Jk{f:FuncId}{x y:Code}{Q:Exit->Act->World->Prop}{a:Act}{w:World}(o:x.yG f P (Exit.then (y.yG f P Q) Q) a w):(Code.seq x y).yG f P Q a w:=by
 intro b d c k i;have one:StepsIn (Machine.fenced P Fence.wide) P (lone (b.atR a (.code (.seq x y)::d)) c w) (lone (b.atR a (.code x:: .code y::d)) c w):=.one (fenced_wide _ _) stepR_seq;obtain⟨e,l,r,j,h⟩:=o b (.code y::d) c k i;by_cases g:e=.normal
 . subst g;obtain⟨n,m,s,q,p⟩:=j b d c k i;exact⟨n,m,s,q,.of_steps (one.trans h) p⟩
 . refine⟨e,l,r,?_,.of_steps one (.pass (x:=.code y) rfl (fun _ _=>.inl g) h)⟩;cases e<;>first|exact absurd rfl g|exact j
theorem CF{f:FuncId}{x y:Code}{Q:Exit->Act->World->Prop}{a:Act}{w:World}(b:x.wpIn Fence.wide n P (Exit.then (y.yG f P Q) Q) a w):(Code.seq x y).yG f P Q a w:=Jk (EM b)
theorem Fy{f:FuncId}{x y:Code}{Q:Exit->Act->World->Prop}{a:Act}{w:World}(b:∀K:Act->World->Prop,(∀a w,y.yG f P Q a w->K a w)->x.wpIn Fence.wide n P (Exit.then K Q) a w):(Code.seq x y).yG f P Q a w:=
 CF (b _ fun _ _ b=>b)
theorem Kl{f:FuncId}{id:Nat}{c:Code}{Q:Exit->Act->World->Prop}{a:Act}{w:World}(m:c.yG f P (fun g a w=>(∀b,g≠ .exit b)/\(∀b,g≠ .goto b)/\Q g a w) a w):(Code.block id c).yG f P Q a w:=by
 intro d h e r p;have one:StepsIn (Machine.fenced P Fence.wide) P (lone (d.atR a (.code (.block id c)::h)) e w) (lone (d.atR a (.code c:: .inBlock id::h)) e w):=.one (fenced_wide _ _) stepR_block;obtain⟨g,j,k,⟨n,o,q⟩,i⟩:=m d (.inBlock id::h) e r p;refine⟨g,j,k,q,?_⟩;cases g with
 |normal=>exact one.trans (StepsIn.trans i (.one (fenced_wide _ _) stepR_inBlock))
 |ret=>exact .of_steps one (show ArrivesIn _ P _ d h e .ret j k from⟨i.1,i.2⟩)
 |panic l=>exact .of_steps one (show ArrivesIn _ P _ d h e (.panic l) j k from i)
 |outgrown=>exact .of_steps one (show ArrivesIn _ P _ d h e .outgrown j k from i)
 |exit b=>exact absurd rfl (n b)
 |goto b=>exact absurd rfl (o b)
def Ma(R:Ending->World->Prop):Exit->Act->World->Prop
 | .panic c,a,w=>a.defers=[]/\R (.panicked c) w
 | .outgrown,_,w=>R .outgrown w
 |_,_,_=>False
theorem xm{f:FuncId}{fn:Func}{x y:Code}{R:Ending->World->Prop}{a:Act}{w:World}(c:∀K:Act->World->Prop,(∀a w,y.yG f P (bodyPostM Fence.wide n P fn R) a w->K a w)->x.wp P (Exit.then K (Ma R)) a w):(Code.seq x y).yG f P (bodyPostM Fence.wide n P fn R) a w:=by
 refine CF (n:=n) (wpIn_mono (wpIn_wide.2 (c _ fun _ _ c=>c)) ?_);intro d a w b;cases d with
 |normal=>exact b
 |panic h=>
  obtain⟨g,e⟩:=b;show LeavesInM _ _ _ _ _ _ a.defers _ _
  rw[g];exact e
 |outgrown=>exact b
 |ret=>exact b.elim
 |exit x=>exact b.elim
 |goto x=>exact b.elim
def Pm(ds:List Deferred)(R:Ending->World->Prop):Exit->Act->World->Prop
 | .normal,a,w=>a.defers=ds/\R (.returned (.tuple #[])) w
 | .panic c,a,w=>a.defers=ds/\R (.panicked c) w
 |_,_,_=>False
theorem OU{f:FuncId}{c:Code}{ds:List Deferred}{R:Ending->World->Prop}{Q:Exit->Act->World->Prop}{a:Act}{w:World}(e:c.wp P (Pm ds R) a w)(g:∀a w,a.defers=ds->R (.returned (.tuple #[])) w->Q .normal a w) (h:∀c a w,a.defers=ds->R (.panicked c) w->Q (.panic c) a w):c.yG f P Q a w:=by
 refine EM (n:=10) (wpIn_mono (wpIn_wide.2 e) ?_);intro d a w b;cases d with
 |normal=>exact g _ _ b.1 b.2
 |panic c=>exact h _ _ _ b.1 b.2
 |outgrown=>exact b.elim
 |ret=>exact b.elim
 |exit i=>exact b.elim
 |goto i=>exact b.elim
theorem xJ{f:FuncId}{fn:Func}{c:Code}{args:Array Value}{w:World}{R:Ending->World->Prop}
    (u:P.funcs[f]?=some fn) (E:fn.body=some c)
    (y:c.yG f P (bodyPostM Fence.wide n P fn R) {tmps:=args++Array.replicate (fn.ntmps - args.size) undef,defers:=[]} w):CallsIn Fence.wide n P f args w R:=by
 refine⟨trivial,fun g J=>?_⟩;obtain⟨e,m⟩:∃e:Frame,e={(default:Frame)with fn:=f,kind:=.normal,roundOf:=none}:=⟨_,rfl⟩;have k:e.fn=f:=by rw[m]
 have q:e.roundOf=none:=by rw[m]
 have o:e.kind=.normal:=by rw[m]
 have F:Frame.enter P f args .normal=e.atR {tmps:=args++Array.replicate (fn.ntmps - args.size) undef,defers:=[]} [.code c]:=by
  simp[Frame.enter,Frame.atR,u,E,m]
 have r:∀(d:Frame) (p:FrameMode) (a:Act) (b:World),d.fn=f->d.kind=.normal->d.mode=p->d.defers=a.defers->d.tmps=a.tmps->LeavesInM Fence.wide n P fn a.tmps R a.defers p b→
     StepsIn (Machine.fenced P Fence.wide) P (lone (Frame.enter P f args .normal) g w) (lone d g b)→
     ∃i b d,R i b/\ComesIn (Machine.fenced P Fence.wide) P (lone (Frame.enter P f args .normal) g w) (lone d g b) i/\d.fn=f/\d.leaving P b i:=by
  intro d p a b t z A B C H l;obtain⟨v,L,x,D,K,G,I⟩:=leaves_stepsInM a.defers p b d g A B C (t▸u) z trivial J H;exact⟨v,L,x,D,ComesIn.of_steps l K,G.trans t,I⟩
 obtain⟨i,a,b,h,j⟩:=y e [] g q k;rw[<-F]at j;cases i with
 |normal=>exact r {e.atR a []with mode:=.returning} .returning a b k o rfl rfl rfl h (StepsIn.trans j (.one (fenced_wide _ _) (stepR_end q)))
 |ret=>
  obtain⟨s,l⟩:=j.1 q;exact r {e.atR a s with mode:=.returning} .returning a b k o rfl rfl rfl h l
 |panic chain=>
  obtain⟨s,l⟩:=j;exact r {e.atR a s with mode:=.panicking chain} (.panicking chain) a b k o rfl rfl rfl h l
 |exit id=>exact h.elim
 |goto M=>exact h.elim
 |outgrown=>exact⟨.outgrown,b,e,h,j.resolve_left (by simp[o]),k,trivial⟩
theorem EN{g:Operand}{q:Array Tmp}{h i:Code}{Q:Exit->Act->World->Prop}{a:Act}{w:World}{fn:FuncId}
    (F:∃(l:Nat) (mark:List Deferred) (r:World) (d:Deferred) (s:World) (f:FuncId) (args:Array Value) (t:World),
     (Instr.enterLoop fn a.tmps q h i none).run P w=.ok (l,mark) r/\(resolve a.eval (rangeCall g l) 0).run P r=.ok d s/\(invoke d.target d.args).run P s=.ok (.enter f args) t/\
     CallsIn Fence.wide (n - 1) P f args t (rangePost Fence.wide n P l Q {a with defers:=mark++a.defers})):
    (Code.rangeFunc g q h i).yG fn P Q a w:=by
 obtain⟨l,mark,r,d,s,f,args,t,v,L,K,hF,I⟩:=F;intro b k cs z H;subst H;rw[<-z]at v;have m:=stepR_rangeFunc (P:=P) (b:=b) (a:=a) (k:=k) (cs:=cs) (w:=w) v L K;obtain⟨D,N,R,j,p,S,y⟩:=I (b.atR {a with defers:=mark++a.defers} (.inRangeFunc l::k)::cs) (room_wide _);cases D with
 |outgrown=>
  obtain⟨C,M,o⟩:=j;exact⟨.outgrown,C,M,o,.inr (Outgrown.of_steps (.one m) p)⟩
 |panicked chain=>
  have e:=step_leave_panicked (c:=b.atR {a with defers:=mark++a.defers} (.inRangeFunc l::k)) (cs:=cs) y;rw[Frame.raise_atR]at e;exact⟨.panic chain,_,N,j,.inRangeFunc l::k,.head (fenced_wide _ _) m (StepsIn.trans p (.one (fenced_wide _ _) e))⟩
 | returned T =>
  obtain⟨jump,A,J,x⟩:=j;have e:=step_leave_returned (c:=b.atR {a with defers:=mark++a.defers} (.inRangeFunc l::k)) (cs:=cs) y;rw[finish_atR_inRangeFunc]at e;have u:StepsIn (Machine.fenced P Fence.wide) P (lone (b.atR a (.code (.rangeFunc g q h i)::k)) cs w) (lone (b.atR {a with defers:=mark++a.defers} ((jump.map Item.code).toList++k)) cs A):=
   .head (fenced_wide _ _) m (StepsIn.trans p (.head (fenced_wide _ _) e (.one (fenced_wide _ _) (stepR_endRangeFunc J))))
  cases jump with
  |none=>exact⟨.normal,_,A,x,u⟩
  |some c=>
   obtain⟨E,B,O,o,G⟩:=x b k cs z trivial (room_wide _);exact⟨E,B,O,o,.of_steps u G⟩
end Go
namespace Go.Proofs.YtlhgbjbkjalfjaaGreat
open Go Go.RowKit Tryz M
def Qg{α:Type}(P:Program)(gf:Nat)(lb:Array Value)(encs:α->Array Value)(Dit Bd:Nat->Prop)(S Sp Bnd:List α->Prop)(It0:World->Prop)(Nx:List α->α->Prop:=fun _ _=>True):Prop:=
 ∀(l:Nat) (J Jx:List α->World->Prop) (Jp:List PanicEntry->List α->World->Prop) (W:World),It0 W->(∀s A B,J s A->Kp Dit A B->J s B)->(∀s A B,Jx s A->Kp Dit A B->Jx s B)->(∀c s A B,Jp c s A->Kp Dit A B->Jp c s B)->(∀s A,J s A->Bnd s)→
  (∀pre x W1,Nx pre x->J pre W1->YieldAt Fence.wide 8 P l (encs x) W1 fun e W'=>Kp Bd W1 W'/\((e=.returned (.bool true)/\J (pre++[x]) W')\/(e=.returned (.bool false)/\Jx (pre++[x]) W')\/∃c,e=.panicked c/\Jp c (pre++[x]) W'))→
  J [] W->CallsIn Fence.wide 9 P gf (#[.func (.yield l) #[] #[]]++lb) W fun e W'=>((∃v,e=.returned v)/\((∃xs,S xs/\J xs W')\/(∃pre,Sp pre/\Jx pre W')))\/∃c pre,e=.panicked c/\Sp pre/\Jp c pre W'
def Ml{α:Type}(Bb:Nat->Prop)(I:List α->World->Prop)(Ix:Code->List α->World->Prop)(Ip:List PanicEntry->List α->World->Prop)(xs:List α)(W:World):Exit->Act->World->Prop
 | .panic c,a,W'=>a.defers=[]/\Kp Bb W W'/\Ip c xs W'
 |e,a,W'=>roundEnd Bb I Ix xs W e a W'
theorem Mj {α : Type} {P : Program} {g : Operand} {O : Array Tmp} {assign body : Code} {Q : Exit -> Act -> World -> Prop} {a : Act} {w : World} {gf : Nat} {lb : Array Value}
    (hg:a.eval g=.func (.func gf) #[] lb) (eg:∀args w,(callFunc gf args).run P w=.ok (.enter gf args) w) {encs:α->Array Value} (aG:∀x,(encs x).size=O.size)
    {aa U X:List α->Prop} {y Bb:Nat->Prop} {Z:World->Prop} {Nx:List α->α->Prop} (aH:Qg P gf lb encs y (fun f=>Bb f\/f=w+1) aa U X Z Nx)
    (hIt:∀W,Ext w W->Z W) (hD1:¬y w) (hD2:¬y (w+1)) (hB1:¬Bb w) (hB2:¬Bb (w+1))
    (I:List α->World->Prop) (F:Code->List α->World->Prop) (E:List PanicEntry->List α->World->Prop) {fn:FuncId} (az:∃au,P.funcs[fn]?=some au) (hIp:∀c i e k,E c i e->Kp (fun f=>y f\/f=w+1) e k->E c i k)
    (hI:∀i e k,I i e->Kp (fun f=>y f\/f=w+1) e k->I i k) (hIx:∀c i e k,F c i e->Kp (fun f=>y f\/f=w+1) e k->F c i k) (h0:I [] w) (hIB:∀i e,I i e->X i)
    (T:List α->α->World->Act->World->Prop)
    (hassign:∀(d:List α) (x:α) (W:World) (K:Act->World->Prop),Nx d x->I d W->w.heap.size+1<(W:Nat)->(∀r n,T d x W r n->K r n)→
     assign.wpIn (Fence.wide.inRound (w+1)) 8 P (Exit.then K (fun _ _ _=>False)) {tmps:=(O.zip (encs x)).foldl (fun R (aI,ak)=>R.setIfInBounds aI ak) a.tmps,defers:=[]} W)
    (hAx:∀d x W r n,T d x W r n->Kp Bb W n)
    (hbody:∀(d:List α) (x:α) (W:World) (r:Act) (n H:World),T d x W r n->Kp (·=w+1) n H->H.heap.size=n→
     body.wpIn (Fence.wide.inRound (w+1)) 8 P (Ml Bb I F E (d++[x]) H) r H)
    (hdone:∀(xs:List α) (W:World),aa xs->I xs W->W.heap[w.heap.size]?=some (.deferred (some []))->Q .normal {a with defers:={target:=.collected w,args:=#[]}::a.defers} W)
    (hstop:∀(c:Code) (d:List α) (W:World),U d->F c d W->W.heap[w.heap.size]?=some (.deferred (some []))->c.wpIn Fence.wide 10 P Q {a with defers:={target:=.collected w,args:=#[]}::a.defers} W)
    (hpanic:∀(c:List PanicEntry) (d:List α) (W:World),U d->E c d W->W.heap[w.heap.size]?=some (.deferred (some []))->Q (.panic c) {a with defers:={target:=.collected w,args:=#[]}::a.defers} W):
    (Code.rangeFunc g O assign body).yG fn P Q a w:=by
 refine EN (n:=10) ?_;obtain⟨m,u⟩:∃m:LoopState->Option Code->Loop,m=fun st pe=>{state:=st,pending:=pe,fn,tmps:=a.tmps,params:=O,assign,body,defers:=w.heap.size}:=⟨_,rfl⟩;obtain⟨q,L⟩:∃q,(w.alloc (.deferred (some []))).alloc (.loop (m .ready none))=q:=⟨_,rfl⟩;have ay:q.heap[w.heap.size+1]?=some (.loop (m .ready none)):=by
  rw[<-L];have:=World.alloc_heap_new (w.alloc (.deferred (some []))) (.loop (m .ready none));rwa[Tp]at this
 have ax:q.heap[w.heap.size]?=some (.deferred (some [])):=by
  rw[<-L];exact(Wo _ _ _ Zl).trans (World.alloc_heap_new w _)
 have af:Ext w q:=by rw[<-L];exact(jw _).alloc _
 have av:=hI _ _ _ h0 af.any;have p:∀{Y:Nat->Prop} {e k:World} {v:Obj} {f:Nat},Kp Y e k->¬Y f->e.heap[f]?=some v->k.heap[f]?=some v:=fun b G ho=>
  (b.block _ (Tg.1 ho).1 G).trans ho
 refine⟨w+1,[{target:=.collected w,args:=#[]}],q,{target:=.fn (.func gf) lb,args:=#[.func (.yield (w+1)) #[] #[]]},q,gf,
  #[.func (.yield (w+1)) #[] #[]]++lb,q,?_,?_,?_,?_⟩
 . rw[<-L,u];exact run_enterLoop_outer _ _ _ _ _
 . simp only[resolve,hg];simp[go_sem]
 . simp[invoke,go_sem,eg]
 . refine(aH (w+1)
    (fun d W=>I d W/\W.heap[w.heap.size+1]?=some (.loop (m .ready none))/\W.heap[w.heap.size]?=some (.deferred (some [])))
    (fun d W=>∃c,F c d W/\W.heap[w.heap.size+1]?=some (.loop (m .done (some c)))/\W.heap[w.heap.size]?=some (.deferred (some [])))
    (fun c d W=>E c d W/\W.heap[w.heap.size]?=some (.deferred (some [])))
    q (hIt _ af)
    (fun i e k o j=>⟨hI i e k o.1 (j.weak fun _ _ b=>.inl b),p j hD2 o.2.1,p j hD1 o.2.2⟩)
    (fun i e k o j=>by
     obtain⟨c,hc,t,G⟩:=o;exact⟨c,hIx c i e k hc (j.weak fun _ _ b=>.inl b),p j hD2 t,p j hD1 G⟩)
    (fun c i e k o j=>⟨hIp c i e k o.1 (j.weak fun _ _ b=>.inl b),p j hD1 o.2⟩)
    (fun i e o=>hIB i e o.1) ?_ ⟨av,ay,ax⟩).mono ?_
   . rintro d x W aF ⟨z,t,j⟩;have aC:=(Tg.1 t).1;have hy:=run_yield (P:=P) (args:=encs x) t (by rw[u];exact aG x);rw[u]at hy;refine⟨fn,_,assign,body,hy,BN trivial az (hassign d x W _ aF z aC ?_)⟩;intro r n ag;have M:=hAx _ _ _ _ _ ag;have ai:=p M hB2 t;have aA:=p M hB1 j;refine⟨_,run_beginRound ai (by rw[u]),?_⟩;have aD:=(Tg.1 ai).1;have aB:(n.putObj (w+1) (.loop {m .ready none with state:=.busy})).heap[w.heap.size+1]?=some (.loop {m .ready none with state:=.busy}):=World.putObj_heap_same aD;have ah:(n.putObj (w+1) (.loop {m .ready none with state:=.busy})).heap[w.heap.size]?=some (.deferred (some [])):=(World.putObj_heap_other Zm).trans aA;refine wpIn_mono (hbody d x W r n _ ag (Kp.putObj _ _ _) Zl) ?_;have N:∀(h:World),Kp Bb (n.putObj (w+1) (.loop {m .ready none with state:=.busy})) h->∀v,Kp (fun f=>Bb f\/f=w+1) W (h.putObj (w+1) v):=fun h h3 v=>
      (((M.weak fun _ _ b=>.inl b).trans ((Kp.putObj _ _ _).weak fun _ _ b=>.inr b)).trans (h3.weak fun _ _ b=>.inl b)).trans ((Kp.putObj _ _ _).weak fun _ _ b=>.inr b)
     have J:∀(jump:Option Code) (h:World),Kp Bb (n.putObj (w+1) (.loop {m .ready none with state:=.busy})) h→
         (Instr.endRound (w+1) jump).run P h=.ok (.bool jump.isNone) (h.putObj (w+1) (.loop (m (if jump.isNone then .ready else .done) jump)))/\
         (h.putObj (w+1) (.loop (m (if jump.isNone then .ready else .done) jump))).heap[w.heap.size+1]?=some (.loop (m (if jump.isNone then .ready else .done) jump))/\
         (h.putObj (w+1) (.loop (m (if jump.isNone then .ready else .done) jump))).heap[w.heap.size]?=some (.deferred (some [])):=fun jump h l=>by
      have aj:=p l hB2 aB;have:=run_endRound (P:=P) jump aj;rw[u]at this |-;exact⟨this,World.putObj_heap_same (Tg.1 aj).1,(World.putObj_heap_other Zm).trans (p l hB1 ah)⟩
     have S:∀(h:World) (v:Obj),Kp (fun f=>y f\/f=w+1) h (h.putObj (w+1) v):=fun h v=>(Kp.putObj _ _ _).weak fun _ _ b=>.inr b;rintro ae a3 h D;cases ae with
     |normal=>
      obtain⟨l,s⟩:=D;obtain⟨C,B,A⟩:=J none h l;exact⟨_,_,C,N _ l _,.inl ⟨rfl,hI _ _ _ s (S _ _),B,A⟩⟩
     |ret=>
      obtain⟨l,s⟩:=D;obtain⟨C,B,A⟩:=J (some .ret) h l;exact⟨_,_,C,N _ l _,.inr (.inl ⟨rfl,.ret,hIx _ _ _ _ s (S _ _),B,A⟩)⟩
     |exit id=>
      obtain⟨l,s⟩:=D;obtain⟨C,B,A⟩:=J (some (.exit id)) h l;exact⟨_,_,C,N _ l _,.inr (.inl ⟨rfl,.exit id,hIx _ _ _ _ s (S _ _),B,A⟩)⟩
     |goto R=>
      obtain⟨l,s⟩:=D;obtain⟨C,B,A⟩:=J (some (.goto R)) h l;exact⟨_,_,C,N _ l _,.inr (.inl ⟨rfl,.goto R,hIx _ _ _ _ s (S _ _),B,A⟩)⟩
     |panic ch=>
      obtain⟨G,l,s⟩:=D;exact⟨G,((M.weak fun _ _ b=>.inl b).trans ((Kp.putObj _ _ _).weak fun _ _ b=>.inr b)).trans (l.weak fun _ _ b=>.inl b),.inr (.inr ⟨ch,rfl,s,p l hB1 ah⟩)⟩
     |outgrown=>exact D.elim
   . rintro ae W2 (⟨⟨ak,rfl⟩,(⟨xs,hS,z,t,j⟩|⟨d,V,c,z,t,j⟩)⟩|⟨c,d,rfl,V,z,j⟩)
     . exact⟨none,_,by have:=run_endLoop (P:=P) t (by rw[u];simp);rw[u]at this;exact this,
        hdone xs _ hS (hI _ _ _ z ((Kp.putObj _ _ _).weak fun _ _ b=>.inr b)) ((World.putObj_heap_other Zm).trans j)⟩
     . exact⟨some c,_,by have:=run_endLoop (P:=P) t (by rw[u];simp);rw[u]at this;exact this,
        hstop c d _ V (hIx _ _ _ _ z ((Kp.putObj _ _ _).weak fun _ _ b=>.inr b)) ((World.putObj_heap_other Zm).trans j)⟩
     . exact hpanic c d _ V z j
def Jw(n:Nat)(W W':World):Prop:=W.heap.size<=W'.heap.size/\∀g t cs,n<=g->hZ W g t cs->hZ W' g t cs
theorem Jw.of{n:Nat}{W b:World}{D:Nat->Prop}(c:Kp D W b)(d:∀a,n<=a->¬D a):Jw n W b:=⟨c.size,fun a _ _ f e=>e.kp c (d a f)⟩
section
variable {P:Program} {l:List Oper} {C:World->Prop} {Q:Exit->Act->World->Prop} {fin:Act->World->Prop} {i j k d e n:Nat} {t3:MT} {a:Act} {w:World} {o o2:Oper} {α:Type} {v:α->Value} {V:α->Prop} {z:Array Value} {t:TypeId} {qx:List Nat} {qs:List Oper}
structure Qe(P:Program)(l:List Oper)(C:World->Prop)(Q:Exit->Act->World->Prop)(o o2:Oper)(d e n:Nat){α:Type}(v:α->Value)(V:α->Prop)(z:Array Value)(t:TypeId)(a:Act):Prop where
 OT:a.put (some e) undef=a
 call:∀u W,C W->n<=W.heap.size->∀K2:Act->World->Prop,(∀x W',V x->C W'->Jw n W W'->K2 ((a.put (some e) u).put (some d) (v x)) W')->wpList P l.toArray (Exit.then K2 Q) [o] (a.put (some e) u) W
 alloc:∀a' W,∀K2:Act->World->Prop,K2 (a'.put (some e) (.pointer (some ⟨W.heap.size,0,none⟩))) (W.alloc (.cells z t))->wpList P l.toArray (Exit.then K2 Q) [o2] a' W
 stays:∀W,C W->C (W.alloc (.cells z t))
theorem Sq{g:Array Oper}{K c d:Act->Prop}(f:∀b,c b->d b->K b)(e:c a/\d a):wpQuiet P g C K [] a:=TD (f _ e.1 e.2)
theorem Ot{a:Act}{e d:Nat}{c v:Value}(b:d≠e):((a.put (some e) undef).put (some d) v).put (some e) c=(a.put (some e) c).put (some d) v:=by
 simp only[Act.put];congr 1;rw[Vt _ _ (Ne.symm b),Array.setIfInBounds_setIfInBounds,Vt _ _ b]
theorem Sl(b:Qe P l C Q o o2 d e n v V z t a)(E:d≠e)(y:C w)(k:n<=w)(A:∀q m p,V m->C p->n<=q->hZ p q t z->fin ((a.put (some e) (.pointer (some ⟨q,0,none⟩))).put (some d) (v m)) p)(F:(l[i]?).toList=[o]) (G:(l[j]?).toList=[o2]):(∀c:Act->World->Prop,(∀h f,C f->xM P l C Q fin (.one [] j (.fin [])) h f->c h f)->wpList P l.toArray (Exit.then c Q) [o] a w)/\(∀c:Act->World->Prop,(∀h f,C f->xM P l C Q fin (.one [] i (.fin [])) h f->c h f)->wpList P l.toArray (Exit.then c Q) [o2] a w):=by
 constructor
 . intro c r;have:=b.call undef w y k c fun m D x g u=>r _ _ g (jX G fun B s=>b.alloc _ _ _ (s _ _ (b.stays _ g) (kL (by
    rw[Ot E];exact A _ _ _ x (b.stays _ g) (TL k u.1) (hZ.new _ _ _)))))
   rwa[b.OT]at this
 . intro c r;exact b.alloc _ _ _ (r _ _ (b.stays _ y) (jX F fun B s=>b.call _ _ (b.stays _ y) Zr _ fun m D x g u=>
    s _ _ g (kL (A _ _ _ x g k (u.2 _ _ _ k (hZ.new _ _ _))))))
theorem Sm(f:Qe P l C Q o o2 d e n v V z t a)(B:C w)(u:n<=w)(g:α->Act->Act)(E:∀s b (K:Act->Prop),V b->K (g b ((a.put (some e) s).put (some d) (v b)))->wpQuiet P l.toArray C K (qx.filterMap (l[·]?)) ((a.put (some e) s).put (some d) (v b)))(I:∀s b,(g b ((a.put (some e) undef).put (some d) (v b))).put (some e) s=g b ((a.put (some e) s).put (some d) (v b)))(F:∀x b p,V b->C p->n<=x->hZ p x t z->xM P l C Q fin (.one [] k t3) (g b ((a.put (some e) (.pointer (some ⟨x,0,none⟩))).put (some d) (v b))) p)(J:(l[i]?).toList=[o]) (L:(l[j]?).toList=[o2]):(∀h:Act->World->Prop,(∀m c,C c->xM P l C Q fin (.one qx j (.one [] k t3)) m c->h m c)->wpList P l.toArray (Exit.then h Q) [o] a w)/\(∀h:Act->World->Prop,(∀m c,C c->xM P l C Q fin (.one [] i (.one qx k t3)) m c->h m c)->wpList P l.toArray (Exit.then h Q) [o2] a w):=by
 have M:∀{a:Act} {p:World},xM P l C Q fin (.one [] k t3) a p->wpList P l.toArray (Exit.then (fun m c=>C c/\xM P l C Q fin t3 m c) Q) (l[k]?).toList a p:=fun D=>by
  unfold xM at D;simpa [wpQuiet]using D
 constructor
 . intro h y;have:=f.call undef w B u h fun b G r q A=>y _ _ q (by
    unfold xM;refine E _ _ _ r ?_;rw[L];refine f.alloc _ _ _ ⟨f.stays _ q,?_⟩;rw[I];exact F _ _ _ r (f.stays _ q) (TL u A.1) (hZ.new _ _ _))
   rwa[f.OT]at this
 . intro h y;exact f.alloc _ _ _ (y _ _ (f.stays _ B) (jX J fun N H=>f.call _ _ (f.stays _ B) Zr _ fun b G r q A=>
    H _ _ q (by
     unfold xM;exact E _ _ _ r (M (F _ _ _ r q u (A.2 _ _ _ u (hZ.new _ _ _)))))))
end
end Go.Proofs.YtlhgbjbkjalfjaaGreat
