/- Walks. -/
import Derived.Test.YtenhnldnpdlniaaGreatOtCoreLa
import Derived.WalkLawsBesides
import Derived.WalkSpells
import Derived.Deep.QuietTactic
import Derived.BigQuiet
import Derived.OwnWalk
import Derived.OwnWalkIn
import Derived.WalkSmall
import Derived.Deep.RegionLaw
import Derived.Deep.AppendLies
import Derived.Laws.Rows
import Derived.ArgAppend
import Derived.Lib.SlBytesRow
import Derived.Deep.Quiet
import Derived.Deep.RegionWith
import Derived.Deep.RegionHeld3
import Derived.StillTailTactics
import Derived.Maps.RangeWalk
import Derived.RangeFuncKeeps
import Derived.RangeFuncNested
import Derived.RangeFuncBound
import Derived.RangeFuncCalls
import Derived.RangeFuncLeaves
import Derived.Shelf.Abstract
import Derived.Shelf.RegionOpen
import Derived.TacticsInMore
import Derived.LoopNIn
import Derived.LoopIn
set_option maxRecDepth 100000
set_option maxHeartbeats 4000000
set_option linter.all false
namespace Go.Proofs.YtenhnldnpdlniaaGreat
open Go Go.RowKit Tryz M
theorem hQ{a b:Bool}(c:a=b):Ending.returned (.bool a)=.returned (.bool b):=by rw[c]
theorem l7(s:ByteArray):s.toList.isEmpty=decide (s=none_):=by
 rw[U4];obtain⟨⟨a⟩⟩:=s;cases a<;>simp[none_]
theorem CE(s:ByteArray)(k:Nat)(a:k<s.size):s.data.toList.take (k+1)=s.data.toList.take k++[s[k]]:=by
 rw[VU (by simpa using a)];rfl
theorem AR(s:ByteArray)(k:Nat)(c:k<s.size)(a:letter s[k]=false):jf s=false:=by
 have b:s[k]∈s.data.toList:=by simp[ByteArray.getElem_eq_getElem_data]
 unfold jf;rw[VT.2 ⟨_,b,by simp[a]⟩];simp
theorem DV{c:UInt8}(a:(c.toNat:Int)<97):letter c=false:=by
 unfold letter;rw[RN Zm];rfl
theorem DW{c:UInt8}(a:(c.toNat:Int)<97\/122<(c.toNat:Int)):letter c=false:=by
 unfold letter;rcases a with a|a
 . rw[RN Zm];rfl
 . rw[RN (p:=c.toNat<=122) Zm];simp
theorem DX{c:UInt8}(a:97<=(c.toNat:Int)/\(c.toNat:Int)<=122):letter c=true:=by
 unfold letter;rw[SY Zm,SY Zm];rfl
theorem Bg{s:ByteArray}{w:World}:Calls prog 40 #[s] w fun g h=>g=.returned (.bool (jf s))/\w=h:=by
 by_cases i:s.size<1
 . go_enter func40,ntmps40;go_wp2;go_ret;exact⟨hQ (by unfold jf;rw[RN Zm];rfl),rfl⟩
 by_cases j:6<s.size
 . go_enter func40,ntmps40;go_wp2;go_ret;exact⟨hQ (by unfold jf;rw[RN (p:=s.size<=6) Zm];simp),rfl⟩
 go_enter func40,ntmps40;go_wp2;go_loop [3] (fun c=>∃a:Nat,a<=s.size/\c=.int .i64 a/\(s.data.toList.take a).all letter=true) (fun c=>s.size - (intOf c).toNat)
 case atStart=>exact⟨0,T9 _,rfl,by simp⟩
 case round =>
  obtain⟨a,k,rfl,f⟩:=hrel;have d:=Zy f;clear f;by_cases b:a<s.size
  . go_wp2
    . go_ret;exact⟨hQ (AR s a b (DW Zp)).symm,rfl⟩
    . go_round
      case rel=>
       refine⟨a+1,Zm,by go_num,?_⟩;rw[CE s a b,V5,d.o];simp[DX (c:=s[a]) Zp]
      case measure=>simp[intOf];omega
    . go_ret;exact⟨hQ (AR s a b (DV Zp)).symm,rfl⟩
  . go_wp2;go_ret;refine⟨hQ ?_,rfl⟩;have e:=d.o;rw[Tu Zr]at e;unfold jf;rw[e,SY Zm,SY Zm];rfl
theorem nE(s:ByteArray)(w:World):Calls prog 17 #[s] w fun a b=>a=.returned (.bool (jf s))/\w=b:=by
 go_enter func17,ntmps17;go_wp2_with (go_at_call 40;refine(Bg).mono ?_;rintro a b ⟨rfl,rfl⟩);go_ret;exact⟨rfl,rfl⟩
theorem Ho(n:Int)(w:World):Calls prog 20 #[n] w fun a b=>a=.returned (.bool (decide (-9999<=n)&&decide (n<=9999)))/\w=b:=by
 go_enter func20,ntmps20;go_wp2
 . go_ret;exact⟨hQ (by rw[SY (p:= -9999<=n) Zm];rfl),rfl⟩
 . go_ret;exact⟨hQ (by rw[RN (p:= -9999<=n) Zm];rfl),rfl⟩
theorem Dh(n:Int){w:World}:Calls prog 48 #[n] w fun a b=>a=.returned (.agg #[.int .i64 1,n])/\Ext w b:=by
 go_enter func48,ntmps48;go_wp2;refine Px (v:=.agg #[.int .i64 1,n]) (by simp[results,results48,go_sem]) rfl ?_;exact⟨rfl,(jh _)⟩
theorem Jo{w:World}:Calls prog 99 #[] w fun a b=>a=.returned (.agg #[.int .i64 3,SS])/\Ext w b:=by
 go_enter func99,ntmps99;go_wp2;refine Px (v:=.agg #[.int .i64 3,SS]) (by simp[results,results99,go_sem]) rfl ?_;exact⟨rfl,(jh _)⟩
def PW(k:Kind)(e:Ending):Prop:=(kY k=true/\∃t x,e=.returned (.iface t x))\/(kY k=false/\e=.returned .nilIface)
theorem Qg{n:ByteArray}(a:n.toList.isEmpty=true):kY ⟨1,n⟩=true:=by
 rw[l7]at a;simp[kY,a]
theorem OM{n:ByteArray}(a:n.toList.isEmpty=false):kY ⟨1,n⟩=false:=by
 rw[l7]at a;simp[kY,a]
theorem Qh{k:Int}{n:ByteArray}(a:k=2):kY ⟨k,n⟩=jf n:=by
 subst a;simp[kY]
theorem Qf{k:Int}{n:ByteArray}(a:¬k=1)(b:¬k=2):kY ⟨k,n⟩=false:=by
 simp[kY,a,b]
theorem PE(k:Kind){w:World}:Calls prog 170 #[.agg #[k.kind,k.name]] w fun d i=>PW k d/\Ext w i:=by
 obtain⟨kk,b⟩:=k;by_cases e:kk=1
 . subst e;cases h:b.toList.isEmpty
   . go_enter func170,ntmps170;go_wp2;go_ret;exact⟨.inr ⟨OM h,rfl⟩,(jh _)⟩
   . go_enter func170,ntmps170;go_wp2;go_ret;exact⟨.inl ⟨Qg h,_,_,rfl⟩,(jh _)⟩
 . by_cases f:kk=2
   . have c:=Zy (Qh (n:=b) f);cases g:jf b
     all_goals
      have a:=Zy g;clear g;go_enter func170,ntmps170;go_wp2_with (go_at_call 40;refine(Bg).mono ?_;rintro d i ⟨rfl,rfl⟩;rw[a.o]);go_ret
     . exact⟨.inr ⟨by rw[c.o,a.o],rfl⟩,(jh _)⟩
     . exact⟨.inl ⟨by rw[c.o,a.o],_,_,rfl⟩,(jh _)⟩
   . go_enter func170,ntmps170;go_wp2;go_ret;exact⟨.inr ⟨Qf e f,rfl⟩,(jh _)⟩
theorem BA(k:Kind){w:World}:Calls prog 138 #[.agg #[k.kind,k.name]] w fun b c=>b=.returned (.bool (kY k))/\Ext w c:=by
 go_enter func138,ntmps138;go_wp2_with fail;refine(PE k).mono ?_;rintro b f ⟨⟨a,e,g,rfl⟩|⟨a,rfl⟩,d⟩
 . go_wp2;go_ret;exact⟨hQ a.symm,Zv⟩
 . go_wp2;go_ret;exact⟨hQ a.symm,Zv⟩
theorem H9{k:Int}{n:ByteArray}(a:k=0\/k=1\/k=3):oZ ⟨k,n⟩=n.toList.isEmpty:=by
 unfold oZ;rw[SV a,l7]
theorem QA{k:Int}{n:ByteArray}(a:k=2):oZ ⟨k,n⟩=jf n:=by
 subst a;rfl
theorem QB{k:Int}{n:ByteArray}(h0:¬k=0)(a:¬k=1)(b:¬k=2)(c:¬k=3):oZ ⟨k,n⟩=false:=by
 simp[oZ,h0,a,b,c]
theorem RB(k:Tag){w:World}:Calls prog 236 #[.agg #[k.kind,k.name]] w fun c h=>c=.returned (.bool (oZ k))/\Ext w h:=by
 obtain⟨kk,b⟩:=k;by_cases d:kk=0
 . have a:=Zy (H9 (n:=b) (.inl d));go_enter func236,ntmps236;go_wp2;go_ret;exact⟨hQ a.symm,(jh _)⟩
 by_cases e:kk=1
 . have a:=Zy (H9 (n:=b) (.inr (.inl e)));go_enter func236,ntmps236;go_wp2;go_ret;exact⟨hQ a.symm,(jh _)⟩
 by_cases g:kk=3
 . have a:=Zy (H9 (n:=b) (.inr (.inr g)));go_enter func236,ntmps236;go_wp2;go_ret;exact⟨hQ a.symm,(jh _)⟩
 by_cases f:kk=2
 . have a:=Zy (QA (n:=b) f);go_enter func236,ntmps236;go_wp2_with (go_at_call 17;refine(nE _ _).mono ?_;rintro c h ⟨rfl,rfl⟩);go_ret;exact⟨hQ a.symm,(jh _)⟩
 . go_enter func236,ntmps236;go_wp2;go_ret;exact⟨hQ (QB d e f g).symm,(jh _)⟩
theorem ry{n a b:Int}{w:World}:Calls prog 76 #[n,a,b] w fun c d=>c=.returned (.bool (decide (a<=n)&&decide (n<=b)))/\w=d:=by
 go_enter func76,ntmps76;go_wp2
 . go_ret;exact⟨hQ (by rw[SY (p:=a<=n) Zm];rfl),rfl⟩
 . go_ret;exact⟨hQ (by rw[RN (p:=a<=n) Zm];rfl),rfl⟩
theorem kg(s:ByteArray)(w:World):Calls prog 117 #[s] w fun g j=>g=.returned (.bool (jf s))/\w=j:=by
 by_cases h:s.size=0
 . have i:((s.size:Int)==0)=true:=by simp[h]
   go_enter func117,ntmps117;go_wp2;go_ret;exact⟨hQ (by unfold jf;rw[RN Zm];rfl),rfl⟩
 have i:((s.size:Int)==0)=false:=SI.2 Zm;by_cases k:6<s.size
 . go_enter func117,ntmps117;go_wp2;go_ret;exact⟨hQ (by unfold jf;rw[RN (p:=s.size<=6) Zm];simp),rfl⟩
 go_enter func117,ntmps117;go_wp2;go_loop [3] (fun c=>∃a:Nat,a<=s.size/\c=.int .i64 a/\(s.data.toList.take a).all letter=true) (fun c=>s.size - (intOf c).toNat)
 case atStart=>exact⟨0,T9 _,rfl,by simp⟩
 case round =>
  obtain⟨a,l,rfl,f⟩:=hrel;have d:=Zy f;clear f;by_cases b:a<s.size
  . go_wp2
    . go_ret;exact⟨hQ (AR s a b (DW Zp)).symm,rfl⟩
    . go_round
      case rel=>
       refine⟨a+1,Zm,by go_num,?_⟩;rw[CE s a b,V5,d.o];simp[DX (c:=s[a]) Zp]
      case measure=>simp[intOf];omega
    . go_ret;exact⟨hQ (AR s a b (DV Zp)).symm,rfl⟩
  . go_wp2;go_ret;refine⟨hQ ?_,rfl⟩;have e:=d.o;rw[Tu Zr]at e;unfold jf;rw[e,SY Zm,SY Zm];rfl
def Elem(t e k:Nat):Prop:=∃i z bytes,Tryz.prog.underlying t=some (.slice e)/\Tryz.prog.info? e=some i/\i.zero=some z/\i.size=k/\i.bytes=bytes/\z.cells.size=k/\0<k/\bytes<=4096
theorem nM{t b k:Nat}{z:Value}{bytes:Nat}(j:prog.underlying t=some (.slice b))(h:(prog.info? b).map (fun a=>(a.zero,a.size,a.bytes))=some (some z,k,bytes))(l:z.cells.size=k) (i:0<k) (g:bytes<=4096):Elem t b k:=by
 obtain⟨a,c,d,e,f⟩:=info_parts h;exact⟨a,z,bytes,j,c,d,e,f,l,i,g⟩
theorem Dz:Elem 26 3 1:=nM (z:=SS) (bytes:=8) underlying26 Zo rfl Zn Zn
theorem II:Elem 80 64 2:=nM (z:=.agg #[SS, ""]) (bytes:=24) underlying80 Zo rfl Zn Zn
theorem iY{D:Nat->Prop}{a b:World}{base d k n:Nat}{v:Value}{xs:List Value}(e:a.ownsRow base d k v n xs)(m:Kp D a b)(l:∀c,v.ownBlock=some c->base<=c->¬D c):b.ownsRow base d k v n xs:=by
 refine⟨e.1,?_⟩;rcases e.2 with j|⟨c,h,i,rfl,g,f,o⟩
 . exact .inl j
 . exact .inr ⟨c,h,i,rfl,g,(m.block c (Tk.1 f).1 (l c rfl g)).trans f,o⟩
theorem jP{w:World}{base d k n:Nat}{v:Value}{xs:List Value}(f:w.ownsRow base d k v n xs)(o:0<n):∃a b,v=.slice (some ⟨a,0,none⟩) n b/\base<=a/\a<w.heap.size/\n<=b:=by
 rcases f.2 with⟨_,m⟩|⟨e,c,l,j,h,g,i,_⟩
 . omega
 . exact⟨e,c,j,h,(Tk.1 g).1,i⟩
theorem Kp.own{D D':Nat->Prop}{w a b:World}(c:Kp D w a)(e:Kp D' a b)(g:∀d,D' d->w.heap.size<=d):Kp D w b:=
 ⟨e.os.trans c.os,e.tape.trans c.tape,e.output.trans c.output,TD c.size e.size,
  fun d f h=>(e.block d (Tp f c.size) (fun i=>absurd (g d i) (Nat.not_le.2 f))).trans (c.block d f h)⟩
theorem sO{t b k:Nat}(r:Elem t b k)(w:World){q:Array Oper}{rest:List Oper}{j:Oper}{a:Act}{Q:Exit->Act->World->Prop}(G:j.guard=none)(s x:Operand)
    (M:j.op=.call {callee:=.builtin .append,args:=#[s,x],argTypes:=#[t,t]}) (base:Nat) (v:Value) (n:Nat) (xs:List Value) (O:a.eval s=v) (N:w.ownsRow base b k v n xs)
    (g c:Nat) (h:List Value) (T:a.eval x=.slice (some ⟨g,0,none⟩) 1 c) (hl:h.length=k) (L:hH w g 0 h) (z:∀o∈h,o.oneCell'=true)
    (K:n+1<=4294967296) (C:base<=w)
    (y:∀i d,d.ownsRow base b k i (n+1) (xs++h)->Kp (fun u=>v.ownBlock=some u) w d->(∃e l,i=.slice (some ⟨e,0,none⟩) (n+1) l/\base<=e/\e<d.heap.size)->wpList prog q Q rest (a.put j.dst i) d):
    wpList prog q Q (j::rest) a w:=by
 obtain⟨W,Y,bytes,R,H,U,P,D,V,m,A⟩:=r;refine wpList_append_own w G s x t M base b W Y k bytes R H U P D V m v n xs O N g 1 c h T Zm ?_ z (by unfold maxLen;omega) ?_ C ?_
 . intro X o I;have:=L X o I;rw[Tq]at this;unfold Addr.add;split
   . rename_i J;subst J;exact this
   . simpa using this
 . have:(n+1)*bytes<=4294967296*4096:=Vt K A;omega
 . intro i d p f _;refine y i d p ⟨f.os,f.tape,f.output,f.size,fun k m E=>f.block k m (fun b=>E b.symm)⟩ ?_;rcases p.2 with⟨_,h4⟩|⟨e,l,Z,S,F,B,_⟩
   . omega
   . exact⟨e,l,S,F,(Tk.1 B).1⟩
theorem zM{F:Fence}{q:Nat}{t b k:Nat}(u:Elem t b k)(w:World){r:Array Oper}{rest:List Oper}{j:Oper}{a:Act}{Q:Exit->Act->World->Prop}(I:j.guard=none)(s x:Operand)
    (O:j.op=.call {callee:=.builtin .append,args:=#[s,x],argTypes:=#[t,t]}) (base:Nat) (v:Value) (n:Nat) (xs:List Value) (R:a.eval s=v) (P:w.ownsRow base b k v n xs)
    (g c:Nat) (h:List Value) (V:a.eval x=.slice (some ⟨g,0,none⟩) 1 c) (hl:h.length=k) (N:hH w g 0 h) (A:∀o∈h,o.oneCell'=true)
    (M:n+1<=4294967296) (D:base<=w)
    (z:∀i d,d.ownsRow base b k i (n+1) (xs++h)->Kp (fun y=>v.ownBlock=some y) w d->(∃e l,i=.slice (some ⟨e,0,none⟩) (n+1) l/\base<=e/\e<d.heap.size)->wpListIn F q prog r Q rest (a.put j.dst i) d):
    wpListIn F q prog r Q (j::rest) a w:=by
 obtain⟨Y,aa,bytes,T,J,W,S,E,X,m,B⟩:=u;refine wpListIn_append_own w I s x t O base b Y aa k bytes T J W S E X m v n xs R P g 1 c h V Zm ?_ A (by unfold maxLen;omega) ?_ D ?_
 . intro Z o K;have:=N Z o K;rw[Tq]at this;unfold Addr.add;split
   . rename_i L;subst L;exact this
   . simpa using this
 . have:(n+1)*bytes<=4294967296*4096:=Vt M B;omega
 . intro i d p f _;refine z i d p ⟨f.os,f.tape,f.output,f.size,fun k m G=>f.block k m (fun b=>G b.symm)⟩ ?_;rcases p.2 with⟨_,h4⟩|⟨e,l,ae,U,H,C,_⟩
   . omega
   . exact⟨e,l,U,H,(Tk.1 C).1⟩
theorem Ji{α c:Type}{f:α->c}{l:List α}:l.map f=l.flatMap fun a=>[f a]:=by
 induction l with
 |nil=>rfl
 |cons a d b=>rw[TH,UG,b];rfl
theorem SliceOf.l5{α:Type}{k:Nat}{R:mH α}{w:World}{I:Nat->Prop}{base q n:Nat}{v:Value}{cs:List Value}(enc:α->List Value){l:List α}(B:w.ownsRow base q k v n cs)(A:n=l.length) (u:cs=l.flatMap enc) (j:∀a∈l,(enc a).length=k) (hR:∀a∈l,R w I a (enc a)) (hI:∀g,base<=g->g<w.heap.size->I g) (z:l.length<=4294967296):SliceOf k R w I v l:=by
 have r:∀(l:List α),(∀a∈l,(enc a).length=k)->∀b a,l[b]?=some a->∀c e,(enc a)[c]?=some e->(l.flatMap enc)[b*k+c]?=some e:=by
  intro l;induction l with
  |nil=>intro _ b a s;simp at s
  | cons F K E =>
   intro m b a d c e f;have o:=m F Zl;rw[UG];cases b with
   |zero=>
    simp at d;subst d;rw[Tn (by rw[UX,Tq];exact(Tv.1 f).1),UX,Tq];exact f
   |succ b=>
    rw[TR (by rw[o,UW];omega),o,show(b+1)*k+c - k=b*k+c from by rw[UW];omega];exact E (fun G D=>m G (by simp[D])) b a (by simpa using d) c e f
 subst A u;rcases B.2 with⟨rfl,t⟩|⟨h,p,H,rfl,x,i,y,_,J,C⟩
 . have:l=[]:=Ua.1 t;subst this;exact SliceOf.nil _ _ _ _
 . refine⟨_,p,rfl,y,z,fun b a d=>⟨h,0,enc a,rfl,hI h x (Tk.1 i).1,hR a (Sy d),j a (Sy d),?_⟩⟩;intro c e f;have:=r l j b a d c e f;rw[<-C,Uv]at this;split at this
   . simp only[World.cell?,i];simpa [Tq]using this
   . cases this
theorem uV:Elem 67 42 2:=nM (z:=.agg #[SS,SS]) (bytes:=16) underlying67 Zo rfl Zn Zn
theorem hH.mO{w:World}{b:Nat}{t:TypeId}{cs:Array Value}(a:h9 w b t cs):hH w b 0 cs.toList:=by
 intro d e c;rw[Tq];exact a.c d e (by simpa using c)
theorem hH.nC{W:World}{g:Nat}(t:TypeId)(cs:Array Value)(a:W=g):hH (W.alloc (.cells cs t)) g 0 cs.toList:=by
 subst a;exact hH.mO (h9.new W t cs)
theorem jL{w:World}{base c k n:Nat}{v:Value}{xs:List Value}(d:w.ownsRow base c k v n xs):∃b a,v=.slice b n a:=by
 rcases d.2 with⟨rfl,rfl⟩|⟨f,a,e,rfl,_⟩
 . exact⟨_,_,rfl⟩
 . exact⟨_,_,rfl⟩
theorem qJ{w:World}{base a k n:Nat}{v:Value}{xs:List Value}(b:w.ownsRow base a k v n xs){g:Nat}(c:v.ownBlock=some g):base<=g/\g<w:=b.lt g c
theorem C8{t b k:Nat}(o:Elem t b k){W:Array Oper}{h:Oper}{a:Act}{w:World}{K:Act->World->Prop}{Q:Exit->Act->World->Prop}{p:Prop}(E:h.guard=none)(s x:Operand)
    (L:h.op=.call {callee:=.builtin .append,args:=#[s,x],argTypes:=#[t,t]}) (base:Nat) (v:Value) (n:Nat) (xs:List Value) (N:a.eval s=v) (M:w.ownsRow base b k v n xs)
    (g c:Nat) (f:List Value) (R:a.eval x=.slice (some ⟨g,0,none⟩) 1 c) (hl:f.length=k) (J:hH w g 0 f) (u:∀m∈f,m.oneCell'=true)
    (I:n+1<=4294967296) (B:base<=w)
    (r:∀d j i,i.ownsRow base b k (.slice (some ⟨d,0,none⟩) (n+1) j) (n+1) (xs++f)->Kp (fun q=>v.ownBlock=some q) w i->(v.ownBlock=some d\/w.heap.size=d)->K (a.put h.dst (.slice (some ⟨d,0,none⟩) (n+1) j)) i):
    if Region.wanted h (yielded W a.tmps)=true then Oper.wp prog h a w K Q else p:=by
 obtain⟨U,X,bytes,P,F,S,O,C,T,l,A⟩:=o;refine step_append_lies w E s x t L base b U X k bytes P F S O C T l v n xs N M g 1 c f R Zm ?_ u Zm (by unfold maxLen;omega) ?_ B w rfl ?_
 . intro V m G;have:=J V m G;rw[Tq]at this;unfold Addr.add;split
   . rename_i H;subst H;exact this
   . simpa using this
 . have:(n+1)*bytes<=4294967296*4096:=Vt I A;omega
 . intro d j i y e z Y;exact r d j i y ⟨e.os,e.tape,e.output,e.size,fun k l D=>e.block k l (fun b=>D b.symm)⟩ (z.imp id Eq.symm)
theorem ji{t b k:Nat}(p:Elem t b k){o:Array Oper}{rest:List Oper}{j:Oper}{a:Act}{w:World}{Q:Exit->Act->World->Prop}(E:j.guard=none)(s x:Operand)
    (K:j.op=.call {callee:=.builtin .append,args:=#[s,x],argTypes:=#[t,t]}) (base:Nat) (v:Value) (n:Nat) (xs:List Value) (M:a.eval s=v) (L:w.ownsRow base b k v n xs)
    (g c:Nat) (f:List Value) (P:a.eval x=.slice (some ⟨g,0,none⟩) 1 c) (hl:f.length=k) (J:hH w g 0 f) (u:∀m∈f,m.oneCell'=true)
    (I:n+1<=4294967296) (B:base<=w)
    (r:∀d i h,h.ownsRow base b k (.slice (some ⟨d,0,none⟩) (n+1) i) (n+1) (xs++f)->Kp (fun q=>v.ownBlock=some q) w h->(v.ownBlock=some d\/w.heap.size=d)->wpList prog o Q rest (a.put j.dst (.slice (some ⟨d,0,none⟩) (n+1) i)) h):
    wpList prog o Q (j::rest) a w:=by
 obtain⟨T,V,bytes,O,F,R,N,C,S,l,A⟩:=p;refine wpList_append_lies w E s x t K base b T V k bytes O F R N C S l v n xs M L g 1 c f P Zm ?_ u Zm (by unfold maxLen;omega) ?_ B w rfl ?_
 . intro U m G;have:=J U m G;rw[Tq]at this;unfold Addr.add;split
   . rename_i H;subst H;exact this
   . simpa using this
 . have:(n+1)*bytes<=4294967296*4096:=Vt I A;omega
 . intro d i h y e z W;exact r d i h y ⟨e.os,e.tape,e.output,e.size,fun k l D=>e.block k l (fun b=>D b.symm)⟩ (z.imp id Eq.symm)
theorem CZ(w:World)(k a:Nat){g:TypeId}{cs:Array Value}{vs:Value}(n:Nat)(f:Int)(b:h9 w k g cs)(h0:cs[a]?=some vs)(e:cs[a+1]?=some (.int .i64 f))(j:∃c d,vs=.slice c n d)(x y:Int)(o:f<=(n:Int)):Calls prog 147 #[some (k,a),.agg #[x,y]] w fun i l=>i=.returned (.bool false)/\Ext w l:=by
 obtain⟨c,d,rfl⟩:=j;have h:=b.c a _ h0;have m:=b.c (a+1) _ e;have p:=iV h;clear b h0 e;go_enter func147,ntmps147;go_wp2;go_quiet (fail);go_wp2;go_ret;exact⟨rfl,kx⟩
theorem Lh(w:World)(k a d:Nat){t:TypeId}{cs:Array Value}{vs:Value}(n:Nat){xs:List Value}(m:Int)(f:h9 w k t cs)(h0:cs[a]?=some vs)(z:cs[a+1]?=some (.int .i64 m))(x y:Int) (o:w.ownsRow d 42 2 vs n xs) (X:n<=1000) (W:(n:Int)<m) (E:vs.ownBlock≠some k) (C:d<=w):Calls prog 147 #[some (k,a),.agg #[x,y]] w fun j p=>j=.returned (.bool true)/\∃b e,p.ownsRow d 42 2 (.slice (some ⟨b,0,none⟩) (n+1) e) (n+1) (xs++[.int .i64 x,.int .i64 y])/\(vs.ownBlock=some b\/w.heap.size<=b)/\h9 p k t (cs.setIfInBounds a (.slice (some ⟨b,0,none⟩) (n+1) e))/\Kp (fun i=>i=k\/vs.ownBlock=some i) w p:=by
 obtain⟨u,e,rfl⟩:=jL o;have v:=f.c a _ h0;have M:=f.c (a+1) _ z;have O:=f.frozen a;have T:=iV v;have⟨q,J,s,F⟩:=kQ f o E h0;clear f h0 z o E;have Q:(m<=(n:Int))=False:=by simp;omega
 have R:n+1<=4294967296:=Zm
 have A:∀h,Ext w h->h.ownsRow d 42 2 (.slice u n e) n xs:=fun h P=>iY J P fun _ _ _ x=>x;have H:=Zy A;clear A;go_enter func147,ntmps147;go_wp2;go_quiet (fail);go_wp2;clear M Q;go_region_law (refine C8 uV rfl (.tmp 19) (.tmp 21) rfl d (.slice u n e) n xs rfl (H _ kx) (w+1) 1 [x,y] (by simp[Act.eval]) rfl (hH.nC _ _ Zl) Zt R Zr ?_;intro b L Z B l D;have g:=(q.ext kx).kp l s;have U:=g.c a _ F;have V:=g.frozen a;have z1:=g.lt;have G:=Zy g;have K:=Zy B;have I:=Zy l;have r:=Zy D;clear B l D g v O T)
 all_goals
  go_wp2;go_ret;refine⟨rfl,b,L,iY K ((Kp.refl (·=k) _).setCell (fun _=>rfl) _) (fun Y S _ j=>?_),?_,G.jE _ _,?_⟩
  . cases S;have N:b=k:=j;subst N;rcases r.o with c|c
    . exact s c
    . have:=q.lt;simp at c;omega
  . rcases r.o with c|c
    . exact .inl c
    . right;simp at c;omega
  . refine Kp.setCell (Kp.trans ((kx:Ext w _).any) (I.weak fun i _ C=>.inr C)) (fun _=>.inl rfl) _
def Sm{α:Type}(l:List α)(q:α->Bool)(e:Ending):Prop:=∃n:Int,e=.returned (.int .i64 n)/\decide (0<=n)=l.any q
theorem Gw{α:Type}{l:List α}{q:α->Bool}{k:Nat}{x:α}(b:l[k]?=some x)(a:q x=true):l.any q=true:=V8.2 ⟨x,Sy b,a⟩
theorem yD{α:Type}{l:List α}{q:α->Bool}{k:Nat}{x:α}(b:l[k]?=some x)(a:q x=false)(h0:(l.take k).any q=false):(l.take (k+1)).any q=false:=by
 rw[Tm,b,List.any_append,h0];simp[a]
theorem Lg{w:World}(I:Nat->Prop)(v:Value)(l:List M.Field)(i:SliceOf 3 lq w I v l)(b:ByteArray):Calls prog 153 #[v,b] w fun o q=>Sm l (fun c=>c.name.toList==b.toList) o/\Ext w q:=by
 obtain⟨r,t,rfl,B,z⟩:=i.form;go_enter func153,ntmps153;go_wp2;go_loopw [5] (fun e wr=>∃a:Nat,a<=l.length/\e=.int .i64 a/\wr=w/\Zz ((l.take a).any (fun c=>c.name.toList==b.toList)=false)) (fun e _=>l.length - (intOf e).toNat)
 case atStart=>exact⟨0,T9 _,rfl,rfl,Zy Zl⟩
 case round =>
  obtain⟨a,A,rfl,rfl,g⟩:=hrel;by_cases k:a<l.length
  . have n:(a:Int)<l.length:=Zm
    obtain⟨f,d⟩:∃f,l[a]?=some f:=⟨l[a]'k,Dj k⟩;obtain⟨s,C,u,rfl,y,rfl,-,j⟩:=i.get d;obtain⟨p,-⟩:=j.three;have x:=iV p;have h:=Zy d;clear d j;cases m:(f.name.toList==b.toList)
    . go_wp2;go_round
      case rel=>exact⟨a+1,Zm,by go_num,trivial,Zy (yD h.o m g.o)⟩
      case measure=>simp[intOf];omega
    . go_wp2;go_ret;exact⟨⟨_,rfl,by rw[Gw h.o m];simp⟩,Kp.rr⟩
  . have n:¬(a:Int)<l.length:=Zm
    go_wp2;go_ret;exact⟨⟨_,rfl,by have:=g.o;rw[Tu Zm]at this;rw[this];decide⟩,Kp.rr⟩
theorem JM{w:World}(I:Nat->Prop)(v:Value)(l:List M.Method)(i:SliceOf 8 jb w I v l)(b:ByteArray):Calls prog 155 #[v,b] w fun o q=>Sm l (fun c=>c.name.toList==b.toList) o/\Ext w q:=by
 obtain⟨r,t,rfl,B,z⟩:=i.form;go_enter func155,ntmps155;go_wp2;go_loopw [5] (fun e wr=>∃a:Nat,a<=l.length/\e=.int .i64 a/\wr=w/\Zz ((l.take a).any (fun c=>c.name.toList==b.toList)=false)) (fun e _=>l.length - (intOf e).toNat)
 case atStart=>exact⟨0,T9 _,rfl,rfl,Zy Zl⟩
 case round =>
  obtain⟨a,A,rfl,rfl,g⟩:=hrel;by_cases k:a<l.length
  . have n:(a:Int)<l.length:=Zm
    obtain⟨f,d⟩:∃f,l[a]?=some f:=⟨l[a]'k,Dj k⟩;obtain⟨s,C,u,rfl,y,⟨_,_,_,rfl,-,-,-⟩,-,j⟩:=i.get d;obtain⟨p,-⟩:=j.eight;have x:=iV p;have h:=Zy d;clear d j;cases m:(f.name.toList==b.toList)
    . go_wp2;go_round
      case rel=>exact⟨a+1,Zm,by go_num,trivial,Zy (yD h.o m g.o)⟩
      case measure=>simp[intOf];omega
    . go_wp2;go_ret;exact⟨⟨_,rfl,by rw[Gw h.o m];simp⟩,Kp.rr⟩
  . have n:¬(a:Int)<l.length:=Zm
    go_wp2;go_ret;exact⟨⟨_,rfl,by have:=g.o;rw[Tu Zm]at this;rw[this];decide⟩,Kp.rr⟩
theorem PI{w:World}(I:Nat->Prop)(v r:Value)(l:List Class)(e:SliceOf 4 jB w I v l)(b:ByteArray):Calls prog 116 #[.agg #[v,r],b] w fun z B=>Sm l (fun d=>d.name.toList==b.toList) z/\Ext w B:=by
 obtain⟨u,x,rfl,N,K⟩:=e.form;obtain⟨C,q,k,m⟩:=nu w #[.slice u l.length x,r] 32;obtain⟨G,E,-⟩:=m.ca;have⟨s,c,t⟩:=jr e k q;clear k m q e;go_enter func116,ntmps116;go_wp2_with fail;rw[<-t.o];go_loopw [5] (fun g wr=>∃a:Nat,a<=l.length/\g=.int .i64 a/\wr=C/\Zz ((l.take a).any (fun d=>d.name.toList==b.toList)=false)) (fun g _=>l.length - (intOf g).toNat)
 case atStart=>exact⟨0,T9 _,rfl,rfl,Zy Zl⟩
 case round =>
  obtain⟨a,L,rfl,rfl,i⟩:=hrel;by_cases o:a<l.length
  . have y:(a:Int)<l.length:=Zm
    obtain⟨h,f⟩:∃h,l[a]?=some h:=⟨l[a]'o,Dj o⟩;obtain⟨D,O,F,rfl,J,⟨_,_,rfl,-,-⟩,-,n⟩:=s.get f;obtain⟨A,-⟩:=(n.ext c).four;have H:=iV A;have j:=Zy f;clear f n;cases p:(h.name.toList==b.toList)
    . go_wp2;go_round
      case rel=>exact⟨a+1,Zm,by go_num,trivial,Zy (yD j.o p i.o)⟩
      case measure=>simp[intOf];omega
    . go_wp2;go_ret;exact⟨⟨_,rfl,by rw[Gw j.o p];simp⟩,c⟩
  . have y:¬(a:Int)<l.length:=Zm
    go_wp2;go_ret;exact⟨⟨_,rfl,by have:=i.o;rw[Tu Zm]at this;rw[this];decide⟩,c⟩
def Q7(l:List M.Ask)(nm:ByteArray)(e:Ending):Prop:=∃n:Int,e=.returned (.int .i64 n)/\((∃x∈l,(x.name.toList==nm.toList)=true/\n=x.keeper)\/(l.any (fun f=>f.name.toList==nm.toList)=false/\n= -1))
theorem NC{w:World}(I:Nat->Prop)(v q:Value)(l:List M.Ask)(e:SliceOf 2 uT w I v l)(b:ByteArray):Calls prog 118 #[.agg #[q,v],b] w fun y B=>Q7 l b y/\Ext w B:=by
 obtain⟨t,u,rfl,O,L⟩:=e.form;obtain⟨C,p,j,k⟩:=nu w #[q,.slice t l.length u] 32;obtain⟨G,-,E,-⟩:=k.ca;have⟨r,d,s⟩:=jr e j p;clear j k p e;go_enter func118,ntmps118;go_wp2_with fail;rw[<-s.o];go_loopw [5] (fun g wr=>∃a:Nat,a<=l.length/\g=.int .i64 a/\wr=C/\Zz ((l.take a).any (fun z=>z.name.toList==b.toList)=false)) (fun g _=>l.length - (intOf g).toNat)
 case atStart=>exact⟨0,T9 _,rfl,rfl,Zy Zl⟩
 case round =>
  obtain⟨a,N,rfl,rfl,h⟩:=hrel;by_cases n:a<l.length
  . have x:(a:Int)<l.length:=Zm
    obtain⟨c,f⟩:∃c,l[a]?=some c:=⟨l[a]'n,Dj n⟩;obtain⟨D,P,F,rfl,K,rfl,-,m⟩:=r.get f;obtain⟨A,H⟩:=(m.ext d).two;have J:=iV A;have i:=Zy f;clear f m;cases o:(c.name.toList==b.toList)
    . go_wp2;go_round
      case rel=>exact⟨a+1,Zm,by go_num,trivial,Zy (yD i.o o h.o)⟩
      case measure=>simp[intOf];omega
    . go_wp2;go_ret;exact⟨⟨_,rfl,.inl ⟨c,Sy i,o,rfl⟩⟩,d⟩
  . have x:¬(a:Int)<l.length:=Zm
    go_wp2;go_ret;exact⟨⟨_,rfl,.inr ⟨by have:=h.o;rwa[Tu Zm]at this,rfl⟩⟩,d.o⟩
theorem qo{s:ByteArray}:decide (s=none_)=(s.toList==[]):=by
 rw[<-l7];cases s.toList<;>rfl
theorem Gp(k:Int)(s:ByteArray){w:World}:Calls prog 211 #[.agg #[k,s]] w fun f j=>f=.returned (.bool (oZ ⟨k,s⟩))/\Ext w j:=by
 have a:oZ ⟨k,s⟩=if k=0\/k=1\/k=3 then(s.toList==[])else if k=2 then jf s else false:=by
  unfold oZ;simp only[qo]
 by_cases c:k=2
 . subst c;rw[SX Zn,SV rfl]at a;rw[a];clear a;go_enter func211,ntmps211;go_wp2_with (go_at_call 117;refine(kg _ _).mono ?_;rintro f j ⟨rfl,rfl⟩)
   all_goals
    go_ret;exact⟨rfl,kx⟩
 have d:=SI.2 c;obtain⟨b,e⟩:∃b,(s.toList==[])=b:=⟨_,rfl⟩;by_cases g:k=0
 . subst g;rw[SV (.inl rfl),e]at a;rw[a];clear a d;cases b
   all_goals
    go_enter func211,ntmps211;go_wp2_with fail
    all_goals
     go_ret;exact⟨rfl,kx⟩
 by_cases h:k=1
 . subst h;rw[SV (.inr (.inl rfl)),e]at a;rw[a];clear a d;cases b
   all_goals
    go_enter func211,ntmps211;go_wp2_with fail
    all_goals
     go_ret;exact⟨rfl,kx⟩
 by_cases i:k=3
 . subst i;rw[SV (.inr (.inr rfl)),e]at a;rw[a];clear a d;cases b
   all_goals
    go_enter func211,ntmps211;go_wp2_with fail
    all_goals
     go_ret;exact⟨rfl,kx⟩
 rw[SX Zm,SX c]at a;rw[a];clear a;have l:=SI.2 g;have m:=SI.2 h;have n:=SI.2 i;go_enter func211,ntmps211;go_wp2_with fail
 all_goals
  go_ret;exact⟨rfl,kx⟩
theorem kD{w:World}(I:Nat->Prop)(v:Value)(l:List Tag)(m:SliceOf 2 kU w I v l):Calls prog 226 #[v] w fun c s=>c=.returned (.bool (l.all oZ))/\Ext w s:=by
 obtain⟨t,x,rfl,E,C⟩:=m.form;go_enter func226,ntmps226;go_wp2;go_loopw [3] (fun g wr=>∃a:Nat,a<=l.length/\g=.int .i64 a/\Ext w wr/\Zz ((l.take a).any (fun b=> !oZ b)=false)) (fun g _=>l.length - (intOf g).toNat)
 case atStart=>exact⟨0,T9 _,rfl,Kp.rr,Zy Zl⟩
 case round =>
  obtain⟨a,D,rfl,e,h⟩:=hrel;have i:=Zy e;by_cases p:a<l.length
  . have q:(a:Int)<l.length:=Zm
    obtain⟨b,d⟩:∃b,l[a]?=some b:=⟨l[a]'p,Dj p⟩;obtain⟨u,F,y,rfl,B,rfl,-,o⟩:=m.get d;obtain⟨r,z⟩:=(o.ext e).two;have A:=iV r;have k:=Zy d;clear d o e;go_wp2_with fail;refine(Gp b.kind b.name).mono ?_;rintro c G ⟨rfl,n⟩;have j:=Zy (i.trans n);clear n;cases f:oZ b
    . go_wp2;go_ret;exact⟨hQ (by
       rw[Ud,Tx];exact⟨fun c=>(by cases c),fun c=>by rw[c b (Sy k.o)]at f;cases f⟩),j.o⟩
    . go_wp2;go_round
      case rel=>exact⟨a+1,Zm,by go_num,j.o,Zy (yD k.o (by rw[f];rfl) h)⟩
      case measure=>simp[intOf];omega
  . have q:¬(a:Int)<l.length:=Zm
    go_wp2;go_ret;exact⟨hQ (by
     have:=h.o;rw[Tu Zm,VD]at this;symm;rw[Tx];intro b d;simpa using this b d),i.o⟩
def jS(v:Val):List Value:=[.int .i64 v.kind,.int .i64 v.n]
def nL:mH Val:=fun _ _ x cs=>cs=jS x
theorem nL.stays:jK nL:=fun _ _ _ _ _ _ _ _ a=>a
def ni(t:Tag):List Value:=[.int .i64 t.kind,.string t.name]
def vF(n:Int):List Value:=[.int .i64 n]
theorem wC:Elem 193 236 2:=nM (z:=.agg #[SS, ""]) (bytes:=24) underlying193 Zo rfl Zn Zn
theorem flat_get{α:Type}{enc:α->List Value}{k:Nat}(m:∀b,(enc b).length=k):∀(l:List α) (j:Nat) (f:Value),(l.flatMap enc)[j]?=some f->∃d e b,l[d]?=some b/\(enc b)[e]?=some f/\j=d*k+e:=by
 intro l;induction l with
 |nil=>intro j f a;simp at a
 |cons b p n=>
  intro j f a;rw[UG]at a;rcases Uo j (enc b).length with c|c
  . rw[Tn c]at a;exact⟨0,j,b,rfl,a,Zm⟩
  . rw[TR c]at a;obtain⟨d,e,o,g,h,i⟩:=n _ _ a;refine⟨d+1,e,o,by simpa using g,h,?_⟩;rw[m]at i c;rw[UW];omega
theorem nI{α:Type}{enc:α->List Value}{k:Nat}(b:∀a,(enc a).length=k)(l:List α):(l.flatMap enc).length=l.length*k:=by
 induction l with
 |nil=>simp
 |cons a d c=>rw[UG,TL,c,b,Tc,UW];omega
theorem pW{α:Type}{enc:α->List Value}(c:∀b,∀a∈enc b,a.oneCell'=true)(l:List α):∀a∈l.flatMap enc,a.oneCell'=true:=by
 intro a d;obtain⟨b,_,e⟩:=List.mem_flatMap.1 d;exact c b a e
theorem SliceOf.flat{α:Type}{k:Nat}{R:mH α}{enc:α->List Value}(hR:∀w I b d,R w I b d->d=enc b)(r:∀b,(enc b).length=k){w:World}{I:Nat->Prop}{e:Addr}{n g:Nat}{xs:List α}(m:SliceOf k R w I (.slice (some e) n g) xs):∀c a,(xs.flatMap enc)[c]?=some a->w.cell? (e.add c)=some a:=by
 intro c a t;obtain⟨u,f,b,o,p,rfl⟩:=flat_get r xs c a t;obtain⟨v,z,d,h,_,s,y,q⟩:=m.get o;cases h;have j:=hR _ _ _ _ s;subst j;have:=q f a p;unfold Addr.add;split
 . rename_i x;have i:u*k=0:=Zm
   have l:f=0:=Zm
   rw[i,l]at this;exact this
 . simpa [Ul]using this
theorem xG(x:Val):∀a∈jS x,a.oneCell'=true:=by simp[jS,Value.oneCell']
theorem xE(x:Tag):∀a∈ni x,a.oneCell'=true:=by simp[ni,Value.oneCell']
theorem Di(x:Int):∀a∈vF x,a.oneCell'=true:=by simp[vF,Value.oneCell']
structure Flat(w:World)(k:Nat)(v:Value)(n:Nat)(xs:List Value):Prop where
 len:xs.length=n*k
 ex:∃a c,v=.slice a n c/\(a=none->n=0)/\∀ad,a=some ad->∀j u,xs[j]?=some u->w.cell? (ad.add j)=some u
 one:∀u∈xs,u.oneCell'=true
theorem SliceOf.toFlat{α:Type}{k:Nat}{R:mH α}{enc:α->List Value}(hR:∀w I x b,R w I x b->b=enc x)(c:∀x,(enc x).length=k)(g:∀x,∀h∈enc x,h.oneCell'=true){w:World}{I:Nat->Prop}{v:Value}{xs:List α}(a:SliceOf k R w I v xs):Flat w k v xs.length (xs.flatMap enc):=by
 obtain⟨d,e,rfl,_⟩:=a.form;refine⟨nI c xs,⟨d,e,rfl,?_,?_⟩,pW g xs⟩
 . rintro rfl;cases xs with
   |nil=>rfl
   |cons x j=>
    obtain⟨_,_,_,f,_⟩:=a.get (i:=0) (x:=x) rfl;cases f
 . rintro i rfl;exact a.flat hR c
theorem tJ{w:World}{base a k n:Nat}{v:Value}{xs:List Value}(b:w.ownsRow base a k v n xs)(d:∀e∈xs,e.oneCell'=true):Flat w k v n xs:=by
 refine⟨b.1,?_,d⟩;rcases b.2 with⟨rfl,rfl⟩|⟨h,c,g,rfl,_⟩
 . exact⟨none,0,rfl,fun _=>rfl,fun _ a=>by cases a⟩
 . exact⟨_,c,rfl,(fun a=>by cases a),fun f a=>by cases a;exact b.cells rfl⟩
theorem Es{w:World}{base a k n c g:Nat}{xs:List Value}(f:w.ownsRow base a k (g,n,c) n xs)(j:∀d∈xs,d.oneCell'=true){i:Nat}(e:Nat):Flat w k (.slice (some ⟨g,i*k,none⟩) (n - i) e) (n - i) (xs.drop (i*k)):=by
 refine⟨by rw[Uj,f.1,Nat.sub_mul],⟨_,e,rfl,(fun a=>by cases a),fun m a o d b=>?_⟩,fun d b=>j d (Vs b)⟩;cases a;rw[UM]at b;have:=f.cells (g:=g) rfl _ _ b;unfold Addr.add at this |-;split at this<;>split
 . rename_i l h;rw[show i*k=0 by omega];exact this
 . omega
 . rename_i l h;rw[h]at this;simpa using this
 . simpa using this
theorem Ob{w:World}{a:Addr}{v:Value}(c:w.cell? a=some v):a.block<w:=by
 rcases Uo a.block w with b|b
 . exact b
 . simp[World.cell?,Uk b]at c
theorem Flat.ext{w g:World}{k n:Nat}{v:Value}{xs:List Value}(l:Flat w k v n xs)(q:Ext w g):Flat g k v n xs:=by
 obtain⟨m,⟨h,i,j,o,c⟩,p⟩:=l;exact⟨m,⟨h,i,j,o,fun a b e f d=>(UK (q.block _ (Ob (c a b e f d)) fun r=>r)).trans (c a b e f d)⟩,p⟩
theorem nZ{t b k:Nat}(o:Elem t b k)(w:World){l:Array Oper}{rest:List Oper}{g:Oper}{a:Act}{Q:Exit->Act->World->Prop}(G:g.guard=none)(s x:Operand)
    (J:g.op=.call {callee:=.builtin .append,args:=#[s,x],argTypes:=#[t,t]}) (base:Nat) (v:Value) (n:Nat) (xs:List Value) (L:a.eval s=v) (K:w.ownsRow base b k v n xs)
    (f:Addr) (m c:Nat) (j:List Value) (O:a.eval x=.slice (some f) m c) (F:Flat w k (.slice (some f) m c) m j)
    (I:n+m<=8589934592) (C:base<=w)
    (z:∀h e,e.ownsRow base b k h (n+m) (xs++j)->Kp (fun p=>v.ownBlock=some p) w e->wpList prog l Q rest (a.put g.dst h) e):
    wpList prog l Q (g::rest) a w:=by
 obtain⟨S,T,bytes,N,H,P,M,D,R,i,B⟩:=o;obtain⟨r,⟨U,V,q,_,u⟩,y⟩:=F;cases q;refine wpList_append_own w G s x t J base b S T k bytes N H P M D R i v n xs L K f m c j O r (u f rfl) y (by unfold maxLen;omega) ?_ C ?_
 . have:(n+m)*bytes<=8589934592*4096:=Vt I B;omega
 . intro h e A d _;exact z h e A ⟨d.os,d.tape,d.output,d.size,fun k i E=>d.block k i (fun b=>E b.symm)⟩
theorem lh(W:World)(b k:Nat)(a:Nat)(c:a<=W){g:Nat}(d:W=g):(W.alloc (.cells #[] b)).ownsRow a b k (.slice (some ⟨g,0,none⟩) 0 0) 0 []:=by
 subst d;exact⟨by simp,.inr ⟨_,0,#[],rfl,c,heap_alloc_new W _,Tz _,by simp,by simp,by simp⟩⟩
theorem uQ{w:World}{v:Value}{n:Nat}{xs:List Value}(a:Flat w 2 v n xs)(y:n<=4294967296):Calls prog 56 #[v] w fun q e=>(∃d,q=.returned d/\e.ownsRow w 42 2 d n xs)/\Ext w e:=by
 obtain⟨f,g,rfl,b,i⟩:=a.ex;have x:=fun o=>Lib.run_eql_slice_nil (P:=prog) o 67 42 f n g 0 0 underlying67;have c:=a.len;cases f with
 |none=>
  obtain rfl:=b rfl;have t:=TC (by simpa using c);subst t;clear a b i c;go_enter func56,ntmps56;go_wp2;go_ret;exact⟨⟨_,rfl,U8 _ _ _ _⟩,Kp.rr⟩
 |some p=>
  have k:=Zy (a.ext (jh (.cells #[] 42):Ext w _));have s:0+n<=8589934592:=Zm
  clear a b i c;go_enter func56,ntmps56;go_wp2_with (at_builtin;refine nZ uV _ rfl _ _ rfl w _ 0 [] rfl (lh w _ 2 _ (Tz _) rfl) p n g xs rfl k s Zl ?_);intro d e j h;have⟨m,l⟩:=jc j h;clear j h;go_wp2;go_ret;exact⟨⟨_,rfl,by simpa using m.o⟩,(jh _:Ext w _).own l.o (fun u r=>by simp only[Value.ownBlock,TF]at r;omega)⟩
theorem uP{w:World}{v:Value}{n:Nat}{xs:List Value}(a:Flat w 2 v n xs)(y:n<=4294967296):Calls prog 195 #[v] w fun q e=>(∃d,q=.returned d/\e.ownsRow w 236 2 d n xs)/\Ext w e:=by
 obtain⟨f,g,rfl,b,i⟩:=a.ex;have x:=fun o=>Lib.run_eql_slice_nil (P:=prog) o 193 236 f n g 0 0 underlying193;have c:=a.len;cases f with
 |none=>
  obtain rfl:=b rfl;have t:=TC (by simpa using c);subst t;clear a b i c;go_enter func195,ntmps195;go_wp2;go_ret;exact⟨⟨_,rfl,U8 _ _ _ _⟩,Kp.rr⟩
 |some p=>
  have k:=Zy (a.ext (jh (.cells #[] 236):Ext w _));have s:0+n<=8589934592:=Zm
  clear a b i c;go_enter func195,ntmps195;go_wp2_with (at_builtin;refine nZ wC _ rfl _ _ rfl w _ 0 [] rfl (lh w _ 2 _ (Tz _) rfl) p n g xs rfl k s Zl ?_);intro d e j h;have⟨m,l⟩:=jc j h;clear j h;go_wp2;go_ret;exact⟨⟨_,rfl,by simpa using m.o⟩,(jh _:Ext w _).own l.o (fun u r=>by simp only[Value.ownBlock,TF]at r;omega)⟩
theorem zi{w:World}{v:Value}{n:Nat}{xs:List Value}(a:Flat w 1 v n xs)(y:n<=4294967296):Calls prog 55 #[v] w fun q e=>(∃d,q=.returned d/\e.ownsRow w 3 1 d n xs)/\Ext w e:=by
 obtain⟨f,g,rfl,b,i⟩:=a.ex;have x:=fun o=>Lib.run_eql_slice_nil (P:=prog) o 26 3 f n g 0 0 underlying26;have c:=a.len;cases f with
 |none=>
  obtain rfl:=b rfl;have t:=TC (by simpa using c);subst t;clear a b i c;go_enter func55,ntmps55;go_wp2;go_ret;exact⟨⟨_,rfl,U8 _ _ _ _⟩,Kp.rr⟩
 |some p=>
  have k:=Zy (a.ext (jh (.cells #[] 3):Ext w _));have s:0+n<=8589934592:=Zm
  clear a b i c;go_enter func55,ntmps55;go_wp2_with (at_builtin;refine nZ Dz _ rfl _ _ rfl w _ 0 [] rfl (lh w _ 1 _ (Tz _) rfl) p n g xs rfl k s Zl ?_);intro d e j h;have⟨m,l⟩:=jc j h;clear j h;go_wp2;go_ret;exact⟨⟨_,rfl,by simpa using m.o⟩,(jh _:Ext w _).own l.o (fun u r=>by simp only[Value.ownBlock,TF]at r;omega)⟩
def jR{α:Type}(R:mH α)(w:World)(I:Nat->Prop):List α->List (List Value)->Prop
 |[],[]=>True
 |x::xs,c::cs=>R w I x c/\jR R w I xs cs
 |_,_=>False
theorem jR.get{α:Type}{R:mH α}{w:World}{I:Nat->Prop}:∀{xs:List α} {css:List (List Value)},jR R w I xs css->∀(i:Nat) (x:α),xs[i]?=some x->∃a,css[i]?=some a/\R w I x a
 |[],[],_,i,x,h=>by simp at h
 |y::xs,a::cs,h,0,x,hx=>by
  simp at hx;subst hx;exact⟨a,rfl,h.1⟩
 |y::xs,a::cs,h,i+1,x,hx=>by
  obtain⟨b,c,d⟩:=jR.get h.2 i x (by simpa using hx);exact⟨b,by simpa using c,d⟩
 |[],_::_,h,_,_,_=>h.elim
 |_::_,[],h,_,_,_=>h.elim
theorem Ab{k:Nat}:∀{css:List (List Value)},(∀c∈css,c.length=k)->∀(i:Nat) (c:List Value),css[i]?=some c->∀(j:Nat) (a:Value),c[j]?=some a->css.flatten[i*k+j]?=some a
 |[],_,i,c,h,_,_,_=>by simp at h
 |d::r,hk,0,c,h,j,a,hu=>by
  simp at h;subst h;rw[UF,Tn (SK ((Tv.1 hu).1))];simpa using hu
 |d::r,hk,i+1,c,h,j,a,hu=>by
  have b:=hk d Zl;rw[UF,TR (by rw[b,UW];omega)];have:=Ab (fun c e=>hk c (UZ _ e)) i c (by simpa using h) j a hu;rw[b,show(i+1)*k+j - k=i*k+j by rw[UW];omega];exact this
theorem SliceOf.row{α:Type}{k:Nat}{R:mH α}{w:World}{I:Nat->Prop}{g:Nat}{xs:List α}(css:List (List Value)){cells:List Value}(f:hH w g 0 cells)(i:cells=css.flatten)(d:∀a∈css,a.length=k)(hR:jR R w I xs css) (hI:I g) {b:Nat} (h:xs.length<=b) (l:xs.length<=4294967296):SliceOf k R w I (g,xs.length,b) xs:=
 ⟨_,b,rfl,h,l,fun e q n=>by
  obtain⟨a,c,m⟩:=hR.get e q n;refine⟨g,0,a,rfl,hI,m,d a (Sy c),fun o p j=>?_⟩;have:=f _ _ (by rw[i];exact Ab d e a c o p j);simpa [Ul]using this⟩
theorem SliceOf.css{α:Type}{k:Nat}{R:mH α}{w:World}{I:Nat->Prop}{v:Value}:∀{xs:List α},SliceOf k R w I v xs->∃d:List (List Value),d.length=xs.length/\(∀c∈d,c.length=k)/\jR R w I xs d/\∀(p:Addr) (n c:Nat),v=.slice (some p) n c->∀(i:Nat) (c:List Value),d[i]?=some c->∃a b,p=⟨a,b,none⟩/\I a/\hH w a (b+i*k) c:=by
 intro xs g;obtain⟨B,P,rfl,Q,S,G⟩:=g;have M:∀(o:List α) (e:Nat),(∀(i:Nat) (h:α),o[i]?=some h->∃a b f,B=some ⟨a,b,none⟩/\I a/\R w I h f/\f.length=k/\hH w a (b+(e+i)*k) f)→
     ∃d:List (List Value),d.length=o.length/\(∀c∈d,c.length=k)/\jR R w I o d/\∀(i:Nat) (c:List Value),d[i]?=some c->∃a b,B=some ⟨a,b,none⟩/\I a/\hH w a (b+(e+i)*k) c:=by
  intro o;induction o with
  |nil=>exact fun e _=>⟨[],rfl,by simp,trivial,fun i c g=>by simp at g⟩
  | cons O T L =>
   intro e g;obtain⟨d,q,r,s,t⟩:=L (e+1) (fun i h A=>by
    obtain⟨a,b,f,j,l,z,y,m⟩:=g (i+1) h (by simpa using A);exact⟨a,b,f,j,l,z,y,by rw[show e+1+i=e+(i+1) by omega];exact m⟩)
   obtain⟨a,b,f,j,l,z,y,m⟩:=g 0 O rfl;refine⟨f::d,by simp[q],fun c u=>(TI.1 u).elim (fun E=>by rw[E];exact y) (r c),⟨z,s⟩,fun i c x=>?_⟩;cases i with
   |zero=>simp at x;subst x;exact⟨a,b,j,l,m⟩
   |succ i=>
    obtain⟨C,N,F,H,u⟩:=t i c (by simpa using x);exact⟨C,N,F,H,by rw[show e+(i+1)=e+1+i by omega];exact u⟩
 obtain⟨d,q,r,s,t⟩:=M xs 0 (fun i h A=>by simpa using G i h A);refine⟨d,q,r,s,fun p n c K i D J=>?_⟩;cases K;obtain⟨a,b,j,l,m⟩:=t i D J;cases j;exact⟨a,b,rfl,l,by simpa using m⟩
theorem jR.snoc{α:Type}{R:mH α}{w:World}{I:Nat->Prop}{x:α}{c:List Value}:∀{xs:List α} {css:List (List Value)},jR R w I xs css->R w I x c->jR R w I (xs++[x]) (css++[c])
 |[],[],_,h=>⟨h,trivial⟩
 |_::_,_::_,h,hx=>⟨h.1,jR.snoc h.2 hx⟩
 |[],_::_,h,_=>h.elim
 |_::_,[],h,_=>h.elim
theorem jR.keep{α:Type}{R:mH α}(hR:jK R){w d:World}{I J:Nat->Prop}(c:Same I w d)(b:∀a,I a->J a):∀{xs:List α} {css:List (List Value)},jR R w I xs css->jR R d J xs css
 |[],[],_=>trivial
 |_::_,_::_,h=>⟨hR _ _ _ _ _ _ c b h.1,jR.keep hR c b h.2⟩
 |[],_::_,h=>h.elim
 |_::_,[],h=>h.elim
theorem SliceOf.inside{α:Type}{k:Nat}{R:mH α}(hR:∀w I c b,R w I c b->R w (fun a=>I a/\a<w) c b)(x:0<k){w:World}{I:Nat->Prop}{v:Value}{xs:List α}(j:SliceOf k R w I v xs):SliceOf k R w (fun a=>I a/\a<w) v xs:=by
 obtain⟨f,g,h,l,m,n⟩:=j;refine⟨f,g,h,l,m,fun s c r=>?_⟩;obtain⟨a,t,b,i,o,q,e,d⟩:=n s c r;have p:a<w:=by
  cases b with
  |nil=>simp at e;omega
  |cons u y=>exact iV (d 0 u rfl)
 exact⟨a,t,b,i,⟨o,p⟩,hR _ _ _ _ q,e,d⟩
theorem Dx{k:Nat}:∀{css:List (List Value)},(∀c∈css,c.length=k)->css.flatten.length=css.length*k
 |[],_=>by simp
 |c::r,h=>by
  rw[UF,TL,Dx (fun c a=>h c (UZ _ a)),h c Zl,Tc,UW];omega
theorem FR{k:Nat}(m:0<k):∀{css:List (List Value)},(∀c∈css,c.length=k)->∀a e,css.flatten[a]?=some e->∃b d c,css[b]?=some c/\c[d]?=some e/\a=b*k+d
 |[],_,a,e,h=>by simp at h
 |c::t,h,a,e,hu=>by
  have g:=h c Zl;rw[UF]at hu;rcases Uo a c.length with f|f
  . rw[Tn f]at hu;exact⟨0,a,c,rfl,hu,Zm⟩
  . rw[TR f]at hu;obtain⟨b,d,i,j,l,n⟩:=FR m (fun c g=>h c (UZ _ g)) _ _ hu;exact⟨b+1,d,i,by simpa using j,l,by rw[UW];omega⟩
def One{α:Type}(R:mH α):Prop:=∀w I x cs,R w I x cs->∀u∈cs,u.oneCell'=true
theorem One.ins:One yw:=fun _ _ _ _ b c a=>by subst b;simp at a;rcases a with rfl|rfl|rfl|rfl<;>rfl
theorem One.ask:One uT:=fun _ _ _ _ b c a=>by subst b;simp at a;rcases a with rfl|rfl<;>rfl
theorem One.field:One lq:=fun _ _ _ _ b c a=>by subst b;simp at a;rcases a with rfl|rfl|rfl<;>rfl
theorem One.smap:One mW:=fun _ _ _ _ b c a=>by obtain⟨_,_,_,_,rfl⟩:=b.form;simp at a;rcases a with rfl|rfl|rfl<;>rfl
theorem One.Si:One jb:=fun _ _ _ _ b c a=>by obtain⟨_,_,_,_,_,_,rfl⟩:=b.form;simp at a;rcases a with rfl|rfl|rfl|rfl|rfl|rfl|rfl|rfl<;>rfl
theorem One.cls:One jB:=fun _ _ _ _ b c a=>by obtain⟨_,_,_,_,rfl⟩:=b.form;simp at a;rcases a with rfl|rfl|rfl|rfl<;>rfl
theorem One.keep:One iX:=fun _ _ _ _ b c a=>by obtain⟨_,_,_,_,rfl⟩:=b.form;simp at a;rcases a with rfl|rfl<;>rfl
theorem jR.one{α:Type}{R:mH α}(d:One R){w:World}{I:Nat->Prop}:∀{xs:List α} {css:List (List Value)},jR R w I xs css->∀b∈css.flatten,b.oneCell'=true
 |[],[],_=>by simp
 |_::_,c::css,h=>by
  intro b a;rw[UF,Ty]at a;rcases a with a|a
  . exact d _ _ _ _ h.1 b a
  . exact jR.one d h.2 b a
 |[],_::_,h=>h.elim
 |_::_,[],h=>h.elim
theorem jR.len{α:Type}{R:mH α}{w:World}{I:Nat->Prop}:∀{xs:List α} {css:List (List Value)},jR R w I xs css->css.length=xs.length
 |[],[],_=>rfl
 |_::_,_::_,h=>by rw[Tc,Tc,jR.len h.2]
 |[],_::_,h=>h.elim
 |_::_,[],h=>h.elim
theorem jR.app{α:Type}{R:mH α}{w:World}{I:Nat->Prop}{b:List α}{a:List (List Value)}:∀{xs:List α} {css:List (List Value)},jR R w I xs css->jR R w I b a->jR R w I (xs++b) (css++a)
 |[],[],_,h=>h
 |_::_,_::_,h,hx=>⟨h.1,jR.app h.2 hx⟩
 |[],_::_,h,_=>h.elim
 |_::_,[],h,_=>h.elim
theorem SliceOf.cells{α:Type}{k:Nat}{R:mH α}(B:One R)(y:0<k){w:World}{I:Nat->Prop}{a:Option Addr}{n c:Nat}{xs:List α}(h:SliceOf k R w I (.slice a n c) xs):∃b,(∀c∈b,c.length=k)/\jR R w I xs b/\Flat w k (.slice a n c) n b.flatten:=by
 obtain⟨b,s,f,i,t⟩:=h.css;have x:=h;obtain⟨D,F,d,-,-,u⟩:=x;cases d;refine⟨b,f,i,by rw[Dx f,s],⟨_,_,rfl,fun d=>?_,fun m d A l z=>?_⟩,i.one B⟩
 . cases xs with
   |nil=>rfl
   |cons C g=>obtain⟨_,_,_,e,_⟩:=u 0 C rfl;rw[d]at e;cases e
 . subst d;obtain⟨j,g,o,p,e,rfl⟩:=FR y f A l z;obtain⟨E,H,rfl,-,v⟩:=t m _ _ rfl j o p;have:=v g l e;unfold Addr.add;split
   . rename_i G;have q:j*k=0:=Zm
     have r:g=0:=Zm
     rw[q,r]at this;exact this
   . simpa [Ul]using this
theorem jR.at_{α:Type}{R:mH α}{w:World}{I:Nat->Prop}{xs:List α}{css:List (List Value)}(c:jR R w I xs css){J:Nat->Prop}{b:World}(hR:jK R)(e:Same I w b)(d:∀a,I a->J a):jR R b J xs css:=c.keep hR e d
theorem SliceOf.owned{α:Type}{k:Nat}{R:mH α}{w:World}{I:Nat->Prop}{base h n:Nat}{v:Value}{css:List (List Value)}{xs:List α}(e:w.ownsRow base h k v n css.flatten)(d:∀f∈css,f.length=k)(l:0<k)(hR:jR R w I xs css) (hI:∀b,base<=b->b<w.heap.size->I b) (o:xs.length<=4294967296):SliceOf k R w I v xs:=by
 have p:n=xs.length:=by
  have:=e.1;rw[Dx d,hR.len]at this;exact(Nat.eq_of_mul_eq_mul_right l this).symm
 subst p;rcases e.2 with⟨rfl,i⟩|⟨g,r,s,rfl,j,c,m,_,t,q⟩
 . have:xs=[]:=Ua.1 i;subst this;exact SliceOf.nil _ _ _ _
 . refine SliceOf.row css (g:=g) (cells:=css.flatten) (fun u x a=>?_) rfl d hR (hI g j (Tk.1 c).1) m o;rw[<-q,Uv]at a;split at a
   . simp only[World.cell?,c];simpa [Tq]using a
   . cases a
theorem Bi{t d k:Nat}(h:Elem t d k)(w:World){g:Array Oper}{rest:List Oper}{b:Oper}{a:Act}{Q:Exit->Act->World->Prop}(l:b.guard=none)(s x:Operand)
    (o:b.op=.call {callee:=.builtin .append,args:=#[s,x],argTypes:=#[t,t]}) {base n c:Nat} {v:Value} {xs:List Value} (r:a.eval s=v) (p:w.ownsRow base d k v n xs) (u:a.eval x=.slice none 0 c)
    (i:wpList prog g Q rest (a.put b.dst v) w):wpList prog g Q (b::rest) a w:=by
 obtain⟨K,L,bytes,f,e,I,H,E,J,G,C⟩:=h;refine Wz l fun y j=>?_;have q:(Builtin.append_ #[t,t] b.type #[v,.slice none 0 c]).run prog w=.ok v w:=by
  rcases p.2 with⟨rfl,rfl⟩|⟨B,z,A,rfl,F,D,m,_⟩
  . simp[Builtin.append_,underlying,f,sizeOf,typeInfo,e,Ui,Builtin.lenOf,Builtin.firstCells]
  . simp[Builtin.append_,underlying,f,sizeOf,typeInfo,e,Ui,Builtin.lenOf,Builtin.firstCells,m,storeCells]
 unfold Oper.wp execOp;simp only[o,resolve,invoke,builtin,Ui,Sem.run_pure,UU,List.map_toArray,TH,Vm,r,u,q];exact j _ _ i
theorem jJ{t e k:Nat}(i:Elem t e k)(w:World){u:Array Oper}{rest:List Oper}{d:Oper}{a:Act}{Q:Exit->Act->World->Prop}(o:d.guard=none)(s x:Operand)
    (p:d.op=.call {callee:=.builtin .append,args:=#[s,x],argTypes:=#[t,t]}) (base:Nat) (v:Value) (n:Nat) (xs:List Value) (q:a.eval s=v) (f:w.ownsRow base e k v n xs)
    (b:Option Addr) (m c:Nat) (g:List Value) (r:a.eval x=.slice b m c) (l:Flat w k (.slice b m c) m g)
    (F:n+m<=8589934592) (D:base<=w)
    (j:∀y h,h.ownsRow base e k y (n+m) (xs++g)->Kp (fun z=>v.ownBlock=some z) w h->wpList prog u Q rest (a.put d.dst y) h):
    wpList prog u Q (d::rest) a w:=by
 cases b with
 |some b=>exact nZ i w o s x p base v n xs q f b m c g r l F D j
 |none=>
  obtain⟨B,⟨H,I,A,C,-⟩,-⟩:=l;cases A;have E:=C rfl;subst E;have G:=Ua.1 (by rw[B,UX]);subst G;refine Bi i w o s x p q f r (j v w (by simpa using f) Kp.rr)
def BytesAt(W:World)(v:Value)(zs:List Int):Prop:=
 (v=.slice none 0 0/\zs=[])\/∃a cap,v=.slice (some a) zs.length cap/\zs.length<=cap/\(∀i,i<zs.length->W.cell? (a.add i)=some (.int .u8 (zs.getD i 0)))/\∀n∈zs,0<=n/\n<256
theorem BytesAt.form{W:World}{v:Value}{c:List Int}(d:BytesAt W v c):∃a b,v=.slice a c.length b:=by
 rcases d with⟨rfl,rfl⟩|⟨a,b,rfl,_⟩
 . exact⟨none,0,rfl⟩
 . exact⟨_,_,rfl⟩
theorem y9{W:World}{a:Addr}{v:Value}(c:W.cell? a=some v):a.block<W:=by
 rcases Uo a.block W with b|b
 . exact b
 . simp[World.cell?,Uk b]at c
theorem BytesAt.ext{W b:World}{v:Value}{f:List Int}(a:BytesAt W v f)(l:Ext W b):BytesAt b v f:=by
 rcases a with a|⟨g,h,i,j,c,k⟩
 . exact .inl a
 . exact .inr ⟨g,h,i,j,fun e d=>(UK (l.block _ (y9 (c e d)) fun m=>m)).trans (c e d),k⟩
theorem Bw{a:List Int}(d:∀b∈a,0<=b/\b<256){i:Nat}(e:i<a.length):0<=a.getD i 0/\a.getD i 0<256:=by
 have c:a.getD i 0=a[i]:=by simp[List.getD,Dj e]
 rw[c];exact d _ (UL _)
def RZ(f:FuncId):Prop:=∀(W:World) (v:Value) (zs:List Int),BytesAt W v zs->Calls Tryz.prog f #[v] W fun e W'=>e=.returned (.bool true)/\Ext W W'
structure qh(w:World)(rb:Nat)(v:Value)(zs:List Int)(p:Nat):Prop where
 blk:h9 w rb 86 #[v,.int .i64 p]
 Rj:BytesAt w v zs
 own:zs.length≠0->∀a n c,v=.slice (some a) n c->a.block≠rb
 len:zs.length<=2000
theorem add_block(a:Addr)(i:Nat):(a.add i).block=a.block:=by
 unfold Addr.add;split<;>rfl
theorem BytesAt.kp{D:Nat->Prop}{W d:World}{v:Value}{c:List Int}(b:BytesAt W v c)(n:Kp D W d)(m:c.length≠0->∀a o i,v=.slice (some a) o i->¬D a.block):BytesAt d v c:=by
 rcases b with b|⟨a,j,e,k,f,l⟩
 . exact .inl b
 . exact .inr ⟨a,j,e,k,fun h g=>(UK (n.block _ (y9 (f h g)) (by rw[add_block];exact m Zm a _ _ e))).trans (f h g),l⟩
theorem qh.ext{w d:World}{c p:Nat}{v:Value}{e:List Int}(a:qh w c v e p)(b:Ext w d):qh d c v e p:=
 ⟨a.blk.ext b,a.Rj.ext b,a.own,a.len⟩
theorem qh.next{w:World}{a p:Nat}{v:Value}{d:List Int}(b:qh w a v d p)(q:Nat):qh (w.setCell (a,1) q) a v d q/\Kp (·=a) w (w.setCell (a,1) q):=by
 have c:Kp (·=a) w (w.setCell (a,1) q):=qA;exact⟨⟨b.blk.jE 1 _,b.Rj.kp c (fun h e i f g=>b.own h e i f g),b.own,b.len⟩,c⟩
def QO(n:Int)(e:Ending):Prop:=∃k:Nat,e=.returned (.int .i64 k)/\(k=0\/(k:Int)<n)
theorem Lu{a b:Int}(h:0<=a)(i:a<9223372036854775808)(j:0<=b)(k:b<9223372036854775808):0<=bits .xor .i64 a b:=by
 obtain⟨c,rfl⟩:∃c:Nat,a=c:=⟨a.toNat,Zm⟩;obtain⟨d,rfl⟩:∃d:Nat,b=d:=⟨b.toNat,Zm⟩;have l:c ^^^ d<2 ^ 63:=Nat.xor_lt_two_pow Zm Zm;have e:(BitVec.ofInt 64 (c:Int)).toNat=c:=by
  rw[BitVec.ofInt_natCast,BitVec.toNat_ofNat];exact W9 Zm
 have f:(BitVec.ofInt 64 (d:Int)).toNat=d:=by
  rw[BitVec.ofInt_natCast,BitVec.toNat_ofNat];exact W9 Zm
 have g:bits .xor .i64 (c:Int) (d:Int)=IntKind.i64.wrap (((BitVec.ofInt 64 (c:Int)^^^ BitVec.ofInt 64 (d:Int)).toNat:Nat):Int):=rfl;rw[g,BitVec.toNat_xor,e,f];simp only[IntKind.wrap,IntKind.bits,IntKind.signed];have:((2:Int)^ 63)=9223372036854775808:=by decide
 simp;omega
theorem JC{n r:Int}(h0:0<=r)(a:r<n):QO n (.returned r):=⟨r.toNat,by rw[Int.toNat_of_nonneg h0],.inr Zm⟩
theorem kH(w:World)(h p:Nat)(v:Value)(a:List Int)(n:Int)(c:qh w h v a p)(Y:p<=1000000)(X:n<=1000000000):Calls prog 37 #[some h,n] w fun t G=>QO n t/\qh G h v a (p+1)/\Kp (·=h) w G:=by
 obtain⟨va,vc,rfl⟩:=c.Rj.form;obtain⟨P,M,N,-⟩:=c.blk.ca;have S:=c.blk.frozen 1;have E:=c.next (p+1);have⟨i,z⟩:=jc E c;have W:=c.len;clear E c;by_cases U:n<1
 . go_enter func37,ntmps37;go_wp2;go_ret;exact⟨⟨0,rfl,.inl rfl⟩,i⟩
 by_cases u:a.length=0
 . obtain rfl:=Ua.1 u;go_enter func37,ntmps37;go_wp2;go_ret;exact⟨⟨0,rfl,.inl rfl⟩,i⟩
 have T:((a.length:Int)==0)=false:=SI.2 Zm;rcases z.o.Rj with⟨-,t⟩|⟨H,O,A,V,o,j⟩
 . subst t;simp at u
 cases A;have l:=fun b e=>by
  have q:Kp (·=h) w (w.setCell (h,1) (.int .i64 ((p:Int)+1))):=qA;exact(UK (q.block _ (y9 (o b e)) (by rw[add_block];exact z.own u H _ _ rfl))).trans (o b e)
 by_cases q:p<a.length
 . have s:=l p q;have k:=Bw j q;obtain⟨d,m⟩:∃d,a.getD p 0=d:=⟨_,rfl⟩;rw[m]at s k;obtain⟨K,L⟩:=k;clear l o j m;go_enter func37,ntmps37;go_wp2;go_ret;exact⟨JC (Int.emod_nonneg _ Zm) (Int.emod_lt_of_pos _ Zm),i⟩
 . obtain⟨b,e⟩:∃b,p % a.length=b:=⟨_,rfl⟩;obtain⟨f,x⟩:∃f,(p*7+3)% a.length=f:=⟨_,rfl⟩;obtain⟨g,y⟩:∃g,p / a.length=g:=⟨_,rfl⟩;have C:b<a.length:=by rw[<-e];exact Nat.mod_lt _ Zm
   have D:f<a.length:=by rw[<-x];exact Nat.mod_lt _ Zm
   have Z:g<=p:=by rw[<-y];exact Nat.div_le_self _ _
   have s:=l b C;have I:=l f D;have k:=Bw j C;have B:=Bw j D;obtain⟨d,m⟩:∃d,a.getD b 0=d:=⟨_,rfl⟩;obtain⟨r,F⟩:∃r,a.getD f 0=r:=⟨_,rfl⟩;rw[m]at s k;rw[F]at I B;have A:(p:Int)% (a.length:Int)=b:=by rw[<-e];simp
   have Q:((p:Int)*7+3)% (a.length:Int)=f:=by rw[<-x];simp
   have R:(p:Int)/ (a.length:Int)=g:=by rw[<-y];simp
   obtain⟨K,L⟩:=k;obtain⟨aa,ae⟩:=B;clear l o j m F e x y;go_enter func37,ntmps37;go_wp2_with fail;go_quiet (fail);go_wp2_with fail;have J:0<=bits BinOp.xor IntKind.i64 (d*131+r*1117+p*29+g*53) ((d*131+r*1117+p*29+g*53)/ 64):=Lu Zm Zm Zm Zm;go_ret;exact⟨JC (Int.tmod_nonneg _ J) (Int.tmod_lt_of_pos _ Zm),i.1.ext (Kp.rr.drewN _),i.2.drewN _⟩
def RP(e:Ending):Prop:=∃b,e=.returned (.bool b)
theorem Py(w:World)(a p:Nat)(v:Value)(b:List Int)(n:Int)(d:qh w a v b p)(j:p<=1000000)(i:n<=1000000000)(k: -1000000000<=n):Calls prog 34 #[some a,n] w fun c f=>RP c/\qh f a v b (p+1)/\Kp (·=a) w f:=by
 have g:=Zy (kH w a p v b n d j i);clear d;go_enter func34,ntmps34;go_wp2_with fail;refine g.mono ?_;rintro c m ⟨⟨l,rfl,-⟩,e⟩;have h:=Zy e;clear e;go_wp2;go_ret;exact⟨⟨_,rfl⟩,h⟩
theorem Qw(w:World){v:Value}(d:List Int)(f:BytesAt w v d):Calls prog 13 #[v] w fun b o=>(∃m y A,b=.returned (.pointer (some ⟨m,0,none⟩))/\w.heap.size<=m/\qh o m y A 0)/\Ext w o:=by
 obtain⟨z,n,rfl⟩:=f.form;by_cases t:2000<d.length
 . rcases f with⟨-,rfl⟩|⟨a,q,j,r,g,l⟩
   . simp at t
   cases j;have h:Zz (BytesAt w (.slice (some a) 2000 n) (d.take 2000)):=Zy (.inr ⟨a,n,by rw[Tf,Ue Zm],by rw[Tf];omega,fun x s=>by
    rw[Tf]at s;rw[g x Zm];simp only[List.getD,Uv];rw[SV Zm],fun c u=>l c (U2 u)⟩)
   have i:=Zy (by have:=y9 (g 0 Zm);rwa[add_block]at this);clear g l;go_enter func13,ntmps13;go_wp2;go_ret;refine⟨⟨w,_,d.take 2000,rfl,Tz _,h9.new _ _ _,h.ext (jh _),fun _ p c e b=>?_,by rw[Tf];omega⟩,kx⟩;cases b;have:=i.o;omega
 . have h:=Zy f;have i:Zz (∀a c e,Value.slice z d.length n=.slice (some a) c e->d.length≠0->a.block<w):=Zy (fun a c e b k=>by
    rcases f with⟨-,rfl⟩|⟨p,q,j,r,g,l⟩
    . simp at k
    . cases b;cases j;have:=y9 (g 0 Zm);rwa[add_block]at this)
   clear f;go_enter func13,ntmps13;go_wp2;go_ret;exact⟨⟨w,_,d,rfl,Tz _,h9.new _ _ _,h.ext (jh _),fun k a c e b=>Nat.ne_of_lt (i a c e b k),Zm⟩,kx⟩
def Bj(t k:Nat):Prop:=∃fs,Tryz.prog.underlying t=some (.struct fs)/\(Tryz.prog.info? t).map (·.size)=some k
theorem Bj.is{t k:Nat}(c:Bj t k)(w:World):(isAgg t).run prog w=.ok true w/\(sizeOf t).run prog w=.ok k w:=by
 obtain⟨g,d,a⟩:=c;cases b:prog.info? t with
 |none=>rw[b]at a;cases a
 |some f=>
  rw[b]at a;have e:f.size=k:=by simpa using a
  subst e;constructor
  . unfold isAgg;rw[Ui,Vr d w];simp
  . simp[sizeOf,typeInfo,b]
theorem rG{t k:Nat}(c:Bj t k){w:World}{b a:Nat}{cs:List Value}(h:hH w b a cs)(hl:cs.length=k):(loadVar t (b,a)).run prog w=.ok (.agg cs.toArray) w:=by
 subst hl;obtain⟨e,f⟩:=c.is w;have g:=run_loadCells_list (P:=prog) w (b,a) cs (fun j l i=>by
  have:=h j l i;unfold Addr.add;split
  . rename_i d;subst d;simpa using this
  . exact this)
 simp[loadVar,Ui,e,f,g]
theorem J4{t k:Nat}(e:Bj t k){c:Oper}{a:Act}{w:World}{K:Act->World->Prop}{Q:Exit->Act->World->Prop}(x:Operand)(h:c.op=.load t x)(b d:Nat) (i:a.eval x=.pointer (some ⟨b,d,none⟩)) (cs:List Value) (g:hH w b d cs) (hl:cs.length=k) (f:K (a.put c.dst (.agg cs.toArray)) w):c.wp prog a w K Q:=by
 unfold Oper.wp execOp;simp only[h,i,Instr.loadAt,Instr.sureAddr,Ui,Sem.run_pure,UU,rG e g hl];exact f
theorem C9{t k:Nat}(f:Bj t k){e:Array Oper}{rest:List Oper}{c:Oper}{a:Act}{w:World}{Q:Exit->Act->World->Prop}(j:c.guard=none){x:Operand}(l:c.op=.load t x){b d:Nat} (m:a.eval x=.pointer (some ⟨b,d,none⟩)) {cs:List Value} (i:hH w b d cs) (hl:cs.length=k) (g:wpList prog e Q rest (a.put c.dst (.agg cs.toArray)) w):wpList prog e Q (c::rest) a w:=
 Wz j fun _ h=>J4 f x l b d m cs i hl (h _ _ g)
theorem jA{t k:Nat}(c:Bj t k){fn:Func}{p:Tmp}(e:fn.results=#[.cell p t]){a:Array Value}{w:World}(b:Nat)(f:a.getD p undef=.pointer (some ⟨b,0,none⟩))(cs:List Value)(d:hH w b 0 cs)(hl:cs.length=k):(results fn a).run prog w=.ok (.agg cs.toArray) w:=by
 have g:a[p]?.getD undef=.pointer (some ⟨b,0,none⟩):=by simpa using f
 simp[results,e,g,asAddr,rG c d hl]
theorem h7{t k:Nat}(c:Bj t k){fn:Func}{p q:Tmp}(e:fn.results=#[.cell p t,.tmp q]){a:Array Value}{w:World}(b:Nat)(f:a.getD p undef=.pointer (some ⟨b,0,none⟩))(cs:List Value)(d:hH w b 0 cs)(hl:cs.length=k):(results fn a).run prog w=.ok (.tuple #[.agg cs.toArray,a.getD q undef]) w:=by
 have g:a[p]?.getD undef=.pointer (some ⟨b,0,none⟩):=by simpa using f
 simp[results,e,g,asAddr,rG c d hl]
theorem LG:Bj 64 2:=⟨_,underlying64,by kernel_rfl⟩
theorem Ke:Bj 113 8:=⟨_,underlying113,by kernel_rfl⟩
theorem Al:Bj 66 3:=⟨_,underlying66,by kernel_rfl⟩
theorem vY:Bj 173 5:=⟨_,underlying173,by kernel_rfl⟩
theorem Am:Bj 42 2:=⟨_,underlying42,by kernel_rfl⟩
theorem lI:Bj 44 6:=⟨_,underlying44,by kernel_rfl⟩
theorem wm(w:World)(x:Int)(h0:0<=x)(f:x<256):(convert 22 9 (.slice (some ⟨w,0,none⟩) 1 1)).run prog (w.alloc (.cells #[.int .u8 x] 5))=.ok (.string (M.bs [UInt8.ofNat x.toNat])) (w.alloc (.cells #[.int .u8 x] 5)):=by
 refine Lib.run_convert_whole (P:=prog) _ 22 5 9 underlying22 underlying5 underlying9 w 0 (M.bs [UInt8.ofNat x.toNat]) ?_ 1;intro e g;have b:e=0:=by
  have:(M.bs [UInt8.ofNat x.toNat]).size=1:=rfl;omega
 subst b;rw[(h9.new w 5 #[.int .u8 x]).cell];have c:x.toNat % 256=x.toNat:=W9 Zm;have d:=Int.toNat_of_nonneg h0;have a:(M.bs [UInt8.ofNat x.toNat])[0]=UInt8.ofNat x.toNat:=rfl;simp[a,UInt8.toNat_ofNat',c,d]
theorem wQ(l:List UInt8):(M.bs l).size=l.length:=by simp[M.bs,ByteArray.size]
theorem JO{n:Int}{w:World}(h0: -9223372036854775808<=n)(o:n<=9223372036854775807):Calls prog 38 #[n] w fun i l=>(∃b,i=.returned (.string b)/\(0<=n->n<=2->b=M.bs (M.digit n))/\9*(b.size:Int)<=n.natAbs+18)/\Ext w l:=by
 go_enter func38,ntmps38;go_wp2;go_loopw [0,3] (fun d k wr=>∃(a:Int) (b:ByteArray),d=.int .i64 a/\k=.string b/\a<=n/\((a=n/\b.size=0)\/0<=a/\9*(b.size:Int)+a<=n)/\Zz (n<=2->a=n/\b=⟨#[]⟩)/\Ext w wr) (fun d _ _=>(intOf d).toNat)
 case atStart=>exact⟨n,⟨#[]⟩,rfl,rfl,Int.le_refl _,.inl ⟨rfl,rfl⟩,Zy (fun _=>⟨rfl,rfl⟩),Kp.rr⟩
 case round=>
  obtain⟨a,b,rfl,rfl,q,r,g,f⟩:=hrel;have e:=Zy f;clear f;have s:b.size<=1030000000000000000:=Zm
  by_cases p:9<a
  . have h:=wm wr (48+a % 10) Zm Zm;have c:=wQ [UInt8.ofNat (48+a % 10).toNat];simp only[UA]at c;go_wp2;go_round
    case rel=>exact⟨a / 10,_,rfl,rfl,Zm,.inr ⟨Zm,by rw[Tj,c];omega⟩,Zy (fun _=>Zm),e.o.trans (jh _)⟩
    case measure=>simp[intOf];omega
  . have h:=wm wr ((48+a)% 256) Zm Zm;have c:=wQ [UInt8.ofNat ((48+a)% 256).toNat];simp only[UA]at c;go_wp2;go_ret;refine⟨⟨_,rfl,fun m j=>?_,by rw[Tj,c];omega⟩,e.o.trans (jh _)⟩;obtain⟨rfl,rfl⟩:=g.o j;have:a=0\/a=1\/a=2:=Zm
    rcases this with rfl|rfl|rfl<;>rfl
theorem Rz(n:Int)(w:World)(h0: -9223372036854775807<=n)(j:n<=9223372036854775807):Calls prog 135 #[n] w fun b f=>(∃a,b=.returned (.string a)/\(0<=n->n<=2->a=M.bs (M.digit n))/\9*(a.size:Int)<=n.natAbs+27)/\Ext w f:=by
 by_cases i:n<0
 . have e:(ByteArray.mk #[45]).size=1:=rfl;go_enter func135,ntmps135;go_wp2_with fail;refine(JO Zm Zm).mono ?_;rintro b g ⟨⟨a,rfl,-,d⟩,c⟩;go_wp2;go_ret;exact⟨⟨_,rfl,fun h _=>Zm,by rw[Tj,e];omega⟩,c⟩
 . go_enter func135,ntmps135;go_wp2_with fail;refine(JO Zm Zm).mono ?_;rintro b g ⟨⟨a,rfl,d,k⟩,c⟩;go_wp2;go_ret;exact⟨⟨_,rfl,d,Zm⟩,c⟩
def LD(m:Nat)(e:Ending):Prop:=∃t:ByteArray,e=.returned (.string t)/\t.size<=m
theorem Qv(w:World)(d p:Nat)(v:Value)(f:List Int)(s:ByteArray)(L:qh w d v f p)(hp:p<=900000)(hs:s.size<=100000000):Calls prog 85 #[some d,s] w fun i X=>LD (s.size+1) i/\(∃b,b<=p+4/\qh X d v f b)/\Kp (·=d) w X:=by
 have G:=Zy (kH w d p v f (s.size+1) L Zm Zm);clear L;go_enter func85,ntmps85;go_wp2_with fail;refine G.mono ?_;rintro i w1 ⟨⟨c,rfl,hk⟩,Q,N⟩;have az:c<=s.size:=Zm
 have⟨H,aa⟩:=jc (kH w1 d (p+1) v f 256 Q Zm Zm) N;clear Q N hk;go_wp2_with fail;refine H.mono ?_;rintro i n ⟨⟨K,rfl,hc⟩,x,O⟩;obtain⟨l,m⟩:=SH (n.alloc (.cells #[.int .i64 32,.int .i64 48,.int .i64 49,.int .i64 57,.int .i64 45,.int .i64 97,.int .i64 35,.int .i64 63,.int .i64 33,.int .i64 47,K] 3));have r:Ext n l:=by rw[m];exact kx
 have Y:Zz (h9 l n 3 #[.int .i64 32,.int .i64 48,.int .i64 49,.int .i64 57,.int .i64 45,.int .i64 97,.int .i64 35,.int .i64 63,.int .i64 33,.int .i64 47,K]):=Zy (by rw[m];exact h9.new _ _ _);have⟨I,ae⟩:=jc (kH l d (p+1+1) v f 11 (x.ext r) Zm Zm) ((aa.trans O).trans r.any);have HZ:=Zy x.blk.lt;have ai:=Zy m;clear x O r m;go_wp2_with fail;rw[<-ai.o];refine I.mono ?_;rintro i o ⟨⟨a,rfl,hj⟩,R,u⟩;have ay:a<11:=Zm
 have T:=Y.kp u (SK HZ.o);obtain⟨e,U,V,W⟩:∃e:Int,o.cell? (n,a)=some (.int .i64 e)/\0<=e/\e<256:=by
  have ak:=T.cell a;have:a=0\/a=1\/a=2\/a=3\/a=4\/a=5\/a=6\/a=7\/a=8\/a=9\/a=10:=Zm
  rcases this with rfl|rfl|rfl|rfl|rfl|rfl|rfl|rfl|rfl|rfl|rfl
  all_goals first|exact⟨_,ak,Zm,Zm⟩|skip
 have⟨ah,af⟩:=jc R (ae.trans u);have au:=iV U;clear R u T hj hc;have Z:=wm o e V W;obtain⟨q,A⟩:=SH (o.alloc (.cells #[.int .u8 e] 5));have t:Ext o q:=by rw[A];exact kx
 have⟨J,ag,aj⟩:=jr (kH q d (p+1+1+1) v f 3 (ah.ext t) Zm Zm) (af.trans t.any) A;clear t A;go_wp2_with fail;rw[<-aj.o];refine J.mono ?_;rintro i w6 ⟨⟨B,rfl,hm⟩,S,P⟩;have h:Zz (∃b,b<=p+4/\qh w6 d v f b):=Zy ⟨_,Zm,S⟩;have g:=Zy (ag.trans P);clear S P au U G H I J Z;obtain⟨C,y⟩:∃C,M.bs [UInt8.ofNat e.toNat]=C:=⟨_,rfl⟩;have z:C.size=1:=by rw[<-y];rfl
 rw[y];have D:(s.extract 0 c).size=c:=by rw[VS];omega
 have E:(s.extract c s.size).size=s.size - c:=by rw[VS];omega
 have F:(s.extract (c+1) s.size).size=s.size - (c+1):=by rw[VS];omega
 have ax:B=0\/B=1\/B=2:=Zm
 clear hm y V W;rcases ax with rfl|rfl|rfl
 . go_wp2_with fail;go_quiet (fail);go_wp2;go_ret;refine⟨⟨_,rfl,?_⟩,?_,g.drewN _⟩
   . simp only[Tj,z,D,E,F];omega
   . obtain⟨b,j,k⟩:=h.o;exact⟨b,j,k.ext (Kp.rr.drewN _)⟩
 . by_cases av:c<s.size
   . go_wp2_with fail;go_quiet (fail);go_wp2;go_ret;refine⟨⟨_,rfl,?_⟩,?_,g.drewN _⟩
     . simp only[Tj,z,D,E,F];omega
     . obtain⟨b,j,k⟩:=h.o;exact⟨b,j,k.ext (Kp.rr.drewN _)⟩
   . go_wp2;go_ret;exact⟨⟨_,rfl,Zm⟩,h.o,g.o⟩
 . by_cases av:c<s.size
   . go_wp2_with fail;go_quiet (fail);go_wp2;go_ret;refine⟨⟨_,rfl,?_⟩,?_,g.drewN _⟩
     . simp only[Tj,z,D,E,F];omega
     . obtain⟨b,j,k⟩:=h.o;exact⟨b,j,k.ext (Kp.rr.drewN _)⟩
   . go_wp2;go_ret;exact⟨⟨_,rfl,Zm⟩,h.o,g.o⟩
theorem nk{a b:ByteArray}(d:(a.toList==b.toList)=true):a=b:=by
 have c:=Ub.1 d;rw[U4,U4]at c;exact ByteArray.ext (Vl.1 c)
def mE(s:ByteArray):List Value:=[.string s]
def kF:mH ByteArray:=fun _ _ x cs=>cs=mE x
theorem kF.stays:jK kF:=fun _ _ _ _ _ _ _ _ a=>a
theorem xD(x:ByteArray):∀a∈mE x,a.oneCell'=true:=by simp[mE,Value.oneCell']
theorem Av:Elem 55 9 1:=nM (z:= "") (bytes:=16) underlying55 Zo rfl Zn Zn
namespace M
theorem Rh(a b:List UInt8):bs a++bs b=bs (a++b):=by
 apply ByteArray.ext;apply Vl.1;simp[bs]
theorem Ri(s:ByteArray)(k:Nat)(a:k<s.size):s.extract k (k+1)=bs [s[k]]:=by
 apply ByteArray.ext;apply Vl.1;rw[Lib.extract_data];have b:k<s.data.toList.length:=by simpa using a
 rw[Uy b];simp[bs];rfl
theorem Lp{s:ByteArray}{k:Nat}(a:k<s.size):s.data.toList.drop k=s[k]::s.data.toList.drop (k+1):=by
 have b:k<s.data.toList.length:=by simpa using a
 rw[Uy b];rfl
end M
theorem Ba (s : ByteArray) (w : World) (S : s.size <= 4000000000) :Calls prog 128 #[s] w fun j q=>(∃A,j=.returned A/\SliceOf 1 kF q (fun e=>w<=e/\e<q) A (M.words s))/\Ext w q:=by
 have v:=lh w 9 1 w (Tz _) rfl;have C:=Zy v;clear v;go_enter func128,ntmps128;go_wp2;go_loopw [3,4,5] (fun N D p wr=>∃(a:Nat) (c:List UInt8) (b:List ByteArray),a<=s.size/\p=.int .i64 a/\D=.string (M.bs c)/\c.length<=a/\b.length<=a/\Zz (b.map (·.data.toList)++M.mU c (s.data.toList.drop a)=M.mU [] s.data.toList)/\
     wr.ownsRow w 9 1 N b.length (b.flatMap mE)/\Ext w wr) (fun _ _ p _=>s.size - (intOf p).toNat)
 case atStart=>exact⟨0,[],[],T9 _,rfl,rfl,Tz _,Tz _,Zy Zl,C,jh _⟩
 case round =>
  obtain⟨a,c,b,Q,rfl,rfl,O,R,i,o,u⟩:=hrel;obtain⟨y,z,rfl⟩:=jL o;have⟨g,f⟩:=jc o u;clear o u;have P:=wQ c;by_cases x:a<s.size
  . have t:=Zy (M.Lp x);by_cases J:((s[a]).toNat:Int)=32
    . go_wp2_with (refine ji Av rfl (.tmp 17) (.tmp 19) rfl w (.slice y b.length z) b.length (b.flatMap mE) rfl (iY (D:=fun _=>False) g (jh _) fun _ _ _ r=>r) wr 1 (mE (M.bs c)) rfl rfl (hH.nC _ _ rfl) (xD _) Zm (by have:=f.size;simp;omega) ?_;rintro F E B m l H);have k:=Kp.own (f.alloc _) l (fun e n=>(qJ g n).1);go_round
      case rel=>
       refine⟨a+1,[],b++[M.bs c],Zm,by go_num,rfl,by simp,by simp;omega,Zy ?_,by simpa using m,k⟩;have h:s[a]=32:=by
        apply UInt8.toNat_inj.1;simp;omega
       have d:=i.o;rw[t.o,M.mU,SV h]at d;rw[<-d];simp[M.bs]
      case measure=>simp[intOf];omega
    . have T:=M.Ri s a x;have L:=wQ [s[a]];simp only[UA]at L;go_wp2;go_round
      case rel=>
       refine⟨a+1,c++[s[a]],b,Zm,by go_num,by rw[M.Rh],by simp;omega,Zm,Zy ?_,g.o,f.o⟩;have h:s[a]≠32:=fun j=>J (by rw[j];rfl);have d:=i.o;rw[t.o,M.mU,SX h]at d;exact d
      case measure=>simp[intOf];omega
  . go_wp2_with (refine ji Av rfl (.tmp 28) (.tmp 30) rfl w (.slice y b.length z) b.length (b.flatMap mE) rfl (iY (D:=fun _=>False) g (jh _) fun _ _ _ r=>r) wr 1 (mE (M.bs c)) rfl rfl (hH.nC _ _ rfl) (xD _) Zm (by have:=f.size;simp;omega) ?_;rintro F E B m l H);have k:=Kp.own (f.alloc _) l (fun e n=>(qJ g n).1);go_ret;refine⟨⟨_,rfl,?_⟩,k⟩;have I:a=s.size:=Zm
    have d:=i.o;rw[I,Vy Zl,M.mU]at d;have K:M.words s=b++[M.bs c]:=by
     unfold M.words;rw[<-d,U0,List.map_map];congr 1;exact List.map_id _
    rw[K];have G:=SliceOf.l5 (R:=kF) (I:=fun e=>w<=e/\e<B) mE (l:=b++[M.bs c]) m Zl Zl (fun _ _=>rfl) (fun _ _=>rfl) (fun e h d=>⟨h,d⟩) Zr;simpa using G
theorem Dr:Bj 109 2:=⟨_,underlying109,by kernel_rfl⟩
theorem mq:Bj 134 4:=⟨_,underlying134,by kernel_rfl⟩
def Rc(op:Int)(e:Ending):Prop:=∃b,e=.returned (.bool b)/\(b=true->1<=op/\op<=15)
theorem Ns(op a:Int)(n m:ByteArray){w:World}:Calls prog 133 #[.agg #[op,a,n,m]] w fun c e=>Rc op c/\Ext w e:=by
 by_cases f:1<=op/\op<=15
 . go_enter func133,ntmps133;go_wp2_with (first
    |(go_at_call 117;refine(kg _ _).mono ?_;rintro c e ⟨rfl,rfl⟩)
    |(go_at_call 76;refine(ry).mono ?_;rintro c e ⟨rfl,rfl⟩))
   all_goals
    go_ret;exact⟨⟨_,rfl,fun _=>f⟩,kx⟩
 . have b:∀d:Int,1<=d->d<=15->(op==d)=false:=fun d g h=>SI.2 Zm;have i:=b 1 Zm Zm;have r:=b 2 Zm Zm;have s:=b 3 Zm Zm;have t:=b 4 Zm Zm;have u:=b 5 Zm Zm;have v:=b 6 Zm Zm;have x:=b 7 Zm Zm;have y:=b 8 Zm Zm;have z:=b 9 Zm Zm;have j:=b 10 Zm Zm;have k:=b 11 Zm Zm;have l:=b 12 Zm Zm;have o:=b 13 Zm Zm;have p:=b 14 Zm Zm;have q:=b 15 Zm Zm;clear b;go_enter func133,ntmps133;go_wp2_with fail
   all_goals
    go_ret;exact⟨⟨_,rfl,fun c=>by simp at c⟩,kx⟩
theorem JK(op:Nat)(h:op<=15){w:World}:Calls prog 134 #[op] w fun c g=>LD 4 c/\Ext w g:=by
 go_enter func134,ntmps134;have b:h9 (w.alloc (.cells #["",.string ⟨#[110,117,109]⟩,.string ⟨#[116,97,107,101]⟩,.string ⟨#[112,117,116]⟩,.string ⟨#[97,100,100]⟩,.string ⟨#[110,117,108,108]⟩,.string ⟨#[110,101,119]⟩,.string ⟨#[103,101,116]⟩,.string ⟨#[115,101,116]⟩,.string ⟨#[99,97,108,108]⟩,.string ⟨#[114,101,116]⟩,.string ⟨#[122,101,114,111]⟩,.string ⟨#[110,105,108]⟩,.string ⟨#[103,111]⟩,.string ⟨#[111,117,116]⟩,.string ⟨#[99,97,115,116]⟩] 9)) w 9 _:=h9.new w 9 _;obtain⟨a,e,f⟩:∃a:ByteArray,(w.alloc (.cells #["",.string ⟨#[110,117,109]⟩,.string ⟨#[116,97,107,101]⟩,.string ⟨#[112,117,116]⟩,.string ⟨#[97,100,100]⟩,.string ⟨#[110,117,108,108]⟩,.string ⟨#[110,101,119]⟩,.string ⟨#[103,101,116]⟩,.string ⟨#[115,101,116]⟩,.string ⟨#[99,97,108,108]⟩,.string ⟨#[114,101,116]⟩,.string ⟨#[122,101,114,111]⟩,.string ⟨#[110,105,108]⟩,.string ⟨#[103,111]⟩,.string ⟨#[111,117,116]⟩,.string ⟨#[99,97,115,116]⟩] 9)).cell? (w,op)=some (.string a)/\a.size<=4:=by
  have d:=b.cell op;have:op=0\/op=1\/op=2\/op=3\/op=4\/op=5\/op=6\/op=7\/op=8\/op=9\/op=10\/op=11\/op=12\/op=13\/op=14\/op=15:=Zm
  rcases this with rfl|rfl|rfl|rfl|rfl|rfl|rfl|rfl|rfl|rfl|rfl|rfl|rfl|rfl|rfl|rfl<;>exact⟨_,d,by decide⟩
 have i:=iV e;clear b;go_wp2;go_ret;exact⟨⟨_,rfl,f⟩,kx⟩
structure uD(C:World->Prop)(T:Type)(f:T->World):Prop where
 jv:∀s,C (f s)
 o:∀W,C W->∃s,W=f s
theorem uD.ex(C:World->Prop)(w:World)(c:C w):∃(a:Type) (f:a->World),Nonempty a/\uD C a f:=⟨{b:World // C b},Subtype.val,⟨⟨w,c⟩⟩,fun d=>d.2,fun b c=>⟨⟨b,c⟩,rfl⟩⟩
theorem mJ(w:World):∃(a:Type) (f:a->World),Nonempty a/\uD (fun b=>Ext w b) a f:=uD.ex _ w Kp.rr
theorem Nl{P:Program}{id:Nat}{Q:Exit->Act->World->Prop}{a:Act}{w:World}{l:List Oper}{d:Type}(f:d->World)(h0:∃b,w.drew=f b)(i:P.follows .mixedOrders=true)(h:Region.lexB .any l.toArray=true)(g:wpQuiet P l.toArray (fun c=>∃b,c=f b) (fun e=>∀c,(∃b,c=f b)->Q .normal e c) l a):(Code.region id l.toArray true).wp P Q a w:=
 wp_region_quiet (C:=fun c=>∃b,c=f b) i h h0 (by simpa using g)
theorem qn{P:Program}{f:Array Oper}{C:World->Prop}{K b:Act->Prop}{a:Act}(e:∀c,b c->K c)(d:b a):wpQuiet P f C K [] a:=wpQuiet_nil (e _ d)
theorem JE{P:Program}{h:Array Oper}{C:World->Prop}{K c d:Act->Prop}{a:Act}(g:∀b,c b->d b->K b)(e:c a)(f:d a):wpQuiet P h C K [] a:=wpQuiet_nil (g _ e f)
theorem kk{C:World->Prop}{d:Type}{f:d->World}{c R:Act->World->Prop}{a:Act}{w:World}(g:Zz (uD C d f))(j:∀e b,(∃k,b=f k)->R e b->c e b)(h:C w)(i:R a w):c a w:=j _ _ (g.o.o _ h) i
theorem Fb{P:Program}{id:Nat}{Q:Exit->Act->World->Prop}{a:Act}{w:World}{l:List Oper}{C:World->Prop}{d:Type}{f:d->World}(e:Zz (uD C d f))(h0:C w.drew)
    (h:wpQuiet P l.toArray (fun b=>∃c,b=f c) (fun g=>∀b,(∃c,b=f c)->Q .normal g b) l a) (j:P.follows .mixedOrders=true:=by kernel_rfl) (i:Region.lexB .any l.toArray=true:=by kernel_rfl):(Code.region id l.toArray true).wp P Q a w:=
 Nl f (e.o.o _ h0) j i h
def BR(o:Oper):Bool:=
 match o.op with
 | .move _| .assign _| .load _ _| .fieldAddr _ _ _| .indexAddr _ _ _| .binOp _ _ _ _ _| .unOp _ _ _| .field _ _ _| .build _ _| .extract _ _| .slice _ _ _ _ _| .nilCheck _| .index _ _ _| .pick _ _ _=>true
 | .call c=>(match c.callee with| .builtin .len=>true|_=>false)
 |_=>false
theorem Jn{P:Program}{w a:World}{s:Sem Value}{f:FuncId}{args:Array Value}:Sem.run P (do pure (Next.value (<-s)):Sem Next) w≠ .ok (.enter f args) a:=by
 simp only[Ui];cases Sem.run P s w<;>simp[Result.andThen]
theorem sM{α:Type}{P:Program}{w c:World}{s:Sem α}{k:α->Sem Next}{f:FuncId}{args:Array Value}(d:∀b a,Sem.run P (k b) a≠ .ok (.enter f args) c):Sem.run P (s>>= k) w≠ .ok (.enter f args) c:=by
 rw[Ui];cases Sem.run P s w with
 |ok b a=>exact d b a
 |halt _ _=>simp[Result.andThen]
theorem Hu{P:Program}{d:Oper}(c:BR d=true)(a:Act){w h:World}{f:FuncId}{args:Array Value}:(execOp a.eval d).run P w≠ .ok (.enter f args) h:=by
 unfold BR at c;unfold execOp;split at c
 any_goals (rename_i b;simp only[b];first|exact Jn|(simp;done))
 case h_12=>
  rename_i b;simp only[b];split
  any_goals (first|(simp;done)|(simp[runtimePanic];done))
  split
  any_goals (first|(simp;done)|(simp[runtimePanic];done))
  refine sM fun _ _=>sM fun _ _=>?_;split
  . refine sM fun _ _=>?_;simp
  . simp
 case h_14=>
  rename_i b;simp only[b];refine sM fun _ _=>?_;simp
 case h_15=>
  rename_i e b;simp only[b];split at c
  . rename_i g;simp only[resolve,g,Ui,Sem.run_pure,UU,invoke,builtin];cases Sem.run P (Builtin.len_ e.argTypes d.type (Array.map a.eval e.args)) w<;>simp[Result.andThen]
  . cases c
 case h_16=>cases c
section
variable {P:Program} {ops:Array Oper} {md:Region.Mode} {Q:Exit->Act->World->Prop} {C:World->Prop} {n:Nat}
def mI(P:Program)(ops:Array Oper)(C:World->Prop)(o:Oper)(v:Value)(a:Act):Prop:=
 (Region.wanted o (yielded ops a.tmps)=true/\∀w,C w->(execOp a.eval o).run P w=.ok (.value v) w\/((execOp a.eval o).run P w=.ok .skip w/\v=undef))\/
 (Region.wanted o (yielded ops a.tmps)=false/\v=undef)
theorem wO{b:Oper}{a:Act}{K:Act->Prop}(j:BR b=true)(d:if Region.wanted b (yielded ops a.tmps)then b.quiet P a C K else K (a.put b.dst undef)):∃f,mI P ops C b f a/\K (a.put b.dst f):=by
 cases e:Region.wanted b (yielded ops a.tmps)
 . rw[e]at d;exact⟨undef,.inr ⟨e,rfl⟩,by simpa using d⟩
 . rw[e]at d;obtain⟨f,h,i⟩:b.quiet P a C K:=by simpa using d
   refine⟨f,.inl ⟨e,fun g l=>?_⟩,i⟩;have c:=h g l;unfold Oper.quietAt at c;generalize k:(execOp a.eval b).run P g=r at c;unfold Oper.quietUpon at c;split at c
   . obtain⟨rfl,rfl⟩:=c;exact .inl rfl
   . obtain⟨rfl,rfl⟩:=c;exact .inr ⟨rfl,rfl⟩
   . exact absurd k (Hu j a)
   . exact c.elim
theorem mI.wpOp{i:Nat}{e:Oper}{v:Value}{a:Act}(g:ops[i]?=some e)(j:mI P ops C e v a){K:Act->World->Prop}{w:World}(f:C w)(c:K (a.put e.dst v) w):wpOp P ops Q i K a w:=by
 unfold Go.wpOp;simp only[g];rcases j with⟨d,h⟩|⟨d,rfl⟩
 . simp only[d,UC];rcases h w f with b|⟨b,rfl⟩
   . simp only[Oper.wp,b,Oper.upon];exact .inl c
   . simp only[Oper.wp,b,Oper.upon];exact .inl c
 . simp only[d,UN,UJ];exact c
theorem mI.of_same{b:Oper}{v:Value}{a c:Act}(f:mI P ops C b v a)(d:execOp c.eval b=execOp a.eval b)(e:Region.wanted b (yielded ops c.tmps)=Region.wanted b (yielded ops a.tmps)):mI P ops C b v c:=by
 unfold mI at*;rw[d,e];exact f
theorem NK{j:Nat}{c e:Oper}{v:Value}(E:ops[j]?=some e)(D:c.apart ops e=true)(G:∀p m,c.op≠ .select p m) (A:∀p m,e.op≠ .select p m)(y:∀o a w,Q (.panic o) (a.put c.dst v) w->Q (.panic o) a w) {K:Act->World->Prop} {a:Act} {w:World}(g:mI P ops C c v a) (b:wpOp P ops Q j K (a.put c.dst v) w):wpOp P ops Q j (fun u t=>mI P ops C c v u/\K (u.put c.dst v) t) a w:=by
 obtain⟨q,h,x⟩:=Oper.apart_spec D;have i:∀(a:Act),mI P ops C c v a->∀d,mI P ops C c v (a.put e.dst d):=fun a g d=>
  g.of_same (VF c G a e.dst d x) (Wy c a e.dst d x)
 have H:∀l,mI P ops C c v {a with defers:=l::a.defers}:=fun l=>g.of_same rfl rfl;unfold wpOp at*;simp only[E]at*;rw[Wy e a c.dst v q]at b;split
 . rename_i s;simp only[s,UC]at b;rcases b with b|⟨z,F⟩
   case inr=>exact .inr ⟨by unfold Oper.asks at*;rw[VF e A a c.dst v q]at z;exact z,F⟩
   refine .inl ?_;unfold Oper.wp at*;rw[VF e A a c.dst v q]at b;generalize (execOp a.eval e).run P w=r at*;cases r with
   | ok n t =>
    cases n<;>simp only[Oper.upon]at b |-
    case value d=>exact⟨i a g d,by rw[<-Uc a v d h];exact b⟩
    case skip=>exact⟨i a g _,by rw[<-Uc a v undef h];exact b⟩
    case defer l=>
     refine⟨i _ (H l) _,?_⟩;rw[<-Uc _ v undef h,<-Act.put_defers];exact b
    case enter f args=>
     refine Calls.mono b fun B I k=>?_;cases B with
     |returned d=>exact⟨i a g d,by rw[<-Uc a v d h];exact k⟩
     |panicked o=>exact y _ _ _ k
     |outgrown=>exact k
    case row row args=>exact Rows.mono b fun d I k=>⟨i a g d,by rw[<-Uc a v d h];exact k⟩
   |halt J t=>
    cases J<;>simp only[Oper.upon]at b |-
    case panic d=>exact y _ _ _ b
 . rename_i s;simp only[s]at b;exact⟨i a g _,by rw[<-Uc a v undef h];exact b⟩
def vB(P:Program)(md:Region.Mode)(ops:Array Oper)(n:Nat)(C:World->Prop)(Q:Exit->Act->World->Prop):Nat->Array Bool->Act->World->Prop
 |0,listed,a,w=>Region.ready md ops listed=[]/\Q .normal a w
 |fuel+1,listed,a,w=>
  (Region.ready md ops listed=[]->Q .normal a w)/\
  ∀i∈Region.ready md ops listed,wpOp P ops Q i (fun a' w'=>(i<n->C w')/\vB P md ops n C Q fuel (listed.setIfInBounds i true) a' w') a w
theorem xR:∀(fuel:Nat) (listed:Array Bool) (a:Act) (w:World),vB P md ops n C Q fuel listed a w->wpAny P md ops Q fuel listed a w
 |0,_,_,_,h=>h
 |fuel+1,_,_,_,h=>⟨h.1,fun e d=>wpOp_mono (fun b f c=>xR fuel _ b f c.2) (h.2 e d)⟩
theorem Ic {i : Nat} {g : Oper} {v : Value} (E : ops[i]? = some g) (O : ∀ (j : Nat) (S : Oper) o m, ops[j]? = some S -> S.op ≠ .select o m)(V:∀F a w,Q (.panic F) (a.put g.dst v) w->Q (.panic F) a w) (ae:∀j,n<=j->Region.waitsFor md ops j i=true\/ops[j]?=none):∀(p:Nat) (listed:Array Bool) (a:Act) (w:World),(∀j h,ops[j]?=some h->j≠i->listed.getD j true=false->(∀b∈h.after,Region.binds md b=true->b.on≠i)->g.apart ops h=true)→ i∈Region.ready md ops listed->mI P ops C g v a->C w->i<n→ vB P md ops n C Q p (listed.setIfInBounds i true) (a.put g.dst v) w->vB P md ops n C Q (p+1) listed a w:=by
 intro p;induction p with
 |zero=>
  intro listed a w _ f y q I l;refine⟨fun d=>(by rw[d]at f;cases f),fun j u=>?_⟩;by_cases c:j=i
  . subst c;exact y.wpOp E q ⟨fun _=>q,l⟩
  . have:=VE u c;rw[l.1]at this;cases this
 | succ p ih =>
  intro listed a w H f y q I l;refine⟨fun d=>(by rw[d]at f;cases f),fun j u=>?_⟩;by_cases c:j=i
  . subst c;exact y.wpOp E q ⟨fun _=>q,l⟩
  . have e:=l.2 j (VE u c);obtain⟨L,h,r,W⟩:=VW.1 u;have M:∀b∈h.after,Region.binds md b=true->b.on≠i:=fun b B A D=>by
     have e:=W b B A;have G:=(VW.1 f).1;rw[D]at e;rcases Uo i listed.size with z|z
     . simp[z]at G e;rw[G]at e;cases e
     . simp[Uk z]at e
    have K:j<n:=by
     rcases Uo j n with d|d
     . exact d
     . rcases ae j d with x|x
       . obtain⟨af,N,b,B,A,D⟩:=Region.waitsFor_spec x;rw[r]at N;cases N;exact absurd D (M b B A)
       . rw[r]at x;cases x
    have U:=NK r (H j h r c L M) (fun o m=>O i g o m E) (fun o m=>O j h o m r) V y e;have X:∀k s,ops[k]?=some s->k≠i->(listed.setIfInBounds j true).getD k true=false→
        (∀b∈s.after,Region.binds md b=true->b.on≠i)->g.apart ops s=true:=fun k s Y Z R aa=>by
     refine H k s Y Z ?_ aa;by_cases J:j=k
     . subst J;exact L
     . rw[getD_set_ne true J]at R;exact R
    refine wpOp_mono (fun T w' t=>⟨fun _=>t.2.1 K,ih (listed.setIfInBounds j true) T w' X (VE f (Ne.symm c)) t.1 (t.2.1 K) I ?_⟩) U;rw[VC _ _ c];exact t.2.2
def NL(md:Region.Mode)(ops:Array Oper)(n:Nat):List Nat->Array Bool->Option (Array Bool)
 |[],listed=>some listed
 |i::q,listed=>
  if decide (i<n)&&(Region.ready md ops listed).contains i&&Region.free md ops listed i&&((ops[i]?).map BR).getD false then NL md ops n q (listed.setIfInBounds i true)else none
def Jk(md:Region.Mode)(ops:Array Oper)(n:Nat):List (List Nat×Nat)->List Nat->Array Bool->Bool
 |[],q,listed=>match NL md ops n q listed with
  |some L=>Region.seqB md ops (ops.size - n) n L
  |none=>false
 |(q,i)::r,q',listed=>match NL md ops n q listed with
  |some L=>decide (Region.ready md ops L=[i])&&decide (i<n)&&Jk md ops n r q' (L.setIfInBounds i true)
  |none=>false
def costs:List (List Nat×Nat)->List Nat->Nat
 |[],q=>q.length
 |(q,_)::r,q'=>q.length+1+costs r q'
def zZ(md:Region.Mode)(ops:Array Oper)(n:Nat):Bool:=(List.range ops.size).all fun j=>decide (j<n)|| (List.range n).all fun i=>Region.waitsFor md ops j i
def DJ(ops:Array Oper)(n:Nat)(segs:List (List Nat×Nat))(q:List Nat):Bool:=
 Region.noSelect ops&&zZ .any ops n&&decide (costs segs q=n)&&decide (n<=ops.size)&&Jk .any ops n segs q (Array.replicate ops.size false)
def uq(P:Program)(l:List Oper)(C:World->Prop)(Q:Exit->Act->World->Prop)(fin:Act->World->Prop):List (List Nat×Nat)->List Nat->Act->World->Prop
 |[],q,a,w=>wpQuiet P l.toArray C (fun a'=>fin a' w) (q.filterMap (l[·]?)) a
 |(q,i)::r,q',a,w=>wpQuiet P l.toArray C (fun a'=>wpList P l.toArray (Exit.then (fun a'' w'=>C w'/\uq P l C Q fin r q' a'' w') Q) (l[i]?).toList a' w) (q.filterMap (l[·]?)) a
theorem BX(b:zZ md ops n=true){i:Nat}(d:i<n)(j:Nat)(f:n<=j):Region.waitsFor md ops j i=true\/ops[j]?=none:=by
 rcases Uo j ops.size with e|c
 . unfold zZ at b;have a:=Tx.1 b j (UY.2 e);simp only[V4,SF,Tx]at a;rcases a with a|a
   . omega
   . exact .inl (a i (UY.2 d))
 . exact .inr (Uk c)
theorem rV{l:List Oper}(s:Region.noSelect l.toArray=true)(t:zZ md l.toArray n=true)(o:∀b a x v w,Q (.panic b) (a.put x v) w->Q (.panic b) a w){K:Act->Prop}{w:World}(k:C w)(e:Nat)(d:Array Bool)
    (m:∀f,K f->vB P md l.toArray n C Q e d f w):∀(q:List Nat) (listed:Array Bool) (a:Act),NL md l.toArray n q listed=some d→
    wpQuiet P l.toArray C K (q.filterMap (l[·]?)) a->vB P md l.toArray n C Q (e+q.length) listed a w
 |[],listed,a,ho,h=>by
  simp only[NL,TF]at ho;subst ho;exact m a h
 | i :: q, listed, a, ho, h => by
  unfold NL at ho;split at ho
  . rename_i p;simp only[S9,SF]at p;obtain⟨⟨⟨g,y⟩,z⟩,j⟩:=p;cases c:l[i]? with
    |none=>simp[c]at j
    |some u=>
     have r:l.toArray[i]?=some u:=by simpa using c
     have B:BR u=true:=by simpa [c]using j
     rw[List.filterMap_cons,c]at h;simp only[wpQuiet]at h;obtain⟨v,D,A⟩:=wO B h;have:=rV s t o k e d m q _ _ ho A;exact Ic r (Region.noSelect_spec s) (fun b a w=>o b a _ _ w) (BX t g) _ _ _ _ (Region.free_spec r z) (by simpa using y) D k g this
  . cases ho
theorem xL{l:List Oper}:∀(t:List Oper) (k:Nat) (listed:Array Bool) (a:Act) (w:World),n<=k->(∀b,t[b]?=l[k+b]?)→
    Region.seqB md l.toArray t.length k listed=true->wpList P l.toArray Q t a w->vB P md l.toArray n C Q t.length listed a w
 |[],_,_,_,_,_,_,hB,h=>⟨by simpa [Region.seqB]using hB,h⟩
 |o::t,k,listed,a,w,hk,hl,hB,h=>by
  have i:l.toArray[k]?=some o:=by simpa using(hl 0).symm
  simp only[Tc,Region.seqB,S9,SF]at hB;refine⟨fun d=>(by rw[hB.1]at d;cases d),fun c e=>?_⟩;rw[hB.1]at e;have j:c=k:=by simpa using e
  subst j;have p:wpOp P l.toArray Q c (wpList P l.toArray Q t) a w:=by unfold wpOp;simp only[i];exact h
  exact wpOp_mono (fun f q g=>⟨fun m=>absurd m (Wt.2 hk),xL t (c+1) _ f q Zm (fun b=>by have:=hl (b+1);simpa [Ul,VR 1 b]using this) hB.2 g⟩) p
theorem L9{e:Oper}{a:Act}{w:World}{next K:Act->World->Prop}(b:e.wp P a w next (Exit.then K Q)):e.wp P a w next Q:=by
 unfold Oper.wp at*;generalize (execOp a.eval e).run P w=r at*;cases r with
 | ok n i =>
  cases n<;>simp only[Oper.upon]at b |-
  case value g=>exact b
  case skip=>exact b
  case defer d=>exact b
  case enter f args=>
   refine Calls.mono b fun h l c=>?_;cases h with
   |returned g=>exact c
   |panicked k=>exact c
   |outgrown=>exact c
  case row row args=>exact b
 |halt j i=>
  cases j<;>simp only[Oper.upon]at b |-
  case panic g=>exact b
theorem Gj{l:List Oper}(u:Region.noSelect l.toArray=true)(v:zZ md l.toArray n=true)(p:∀z a E L w,Q (.panic z) (a.put E L) w->Q (.panic z) a w)(I:n<=l.length):∀(y:List (List Nat×Nat)) (e:List Nat) (listed:Array Bool) (a:Act) (w:World),C w→
    Jk md l.toArray n y e listed=true->uq P l C Q (fun j d=>wpList P l.toArray Q (l.drop n) j d) y e a w->vB P md l.toArray n C Q ((l.length - n)+costs y e) listed a w
 |[],e,listed,a,w,hC,b,h=>by
  unfold Jk at b;split at b
  . rename_i g o;refine rV u v p hC _ g (fun j c=>?_) e listed a o h;have:=xL (md:=md) (C:=C) (l:=l) (l.drop n) n g j w (Tz _) (fun f=>by simp[UM]) (by simpa using b) c;simpa using this
  . cases b
 | (q, i) :: r, e, listed, a, w, hC, b, h => by
  unfold Jk at b;split at b
  . rename_i g o;simp only[S9,SF]at b;obtain⟨⟨t,M⟩,b⟩:=b;have F:l.length - n+costs ((q,i)::r) e=((l.length - n+costs r e)+1)+q.length:=by simp[costs];omega
    rw[F];refine rV u v p hC _ g (fun j c=>?_) q listed a o h;refine⟨fun A=>(by rw[t]at A;cases A),fun f B=>?_⟩;rw[t]at B;have H:f=i:=by simpa using B
    subst H;cases s:l[f]? with
    |none=>
     exfalso;have:f∈Region.ready md l.toArray g:=by rw[t];simp
     obtain⟨_,D,J,_⟩:=VW.1 this;simp[s]at J
    | some D =>
     rw[s]at c;simp only[Option.toList,wpList]at c;unfold wpOp;have K:l.toArray[f]?=some D:=by simpa using s
     simp only[K];have step:∀k d,C d/\uq P l C Q (fun j d=>wpList P l.toArray Q (l.drop n) j d) r e k d->(f<n->C d)/\vB P md l.toArray n C Q (l.length - n+costs r e) (g.setIfInBounds f true) k d:=
      fun k d m=>⟨fun _=>m.1,Gj u v p I r e _ k d m.1 b m.2⟩
     split
     . rename_i x;rw[SV x]at c;rcases c with c|c
       . left;exact Oper.wp_mono (fun k d G=>step k d G) (L9 c)
       . right;exact c
     . rename_i x;rw[SX x]at c;exact step _ _ c
  . cases b
end
theorem NJ{P:Program}{l:List Oper}{C:World->Prop}{Q:Exit->Act->World->Prop}{d:Act->World->Prop}{q:List Nat}{a:Act}{w:World}{e:List Oper}(f:q.filterMap (l[·]?)=e)(b:∀K:Act->Prop,(∀c,d c w->K c)->wpQuiet P l.toArray C K e a):uq P l C Q d [] q a w:=by
 subst f;exact b _ fun _ b=>b
theorem Lt{P:Program}{l:List Oper}{C:World->Prop}{Q:Exit->Act->World->Prop}{e:Act->World->Prop}{q:List Nat}{i:Nat}{r:List (List Nat×Nat)}{g:List Nat}{a:Act}{w:World}{h f:List Oper}(o:q.filterMap (l[·]?)=h)(p:(l[i]?).toList=f)(j:∀K:Act->Prop,(∀b,(∀K2:Act->World->Prop,(∀d c,C c->uq P l C Q e r g d c->K2 d c)->wpList P l.toArray (Exit.then K2 Q) f b w)->K b)->wpQuiet P l.toArray C K h a):uq P l C Q e ((q,i)::r) g a w:=by
 subst o p;refine j _ fun b k=>?_;exact k _ fun _ _ m n=>⟨m,n⟩
theorem xJ{P:Program}{id:Nat}{Q:Exit->Act->World->Prop}{a:Act}{w:World}{l:List Oper}{i:Type}(f:i->World)(n:Nat)(d:List (List Nat×Nat))(q:List Nat)(h0:∃b,w.drew=f b)(u:P.follows .mixedOrders=true)(e:DJ l.toArray n d q=true)(t:∀g a k v w,Q (.panic g) (a.put k v) w->Q (.panic g) a w)(o:uq P l (fun c=>∃b,c=f b) Q (fun j c=>wpList P l.toArray Q (l.drop n) j c) d q a w.drew):(Code.region id l.toArray true).wp P Q a w:=by
 unfold DJ at e;simp only[S9,SF]at e;obtain⟨⟨⟨⟨p,r⟩,x⟩,h⟩,s⟩:=e;refine wp_region_any u (xR (C:=fun c=>∃b,c=f b) (n:=n) _ _ _ _ ?_);have:=Gj (C:=fun c=>∃b,c=f b) (md:=.any) p r t (by simpa using h) d q _ a w.drew h0 s o;have m:l.length - n+costs d q=l.toArray.size:=by
  have:n<=l.length:=by simpa using h
  simp;omega
 rw[m]at this;exact this
section
variable {P:Program} {l:List Oper} {C:World->Prop} {Q:Exit->Act->World->Prop} {fin:Act->World->Prop} {q:List Nat} {i j:Nat} {q':List Nat} {r:List (List Nat×Nat)} {a:Act} {w:World} {o o2:Oper}
theorem uZ(e:List Oper)(g:q.filterMap (l[·]?)=e)(h:(l[i]?).toList=[o])(f:∀K:Act->Prop,(∀c,(∀K2:Act->World->Prop,(∀d b,C b->uq P l C Q fin r q' d b->K2 d b)->wpList P l.toArray (Exit.then K2 Q) [o] c w)->K c)->wpQuiet P l.toArray C K e a):uq P l C Q fin ((q,i)::r) q' a w:=Lt g h f
theorem lK(f:(l[i]?).toList=[o])(d:∀K2:Act->World->Prop,(∀c b,C b->uq P l C Q fin r q' c b->K2 c b)->wpList P l.toArray (Exit.then K2 Q) [o] a w):uq P l C Q fin (([],i)::r) q' a w:=uZ [] rfl f fun _ e=>qn e d
theorem wG(c:List Oper)(e:q.filterMap (l[·]?)=c)(d:∀K:Act->Prop,(∀b,fin b w->K b)->wpQuiet P l.toArray C K c a):uq P l C Q fin [] q a w:=NJ e d
theorem kG(b:fin a w):uq P l C Q fin [] [] a w:=wG [] rfl fun _ c=>qn c b
theorem Ei{e:List Oper}{d:Exit->Act->World->Prop}(c:List Oper)(h:q.filterMap (l[·]?)=c)(g:e=[])(f:∀K:Act->Prop,(∀b,d .normal b w->K b)->wpQuiet P l.toArray C K c a):uq P l C Q (fun b i=>wpList P l.toArray d e b i) [] q a w:=by
 subst g;exact wG c h f
theorem Hk{c:List Oper}{b:Exit->Act->World->Prop}(g:c=[])(e:b .normal a w):uq P l C Q (fun d h=>wpList P l.toArray b c d h) [] [] a w:=Ei [] rfl g fun _ f=>qn f e
end
theorem kT{P:Program}{id:Nat}{Q:Exit->Act->World->Prop}{a:Act}{w:World}{l:List Oper}{C:World->Prop}{g:Type}{f:g->World}(i:Zz (uD C g f))(n:Nat)(d:List (List Nat×Nat))(q:List Nat)(h0:C w.drew)
    (c:uq P l (fun e=>∃p,e=f p) Q (fun j e=>wpList P l.toArray Q (l.drop n) j e) d q a w.drew) (o:P.follows .mixedOrders=true:=by kernel_rfl) (k:DJ l.toArray n d q=true:=by kernel_rfl)
    (m:∀h a b r w,Q (.panic h) (a.put b r) w->Q (.panic h) a w:=by exact fun _ _ b _ _ c=>by cases b<;>exact c):(Code.region id l.toArray true).wp P Q a w:=xJ f n d q (i.o.o _ h0) o k m c
theorem mP{P G:Prop}(e:G)(d:Zz G->P:=by(intro c;(first|refine uZ [_] rfl rfl fun b a=>?_|refine uZ [_,_] rfl rfl fun b a=>?_|refine uZ [_,_,_] rfl rfl fun b a=>?_|refine uZ [_,_,_,_] rfl rfl fun b a=>?_|refine uZ [_,_,_,_,_] rfl rfl fun b a=>?_|refine uZ [_,_,_,_,_,_] rfl rfl fun b a=>?_|refine uZ [_,_,_,_,_,_,_] rfl rfl fun b a=>?_|refine uZ [_,_,_,_,_,_,_,_] rfl rfl fun b a=>?_|refine uZ [_,_,_,_,_,_,_,_,_] rfl rfl fun b a=>?_|refine uZ [_,_,_,_,_,_,_,_,_,_] rfl rfl fun b a=>?_|refine uZ [_,_,_,_,_,_,_,_,_,_,_] rfl rfl fun b a=>?_|refine uZ [_,_,_,_,_,_,_,_,_,_,_,_] rfl rfl fun b a=>?_|refine uZ [_,_,_,_,_,_,_,_,_,_,_,_,_] rfl rfl fun b a=>?_|refine uZ [_,_,_,_,_,_,_,_,_,_,_,_,_,_] rfl rfl fun b a=>?_|refine uZ [_,_,_,_,_,_,_,_,_,_,_,_,_,_,_] rfl rfl fun b a=>?_|refine uZ [_,_,_,_,_,_,_,_,_,_,_,_,_,_,_,_] rfl rfl fun b a=>?_|refine uZ [_,_,_,_,_,_,_,_,_,_,_,_,_,_,_,_,_] rfl rfl fun b a=>?_|refine uZ [_,_,_,_,_,_,_,_,_,_,_,_,_,_,_,_,_,_] rfl rfl fun b a=>?_|refine uZ [_,_,_,_,_,_,_,_,_,_,_,_,_,_,_,_,_,_,_] rfl rfl fun b a=>?_|refine uZ [_,_,_,_,_,_,_,_,_,_,_,_,_,_,_,_,_,_,_,_] rfl rfl fun b a=>?_);(repeat (go_big_quiet_step (fail)));exact qn a c.o)):P:=d (Zy e)
theorem uG{P G:Prop}(e:G)(d:Zz G->P:=by(intro c;(first|refine Ei [_] rfl rfl fun b a=>?_|refine Ei [_,_] rfl rfl fun b a=>?_|refine Ei [_,_,_] rfl rfl fun b a=>?_|refine Ei [_,_,_,_] rfl rfl fun b a=>?_|refine Ei [_,_,_,_,_] rfl rfl fun b a=>?_);(repeat (go_big_quiet_step (fail)));exact qn a c.o)):P:=d (Zy e)
theorem Kp.Hy{D:Nat->Prop}{w:World}{b:Nat}(a:D b)(c d e f g h i j:Value):Kp D w ((((((((w.setCell b c).setCell (b,1) d).setCell (b,2) e).setCell (b,3) f).setCell (b,4) g).setCell (b,5) h).setCell (b,6) i).setCell (b,7) j):=
 (((((((((Kp.refl D w).setCell (p:=⟨b,0,none⟩) (fun _=>a) c).setCell (p:=⟨b,1,none⟩) (fun _=>a) d).setCell (p:=⟨b,2,none⟩) (fun _=>a) e).setCell (p:=⟨b,3,none⟩) (fun _=>a) f).setCell (p:=⟨b,4,none⟩) (fun _=>a) g).setCell (p:=⟨b,5,none⟩) (fun _=>a) h).setCell (p:=⟨b,6,none⟩) (fun _=>a) i).setCell (p:=⟨b,7,none⟩) (fun _=>a) j)
theorem h9.Hy{w:World}{b:Nat}{t:TypeId}{u0 u1 u2 u3 u4 u5 u6 u7:Value}(j:h9 w b t #[u0,u1,u2,u3,u4,u5,u6,u7])(a c d e f g h i:Value):h9 ((((((((w.setCell b a).setCell (b,1) c).setCell (b,2) d).setCell (b,3) e).setCell (b,4) f).setCell (b,5) g).setCell (b,6) h).setCell (b,7) i) b t #[a,c,d,e,f,g,h,i]:=by
 have k:h9 (w.setCell b a) b t #[a,u1,u2,u3,u4,u5,u6,u7]:=j.jE 0 a;have l:h9 ((w.setCell b a).setCell (b,1) c) b t #[a,c,u2,u3,u4,u5,u6,u7]:=k.jE 1 c;have m:h9 (((w.setCell b a).setCell (b,1) c).setCell (b,2) d) b t #[a,c,d,u3,u4,u5,u6,u7]:=l.jE 2 d;have n:h9 ((((w.setCell b a).setCell (b,1) c).setCell (b,2) d).setCell (b,3) e) b t #[a,c,d,e,u4,u5,u6,u7]:=m.jE 3 e;have o:h9 (((((w.setCell b a).setCell (b,1) c).setCell (b,2) d).setCell (b,3) e).setCell (b,4) f) b t #[a,c,d,e,f,u5,u6,u7]:=n.jE 4 f;have p:h9 ((((((w.setCell b a).setCell (b,1) c).setCell (b,2) d).setCell (b,3) e).setCell (b,4) f).setCell (b,5) g) b t #[a,c,d,e,f,g,u6,u7]:=o.jE 5 g;have q:h9 (((((((w.setCell b a).setCell (b,1) c).setCell (b,2) d).setCell (b,3) e).setCell (b,4) f).setCell (b,5) g).setCell (b,6) h) b t #[a,c,d,e,f,g,h,u7]:=p.jE 6 h;have r:h9 ((((((((w.setCell b a).setCell (b,1) c).setCell (b,2) d).setCell (b,3) e).setCell (b,4) f).setCell (b,5) g).setCell (b,6) h).setCell (b,7) i) b t #[a,c,d,e,f,g,h,i]:=q.jE 7 i;exact r
inductive MT where
 |fin (q:List Nat)
 |one (q:List Nat) (i:Nat) (t:MT)
 |two (q:List Nat) (i j:Nat) (ti tj:MT)
def MT.cost:MT->Nat
 | .fin q=>q.length
 | .one q _ t=>q.length+1+t.cost
 | .two q _ _ ti _=>q.length+1+ti.cost
def MT.ok(md:Region.Mode)(ops:Array Oper)(n:Nat):MT->Array Bool->Bool
 | .fin q,listed=>match NL md ops n q listed with
  |some L=>Region.seqB md ops (ops.size - n) n L
  |none=>false
 | .one q i t,listed=>match NL md ops n q listed with
  |some L=>decide (Region.ready md ops L=[i])&&decide (i<n)&&t.ok md ops n (L.setIfInBounds i true)
  |none=>false
 | .two q i j ti tj,listed=>match NL md ops n q listed with
  |some L=>decide (Region.ready md ops L=[i,j])&&decide (i<n)&&decide (j<n)&&decide (tj.cost=ti.cost)&&ti.ok md ops n (L.setIfInBounds i true)&&tj.ok md ops n (L.setIfInBounds j true)
  |none=>false
def Ox(ops:Array Oper)(n:Nat)(t:MT):Bool:=
 Region.noSelect ops&&zZ .any ops n&&decide (t.cost=n)&&decide (n<=ops.size)&&t.ok .any ops n (Array.replicate ops.size false)
def Dm(P:Program)(l:List Oper)(C:World->Prop)(Q:Exit->Act->World->Prop)(fin:Act->World->Prop):MT->Act->World->Prop
 | .fin q,a,w=>wpQuiet P l.toArray C (fun a'=>fin a' w) (q.filterMap (l[·]?)) a
 | .one q i t,a,w=>wpQuiet P l.toArray C (fun a'=>wpList P l.toArray (Exit.then (fun a'' w'=>C w'/\Dm P l C Q fin t a'' w') Q) (l[i]?).toList a' w) (q.filterMap (l[·]?)) a
 | .two q i j ti tj,a,w=>wpQuiet P l.toArray C (fun a'=>wpList P l.toArray (Exit.then (fun a'' w'=>C w'/\Dm P l C Q fin ti a'' w') Q) (l[i]?).toList a' w/\wpList P l.toArray (Exit.then (fun a'' w'=>C w'/\Dm P l C Q fin tj a'' w') Q) (l[j]?).toList a' w) (q.filterMap (l[·]?)) a
section
variable {P:Program} {ops:Array Oper} {md:Region.Mode} {Q:Exit->Act->World->Prop} {C:World->Prop} {n:Nat}
theorem zD{l:List Oper}{i:Array Bool}{j:Nat}{a:Act}{w:World}{K g:Act->World->Prop}(o:j∈Region.ready md l.toArray i)(b:wpList P l.toArray (Exit.then K Q) (l[j]?).toList a w) (step:∀c d,K c d->g c d):wpOp P l.toArray Q j g a w:=by
 cases e:l[j]? with
 |none=>
  exfalso;obtain⟨_,h,m,_⟩:=VW.1 o;simp[e]at m
 |some h=>
  rw[e]at b;simp only[Option.toList,wpList]at b;unfold wpOp;have n:l.toArray[j]?=some h:=by simpa using e
  simp only[n];split
  . rename_i f;rw[SV f]at b;rcases b with b|b
    . left;exact Oper.wp_mono (fun c d k=>step c d k) (L9 b)
    . right;exact b
  . rename_i f;rw[SX f]at b;exact step _ _ b
theorem xO{l:List Oper}(j:Region.noSelect l.toArray=true)(k:zZ md l.toArray n=true)(f:∀A a D K w,Q (.panic A) (a.put D K) w->Q (.panic A) a w)(z:n<=l.length):∀(t:MT) (listed:Array Bool) (a:Act) (w:World),C w→
    t.ok md l.toArray n listed=true->Dm P l C Q (fun m d=>wpList P l.toArray Q (l.drop n) m d) t a w->vB P md l.toArray n C Q ((l.length - n)+t.cost) listed a w
 | .fin q',listed,a,w,hC,b,h=>by
  unfold MT.ok at b;split at b
  . rename_i e r;refine rV j k f hC _ e (fun m g=>?_) q' listed a r h;have:=xL (md:=md) (C:=C) (l:=l) (l.drop n) n e m w (Tz _) (fun u=>by simp[UM]) (by simpa using b) g;simpa using this
  . cases b
 | .one q i t,listed,a,w,hC,b,h=>by
  unfold MT.ok at b;split at b
  . rename_i e r;simp only[S9,SF]at b;obtain⟨⟨s,H⟩,b⟩:=b;have x:l.length - n+(MT.one q i t).cost=((l.length - n+t.cost)+1)+q.length:=by simp[MT.cost];omega
    rw[x];refine rV j k f hC _ e (fun m g=>?_) q listed a r h;refine⟨fun p=>(by rw[s]at p;cases p),fun u y=>?_⟩;have I:u=i:=by rw[s]at y;simpa using y
    subst I;exact zD y g fun o d c=>⟨fun _=>c.1,xO j k f z t _ o d c.1 b c.2⟩
  . cases b
 | .two q i u ti tj,listed,a,w,hC,b,h=>by
  unfold MT.ok at b;split at b
  . rename_i e r;simp only[S9,SF]at b;obtain⟨⟨⟨⟨⟨s,H⟩,L⟩,G⟩,E⟩,F⟩:=b;have x:l.length - n+(MT.two q i u ti tj).cost=((l.length - n+ti.cost)+1)+q.length:=by simp[MT.cost];omega
    rw[x];refine rV j k f hC _ e (fun m g=>?_) q listed a r h;refine⟨fun p=>(by rw[s]at p;cases p),fun B v=>?_⟩;have J:B=i\/B=u:=by rw[s]at v;simpa using v
    rcases J with rfl|rfl
    . exact zD v g.1 fun o d c=>⟨fun _=>c.1,xO j k f z ti _ o d c.1 E c.2⟩
    . rw[<-G];exact zD v g.2 fun o d c=>⟨fun _=>c.1,xO j k f z tj _ o d c.1 F c.2⟩
  . cases b
end
section
variable {P:Program} {l:List Oper} {C:World->Prop} {Q:Exit->Act->World->Prop} {fin:Act->World->Prop} {q:List Nat} {i j:Nat} {t ti tj:MT} {a:Act} {w:World} {qs os oj:List Oper}
theorem QG(d:q.filterMap (l[·]?)=qs)(b:∀K:Act->Prop,(∀c,fin c w->K c)->wpQuiet P l.toArray C K qs a):Dm P l C Q fin (.fin q) a w:=by
 subst d;exact b _ fun _ b=>b
theorem QH(j:q.filterMap (l[·]?)=qs)(k:(l[i]?).toList=os)(e:∀K:Act->Prop,(∀b,(∀K2:Act->World->Prop,(∀d c,C c->Dm P l C Q fin t d c->K2 d c)->wpList P l.toArray (Exit.then K2 Q) os b w)->K b)->wpQuiet P l.toArray C K qs a):Dm P l C Q fin (.one q i t) a w:=by
 subst j k;refine e _ fun b f=>?_;exact f _ fun _ _ g h=>⟨g,h⟩
theorem QI(m:q.filterMap (l[·]?)=qs)(o:(l[i]?).toList=os)(n:(l[j]?).toList=oj)(g:∀K:Act->Prop,(∀d,(∀K2:Act->World->Prop,(∀c b,C b->Dm P l C Q fin ti c b->K2 c b)->wpList P l.toArray (Exit.then K2 Q) os d w)->(∀K2:Act->World->Prop,(∀c b,C b->Dm P l C Q fin tj c b->K2 c b)->wpList P l.toArray (Exit.then K2 Q) oj d w)->K d)->wpQuiet P l.toArray C K qs a):Dm P l C Q fin (.two q i j ti tj) a w:=by
 subst m o n;refine g _ fun d h k=>?_;exact⟨h _ fun _ _ e f=>⟨e,f⟩,k _ fun _ _ e f=>⟨e,f⟩⟩
end
theorem CP{P:Program}{id:Nat}{Q:Exit->Act->World->Prop}{a:Act}{w:World}{l:List Oper}{h:Type}(f:h->World)(n:Nat)(t:MT)(h0:∃b,w.drew=f b)(s:P.follows .mixedOrders=true)(d:Ox l.toArray n t=true)(r:∀e a j u w,Q (.panic e) (a.put j u) w->Q (.panic e) a w)(m:Dm P l (fun c=>∃b,c=f b) Q (fun i c=>wpList P l.toArray Q (l.drop n) i c) t a w.drew):(Code.region id l.toArray true).wp P Q a w:=by
 unfold Ox at d;simp only[S9,SF]at d;obtain⟨⟨⟨⟨o,p⟩,v⟩,g⟩,q⟩:=d;refine wp_region_any s (xR (C:=fun c=>∃b,c=f b) (n:=n) _ _ _ _ ?_);have:=xO (C:=fun c=>∃b,c=f b) (md:=.any) o p r (by simpa using g) t _ a w.drew h0 q m;have k:l.length - n+t.cost=l.toArray.size:=by
  have:n<=l.length:=by simpa using g
  simp;omega
 rw[k]at this;exact this
section
variable {P:Program} {l:List Oper} {C:World->Prop} {Q:Exit->Act->World->Prop} {fin:Act->World->Prop} {q:List Nat} {i j:Nat} {t ti tj:MT} {a:Act} {w:World} {o o2:Oper}
theorem JR(e:List Oper)(g:q.filterMap (l[·]?)=e)(h:(l[i]?).toList=[o])(f:∀K:Act->Prop,(∀c,(∀K2:Act->World->Prop,(∀d b,C b->Dm P l C Q fin t d b->K2 d b)->wpList P l.toArray (Exit.then K2 Q) [o] c w)->K c)->wpQuiet P l.toArray C K e a):Dm P l C Q fin (.one q i t) a w:=QH g h f
theorem jX(f:(l[i]?).toList=[o])(d:∀K2:Act->World->Prop,(∀c b,C b->Dm P l C Q fin t c b->K2 c b)->wpList P l.toArray (Exit.then K2 Q) [o] a w):Dm P l C Q fin (.one [] i t) a w:=JR [] rfl f fun _ e=>qn e d
theorem L8(c:List Oper)(e:q.filterMap (l[·]?)=c)(d:∀K:Act->Prop,(∀b,fin b w->K b)->wpQuiet P l.toArray C K c a):Dm P l C Q fin (.fin q) a w:=QG e d
theorem kJ(b:fin a w):Dm P l C Q fin (.fin []) a w:=L8 [] rfl fun _ c=>qn c b
theorem two(e:List Oper)(g:q.filterMap (l[·]?)=e)(k:(l[i]?).toList=[o])(h:(l[j]?).toList=[o2])(f:∀K:Act->Prop,(∀d,(∀K2:Act->World->Prop,(∀c b,C b->Dm P l C Q fin ti c b->K2 c b)->wpList P l.toArray (Exit.then K2 Q) [o] d w)->(∀K2:Act->World->Prop,(∀c b,C b->Dm P l C Q fin tj c b->K2 c b)->wpList P l.toArray (Exit.then K2 Q) [o2] d w)->K d)->wpQuiet P l.toArray C K e a):Dm P l C Q fin (.two q i j ti tj) a w:=QI g k h f
theorem FJ(h:(l[i]?).toList=[o])(g:(l[j]?).toList=[o2])(d:(∀K2:Act->World->Prop,(∀c b,C b->Dm P l C Q fin ti c b->K2 c b)->wpList P l.toArray (Exit.then K2 Q) [o] a w))(e:(∀K2:Act->World->Prop,(∀c b,C b->Dm P l C Q fin tj c b->K2 c b)->wpList P l.toArray (Exit.then K2 Q) [o2] a w)):Dm P l C Q fin (.two [] i j ti tj) a w:=two [] rfl h g fun _ f=>JE f d e
end
theorem ve{P:Program}{id:Nat}{Q:Exit->Act->World->Prop}{a:Act}{w:World}{l:List Oper}{C:World->Prop}{e:Type}{f:e->World}(h:Zz (uD C e f))(n:Nat)(t:MT)(h0:C w.drew)
    (c:Dm P l (fun d=>∃o,d=f o) Q (fun i d=>wpList P l.toArray Q (l.drop n) i d) t a w.drew) (m:P.follows .mixedOrders=true:=by kernel_rfl) (j:Ox l.toArray n t=true:=by kernel_rfl)
    (k:∀g a b p w,Q (.panic g) (a.put b p) w->Q (.panic g) a w:=by exact fun _ _ b _ _ c=>by cases b<;>exact c):(Code.region id l.toArray true).wp P Q a w:=CP f n t (h.o.o _ h0) m j k c
theorem EF{P G:Prop}(e:G)(d:Zz G->P:=by(intro c;(first|refine JR [_] rfl rfl fun b a=>?_|refine JR [_,_] rfl rfl fun b a=>?_|refine JR [_,_,_] rfl rfl fun b a=>?_|refine JR [_,_,_,_] rfl rfl fun b a=>?_|refine JR [_,_,_,_,_] rfl rfl fun b a=>?_|refine JR [_,_,_,_,_,_] rfl rfl fun b a=>?_|refine JR [_,_,_,_,_,_,_] rfl rfl fun b a=>?_);(repeat (go_big_quiet_step (fail)));exact qn a c.o)):P:=d (Zy e)
def vT(D:Nat->Bool)(j:Nat):Nat->Bool:=fun i=>if i=j then true else D i
def R9(md:Region.Mode)(ops:Array Oper)(j k:Nat):Bool:=match ops[j]? with
 |some o=>o.after.any fun e=>Region.binds md e&&decide (e.on=k)
 |none=>false
def F6(ops:Array Oper)(n:Nat)(ds:List (List Nat)):Bool:=
 zZ .any ops n&&decide (n<=ops.size)&&((List.range n).all fun j=>((ops[j]?).map (fun o=>o.after.all fun e=> !Region.binds .any e || decide (e.on<j))).getD false&&(ds.getD j []).all fun k=>R9 .any ops j k)&&
 Region.seqB .any ops (ops.size - n) n (Array.replicate n true++Array.replicate (ops.size - n) false)
theorem PN{n:Nat}{D:Nat->Bool}{j:Nat}(l:j<n)(i:D j=false):((List.range n).filter fun a=> !D a).length=((List.range n).filter fun a=> !vT D j a).length+1:=by
 have p:∀b:List Nat,b.Nodup->(if j∈b then(b.filter fun a=> !D a).length=(b.filter fun a=> !vT D j a).length+1 else(b.filter fun a=> !D a).length=(b.filter fun a=> !vT D j a).length):=by
  intro b o;induction b with
  |nil=>simp
  |cons d b c=>
   have f:=Wx.1 o;have c:=c f.2;by_cases e:d=j
   . subst e;rw[SX f.1]at c;simp[vT,i];simpa [vT]using c
   . have g:vT D j d=D d:=SX e;have h:(j∈d::b)=(j∈b):=by simp[Ne.symm e]
     simp only[List.filter_cons,g,h];cases k:D d<;>split at c<;>rename_i m<;>simp[m,k,c]
 have:=p (List.range n) List.nodup_range;rwa[SV (UY.2 l)]at this
section
variable {P:Program} {Q:Exit->Act->World->Prop} {n:Nat}
theorem MJ{l:List Oper}(ds:List (List Nat))(J:(Nat->Bool)->Act->World->Prop)(x:F6 l.toArray n ds=true)(step:∀D a w e,e<n->D e=false->(∀d∈ds.getD e [],D d=true)->J D a w->wpList P l.toArray (Exit.then (J (vT D e)) Q) (l[e]?).toList a w)(S:∀D a w,(∀b,b<n->D b=true)->J D a w->wpList P l.toArray Q (l.drop n) a w):∀(m:Nat) (c:Array Bool) (a:Act) (w:World),c.size=l.length->(∀b,n<=b->b<l.length->c[b]?=some false)->((List.range n).filter fun b=> !c.getD b false).length=m->J (fun b=>c.getD b false) a w→ vB P .any l.toArray n (fun _=>True) Q ((l.length - n)+m) c a w:=by
 unfold F6 at x;simp only[S9,SF,Tx,UY]at x;obtain⟨⟨⟨ht,hn⟩,r⟩,hs⟩:=x;have ak:n<=l.length:=by simpa using hn
 intro m;induction m with
 | zero =>
  intro c a w z hF q y;have k:∀b,b<n->c.getD b false=true:=fun b i=>by
   have T:=Ua.1 q;cases r:c.getD b false with
   |true=>rfl
   |false=>
    have:b∈(List.range n).filter fun b=> !c.getD b false:=List.mem_filter.2 ⟨UY.2 i,by rw[r];rfl⟩;rw[T]at this;cases this
  have V:c=Array.replicate n true++Array.replicate (l.toArray.size - n) false:=by
   apply Array.ext
   . simp[z];omega
   . intro b f h;by_cases i:b<n
     . rw[Array.getElem_append_left (by simpa using i)];have:=k b i;simp[f]at this;simpa using this
     . rw[Array.getElem_append_right (by simpa using Nat.le_of_not_lt i)];have:=hF b Zm Zm;rw[Ux f]at this;simpa using this
  have:=xL (P:=P) (Q:=Q) (md:=.any) (C:=fun _=>True) (l:=l) (l.drop n) n c a w (Tz _) (fun e=>by simp[UM]) (by rw[V];simpa using hs) (S _ _ _ k y);simpa using this
 | succ m ih =>
  intro c a w z hF q y;have W:∃b,b<n/\c.getD b false=false:=by
   cases F:(List.range n).filter fun b=> !c.getD b false with
   |nil=>rw[F]at q;cases q
   |cons b ax=>
    have:b∈(List.range n).filter fun b=> !c.getD b false:=by rw[F];simp
    obtain⟨f,h⟩:=List.mem_filter.1 this;exact⟨b,UY.1 f,by simpa using h⟩
  have ag : ∃ b, b < n /\ c.getD b false = false /\ ∀ d, d < b -> c.getD d false = true := by
   obtain⟨u,f,h⟩:=W;induction u using Nat.strongRecOn with
   |ind u ai=>
    by_cases g:∃d,d<u/\c.getD d false=false
    . obtain⟨d,aa,ae⟩:=g;exact ai d aa Zm ae
    . exact⟨u,f,h,fun d j=>by
       cases A:c.getD d false with
       |true=>rfl
       |false=>exact absurd ⟨d,j,A⟩ g⟩
  obtain⟨b,i,G,af⟩:=ag;have E:∀d,d<l.length->c.getD d true=c.getD d false:=fun d j=>by
   have Z:d<c.size:=Zm
   simp[Z]
  have M:b∈Region.ready .any l.toArray c:=by
   refine VW.2 ⟨by rw[E b Zm];exact G,?_⟩;have f:=(r b i).1;cases K:l.toArray[b]? with
   |none=>rw[K]at f;cases f
   |some aj=>
    rw[K]at f;simp only[TN,U7,VQ,V4,VV,SF]at f;refine⟨aj,rfl,fun v p o=>af _ ((f v p).resolve_left (by rw[o];simp))⟩
  refine⟨fun g=>(by rw[g]at M;cases M),fun e H=>?_⟩;obtain⟨X,oj,s,k⟩:=VW.1 H;have Y:e<l.length:=by
   rcases Uo e l.length with g|g
   . exact g
   . simp[g]at s
  have C:e<n:=by
   rcases Uo e n with g|g
   . exact g
   . rcases BX ht i e g with t|t
     . obtain⟨au,L,v,p,o,B⟩:=Region.waitsFor_spec t;rw[s]at L;cases L;have:=k v p o;rw[B,G]at this;cases this
     . rw[s]at t;cases t
  have I:c.getD e false=false:=by rw[<-E e Y];exact X
  have ah:=step (fun b=>c.getD b false) a w e C I (fun d j=>by
   have f:=(r e C).2 d j;unfold R9 at f;rw[s]at f;obtain⟨av,hq,h⟩:=Array.any_eq_true.1 f;simp only[S9,SF]at h;obtain⟨o,B⟩:=h;have p:=Array.getElem_mem hq;rw[<-B];exact k _ p o) y
  refine zD H ah fun O w' U=>⟨fun _=>trivial,?_⟩;have N:(fun b=>(c.setIfInBounds e true).getD b false)=vT (fun b=>c.getD b false) e:=by
   funext d;unfold vT;by_cases j:d=e
   . subst j;have:d<c.size:=Zm
     simp[this]
   . rw[SX j,getD_set_ne false (Ne.symm j)]
  refine ih (c.setIfInBounds e true) O w' (by simpa using z) (fun b f h=>by
   rw[Array.getElem?_setIfInBounds_ne Zm];exact hF b f h) ?_ (by rw[N];exact U)
  have A:=PN (D:=fun b=>c.getD b false) C I;rw[q]at A;have R:(List.filter (fun b=> !(c.setIfInBounds e true).getD b false) (List.range n))=(List.filter (fun b=> !vT (fun b=>c.getD b false) e b) (List.range n)):=by
   apply List.filter_congr;intro ay _;rw[<-N]
  rw[R];omega
end
theorem Sz{P:Program}{id:Nat}{Q:Exit->Act->World->Prop}{a:Act}{w:World}{l:List Oper}(n:Nat)(ds:List (List Nat))(J:Act->(Nat->Bool)->Act->World->Prop)
    (h0:J a (fun _=>false) a w.drew)
    (step:∀c d f e,e<n->c e=false->(∀h∈ds.getD e [],c h=true)->J a c d f->wpList P l.toArray (Exit.then (J a (vT c e)) Q) (l[e]?).toList d f)
    (j:∀c d f,(∀b,b<n->c b=true)->J a c d f->wpList P l.toArray Q (l.drop n) d f)
    (p:P.follows .mixedOrders=true:=by kernel_rfl) (g:F6 l.toArray n ds=true:=by kernel_rfl):(Code.region id l.toArray true).wp P Q a w:=by
 refine wp_region_any p (xR (C:=fun _=>True) (n:=n) _ _ _ _ ?_);have u:n<=l.length:=by
  unfold F6 at g;simp only[S9,SF]at g;simpa using g.1.1.2
 have m:((List.range n).filter fun b=> !(Array.replicate l.length false).getD b false).length=n:=by
  have:(List.range n).filter (fun b=> !(Array.replicate l.length false).getD b false)=List.range n:=by
   apply List.filter_eq_self.2;intro s q;have:s<l.length:=SK (UY.1 q)
   simp[this]
  rw[this,List.length_range]
 have r:(fun b=>(Array.replicate l.length false).getD b false)=fun _=>false:=by
  funext h;by_cases o:h<l.length<;>simp[o]
 have:=MJ (P:=P) (Q:=Q) ds (J a) g step j n (Array.replicate l.length false) a w.drew Zl (fun b t k=>by simp[k]) m (by rw[r];exact h0);have i:l.length - n+n=l.toArray.size:=by simp;omega
 rw[i]at this;simpa using this
def upd(s:Nat->Value)(j:Nat)(x:Value):Nat->Value:=fun i=>if i=j then x else s i
theorem js{P:Program}{l:List Oper}{Q:Exit->Act->World->Prop}{j:Nat}{b:Oper}{a:Act}{w:World}(c:wpList P l.toArray Q [b] a w)(d:(l[j]?).toList=[b]:=by rfl):wpList P l.toArray Q (l[j]?).toList a w:=by rw[d];exact c
def rq:List Nat->Nat->(Nat->Value)->Array Value->Array Value
 |[],_,_,t=>t
 |d::r,j,s,t=>rq r (j+1) s (t.setIfInBounds d (s j))
theorem Ey(t:Array Value)(g:Nat->Value):∀(l:List Nat) (j:Nat),(∀a d,l[a]?=some d->g (j+a)=t.getD d undef)->rq l j g t=t
 |[],_,_=>rfl
 | d :: r, j, h => by
  have c:g j=t.getD d undef:=h 0 d rfl;have k:t.setIfInBounds d (g j)=t:=by
   rw[c];apply Array.ext
   . simp
   . intro m e f;by_cases b:d=m
     . subst b;simp[f]
     . rw[Array.getElem_setIfInBounds_ne (by simpa using e) b]
  rw[rq,k];exact Ey t g r (j+1) fun a b i=>by
   have:=h (a+1) b (by simpa using i);rwa[Ul,VR 1 a]
theorem Qx{P:Program}{id:Nat}{Q:Exit->Act->World->Prop}{t:Array Value}{f:List Deferred}{w:World}{l:List Oper}(n:Nat)(ds:List (List Nat))(d:List Nat)(h:(Nat->Bool)->(Nat->Value)->World->Prop)
    (h0:∀a,h (fun _=>false) a w.drew)
    (step:∀b a c e,e<n->b e=false->h b a c->(∀A∈ds.getD e [],b A=true)->∀K:Act->World->Prop,(∀m i,h (vT b e) (upd a e m) i->K ⟨rq d 0 (upd a e m) t,f⟩ i)->wpList P l.toArray (Exit.then K Q) (l[e]?).toList ⟨rq d 0 a t,f⟩ c)
    (q:∀b a c,(∀g,g<n->b g=true)->h b a c->wpList P l.toArray Q (l.drop n) ⟨rq d 0 a t,f⟩ c)
    (z:P.follows .mixedOrders=true:=by kernel_rfl) (r:F6 l.toArray n ds=true:=by kernel_rfl):(Code.region id l.toArray true).wp P Q ⟨t,f⟩ w:=by
 have u:rq d 0 (fun g=>t.getD (d.getD g 0) undef) t=t:=Ey t _ d 0 fun g B j=>by simp[j]
 have p:(⟨t,f⟩:Act)=⟨rq d 0 (fun g=>t.getD (d.getD g 0) undef) t,f⟩:=by rw[u]
 rw[p];refine Sz n ds (fun _ b o w=>∃a,o=⟨rq d 0 a t,f⟩/\h b a w) ⟨_,rfl,h0 _⟩ ?_ ?_ z r
 . rintro b _ c e x s y ⟨a,rfl,k⟩;exact step b a c e x s k y _ fun m i j=>⟨_,rfl,j⟩
 . rintro b _ c v ⟨a,rfl,k⟩;exact q b a c v k
structure uS(w:World)(E k n:Nat)(pf old:Value)(xs ys:List Value)(D:Nat->Bool)(s:Nat->Value)(W:World):Prop where
 ext:Ext w W
 d3:D 3=true->D 0=true
 d6:D 6=true->D 3=true/\D 5=true
 e1:D 1=true->s 1=pf
 e2:D 2=true->s 2=old
 e4:D 4=true->s 4=.agg ys.toArray
 e7:D 7=true->s 7=pf
 r0:D 0=true->D 3=false->∃b,s 0=.slice (some ⟨b,0,none⟩) 0 0/\W.ownsRow w.heap.size E k (.slice (some ⟨b,0,none⟩) 0 0) 0 []
 r3:D 3=true->D 6=false->W.ownsRow w.heap.size E k (s 3) n xs
 r5:D 5=true->D 6=false->∃b,s 5=.slice (some ⟨b,0,none⟩) 1 1/\hH W b 0 ys/\(D 3=false->∀g,D 0=true->(s 0).ownBlock=some g->g≠b)
 r6:D 6=true->∃g c,s 6=.slice (some ⟨g,0,none⟩) (n+1) c/\W.ownsRow w.heap.size E k (.slice (some ⟨g,0,none⟩) (n+1) c) (n+1) (xs++ys)
namespace uS
variable {w:World} {E k n:Nat} {pf old:Value} {xs ys:List Value} {D:Nat->Bool} {s:Nat->Value} {W:World}
theorem start(s:Nat->Value):uS w E k n pf old xs ys (fun _=>false) s w.drew:=⟨jg,by simp,by simp,by simp,by simp,by simp,by simp,by simp,by simp,by simp,by simp⟩
theorem q1(a:uS w E k n pf old xs ys D s W):uS w E k n pf old xs ys (vT D 1) (upd s 1 pf) W:=
 ⟨a.ext,a.d3,a.d6,fun _=>rfl,a.e2,a.e4,a.e7,a.r0,a.r3,a.r5,a.r6⟩
theorem q2(a:uS w E k n pf old xs ys D s W):uS w E k n pf old xs ys (vT D 2) (upd s 2 old) W:=
 ⟨a.ext,a.d3,a.d6,a.e1,fun _=>rfl,a.e4,a.e7,a.r0,a.r3,a.r5,a.r6⟩
theorem q4(a:uS w E k n pf old xs ys D s W):uS w E k n pf old xs ys (vT D 4) (upd s 4 (.agg ys.toArray)) W:=
 ⟨a.ext,a.d3,a.d6,a.e1,a.e2,fun _=>rfl,a.e7,a.r0,a.r3,a.r5,a.r6⟩
theorem q7(a:uS w E k n pf old xs ys D s W):uS w E k n pf old xs ys (vT D 7) (upd s 7 pf) W:=
 ⟨a.ext,a.d3,a.d6,a.e1,a.e2,a.e4,fun _=>rfl,a.r0,a.r3,a.r5,a.r6⟩
theorem q0(a:uS w E k n pf old xs ys D s W)(d:D 0=false)(hl:0<ys.length):uS w E k n pf old xs ys (vT D 0) (upd s 0 (.slice (some ⟨W,0,none⟩) 0 0)) (W.alloc (.cells #[] E)):=by
 have c:D 3=false:=by cases b:D 3 with|false=>rfl|true=>rw[a.d3 b]at d;cases d
 have i:D 6=false:=by cases b:D 6 with|false=>rfl|true=>rw[(a.d6 b).1]at c;cases c
 refine⟨a.ext.alloc _,fun _=>rfl,a.d6,a.e1,a.e2,a.e4,a.e7,fun _ _=>⟨_,rfl,lh W _ _ _ a.ext.size rfl⟩,fun b=>absurd (show D 3=true from b) (by simp[c]),fun b h=>?_,fun b=>absurd (show D 6=true from b) (by simp[i])⟩;obtain⟨f,g,e,-⟩:=a.r5 b h;refine⟨f,g,e.ext (jh _),fun _ l _ j=>?_⟩;simp[upd,Value.ownBlock]at j;have:=iV (e 0 _ (Dj hl));omega
theorem q3(b:uS w E k n pf old xs ys D s W)(e:D 3=false)(h0:D 0=true){v:Value}{d:World}(o:d.ownsRow w E k v n xs)(f:Kp (fun c=>(s 0).ownBlock=some c) W d)(p:∀c,(s 0).ownBlock=some c->w.heap.size<=c):uS w E k n pf old xs ys (vT D 3) (upd s 3 v) d:=by
 have i:D 6=false:=by cases a:D 6 with|false=>rfl|true=>rw[(b.d6 a).1]at e;cases e
 refine⟨b.ext.own f p,fun _=>h0,fun a=>⟨rfl,(b.d6 a).2⟩,b.e1,b.e2,b.e4,b.e7,fun _ a=>(by cases a),fun _ _=>o,fun a h=>?_,fun a=>absurd (show D 6=true from a) (by simp[i])⟩;obtain⟨c,g,l,m⟩:=b.r5 a h;exact⟨c,g,l.kp f (fun j=>m e _ h0 j rfl),fun a=>(by cases a)⟩
theorem q5(a:uS w E k n pf old xs ys D s W)(j:D 5=false):uS w E k n pf old xs ys (vT D 5) (upd s 5 (.slice (some ⟨W,0,none⟩) 1 1)) (W.alloc (.cells ys.toArray E)):=by
 have i:D 6=false:=by cases b:D 6 with|false=>rfl|true=>rw[(a.d6 b).2]at j;cases j
 have l:Ext W (W.alloc (.cells ys.toArray E)):=jh _;refine⟨a.ext.alloc _,a.d3,fun b=>absurd (show D 6=true from b) (by simp[i]),a.e1,a.e2,a.e4,a.e7,fun b d=>?_,fun b p=>?_,fun _ _=>⟨_,rfl,hH.nC _ _ rfl,fun _ h c q=>?_⟩,fun b=>absurd (show D 6=true from b) (by simp[i])⟩
 . obtain⟨g,c,e⟩:=a.r0 b d;exact⟨g,c,iY e l fun _ _ _ f=>f⟩
 . exact iY (a.r3 b p) l fun _ _ _ f=>f
 . have d:D 3=false:=by assumption
   obtain⟨g,o,e⟩:=a.r0 c d;have m:(s 0).ownBlock=some h:=q;rw[o]at m;have:=e.lt h m;omega
theorem q6(a:uS w E k n pf old xs ys D s W)(i:D 6=false)(f:D 3=true)(h:D 5=true){g c:Nat}{d:World}(m:d.ownsRow w E k (g,n+1,c) (n+1) (xs++ys))(l:Kp (fun e=>(s 3).ownBlock=some e) W d):uS w E k n pf old xs ys (vT D 6) (upd s 6 (g,n+1,c)) d:=by
 have o:=(a.r3 f i).lt;refine⟨a.ext.own l (fun e j=>(o e j).1),a.d3,fun _=>⟨f,h⟩,a.e1,a.e2,a.e4,a.e7,fun _ b=>absurd f (by simp[show D 3=false from b]),fun _ b=>(by cases b),fun _ b=>(by cases b),fun _=>⟨g,c,rfl,m⟩⟩
end uS
inductive Dl:List Nat->Prop
 |mk (l:List Nat):Dl l
theorem Qy{P:Program}{id:Nat}{Q:Exit->Act->World->Prop}{t:Array Value}{j:List Deferred}{w d:World}{l:List Oper}{f:List Nat}{h k n i m s:Nat}{A z:TypeId}{cells:Array Value}{g:Value}{xs o:List Value}
    (_:Dl f) (_:Elem A h k) (_:Zz (h9 d i z cells)) (_:cells[m]?=some g) (_:Zz (hH d s 0 o)) (_:Zz (Flat d k g n xs)) (y:d=w)
    (step:∀a c e b,b<8->a b=false->uS d h k n (some (i,m)) g xs o a c e->(∀k∈[[],[],[1],[0,2],[],[4],[3,5],[]].getD b [],a k=true)->∀K:Act->World->Prop,(∀r p,uS d h k n (some (i,m)) g xs o (vT a b) (upd c b r) p->K ⟨rq f 0 (upd c b r) t,j⟩ p)->wpList P l.toArray (Exit.then K Q) (l[b]?).toList ⟨rq f 0 c t,j⟩ e)
    (u:∀a c e,(∀q,q<8->a q=true)->uS d h k n (some (i,m)) g xs o a c e->wpList P l.toArray Q (l.drop 8) ⟨rq f 0 c t,j⟩ e)
    (x:P.follows .mixedOrders=true:=by kernel_rfl) (v:F6 l.toArray 8 [[],[],[1],[0,2],[],[4],[3,5],[]]=true:=by kernel_rfl):(Code.region id l.toArray true).wp P Q ⟨t,j⟩ w:=by
 subst y;exact Qx 8 [[],[],[1],[0,2],[],[4],[3,5],[]] f _ uS.start step u x v
theorem Mf {P : Prop} {G : (Nat -> Value) -> Nat -> Nat -> World -> Prop} {e : World} {l k n B y c : Nat} {N M : TypeId} {cells : Array Value} {a : Option Addr} {xs u : List Value} (C : List Nat) (D : Nat)
    (p:Elem N l k) (w:Bj l k) (q:Zz (h9 e B M cells)) (hc:cells[D]?=some (.slice a n c)) (s:Zz (hH e y 0 u)) (r:Zz (Flat e k (.slice a n c) n xs)) (K:n+1<=4294967296)
    (hX:∀j f o g,Ext e g->g.ownsRow e l k (.slice (some ⟨f,0,none⟩) (n+1) o) (n+1) (xs++u)->G j f o g)
    (aa : Dl C -> Zz (∀ j f o g, Ext e g -> g.ownsRow e l k (.slice (some ⟨f, 0, none⟩) (n + 1) o) (n + 1) (xs ++ u) -> G j f o g) -> Elem N l k -> Bj l k -> Zz (h9 e B M cells) -> Zz (cells[D]? = some (.slice a n c)) -> Zz (hH e y 0 u) -> Zz (Flat e k (.slice a n c) n xs) -> n + 1 <= 4294967296 -> P := by
     (intro ae Q p w q z s r K
      refine Qy ae p q z.o s r rfl ?_ ?_
      . intro O j g h hj i b m ag d;have af:h=0\/h=1\/h=2\/h=3\/h=4\/h=5\/h=6\/h=7:=Zm
        rcases af with rfl|rfl|rfl|rfl|rfl|rfl|rfl|rfl
        . refine js ?_;simp (decide:=true)only[rq,upd,UC,UJ,TY,TQ,TK,Nat.reduceAdd]at d |-;go_wp2_with fail;exact b.q0 i Zl
        . refine js ?_;simp (decide:=true)only[rq,upd,UC,UJ,TY,TQ,TK,Nat.reduceAdd]at d |-;go_wp2_with fail;exact b.q1
        . have U:=b.e1 (m 1 Zl);have J:=q.o.ext b.ext;have ai:=J.c _ _ z.o;have yz:=J.lt;refine js ?_;simp (decide:=true)only[rq,upd,UC,UJ,TY,TQ,TK,Nat.reduceAdd]at d |-;rw[U]at d |-;go_wp2_with fail;exact b.q2
        . have E:=m 0 Zl;obtain⟨A,v,L⟩:=b.r0 E i;have V:=b.e2 (m 2 Zl);have hs:=fun f (hg:(j 0).ownBlock=some f)=>(L.lt f (by rw[<-v];exact hg)).1;refine js ?_;simp (decide:=true)only[rq,upd,UC,UJ,TY,TQ,TK,Nat.reduceAdd]at d |-;rw[v,V]at d |-;refine jJ p _ rfl _ _ rfl _ _ 0 [] rfl L _ _ _ _ rfl (r.o.ext b.ext) Zm b.ext.size ?_;intro ah R t kA;rw[Tq,Ti]at t;exact d _ _ (b.q3 i E t (by rw[v];exact kA) hs)
        . have hY:=s.o.ext b.ext;refine js ?_;simp (decide:=true)only[rq,upd,UC,UJ,TY,TQ,TK,Nat.reduceAdd]at d |-;refine C9 w rfl rfl rfl hY rfl ?_;exact d _ _ b.q4
        . have W:=b.e4 (m 4 Zl);refine js ?_;simp (decide:=true)only[rq,upd,UC,UJ,TY,TQ,TK,Nat.reduceAdd]at d |-;rw[W]at d |-;go_wp2_with fail;exact b.q5 i
        . have F:=m 3 Zl;have H:=m 5 Zl;have t:=b.r3 F i;obtain⟨A,X,T,-⟩:=b.r5 H i;refine js ?_;simp (decide:=true)only[rq,upd,UC,UJ,TY,TQ,TK,Nat.reduceAdd]at d |-;rw[X]at d |-;refine ji p rfl _ _ rfl _ _ _ _ rfl t A 1 _ rfl rfl T Zt Zm b.ext.size ?_;intro f c R x kR _;exact d _ _ (b.q6 i F H x kR)
        . refine js ?_;simp (decide:=true)only[rq,upd,UC,UJ,TY,TQ,TK,Nat.reduceAdd]at d |-;go_wp2_with fail;exact b.q7
      . intro O j wr I b;obtain⟨g9,S,Y,x⟩:=b.r6 (I 6 Zn);have Z:=b.e7 (I 7 Zn);simp (decide:=true)only[rq,TY,TQ,TK,Nat.reduceAdd];rw[Y,Z];exact Q.o j g9 S wr b.ext x)):P:=
 aa (.mk C) (Zy hX) p w q (Zy hc) s r K
end Go.Proofs.YtenhnldnpdlniaaGreat
namespace Go.Proofs.YtenhnldnpdlniaaGreat
open Go Go.RowKit Tryz M
variable {m s: ByteArray}{a op: Int}{cs: List Value}{gf p: Nat}{I: Nat->Prop}{v: Value}{w: World}
theorem mW.inside{x:SMap}(a:mW w I x cs):mW w (fun b=>I b/\b<w) x cs:=by
 obtain⟨e,f,d,c,b⟩:=a;exact⟨e,f,d,c.inside (fun _ _ _ _ a=>a) Zm,b.inside (fun _ _ _ _ a=>a) Zm⟩
theorem jb.inside{x:M.Method}(a:jb w I x cs):jb w (fun b=>I b/\b<w) x cs:=by
 obtain⟨f,g,h,e,c,b,d⟩:=a;exact⟨f,g,h,e,c.inside (fun _ _ _ _ a=>a) Zm,b.inside (fun _ _ _ _ a=>a) Zm,d.inside (fun _ _ _ _ a=>mW.inside a) Zm⟩
theorem jB.inside{x:Class}(a:jB w I x cs):jB w (fun b=>I b/\b<w) x cs:=by
 obtain⟨e,f,d,c,b⟩:=a;exact⟨e,f,d,c.inside (fun _ _ _ _ a=>a) Zm,b.inside (fun _ _ _ _ a=>jb.inside a) Zm⟩
theorem iX.inside{x:kC}(a:iX w I x cs):iX w (fun b=>I b/\b<w) x cs:=by
 obtain⟨f,e,d,c,b⟩:=a;exact⟨f,e,d,c.inside (fun _ _ _ _ a=>jB.inside a) Zm,b.inside (fun _ _ _ _ a=>a) Zm⟩
theorem qh.turn{h: World}{d b: Nat}{e:List Int}(a:qh w d v e p)(g:Kp (·=b) w h)(l:d≠b)(m:e.length≠0->∀f n c,v=.slice (some f) n c->f.block≠b):qh h d v e p:=
 ⟨a.blk.kp g l,a.Rj.kp g fun k i o c j=>m k i o c j,a.own,a.len⟩
theorem qh.below{g: Nat}{h:List Int}(d:qh w g v h p):g<w/\(h.length≠0->∀a f b,v=.slice (some a) f b->a.block<w):=by
 refine⟨d.blk.lt,fun e a f b c=>?_⟩;rcases d.Rj with⟨-,j⟩|⟨l,m,i,o,k,n⟩
 . rw[j]at e;simp at e
 . rw[i]at c;cases c;have:=y9 (k 0 Zm);rwa[add_block]at this
theorem wH(n:Int){w:World}(h0:0<=n)(p:n<=9223372036854775807):Calls prog 38 #[n] w fun l o=>l=.returned (M.qV n)/\Ext w o:=by
 go_enter func38,ntmps38;go_wp2;go_loopw [0,3] (fun g m wr=>∃(b:Nat) (a:Int) (c:ByteArray),g=.int .i64 a/\m=.string c/\0<=a/\a<=n/\9*(c.size:Int)+a<=n/\Zz (a.toNat<10 ^ (b+1)/\M.bs (M.Dy b a.toNat)++c=M.qV n)/\Ext w wr) (fun g _ _=>(intOf g).toNat)
 case atStart=>exact⟨20,n,⟨#[]⟩,rfl,rfl,h0,Int.le_refl _,by rw[show(ByteArray.mk #[]).size=0 from rfl];omega,Zy ⟨Zm,ByteArray.append_empty⟩,Kp.rr⟩
 case round =>
  obtain⟨b,a,c,rfl,rfl,r,s,u,i,j⟩:=hrel;have h:=Zy j;clear j;have t:c.size<=1030000000000000000:=Zm
  by_cases q:9<a
  . have k:=wm wr (48+a % 10) Zm Zm;have d:=wQ [UInt8.ofNat (48+a % 10).toNat];simp only[UA]at d;go_wp2;go_round
    case rel=>
     obtain⟨f,e⟩:=i.o;cases b with
     |zero=>simp at f;omega
     |succ b=>
      refine⟨b,a / 10,_,rfl,rfl,Zm,Zm,by rw[Tj,d];omega,Zy ⟨by rw[Nat.pow_succ]at f;omega,?_⟩,h.o.trans (jh _)⟩;rw[<-e,M.FT Zm,<-M.Oa,ByteArray.append_assoc,show(a / 10).toNat=a.toNat / 10 by omega,show(48+a % 10).toNat=48+a.toNat % 10 by omega]
    case measure=>simp[intOf];omega
  . have k:=wm wr (48+a) Zm Zm;have d:=wQ [UInt8.ofNat (48+a).toNat];simp only[UA]at d;go_wp2;go_ret;refine⟨?_,h.trans (jh _)⟩;obtain⟨f,e⟩:=i.o;rw[<-e,M.IE Zm,show(48+a).toNat=48+a.toNat by omega];rfl
theorem KV{n:Int}(h0: -9223372036854775807<=n)(h:n<=9223372036854775807):Calls prog 135 #[n] w fun b f=>b=.returned (M.yt n)/\Ext w f:=by
 by_cases d:n<0
 . have a:M.yt n=⟨#[45]⟩++M.qV (-n):=by
    unfold M.yt M.qV;rw[SV d];exact(M.Oa [45] _).symm
   rw[a];clear a;have e:Zz ((M.qV (-n)).size<=1000):=Zy (by
    unfold M.qV;rw[wQ];exact TD (M.Aq 20 _ Zm 20 Zm) Zm)
   go_enter func135,ntmps135;go_wp2_with fail;refine(wH _ Zm Zm).mono ?_;rintro b g ⟨rfl,c⟩;have i:=e.o;go_wp2;go_ret;exact⟨rfl,c⟩
 . have a:M.yt n=M.qV n:=by
    unfold M.yt;rw[SX d]
   rw[a];clear a;go_enter func135,ntmps135;go_wp2_with fail;refine(wH _ Zm Zm).mono ?_;rintro b g ⟨rfl,c⟩;go_wp2;go_ret;exact⟨rfl,c⟩
theorem Qs (s : ByteArray) (w : World) (L : s.size <= 4000000000) :Calls prog 164 #[s] w fun t I=>t=.returned (.tuple #[.int .i64 (M.jO s).1,.bool (M.jO s).2])/\Ext w I:=by
 by_cases z:s.size=0
 . rw[M.yT (M.KN z) (.inl z)];go_enter func164,ntmps164;go_wp2;go_ret2;exact⟨rfl,Kp.rr⟩
 by_cases E:((s[0]'Zm).toNat:Int)=45
 . have g := Zy (M.M6 (s := s) Zm Zm); by_cases f : s.size = 1 \/ 5 < s.size
   . rw[M.yT g.o Zm];go_enter func164,ntmps164;go_wp2_with fail
     all_goals (go_ret2;exact⟨rfl,Kp.rr⟩)
   have A:((s.size:Int)==1)=false:=SI.2 Zm;have B:decide ((5:Int)<s.size)=false:=RN Zm;have m:=Zy (show¬(s.size=1\/1+4<s.size) by omega);obtain⟨o,j⟩:∃o,M.jO s=o:=⟨_,rfl⟩;have h:=Zy j;rw[j];clear j;go_enter func164,ntmps164;go_wp2;go_loopw [4,6] (fun y k wr=>∃(a:Nat) (b:Int) (d:Int),1<=a/\a<=s.size/\k=.int .i64 a/\y=.int .i64 b/\0<=b/\b+1<=d/\Zz (d=10 ^ (a - 1)/\M.oL (s.data.toList.drop a) b=M.oL (s.data.toList.drop 1) 0)/\Ext w wr) (fun _ k _=>s.size - (intOf k).toNat)
   case atStart=>exact⟨1,0,1,Zm,Zm,rfl,rfl,Zm,Zm,Zy ⟨by simp,rfl⟩,Kp.rr⟩
   case round =>
    obtain⟨a,b,d,C,D,rfl,rfl,G,H,c,p⟩:=hrel;have e:=Zy p;clear p;have F:d<=10000:=by
     rw[c.o.1];have v:(10 ^ (a - 1):Nat)<=10 ^ 4:=Nat.pow_le_pow_right Zm Zm;have x:=Int.ofNat_le.2 v;simpa using x
    by_cases r:a<s.size
    . go_wp2_with fail
      all_goals first
       | (go_ret2
          refine⟨?_,e⟩
          rw[<-h.o,M.CL g.o m.o (c.o.2.symm.trans (M.EA r _ Zm))]
          rfl)
       |skip
      go_round
      case rel=>
       refine⟨a+1,_,d*10,Zm,Zm,by go_num,rfl,Zm,Zm,Zy ⟨?_,?_⟩,e.o⟩
       . rw[c.o.1,show a+1 - 1=(a - 1)+1 by omega,Int.pow_succ]
       . rw[<-c.o.2,M.CK r _ Zm]
      case measure=>simp[intOf];omega
    . go_wp2_with fail;refine(KV Zm Zm).mono ?_;rintro t J ⟨rfl,q⟩;have l:M.oL (s.data.toList.drop 1) 0=some b:=by
       rw[<-c.o.2,show a=s.size by omega,M.EB]
      have n:=Zy (M.JF g m l);clear l;cases f:((M.yt (-b)).toList==s.toList)
      . have i:M.yt (-b)≠s:=fun u=>by rw[u]at f;simp at f
        go_wp2;go_ret2;exact⟨by rw[<-h.o,n.o,RN i];rfl,e.trans q⟩
      . have i:=nk f;go_wp2;go_ret2;exact⟨by rw[<-h.o,n.o,SY i];rfl,e.trans q⟩
 . have g := Zy (M.KO (s := s) Zm Zm); have K := SI.2 E; by_cases f : s.size = 0 \/ 4 < s.size
   . rw[M.yT g.o Zm];go_enter func164,ntmps164;go_wp2_with fail
     all_goals (go_ret2;exact⟨rfl,Kp.rr⟩)
   have A:((s.size:Int)==0)=false:=SI.2 Zm;have B:decide ((4:Int)<s.size)=false:=RN Zm;have m:=Zy (show¬(s.size=0\/0+4<s.size) by omega);obtain⟨o,j⟩:∃o,M.jO s=o:=⟨_,rfl⟩;have h:=Zy j;rw[j];clear j;go_enter func164,ntmps164;go_wp2;go_loopw [4,6] (fun y k wr=>∃(a:Nat) (b:Int) (d:Int),0<=a/\a<=s.size/\k=.int .i64 a/\y=.int .i64 b/\0<=b/\b+1<=d/\Zz (d=10 ^ (a - 0)/\M.oL (s.data.toList.drop a) b=M.oL (s.data.toList.drop 0) 0)/\Ext w wr) (fun _ k _=>s.size - (intOf k).toNat)
   case atStart=>exact⟨0,0,1,Zm,Zm,rfl,rfl,Zm,Zm,Zy ⟨by simp,rfl⟩,Kp.rr⟩
   case round =>
    obtain⟨a,b,d,C,D,rfl,rfl,G,H,c,p⟩:=hrel;have e:=Zy p;clear p;have F:d<=10000:=by
     rw[c.o.1];have v:(10 ^ (a - 0):Nat)<=10 ^ 4:=Nat.pow_le_pow_right Zm Zm;have x:=Int.ofNat_le.2 v;simpa using x
    by_cases r:a<s.size
    . go_wp2_with fail
      all_goals first
       | (go_ret2
          refine⟨?_,e⟩
          rw[<-h.o,M.CL g.o m.o (c.o.2.symm.trans (M.EA r _ Zm))]
          rfl)
       |skip
      go_round
      case rel=>
       refine⟨a+1,_,d*10,Zm,Zm,by go_num,rfl,Zm,Zm,Zy ⟨?_,?_⟩,e.o⟩
       . rw[c.o.1,show a+1 - 0=(a - 0)+1 by omega,Int.pow_succ]
       . rw[<-c.o.2,M.CK r _ Zm]
      case measure=>simp[intOf];omega
    . go_wp2_with fail;refine(KV Zm Zm).mono ?_;rintro t J ⟨rfl,q⟩;have l:M.oL (s.data.toList.drop 0) 0=some b:=by
       rw[<-c.o.2,show a=s.size by omega,M.EB]
      have n:=Zy (M.JG g m l);clear l;cases f:((M.yt b).toList==s.toList)
      . have i:M.yt b≠s:=fun u=>by rw[u]at f;simp at f
        go_wp2;go_ret2;exact⟨by rw[<-h.o,n.o,RN i];rfl,e.trans q⟩
      . have i:=nk f;go_wp2;go_ret2;exact⟨by rw[<-h.o,n.o,SY i];rfl,e.trans q⟩
theorem Nb(a:isNum op=true):op=1\/op=2\/op=3\/op=11\/op=12\/op=13:=by
 simpa [isNum,or_assoc]using a
theorem FP(a:oG op=true):op=6\/op=15:=by
 simpa [oG,or_assoc]using a
theorem Gi(a:pq op=true):op=7\/op=8\/op=9:=by
 simpa [pq,or_assoc]using a
theorem Gm(a:qY op=true):op=4\/op=5\/op=10\/op=14:=by
 simpa [qY,or_assoc]using a
theorem Pj(a:isNum op=false)(b:oG op=false)(c:pq op=false)(d:qY op=false):(¬op=1/\¬op=2/\¬op=3/\¬op=4/\¬op=5/\¬op=6/\¬op=7/\¬op=8)/\¬op=9/\¬op=10/\¬op=11/\¬op=12/\¬op=13/\¬op=14/\¬op=15:=by
 simp[isNum,oG,pq,qY]at a b c d;omega
theorem Oq(b:isNum op=true):Calls prog 233 #[.agg #[op,a,s,m]] w fun c d=>c=.returned (.iface 314 (.agg #[op,a]))/\Ext w d:=by
 rcases Nb b with rfl|rfl|rfl|rfl|rfl|rfl
 all_goals
  clear b;go_enter func233,ntmps233;go_wp2;go_ret;exact⟨rfl,(jh _)⟩
theorem Om(b:oG op=true):Calls prog 233 #[.agg #[op,a,s,m]] w fun c d=>c=.returned (.iface 316 (.agg #[op,s]))/\Ext w d:=by
 rcases FP b with rfl|rfl
 all_goals
  clear b;go_enter func233,ntmps233;go_wp2;go_ret;exact⟨rfl,(jh _)⟩
theorem Oo(b:pq op=true):Calls prog 233 #[.agg #[op,a,s,m]] w fun c d=>c=.returned (.iface 318 (.agg #[op,s,m]))/\Ext w d:=by
 rcases Gi b with rfl|rfl|rfl
 all_goals
  clear b;go_enter func233,ntmps233;go_wp2;go_ret;exact⟨rfl,(jh _)⟩
theorem Ot(b:qY op=true):Calls prog 233 #[.agg #[op,a,s,m]] w fun c d=>c=.returned (.iface 320 (.agg #[op]))/\Ext w d:=by
 rcases Gm b with rfl|rfl|rfl|rfl
 all_goals
  clear b;go_enter func233,ntmps233;go_wp2;go_ret;exact⟨rfl,(jh _)⟩
theorem Qd(b:isNum op=false)(c:oG op=false)(d:pq op=false)(e:qY op=false):Calls prog 233 #[.agg #[op,a,s,m]] w fun f g=>f=.returned .nilIface/\Ext w g:=by
 obtain⟨⟨h,i,j,k,l,n,o,p⟩,q,r,t,u,v,x,y⟩:=Pj b c d e;clear b c d e;go_enter func233,ntmps233;go_wp2;go_ret;exact⟨rfl,(jh _)⟩
theorem EP(x:Value)(w:World):(Instr.typeAssert (.iface 314 x) 20 320 true).run prog w=.ok (.tuple #[.agg #[SS],.bool false]) w:=by kernel_rfl
theorem EJ(x:Value)(w:World):(Instr.typeAssert (.iface 316 x) 20 320 true).run prog w=.ok (.tuple #[.agg #[SS],.bool false]) w:=by kernel_rfl
theorem EN(x:Value)(w:World):(Instr.typeAssert (.iface 318 x) 20 320 true).run prog w=.ok (.tuple #[.agg #[SS],.bool false]) w:=by kernel_rfl
theorem ER(x:Value)(w:World):(Instr.typeAssert (.iface 320 x) 20 320 true).run prog w=.ok (.tuple #[x,.bool true]) w:=by kernel_rfl
theorem EO(x:Value)(w:World):(Instr.typeAssert (.iface 314 x) 20 314 true).run prog w=.ok (.tuple #[x,.bool true]) w:=by kernel_rfl
theorem EI(x:Value)(w:World):(Instr.typeAssert (.iface 316 x) 20 314 true).run prog w=.ok (.tuple #[.agg #[SS,SS],.bool false]) w:=by kernel_rfl
theorem EM(x:Value)(w:World):(Instr.typeAssert (.iface 318 x) 20 314 true).run prog w=.ok (.tuple #[.agg #[SS,SS],.bool false]) w:=by kernel_rfl
theorem EH(x:Value)(w:World):(Instr.typeAssert (.iface 316 x) 20 316 true).run prog w=.ok (.tuple #[x,.bool true]) w:=by kernel_rfl
theorem EK(x:Value)(w:World):(Instr.typeAssert (.iface 318 x) 20 316 true).run prog w=.ok (.tuple #[.agg #[SS,none_],.bool false]) w:=by kernel_rfl
theorem EL(x:Value)(w:World):(Instr.typeAssert (.iface 318 x) 20 318 true).run prog w=.ok (.tuple #[x,.bool true]) w:=by kernel_rfl
theorem GV:Calls prog 234 #[.iface 314 (.agg #[op,a])] w fun b c=>b=.returned (.agg #[op,a,none_,none_])/\Ext w c:=by
 have d:=EP (.agg #[op,a]);have e:=EO (.agg #[op,a]);go_enter func234,ntmps234;go_wp2;refine Px (v:=.agg #[op,a,none_,none_]) (by simp[results,results234,go_sem]) rfl ?_;exact⟨rfl,kx⟩
theorem GU:Calls prog 234 #[.iface 316 (.agg #[op,s])] w fun a b=>a=.returned (.agg #[op,SS,s,none_])/\Ext w b:=by
 have c:=EJ (.agg #[op,s]);have d:=EI (.agg #[op,s]);have e:=EH (.agg #[op,s]);go_enter func234,ntmps234;go_wp2;refine Px (v:=.agg #[op,SS,s,none_]) (by simp[results,results234,go_sem]) rfl ?_;exact⟨rfl,kx⟩
theorem LP:Calls prog 234 #[.iface 318 (.agg #[op,s,m])] w fun a b=>a=.returned (.agg #[op,SS,s,m])/\Ext w b:=by
 have c:=EN (.agg #[op,s,m]);have d:=EM (.agg #[op,s,m]);have e:=EK (.agg #[op,s,m]);have f:=EL (.agg #[op,s,m]);go_enter func234,ntmps234;go_wp2;refine Px (v:=.agg #[op,SS,s,m]) (by simp[results,results234,go_sem]) rfl ?_;exact⟨rfl,kx⟩
theorem Df:Calls prog 234 #[.iface 320 (.agg #[op])] w fun a b=>a=.returned (.agg #[op,SS,none_,none_])/\Ext w b:=by
 have c:=ER (.agg #[op]);go_enter func234,ntmps234;go_wp2;refine Px (v:=.agg #[op,SS,none_,none_]) (by simp[results,results234,go_sem]) rfl ?_;exact⟨rfl,kx⟩
theorem Nc(op:Int)(w:World):Calls prog 240 #[op] w fun d g=>d=.returned (.tuple #[(pX op),(qG op)])/\w=g:=by
 by_cases a:op=1
 . subst a;go_enter func240,ntmps240;go_wp2;go_ret2;exact⟨rfl,rfl⟩
 by_cases e:op=2
 . subst e;go_enter func240,ntmps240;go_wp2;go_ret2;exact⟨rfl,rfl⟩
 by_cases f:op=3
 . subst f;go_enter func240,ntmps240;go_wp2;go_ret2;exact⟨rfl,rfl⟩
 . have b:pX op=0:=SX a;have c:qG op=15:=by unfold qG;rw[SX a,SX Zm]
   rw[b,c];clear b c;go_enter func240,ntmps240;go_wp2;go_ret2;exact⟨rfl,rfl⟩
theorem Ad:Calls prog 235 #[.iface 314 (.agg #[op,a])] w fun b d=>b=.returned (.bool (decide (pX op<=a)&&decide (a<=qG op)))/\Ext w d:=by
 have i:=EP (.agg #[op,a]);have j:=EO (.agg #[op,a]);generalize f:pX op=l;generalize g:qG op=m;have c:=Nc op;rw[f,g]at c;have e:=Zy c;clear c f g;by_cases h:l<=a
 . go_enter func235,ntmps235;go_wp2_with (go_at_call 240;refine(e _).mono ?_;rintro b d ⟨rfl,rfl⟩);go_ret;exact⟨hQ (by rw[SY h];simp),kx⟩
 . go_enter func235,ntmps235;go_wp2_with (go_at_call 240;refine(e _).mono ?_;rintro b d ⟨rfl,rfl⟩);go_ret;exact⟨hQ (by rw[RN (p:=l<=a) Zm];simp),kx⟩
theorem Ac:Calls prog 235 #[.iface 316 (.agg #[op,s])] w fun a b=>a=.returned (.bool (jf s))/\Ext w b:=by
 have c:=EJ (.agg #[op,s]);have d:=EI (.agg #[op,s]);have e:=EH (.agg #[op,s]);go_enter func235,ntmps235;go_wp2_with (go_at_call 40;refine(Bg).mono ?_;rintro a b ⟨rfl,rfl⟩);go_ret;exact⟨rfl,kx⟩
theorem DD:Calls prog 235 #[.iface 318 (.agg #[op,s,m])] w fun a b=>a=.returned (.bool (jf s&&jf m))/\Ext w b:=by
 have e:=EN (.agg #[op,s,m]);have f:=EM (.agg #[op,s,m]);have g:=EK (.agg #[op,s,m]);have h:=EL (.agg #[op,s,m]);cases c:jf s
 all_goals
  have d:=Zy c;clear c;go_enter func235,ntmps235;go_wp2_with fail;refine(Bg).mono ?_;rintro a b ⟨rfl,rfl⟩;rw[d.o]
 . go_wp2;go_ret;exact⟨rfl,kx⟩
 . go_wp2_with (go_at_call 40;refine(Bg).mono ?_;rintro a b ⟨rfl,rfl⟩);go_ret;exact⟨rfl,kx⟩
theorem wY:Calls prog 235 #[.iface 320 (.agg #[op])] w fun a b=>a=.returned (.bool true)/\Ext w b:=by
 have c:=ER (.agg #[op]);go_enter func235,ntmps235;go_wp2;go_ret;exact⟨rfl,kx⟩
def Iter{α:Type}(P:Program)(gf:Nat)(lb:Array Value)(encs:α->Array Value)(Dit Bd:Nat->Prop)(S Sp Bnd:List α->Prop)(It0:World->Prop)(Nx:List α->α->Prop:=fun _ _=>True):Prop:=
 ∀(l:Nat) (J Jx:List α->World->Prop) (W:World),It0 W->(∀s A B,J s A->Kp Dit A B->J s B)->(∀s A B,Jx s A->Kp Dit A B->Jx s B)->(∀s A,J s A->Bnd s)→
  (∀pre x W1,Nx pre x->J pre W1->YieldAt Fence.wide 8 P l (encs x) W1 fun e W'=>Kp Bd W1 W'/\((e=.returned (.bool true)/\J (pre++[x]) W')\/(e=.returned (.bool false)/\Jx (pre++[x]) W')))→
  J [] W->CallsIn Fence.wide 9 P gf (#[.func (.yield l) #[] #[]]++lb) W fun e W'=>(∃v,e=.returned v)/\((∃xs,S xs/\J xs W')\/(∃pre,Sp pre/\Jx pre W'))
def roundEnd{α:Type}(Bb:Nat->Prop)(I:List α->World->Prop)(Ix:Code->List α->World->Prop)(xs:List α)(W:World):Exit->Act->World->Prop
 | .normal,_,W'=>Kp Bb W W'/\I xs W'
 | .ret,_,W'=>Kp Bb W W'/\Ix .ret xs W'
 | .exit id,_,W'=>Kp Bb W W'/\Ix (.exit id) xs W'
 | .goto t,_,W'=>Kp Bb W W'/\Ix (.goto t) xs W'
 | .panic _,_,_=>False
 | .outgrown,_,_=>False
theorem Kp.putObj(W:World)(l:Nat)(b:Obj):Kp (·=l) W (W.putObj l b):=
 ⟨rfl,rfl,rfl,by simp,fun _ _ a=>World.putObj_heap_other a⟩
theorem Ez {α : Type} {P : Program} {g : Operand} {F : Array Tmp} {assign body : Code} {Q : Exit -> Act -> World -> Prop} {a : Act} {lb : Array Value}
    (hg:a.eval g=.func (.func gf) #[] lb) (eg:∀args w,(callFunc gf args).run P w=.ok (.enter gf args) w) {encs:α->Array Value} (aF:∀x,(encs x).size=F.size)
    {Y Z T:List α->Prop} {B Bb:Nat->Prop} {V:World->Prop} {X:List α->α->Prop} (aG:Iter P gf lb encs B (fun f=>Bb f\/f=w+1) Y Z T V X)
    (hIt:∀W,Ext w W->V W) (hD1:¬B w) (hD2:¬B (w+1)) (hB1:¬Bb w) (hB2:¬Bb (w+1))
    (I:List α->World->Prop) (D:Code->List α->World->Prop)
    (hI:∀l h n,I l h->Kp (fun f=>B f\/f=w+1) h n->I l n) (hIx:∀c l h n,D c l h->Kp (fun f=>B f\/f=w+1) h n->D c l n) (h0:I [] w) (hIB:∀l h,I l h->T l)
    (O:List α->α->World->Act->World->Prop)
    (hassign:∀(d:List α) (x:α) (W:World) (K:Act->World->Prop),X d x->I d W->w.heap.size+1<(W:Nat)->(∀p j,O d x W p j->K p j)→
     assign.wpIn (Fence.wide.inRound (w+1)) 8 P (Exit.then K (fun _ _ _=>False)) {tmps:=(F.zip (encs x)).foldl (fun M (aH,ai)=>M.setIfInBounds aH ai) a.tmps,defers:=[]} W)
    (hAx:∀d x W p j,O d x W p j->Kp Bb W j)
    (hbody:∀(d:List α) (x:α) (W:World) (p:Act) (j G:World),O d x W p j->Kp (·=w+1) j G->G.heap.size=j→
     body.wpIn (Fence.wide.inRound (w+1)) 8 P (roundEnd Bb I D (d++[x]) G) p G)
    (hdone:∀(xs:List α) (W:World),Y xs->I xs W->W.heap[w.heap.size]?=some (.deferred (some []))->Q .normal {a with defers:={target:=.collected w,args:=#[]}::a.defers} W)
    (hstop:∀(c:Code) (d:List α) (W:World),Z d->D c d W->W.heap[w.heap.size]?=some (.deferred (some []))->c.wpIn Fence.wide 10 P Q {a with defers:={target:=.collected w,args:=#[]}::a.defers} W):
    (Code.rangeFunc g F assign body).wpIn Fence.wide 10 P Q a w:=by
 refine wpIn_rangeFunc ?_;intro fn ax;show∃aK mark w₁ aI aL aJ args w₂,(Instr.enterLoop fn a.tmps F assign body none).run P w=_/\_
 obtain⟨i,r⟩:∃i:LoopState->Option Code->Loop,i=fun st pe=>{state:=st,pending:=pe,fn,tmps:=a.tmps,params:=F,assign,body,defers:=w.heap.size}:=⟨_,rfl⟩;obtain⟨o,J⟩:∃o,(w.alloc (.deferred (some []))).alloc (.loop (i .ready none))=o:=⟨_,rfl⟩;have au:o.heap[w.heap.size+1]?=some (.loop (i .ready none)):=by
  rw[<-J];have:=World.alloc_heap_new (w.alloc (.deferred (some []))) (.loop (i .ready none));rwa[Tw]at this
 have ak:o.heap[w.heap.size]?=some (.deferred (some [])):=by
  rw[<-J];exact(VA _ _ _ Zl).trans (World.alloc_heap_new w _)
 have ae:Ext w o:=by rw[<-J];exact(jh _).alloc _
 have aj:=hI _ _ _ h0 ae.any;have s:∀{U:Nat->Prop} {h n:World} {t:Obj} {f:Nat},Kp U h n->¬U f->h.heap[f]?=some t->n.heap[f]?=some t:=fun b R ho=>
  (b.block _ (Tk.1 ho).1 R).trans ho
 refine⟨w+1,[{target:=.collected w,args:=#[]}],o,{target:=.fn (.func gf) lb,args:=#[.func (.yield (w+1)) #[] #[]]},o,gf,
  #[.func (.yield (w+1)) #[] #[]]++lb,o,?_,?_,?_,?_,fun b=>by simp[Fence.wide]at b,?_⟩
 . rw[<-J,r];exact run_enterLoop_outer _ _ _ _ _
 . simp only[resolve,hg];simp[go_sem]
 . intro f' _;trivial
 . simp[invoke,go_sem,eg]
 . refine(aG (w+1)
    (fun d W=>I d W/\W.heap[w.heap.size+1]?=some (.loop (i .ready none))/\W.heap[w.heap.size]?=some (.deferred (some [])))
    (fun d W=>∃c,D c d W/\W.heap[w.heap.size+1]?=some (.loop (i .done (some c)))/\W.heap[w.heap.size]?=some (.deferred (some [])))
    o (hIt _ ae)
    (fun l h n A m=>⟨hI l h n A.1 (m.weak fun _ _ b=>.inl b),s m hD2 A.2.1,s m hD1 A.2.2⟩)
    (fun l h n A m=>by
     obtain⟨c,hc,q,R⟩:=A;exact⟨c,hIx c l h n hc (m.weak fun _ _ b=>.inl b),s m hD2 q,s m hD1 R⟩)
    (fun l h A=>hIB l h A.1) ?_ ⟨aj,au,ak⟩).mono ?_
   . rintro d x W aD ⟨E,q,m⟩;have aB:=(Tk.1 q).1;have hy:=run_yield (P:=P) (args:=encs x) q (by rw[r];exact aF x);rw[r]at hy;refine⟨fn,_,assign,body,hy,roundIn_of_wpIn ax (hassign d x W _ aD E aB ?_)⟩;intro p j af;have S:=hAx _ _ _ _ _ af;have ag:=s S hB2 q;have ay:=s S hB1 m;refine⟨_,run_beginRound ag (by rw[r]),?_⟩;have aC:=(Tk.1 ag).1;have aA:(j.putObj (w+1) (.loop {i .ready none with state:=.busy})).heap[w.heap.size+1]?=some (.loop {i .ready none with state:=.busy}):=World.putObj_heap_same aC;have az:(j.putObj (w+1) (.loop {i .ready none with state:=.busy})).heap[w.heap.size]?=some (.deferred (some [])):=(World.putObj_heap_other Zm).trans ay;refine wpIn_mono (hbody d x W p j _ af (Kp.putObj _ _ _) Zl) ?_;have L:∀(e:World),Kp Bb (j.putObj (w+1) (.loop {i .ready none with state:=.busy})) e->∀t,Kp (fun f=>Bb f\/f=w+1) W (e.putObj (w+1) t):=fun e h3 t=>
      (((S.weak fun _ _ b=>.inl b).trans ((Kp.putObj _ _ _).weak fun _ _ b=>.inr b)).trans (h3.weak fun _ _ b=>.inl b)).trans ((Kp.putObj _ _ _).weak fun _ _ b=>.inr b)
     have H:∀(jump:Option Code) (e:World),Kp Bb (j.putObj (w+1) (.loop {i .ready none with state:=.busy})) e→
         (Instr.endRound (w+1) jump).run P e=.ok (.bool jump.isNone) (e.putObj (w+1) (.loop (i (if jump.isNone then .ready else .done) jump)))/\
         (e.putObj (w+1) (.loop (i (if jump.isNone then .ready else .done) jump))).heap[w.heap.size+1]?=some (.loop (i (if jump.isNone then .ready else .done) jump))/\
         (e.putObj (w+1) (.loop (i (if jump.isNone then .ready else .done) jump))).heap[w.heap.size]?=some (.deferred (some [])):=fun jump e k=>by
      have ah:=s k hB2 aA;have:=run_endRound (P:=P) jump ah;rw[r]at this |-;exact⟨this,World.putObj_heap_same (Tk.1 ah).1,(World.putObj_heap_other Zm).trans (s k hB1 az)⟩
     have N:∀(e:World) (t:Obj),Kp (fun f=>B f\/f=w+1) e (e.putObj (w+1) t):=fun e t=>(Kp.putObj _ _ _).weak fun _ _ b=>.inr b;rintro aa a3 e C;cases aa with
     |normal=>
      obtain⟨k,u⟩:=C;obtain⟨z,y,v⟩:=H none e k;exact⟨_,_,z,L _ k _,.inl ⟨rfl,hI _ _ _ u (N _ _),y,v⟩⟩
     |ret=>
      obtain⟨k,u⟩:=C;obtain⟨z,y,v⟩:=H (some .ret) e k;exact⟨_,_,z,L _ k _,.inr ⟨rfl,.ret,hIx _ _ _ _ u (N _ _),y,v⟩⟩
     |exit id=>
      obtain⟨k,u⟩:=C;obtain⟨z,y,v⟩:=H (some (.exit id)) e k;exact⟨_,_,z,L _ k _,.inr ⟨rfl,.exit id,hIx _ _ _ _ u (N _ _),y,v⟩⟩
     |goto M=>
      obtain⟨k,u⟩:=C;obtain⟨z,y,v⟩:=H (some (.goto M)) e k;exact⟨_,_,z,L _ k _,.inr ⟨rfl,.goto M,hIx _ _ _ _ u (N _ _),y,v⟩⟩
     |panic ch=>exact C.elim
     |outgrown=>exact C.elim
   . rintro aa W2 ⟨⟨ai,rfl⟩,(⟨xs,hS,E,q,m⟩|⟨d,av,c,E,q,m⟩)⟩
     . exact⟨none,_,by have:=run_endLoop (P:=P) q (by rw[r];simp);rw[r]at this;exact this,
        hdone xs _ hS (hI _ _ _ E ((Kp.putObj _ _ _).weak fun _ _ b=>.inr b)) ((World.putObj_heap_other Zm).trans m)⟩
     . exact⟨some c,_,by have:=run_endLoop (P:=P) q (by rw[r];simp);rw[r]at this;exact this,
        hstop c d _ av (hIx _ _ _ _ E ((Kp.putObj _ _ _).weak fun _ _ b=>.inr b)) ((World.putObj_heap_other Zm).trans m)⟩
theorem CJ(w:World)(k a:Nat){e:TypeId}{cs:Array Value}(vs:Value)(n:Nat)(d:h9 w k e cs)(h0:cs[a]?=some vs)(h:∃b c,vs=.slice b n c)(c:Nat)(l:n<c)(m:c<=1000):Calls prog 106 #[some (k,a),.int .i64 c] w fun g i=>g=.returned (.tuple #[(),.bool false])/\w=i:=by
 obtain⟨b,j,rfl⟩:=h;have f:=d.c a _ h0;have q:=iV f;have o:(n:Int) - c<0:=Zm
 have p:IntKind.i64.wrap ((n:Int) - c)=(n:Int) - c:=Tg _ Zm;clear d h0;go_enter func106,ntmps106;go_wp2;go_ret2;exact⟨rfl,rfl⟩
theorem rU(w:World)(k b C:Nat)(v:TypeId)(cs:Array Value)(vs:Value)(n:Nat)(xs:List Val)(g:h9 w k v cs)(h0:cs[b]?=some vs)(j:w.ownsRow C 42 2 vs n (xs.flatMap jS))(hl:xs.length=n)(c:Nat) (V:c<=n) (W:0<c) (hn:n<=1000) (z:vs.ownBlock≠some k):Calls prog 106 #[some (k,b),c] w fun e r=>∃q,e=.returned (.tuple #[q,.bool true])/\r.ownsRow w 42 2 q c ((xs.drop (n - c)).flatMap jS)/\(∃x d,vs=.slice x n d/\h9 r k v (cs.setIfInBounds b (.slice x (n - c) d)))/\Kp (·=k) w r:=by
 obtain⟨T,m,rfl,Y,Z,X⟩:=jP j Zm;obtain⟨a,K⟩:∃a,n=a+c:=⟨n - c,Zm⟩;have B:n - c=a:=Zm
 have l:=g.c b _ h0;have J:=g.frozen b;have L:=iV l;have hw:IntKind.i64.wrap ((n:Int) - c)=(a:Int):=by rw[Tg _ Zm];omega
 have ah:(n:Int) - c=(a:Int):=Zm
 have aa:(0:Int)<=(a:Int):=Zm
 have ae:(a:Int)<=n:=Zm
 have af:(n:Int)<=m:=Zm
 have ag:¬m=a:=Zm
 have o:=Es j (pW xG xs) (i:=a) (m - a);have A:n - a=c:=Zm
 have t:=Zy A;have y:(xs.flatMap jS).drop (a*2)=(xs.drop a).flatMap jS:=by
  rw[<-UB a xs,TJ,List.drop_left' (by rw[nI (k:=2) (fun _=>rfl)];simp;omega)];simp
 rw[y]at o;have⟨F,u,s,Q,P⟩:=qR o B g j z;clear o y B g j z h0 K A;go_enter func106,ntmps106;go_wp2_with fail;refine(uQ F Zm).mono ?_;rintro e O ⟨⟨q,rfl,p⟩,i⟩;obtain⟨H,d,rfl⟩:=jL p;have G:=Zy p;have h:=s.ext i;have R:=i.iW l;have S:=h.frozen b;have z1:=h.lt;have⟨D,E⟩:=jc h i;clear i p h l J L;go_wp2;go_ret2;refine⟨_,rfl,?_,⟨_,_,rfl,by rw[u.o];exact D.jE _ _⟩,Kp.setCell (p:=⟨k,b,none⟩) (D:=(·=k)) E.any (fun _=>rfl) _⟩;have f:O.ownsRow w 42 2 (.slice H (n - a) d) c ((xs.drop (n - c)).flatMap jS):=by
  have f:=G.o;rw[t.o]at f;rw[t.o,u.o];exact f
 refine iY (D:=(·=k)) f (Kp.setCell (p:=⟨k,b,none⟩) (D:=(·=k)) Kp.rr (fun _=>rfl) _) (fun N hq U e=>?_);have I:N=k:=e;subst I;have:=s.lt;omega
theorem Pv(w:World)(k d:Nat){h:TypeId}{cs:Array Value}(vs:Value)(a:h9 w k h cs)(h0:cs[d]?=some vs)(c:∃i j,vs=.slice i 0 j):Calls prog 104 #[some (k,d)] w fun b l=>b=.returned (.tuple #[.agg #[SS,SS],.bool false])/\Ext w l:=by
 have⟨f,e,g⟩:=jr a h0 c;have m:=a.lt;clear a h0 c;go_enter func104,ntmps104;go_wp2_with fail;refine(CJ _ _ _ _ 0 (f.ext kx) e g 1 Zm Zm).mono ?_;rintro b n ⟨rfl,rfl⟩;go_wp2;refine Px (v:=.tuple #[.agg #[SS,SS],.bool false]) (by simp[results,results104,go_sem]) rfl ?_;exact⟨rfl,kx⟩
theorem Pw(w:World)(k d j:Nat){l:TypeId}{cs:Array Value}(vs:Value)(n:Nat)(xs:List Val)(x:Val)(f:h9 w k l cs)(h0:cs[d]?=some vs)(v:w.ownsRow j 42 2 vs (n+1) ((xs++[x]).flatMap jS))(hl:xs.length=n)(J:n+1<=1000) (s:vs.ownBlock≠some k):Calls prog 104 #[some (k,d)] w fun o y=>o=.returned (.tuple #[.agg #[x.kind,x.n],.bool true])/\(∃b c,vs=.slice b (n+1) c/\h9 y k l (cs.setIfInBounds d (.slice b n c)))/\Kp (·=k) w y:=by
 have⟨A,z,H,G⟩:=kQ f h0 v s;have u:=f.lt;have r:(xs++[x]).drop (n+1 - 1)=[x]:=by rw[Vx,<-hl,List.drop_left]
 have⟨C,F⟩:=jc r hl;have m:=h9.new w 42 #[SS,SS];clear f h0 v s r hl;go_enter func104,ntmps104;go_wp2_with fail;refine(rU _ k d j _ _ _ (n+1) (xs++[x]) (A.ext kx) z (iY (D:=fun _=>False) H kx fun _ _ _ x=>x) (by have:=F.o;simp;omega) 1 Zm Zm J G.o).mono ?_;rintro o i ⟨T,rfl,a,⟨b,c,rfl,p⟩,h⟩;rw[C.o]at a;obtain⟨g,N,rfl,P,Q,O⟩:=jP a Zm;have q0:=a.cells (g:=g) rfl 0 x.kind rfl;have q1:=a.cells (g:=g) rfl 1 x.n rfl;simp only[Addr.add_lit,Tq]at q0 q1;have e:=m.kp h Zm;obtain⟨-,K,L,-⟩:=e.ca;obtain⟨u0,u1,-⟩:=e.fz;have⟨B,E,I⟩:=jr p h u;clear a p h m e u;go_wp2;have t:∀D:Nat->Prop,D w.heap.size->Kp D i ((i.setCell w x.kind).setCell (w,1) x.n):=fun D q=>((Kp.refl D i).setCell (p:=⟨w,0,none⟩) (fun _=>q) _).setCell (p:=⟨w,1,none⟩) (fun _=>q) _;refine Px (v:=.tuple #[.agg #[x.kind,x.n],.bool true]) (by simp[results,results104,go_sem,K,L]) rfl ?_;refine⟨rfl,⟨b,c,rfl,?_⟩,?_⟩
 . exact B.kp (t (·=w) rfl) (SK I.o)
 . exact(((jh _:Ext w _).any).trans E).own (t (·=w) rfl) (fun S R=>Zm)
end Go.Proofs.YtenhnldnpdlniaaGreat
namespace Go
variable {F:Fence} {n:Nat} {P:Program}
def K8(P:Program)(l:Nat)(R:Ending->World->Prop):Exit->Act->World->Prop
 | .panic chain,a,w=>a.defers=[]/\R (.panicked chain) w
 |e,a,w=>roundPost P l R e a w
theorem BU{l:Nat}{f:FuncId}{tmps:Array Value}{x c:Code}{w:World}{R:Ending->World->Prop}(hF:F.fn f)(M:∃fn,P.funcs[f]?=some fn)
    (H:x.wpIn (F.inRound l) n P (Exit.then (fun p A=>∃y,(Instr.beginRound l).run P A=.ok () y/\c.wpIn (F.inRound l) n P (K8 P l R) p y) (fun _ _ _=>False))
     {tmps:=tmps,defers:=[]} w):
    RoundIn F n P l f tmps x c w R:=by
 refine⟨hF,fun r s N=>?_⟩;let a:Frame:={(default:Frame)with fn:=f,kind:=.normal,roundOf:=some l}
 have I:Frame.round l f tmps x c .normal=a.atR {tmps:=tmps,defers:=[]} [.code x,.beginRound,.code c]:=by
  simp[Frame.round,Frame.atR,a]
 have e:(F.inRound l).room ((r::s).length+1+n):=N;have d:(F.inRound l).fn a.fn:=hF;obtain⟨E,p,A,m,k⟩:=H a [.beginRound,.code c] (r::s) rfl d e;rw[<-I]at k;cases E with
 | normal =>
  obtain⟨y,K,J⟩:=m;have v:StepsIn (Machine.fenced P (F.inRound l)) P (lone (a.atR p [.beginRound,.code c]) (r::s) A) (lone (a.atR p [.code c]) (r::s) y):=
   .one (fenced_calm (fr:=a.atR p [.beginRound,.code c]) d e rfl) (stepR_beginRound rfl K)
  obtain⟨G,q,D,o,t⟩:=J a [] (r::s) rfl d e;cases G with
  |normal=>
   obtain⟨i,j,g,b⟩:=o;exact⟨.returned i,j,b,(StepsIn.trans k v).trans (StepsIn.trans t (.one (fenced_calm (fr:=a.atR q []) d e rfl) (stepR_round_end rfl rfl g)))⟩
  |ret=>
   obtain⟨i,j,g,b⟩:=o;obtain⟨u,h⟩:=t.2 rfl;exact⟨.returned i,j,b,(StepsIn.trans k v).trans (StepsIn.trans h (.one (fenced_calm (fr:=a.atR q (.code .ret::u)) d e rfl) (stepR_round_ret rfl rfl g)))⟩
  |exit id=>
   obtain⟨i,j,g,b⟩:=o;obtain⟨u,z,h⟩:=t.2 rfl rfl;exact⟨.returned i,j,b,(StepsIn.trans k v).trans (StepsIn.trans h (.one (fenced_calm (fr:=a.atR q (.code (.exit id)::u)) d e rfl) (stepR_round_exit rfl rfl z g)))⟩
  |goto C=>
   obtain⟨i,j,g,b⟩:=o;obtain⟨u,z,h⟩:=t.2 rfl rfl;exact⟨.returned i,j,b,(StepsIn.trans k v).trans (StepsIn.trans h (.one (fenced_calm (fr:=a.atR q (.code (.goto C)::u)) d e rfl) (stepR_round_goto rfl rfl z g)))⟩
  |panic chain=>
   obtain⟨L,b⟩:=o;obtain⟨O,h⟩:=t;have B:({a.atR q O with mode:=.panicking chain}:Frame).leaving P D (.panicked chain):=⟨rfl,L,M⟩;exact⟨.panicked chain,D,b,(StepsIn.trans k v).trans (StepsIn.trans h (.one (fenced_leaving (n:=n) d e B) (step_leave_panicked B)))⟩
  |outgrown=>exact o.elim
 |exit id=>exact m.elim
 |goto C=>exact m.elim
 |ret=>exact m.elim
 |panic chain=>exact m.elim
 |outgrown=>exact m.elim
def Code.yZ(f:FuncId)(P:Program)(c:Code)(Q:Exit->Act->World->Prop)(a:Act)(w:World):Prop:=
 ∀(b:Frame) (k:List Item) (cs:List Frame),b.roundOf=none->b.fn=f->∃e a' w',Q e a' w'/\ArrivesIn (Machine.fenced P Fence.wide) P (lone (b.atR a (.code c::k)) cs w) b k cs e a' w'
theorem E8{f:FuncId}{c:Code}{Q:Exit->Act->World->Prop}{a:Act}{w:World}(e:c.wpIn Fence.wide n P Q a w):c.yZ f P Q a w:=
 fun b h d g _=>e b h d g trivial (room_wide _)
theorem JY{f:FuncId}{x y:Code}{Q:Exit->Act->World->Prop}{a:Act}{w:World}(o:x.yZ f P (Exit.then (y.yZ f P Q) Q) a w):(Code.seq x y).yZ f P Q a w:=by
 intro b d c k i;have one:StepsIn (Machine.fenced P Fence.wide) P (lone (b.atR a (.code (.seq x y)::d)) c w) (lone (b.atR a (.code x:: .code y::d)) c w):=.one (fenced_wide _ _) stepR_seq;obtain⟨e,l,r,j,h⟩:=o b (.code y::d) c k i;by_cases g:e=.normal
 . subst g;obtain⟨n,m,s,q,p⟩:=j b d c k i;exact⟨n,m,s,q,.of_steps (one.trans h) p⟩
 . refine⟨e,l,r,?_,.of_steps one (.pass (x:=.code y) rfl (fun _ _=>.inl g) h)⟩;cases e<;>first|exact absurd rfl g|exact j
theorem CS{f:FuncId}{x y:Code}{Q:Exit->Act->World->Prop}{a:Act}{w:World}(b:x.wpIn Fence.wide n P (Exit.then (y.yZ f P Q) Q) a w):(Code.seq x y).yZ f P Q a w:=JY (E8 b)
theorem FM{f:FuncId}{x y:Code}{Q:Exit->Act->World->Prop}{a:Act}{w:World}(b:∀K:Act->World->Prop,(∀a w,y.yZ f P Q a w->K a w)->x.wpIn Fence.wide n P (Exit.then K Q) a w):(Code.seq x y).yZ f P Q a w:=
 CS (b _ fun _ _ b=>b)
theorem Lr{f:FuncId}{id:Nat}{c:Code}{Q:Exit->Act->World->Prop}{a:Act}{w:World}(m:c.yZ f P (fun g a w=>(∀b,g≠ .exit b)/\(∀b,g≠ .goto b)/\Q g a w) a w):(Code.block id c).yZ f P Q a w:=by
 intro d h e r p;have one:StepsIn (Machine.fenced P Fence.wide) P (lone (d.atR a (.code (.block id c)::h)) e w) (lone (d.atR a (.code c:: .inBlock id::h)) e w):=.one (fenced_wide _ _) stepR_block;obtain⟨g,j,k,⟨n,o,q⟩,i⟩:=m d (.inBlock id::h) e r p;refine⟨g,j,k,q,?_⟩;cases g with
 |normal=>exact one.trans (StepsIn.trans i (.one (fenced_wide _ _) stepR_inBlock))
 |ret=>exact .of_steps one (show ArrivesIn _ P _ d h e .ret j k from⟨i.1,i.2⟩)
 |panic l=>exact .of_steps one (show ArrivesIn _ P _ d h e (.panic l) j k from i)
 |outgrown=>exact .of_steps one (show ArrivesIn _ P _ d h e .outgrown j k from i)
 |exit b=>exact absurd rfl (n b)
 |goto b=>exact absurd rfl (o b)
def Ng(R:Ending->World->Prop):Exit->Act->World->Prop
 | .panic c,a,w=>a.defers=[]/\R (.panicked c) w
 | .outgrown,_,w=>R .outgrown w
 |_,_,_=>False
theorem xS{f:FuncId}{fn:Func}{x y:Code}{R:Ending->World->Prop}{a:Act}{w:World}(c:∀K:Act->World->Prop,(∀a w,y.yZ f P (bodyPostM Fence.wide n P fn R) a w->K a w)->x.wp P (Exit.then K (Ng R)) a w):(Code.seq x y).yZ f P (bodyPostM Fence.wide n P fn R) a w:=by
 refine CS (n:=n) (wpIn_mono (wpIn_wide.2 (c _ fun _ _ c=>c)) ?_);intro d a w b;cases d with
 |normal=>exact b
 |panic h=>
  obtain⟨g,e⟩:=b;show LeavesInM _ _ _ _ _ _ a.defers _ _
  rw[g];exact e
 |outgrown=>exact b
 |ret=>exact b.elim
 |exit x=>exact b.elim
 |goto x=>exact b.elim
def Qb(ds:List Deferred)(R:Ending->World->Prop):Exit->Act->World->Prop
 | .normal,a,w=>a.defers=ds/\R (.returned (.tuple #[])) w
 | .panic c,a,w=>a.defers=ds/\R (.panicked c) w
 |_,_,_=>False
theorem PS{f:FuncId}{c:Code}{ds:List Deferred}{R:Ending->World->Prop}{Q:Exit->Act->World->Prop}{a:Act}{w:World}(e:c.wp P (Qb ds R) a w)(g:∀a w,a.defers=ds->R (.returned (.tuple #[])) w->Q .normal a w) (h:∀c a w,a.defers=ds->R (.panicked c) w->Q (.panic c) a w):c.yZ f P Q a w:=by
 refine E8 (n:=10) (wpIn_mono (wpIn_wide.2 e) ?_);intro d a w b;cases d with
 |normal=>exact g _ _ b.1 b.2
 |panic c=>exact h _ _ _ b.1 b.2
 |outgrown=>exact b.elim
 |ret=>exact b.elim
 |exit i=>exact b.elim
 |goto i=>exact b.elim
theorem yn{f:FuncId}{fn:Func}{c:Code}{args:Array Value}{w:World}{R:Ending->World->Prop}
    (u:P.funcs[f]?=some fn) (E:fn.body=some c)
    (y:c.yZ f P (bodyPostM Fence.wide n P fn R) {tmps:=args++Array.replicate (fn.ntmps - args.size) undef,defers:=[]} w):CallsIn Fence.wide n P f args w R:=by
 refine⟨trivial,fun g J=>?_⟩;obtain⟨e,m⟩:∃e:Frame,e={(default:Frame)with fn:=f,kind:=.normal,roundOf:=none}:=⟨_,rfl⟩;have k:e.fn=f:=by rw[m]
 have q:e.roundOf=none:=by rw[m]
 have o:e.kind=.normal:=by rw[m]
 have F:Frame.enter P f args .normal=e.atR {tmps:=args++Array.replicate (fn.ntmps - args.size) undef,defers:=[]} [.code c]:=by
  simp[Frame.enter,Frame.atR,u,E,m]
 have r:∀(d:Frame) (p:FrameMode) (a:Act) (b:World),d.fn=f->d.kind=.normal->d.mode=p->d.defers=a.defers->d.tmps=a.tmps->LeavesInM Fence.wide n P fn a.tmps R a.defers p b→
     StepsIn (Machine.fenced P Fence.wide) P (lone (Frame.enter P f args .normal) g w) (lone d g b)→
     ∃i b d,R i b/\ComesIn (Machine.fenced P Fence.wide) P (lone (Frame.enter P f args .normal) g w) (lone d g b) i/\d.fn=f/\d.leaving P b i:=by
  intro d p a b t z A B C H l;obtain⟨v,L,x,D,K,G,I⟩:=leaves_stepsInM a.defers p b d g A B C (t▸u) z trivial J H;exact⟨v,L,x,D,ComesIn.of_steps l K,G.trans t,I⟩
 obtain⟨i,a,b,h,j⟩:=y e [] g q k;rw[<-F]at j;cases i with
 |normal=>exact r {e.atR a []with mode:=.returning} .returning a b k o rfl rfl rfl h (StepsIn.trans j (.one (fenced_wide _ _) (stepR_end q)))
 |ret=>
  obtain⟨s,l⟩:=j.1 q;exact r {e.atR a s with mode:=.returning} .returning a b k o rfl rfl rfl h l
 |panic chain=>
  obtain⟨s,l⟩:=j;exact r {e.atR a s with mode:=.panicking chain} (.panicking chain) a b k o rfl rfl rfl h l
 |exit id=>exact h.elim
 |goto M=>exact h.elim
 |outgrown=>exact⟨.outgrown,b,e,h,j.resolve_left (by simp[o]),k,trivial⟩
theorem E9{g:Operand}{q:Array Tmp}{h i:Code}{Q:Exit->Act->World->Prop}{a:Act}{w:World}{fn:FuncId}
    (F:∃(l:Nat) (mark:List Deferred) (r:World) (e:Deferred) (s:World) (f:FuncId) (args:Array Value) (t:World),
     (Instr.enterLoop fn a.tmps q h i none).run P w=.ok (l,mark) r/\(resolve a.eval (rangeCall g l) 0).run P r=.ok e s/\(invoke e.target e.args).run P s=.ok (.enter f args) t/\
     CallsIn Fence.wide (n - 1) P f args t (rangePost Fence.wide n P l Q {a with defers:=mark++a.defers})):
    (Code.rangeFunc g q h i).yZ fn P Q a w:=by
 obtain⟨l,mark,r,e,s,f,args,t,v,L,K,hF,I⟩:=F;intro b k cs z H;subst H;rw[<-z]at v;have m:=stepR_rangeFunc (P:=P) (b:=b) (a:=a) (k:=k) (cs:=cs) (w:=w) v L K;obtain⟨D,N,R,j,p,S,y⟩:=I (b.atR {a with defers:=mark++a.defers} (.inRangeFunc l::k)::cs) (room_wide _);cases D with
 |outgrown=>
  obtain⟨C,M,o⟩:=j;exact⟨.outgrown,C,M,o,.inr (Outgrown.of_steps (.one m) p)⟩
 |panicked chain=>
  have d:=step_leave_panicked (c:=b.atR {a with defers:=mark++a.defers} (.inRangeFunc l::k)) (cs:=cs) y;rw[Frame.raise_atR]at d;exact⟨.panic chain,_,N,j,.inRangeFunc l::k,.head (fenced_wide _ _) m (StepsIn.trans p (.one (fenced_wide _ _) d))⟩
 | returned T =>
  obtain⟨jump,A,J,x⟩:=j;have d:=step_leave_returned (c:=b.atR {a with defers:=mark++a.defers} (.inRangeFunc l::k)) (cs:=cs) y;rw[finish_atR_inRangeFunc]at d;have u:StepsIn (Machine.fenced P Fence.wide) P (lone (b.atR a (.code (.rangeFunc g q h i)::k)) cs w) (lone (b.atR {a with defers:=mark++a.defers} ((jump.map Item.code).toList++k)) cs A):=
   .head (fenced_wide _ _) m (StepsIn.trans p (.head (fenced_wide _ _) d (.one (fenced_wide _ _) (stepR_endRangeFunc J))))
  cases jump with
  |none=>exact⟨.normal,_,A,x,u⟩
  |some c=>
   obtain⟨E,B,O,o,G⟩:=x b k cs z trivial (room_wide _);exact⟨E,B,O,o,.of_steps u G⟩
end Go
namespace Go.Proofs.YtenhnldnpdlniaaGreat
open Go Go.RowKit Tryz M
variable {a: Act}{K d e next: Act->World->Prop}{Q: Exit->Act->World->Prop}{F: Fence}{q: List Nat}{l: List Oper}{g gf i id m n: Nat}{P: Program}{w: World}{C: World->Prop}
def QM{α:Type}(P:Program)(gf:Nat)(lb:Array Value)(encs:α->Array Value)(Dit Bd:Nat->Prop)(S Sp Bnd:List α->Prop)(It0:World->Prop)(Nx:List α->α->Prop:=fun _ _=>True):Prop:=
 ∀(l:Nat) (J Jx:List α->World->Prop) (Jp:List PanicEntry->List α->World->Prop) (W:World),It0 W->(∀s A B,J s A->Kp Dit A B->J s B)->(∀s A B,Jx s A->Kp Dit A B->Jx s B)->(∀c s A B,Jp c s A->Kp Dit A B->Jp c s B)->(∀s A,J s A->Bnd s)→
  (∀pre x W1,Nx pre x->J pre W1->YieldAt Fence.wide 8 P l (encs x) W1 fun e W'=>Kp Bd W1 W'/\((e=.returned (.bool true)/\J (pre++[x]) W')\/(e=.returned (.bool false)/\Jx (pre++[x]) W')\/∃c,e=.panicked c/\Jp c (pre++[x]) W'))→
  J [] W->CallsIn Fence.wide 9 P gf (#[.func (.yield l) #[] #[]]++lb) W fun e W'=>((∃v,e=.returned v)/\((∃xs,S xs/\J xs W')\/(∃pre,Sp pre/\Jx pre W')))\/∃c pre,e=.panicked c/\Sp pre/\Jp c pre W'
def Nn{α:Type}(Bb:Nat->Prop)(I:List α->World->Prop)(Ix:Code->List α->World->Prop)(Ip:List PanicEntry->List α->World->Prop)(xs:List α)(W:World):Exit->Act->World->Prop
 | .panic c,a,W'=>a.defers=[]/\Kp Bb W W'/\Ip c xs W'
 |e,a,W'=>roundEnd Bb I Ix xs W e a W'
theorem Nj {α : Type} {g : Operand} {O : Array Tmp} {assign body : Code} {Q : Exit -> Act -> World -> Prop} {lb : Array Value}
    (hg:a.eval g=.func (.func gf) #[] lb) (eg:∀args w,(callFunc gf args).run P w=.ok (.enter gf args) w) {encs:α->Array Value} (aG:∀x,(encs x).size=O.size)
    {aa U X:List α->Prop} {y Bb:Nat->Prop} {Z:World->Prop} {Nx:List α->α->Prop} (aH:QM P gf lb encs y (fun f=>Bb f\/f=w+1) aa U X Z Nx)
    (hIt:∀W,Ext w W->Z W) (hD1:¬y w) (hD2:¬y (w+1)) (hB1:¬Bb w) (hB2:¬Bb (w+1))
    (I:List α->World->Prop) (F:Code->List α->World->Prop) (E:List PanicEntry->List α->World->Prop) {fn:FuncId} (az:∃au,P.funcs[fn]?=some au) (hIp:∀c i e k,E c i e->Kp (fun f=>y f\/f=w+1) e k->E c i k)
    (hI:∀i e k,I i e->Kp (fun f=>y f\/f=w+1) e k->I i k) (hIx:∀c i e k,F c i e->Kp (fun f=>y f\/f=w+1) e k->F c i k) (h0:I [] w) (hIB:∀i e,I i e->X i)
    (T:List α->α->World->Act->World->Prop)
    (hassign:∀(d:List α) (x:α) (W:World) (K:Act->World->Prop),Nx d x->I d W->w.heap.size+1<(W:Nat)->(∀r n,T d x W r n->K r n)→
     assign.wpIn (Fence.wide.inRound (w+1)) 8 P (Exit.then K (fun _ _ _=>False)) {tmps:=(O.zip (encs x)).foldl (fun R (aI,ak)=>R.setIfInBounds aI ak) a.tmps,defers:=[]} W)
    (hAx:∀d x W r n,T d x W r n->Kp Bb W n)
    (hbody:∀(d:List α) (x:α) (W:World) (r:Act) (n H:World),T d x W r n->Kp (·=w+1) n H->H.heap.size=n→
     body.wpIn (Fence.wide.inRound (w+1)) 8 P (Nn Bb I F E (d++[x]) H) r H)
    (hdone:∀(xs:List α) (W:World),aa xs->I xs W->W.heap[w.heap.size]?=some (.deferred (some []))->Q .normal {a with defers:={target:=.collected w,args:=#[]}::a.defers} W)
    (hstop:∀(c:Code) (d:List α) (W:World),U d->F c d W->W.heap[w.heap.size]?=some (.deferred (some []))->c.wpIn Fence.wide 10 P Q {a with defers:={target:=.collected w,args:=#[]}::a.defers} W)
    (hpanic:∀(c:List PanicEntry) (d:List α) (W:World),U d->E c d W->W.heap[w.heap.size]?=some (.deferred (some []))->Q (.panic c) {a with defers:={target:=.collected w,args:=#[]}::a.defers} W):
    (Code.rangeFunc g O assign body).yZ fn P Q a w:=by
 refine E9 (n:=10) ?_;obtain⟨m,u⟩:∃m:LoopState->Option Code->Loop,m=fun st pe=>{state:=st,pending:=pe,fn,tmps:=a.tmps,params:=O,assign,body,defers:=w.heap.size}:=⟨_,rfl⟩;obtain⟨q,L⟩:∃q,(w.alloc (.deferred (some []))).alloc (.loop (m .ready none))=q:=⟨_,rfl⟩;have ay:q.heap[w.heap.size+1]?=some (.loop (m .ready none)):=by
  rw[<-L];have:=World.alloc_heap_new (w.alloc (.deferred (some []))) (.loop (m .ready none));rwa[Tw]at this
 have ax:q.heap[w.heap.size]?=some (.deferred (some [])):=by
  rw[<-L];exact(VA _ _ _ Zl).trans (World.alloc_heap_new w _)
 have af:Ext w q:=by rw[<-L];exact(jh _).alloc _
 have av:=hI _ _ _ h0 af.any;have p:∀{Y:Nat->Prop} {e k:World} {v:Obj} {f:Nat},Kp Y e k->¬Y f->e.heap[f]?=some v->k.heap[f]?=some v:=fun b G ho=>
  (b.block _ (Tk.1 ho).1 G).trans ho
 refine⟨w+1,[{target:=.collected w,args:=#[]}],q,{target:=.fn (.func gf) lb,args:=#[.func (.yield (w+1)) #[] #[]]},q,gf,
  #[.func (.yield (w+1)) #[] #[]]++lb,q,?_,?_,?_,?_⟩
 . rw[<-L,u];exact run_enterLoop_outer _ _ _ _ _
 . simp only[resolve,hg];simp[go_sem]
 . simp[invoke,go_sem,eg]
 . refine(aH (w+1)
    (fun d W=>I d W/\W.heap[w.heap.size+1]?=some (.loop (m .ready none))/\W.heap[w.heap.size]?=some (.deferred (some [])))
    (fun d W=>∃c,F c d W/\W.heap[w.heap.size+1]?=some (.loop (m .done (some c)))/\W.heap[w.heap.size]?=some (.deferred (some [])))
    (fun c d W=>E c d W/\W.heap[w.heap.size]?=some (.deferred (some [])))
    q (hIt _ af)
    (fun i e k o j=>⟨hI i e k o.1 (j.weak fun _ _ b=>.inl b),p j hD2 o.2.1,p j hD1 o.2.2⟩)
    (fun i e k o j=>by
     obtain⟨c,hc,t,G⟩:=o;exact⟨c,hIx c i e k hc (j.weak fun _ _ b=>.inl b),p j hD2 t,p j hD1 G⟩)
    (fun c i e k o j=>⟨hIp c i e k o.1 (j.weak fun _ _ b=>.inl b),p j hD1 o.2⟩)
    (fun i e o=>hIB i e o.1) ?_ ⟨av,ay,ax⟩).mono ?_
   . rintro d x W aF ⟨z,t,j⟩;have aC:=(Tk.1 t).1;have hy:=run_yield (P:=P) (args:=encs x) t (by rw[u];exact aG x);rw[u]at hy;refine⟨fn,_,assign,body,hy,BU trivial az (hassign d x W _ aF z aC ?_)⟩;intro r n ag;have M:=hAx _ _ _ _ _ ag;have ai:=p M hB2 t;have aA:=p M hB1 j;refine⟨_,run_beginRound ai (by rw[u]),?_⟩;have aD:=(Tk.1 ai).1;have aB:(n.putObj (w+1) (.loop {m .ready none with state:=.busy})).heap[w.heap.size+1]?=some (.loop {m .ready none with state:=.busy}):=World.putObj_heap_same aD;have ah:(n.putObj (w+1) (.loop {m .ready none with state:=.busy})).heap[w.heap.size]?=some (.deferred (some [])):=(World.putObj_heap_other Zm).trans aA;refine wpIn_mono (hbody d x W r n _ ag (Kp.putObj _ _ _) Zl) ?_;have N:∀(h:World),Kp Bb (n.putObj (w+1) (.loop {m .ready none with state:=.busy})) h->∀v,Kp (fun f=>Bb f\/f=w+1) W (h.putObj (w+1) v):=fun h h3 v=>
      (((M.weak fun _ _ b=>.inl b).trans ((Kp.putObj _ _ _).weak fun _ _ b=>.inr b)).trans (h3.weak fun _ _ b=>.inl b)).trans ((Kp.putObj _ _ _).weak fun _ _ b=>.inr b)
     have J:∀(jump:Option Code) (h:World),Kp Bb (n.putObj (w+1) (.loop {m .ready none with state:=.busy})) h→
         (Instr.endRound (w+1) jump).run P h=.ok (.bool jump.isNone) (h.putObj (w+1) (.loop (m (if jump.isNone then .ready else .done) jump)))/\
         (h.putObj (w+1) (.loop (m (if jump.isNone then .ready else .done) jump))).heap[w.heap.size+1]?=some (.loop (m (if jump.isNone then .ready else .done) jump))/\
         (h.putObj (w+1) (.loop (m (if jump.isNone then .ready else .done) jump))).heap[w.heap.size]?=some (.deferred (some [])):=fun jump h l=>by
      have aj:=p l hB2 aB;have:=run_endRound (P:=P) jump aj;rw[u]at this |-;exact⟨this,World.putObj_heap_same (Tk.1 aj).1,(World.putObj_heap_other Zm).trans (p l hB1 ah)⟩
     have S:∀(h:World) (v:Obj),Kp (fun f=>y f\/f=w+1) h (h.putObj (w+1) v):=fun h v=>(Kp.putObj _ _ _).weak fun _ _ b=>.inr b;rintro ae a3 h D;cases ae with
     |normal=>
      obtain⟨l,s⟩:=D;obtain⟨C,B,A⟩:=J none h l;exact⟨_,_,C,N _ l _,.inl ⟨rfl,hI _ _ _ s (S _ _),B,A⟩⟩
     |ret=>
      obtain⟨l,s⟩:=D;obtain⟨C,B,A⟩:=J (some .ret) h l;exact⟨_,_,C,N _ l _,.inr (.inl ⟨rfl,.ret,hIx _ _ _ _ s (S _ _),B,A⟩)⟩
     |exit id=>
      obtain⟨l,s⟩:=D;obtain⟨C,B,A⟩:=J (some (.exit id)) h l;exact⟨_,_,C,N _ l _,.inr (.inl ⟨rfl,.exit id,hIx _ _ _ _ s (S _ _),B,A⟩)⟩
     |goto R=>
      obtain⟨l,s⟩:=D;obtain⟨C,B,A⟩:=J (some (.goto R)) h l;exact⟨_,_,C,N _ l _,.inr (.inl ⟨rfl,.goto R,hIx _ _ _ _ s (S _ _),B,A⟩)⟩
     |panic ch=>
      obtain⟨G,l,s⟩:=D;exact⟨G,((M.weak fun _ _ b=>.inl b).trans ((Kp.putObj _ _ _).weak fun _ _ b=>.inr b)).trans (l.weak fun _ _ b=>.inl b),.inr (.inr ⟨ch,rfl,s,p l hB1 ah⟩)⟩
     |outgrown=>exact D.elim
   . rintro ae W2 (⟨⟨ak,rfl⟩,(⟨xs,hS,z,t,j⟩|⟨d,V,c,z,t,j⟩)⟩|⟨c,d,rfl,V,z,j⟩)
     . exact⟨none,_,by have:=run_endLoop (P:=P) t (by rw[u];simp);rw[u]at this;exact this,
        hdone xs _ hS (hI _ _ _ z ((Kp.putObj _ _ _).weak fun _ _ b=>.inr b)) ((World.putObj_heap_other Zm).trans j)⟩
     . exact⟨some c,_,by have:=run_endLoop (P:=P) t (by rw[u];simp);rw[u]at this;exact this,
        hstop c d _ V (hIx _ _ _ _ z ((Kp.putObj _ _ _).weak fun _ _ b=>.inr b)) ((World.putObj_heap_other Zm).trans j)⟩
     . exact hpanic c d _ V z j
def AU(ops:Array Oper):Bool:=ops.all fun o=>match o.op with| .defer _=>false|_=>true
theorem Hl{b:Array Oper}(d:AU b=true)(j:Nat)(a:Oper)(f:b[j]?=some a)(c:Call):a.op≠ .defer c:=by
 intro e;have:=VQ.1 d a (Array.mem_of_getElem? f);simp[e]at this
section
variable {F:Fence} {m:Nat} {P:Program} {ops:Array Oper} {md:Region.Mode} {Q:Exit->Act->World->Prop} {C:World->Prop} {n:Nat}
theorem mI.wpOpIn(hF:∀b,F.fn b){i:Nat}{c:Oper}{v:Value}{a:Act}(k:∀g,c.op≠ .defer g)(j:ops[i]?=some c)(n:mI P ops C c v a){K:Act->World->Prop}{w:World}(h:C w)(e:K (a.put c.dst v) w):wpOpIn F m P ops Q i K a w:=by
 unfold Go.wpOpIn;simp only[j];rcases n with⟨f,l⟩|⟨f,rfl⟩
 . simp only[f,UC];refine⟨fun b _=>hF b,?_⟩;rw[Oper.semAt_eq _ _ _ k];rcases l w h with d|⟨d,rfl⟩
   . rw[d];exact e
   . rw[d];exact e
 . simp only[f,UN,UJ];exact⟨fun b _=>hF b,e⟩
theorem J3(hF:∀i,F.fn i){j:Nat}{c f:Oper}{v:Value}(D:∀n,f.op≠ .defer n)(I:ops[j]?=some f)(H:c.apart ops f=true)(E:∀s q,c.op≠ .select s q) (J:∀s q,f.op≠ .select s q)(x:∀n a w,Q (.panic n) (a.put c.dst v) w->Q (.panic n) a w) {K:Act->World->Prop} {a:Act} {w:World}(h:mI P ops C c v a) (b:wpOpIn F m P ops Q j K (a.put c.dst v) w):wpOpIn F m P ops Q j (fun B z=>mI P ops C c v B/\K (B.put c.dst v) z) a w:=by
 obtain⟨u,k,p⟩:=Oper.apart_spec H;have o:∀(a:Act),mI P ops C c v a->∀e,mI P ops C c v (a.put f.dst e):=fun a h e=>
  h.of_same (VF c E a f.dst e p) (Wy c a f.dst e p)
 unfold wpOpIn at*;simp only[I]at*;rw[Wy f a c.dst v u,about_put f w a c.dst v u]at b;split
 . rename_i y;simp only[y,UC]at b;unfold Oper.wpIn at*;refine⟨fun i _=>hF i,?_⟩;have b:=b.2;rw[Oper.semAt_eq _ _ _ D,VF f J a c.dst v u]at b;rw[Oper.semAt_eq _ _ _ D];generalize (execOp a.eval f).run P w=r at*;cases r with
   | ok A z =>
    cases A<;>simp only[Oper.uponIn]at b |-
    case value e=>exact⟨o a h e,by rw[<-Uc a v e k];exact b⟩
    case skip=>exact⟨o a h _,by rw[<-Uc a v undef k];exact b⟩
    case defer d=>
     refine⟨(h.of_same rfl rfl:mI P ops C c v {a with defers:=d::a.defers}).of_same (VF c E _ f.dst undef p) (Wy c _ f.dst undef p),?_⟩;rw[<-Uc _ v undef k,<-Act.put_defers];exact b
    case enter i args=>
     refine⟨b.1,CallsIn.mono b.2 fun t G g=>?_⟩;cases t with
     |returned e=>exact⟨o a h e,by rw[<-Uc a v e k];exact g⟩
     |panicked n=>exact x _ _ _ g
     |outgrown=>exact g
    case row row args=>exact⟨b.1,RowsIn.mono b.2 fun e G g=>⟨o a h e,by rw[<-Uc a v e k];exact g⟩⟩
    case round l i tmps assign body=>
     refine⟨b.1,RoundIn.mono b.2 fun t G g=>?_⟩;cases t with
     |returned e=>exact⟨o a h e,by rw[<-Uc a v e k];exact g⟩
     |panicked n=>exact x _ _ _ g
     |outgrown=>exact g
   |halt A z=>
    cases A<;>simp only[Oper.uponIn]at b |-
    case panic e=>exact x _ _ _ b
 . rename_i y;simp only[y]at b;exact⟨fun i _=>hF i,o a h _,by rw[<-Uc a v undef k];exact b.2⟩
def uM(F:Fence)(m:Nat)(P:Program)(md:Region.Mode)(ops:Array Oper)(n:Nat)(C:World->Prop)(Q:Exit->Act->World->Prop):Nat->Array Bool->Act->World->Prop
 |0,listed,a,w=>Region.ready md ops listed=[]/\Q .normal a w
 |fuel+1,listed,a,w=>
  (Region.ready md ops listed=[]->Q .normal a w)/\
  ∀i∈Region.ready md ops listed,wpOpIn F m P ops Q i (fun a' w'=>(i<n->C w')/\uM F m P md ops n C Q fuel (listed.setIfInBounds i true) a' w') a w
theorem Bh:∀(fuel:Nat) (listed:Array Bool) (a:Act) (w:World),uM F m P md ops n C Q fuel listed a w->wpAnyIn F m P md ops Q fuel listed a w
 |0,_,_,_,h=>h
 |fuel+1,_,_,_,h=>⟨h.1,fun e d=>wpOpIn_mono (fun b f c=>Bh fuel _ b f c.2) (h.2 e d)⟩
theorem FL (hF : ∀ X, F.fn X) (J : ∀ (j : Nat) (u : Oper), ops[j]? = some u -> ∀ y, u.op ≠ .defer y) {i : Nat} {g : Oper} {v : Value} (t : ops[i]? = some g) (U : ∀ (j : Nat) (u : Oper) q p, ops[j]? = some u -> u.op ≠ .select q p)(Z:∀y a w,Q (.panic y) (a.put g.dst v) w->Q (.panic y) a w) (ah:∀j,n<=j->Region.waitsFor md ops j i=true\/ops[j]?=none):∀(r:Nat) (listed:Array Bool) (a:Act) (w:World),(∀j h,ops[j]?=some h->j≠i->listed.getD j true=false->(∀b∈h.after,Region.binds md b=true->b.on≠i)->g.apart ops h=true)→ i∈Region.ready md ops listed->mI P ops C g v a->C w->i<n→ uM F m P md ops n C Q r (listed.setIfInBounds i true) (a.put g.dst v) w->uM F m P md ops n C Q (r+1) listed a w:=by
 intro r;induction r with
 |zero=>
  intro listed a w _ f D s M o;refine⟨fun d=>(by rw[d]at f;cases f),fun j A=>?_⟩;by_cases c:j=i
  . subst c;exact D.wpOpIn hF (J _ _ t) t s ⟨fun _=>s,o⟩
  . have:=VE A c;rw[o.1]at this;cases this
 | succ r ih =>
  intro listed a w L f D s M o;refine⟨fun d=>(by rw[d]at f;cases f),fun j A=>?_⟩;by_cases c:j=i
  . subst c;exact D.wpOpIn hF (J _ _ t) t s ⟨fun _=>s,o⟩
  . have e:=o.2 j (VE A c);obtain⟨R,h,k,aa⟩:=VW.1 A;have S:∀b∈h.after,Region.binds md b=true->b.on≠i:=fun b H G I=>by
     have e:=aa b H G;have K:=(VW.1 f).1;rw[I]at e;rcases Uo i listed.size with E|E
     . simp[E]at K e;rw[K]at e;cases e
     . simp[Uk E]at e
    have O:j<n:=by
     rcases Uo j n with d|d
     . exact d
     . rcases ah j d with B|B
       . obtain⟨ai,T,b,H,G,I⟩:=Region.waitsFor_spec B;rw[k]at T;cases T;exact absurd I (S b H G)
       . rw[k]at B;cases B
    have Y:=J3 hF (J _ _ k) k (L j h k c R S) (fun q p=>U i g q p t) (fun q p=>U j h q p k) Z D e;have ae:∀l x,ops[l]?=some x->l≠i->(listed.setIfInBounds j true).getD l true=false→
        (∀b∈x.after,Region.binds md b=true->b.on≠i)->g.apart ops x=true:=fun l x hk af V ag=>by
     refine L l x hk af ?_ ag;by_cases N:j=l
     . subst N;exact R
     . rw[getD_set_ne true N]at V;exact V
    refine wpOpIn_mono (fun W w' z=>⟨fun _=>z.2.1 O,ih (listed.setIfInBounds j true) W w' ae (VE f (Ne.symm c)) z.1 (z.2.1 O) M ?_⟩) Y;rw[VC _ _ c];exact z.2.2
def sP(F:Fence)(m:Nat)(P:Program)(l:List Oper)(C:World->Prop)(Q:Exit->Act->World->Prop)(fin:Act->World->Prop):List (List Nat×Nat)->List Nat->Act->World->Prop
 |[],q,a,w=>wpQuiet P l.toArray C (fun a'=>fin a' w) (q.filterMap (l[·]?)) a
 |(q,i)::r,q',a,w=>wpQuiet P l.toArray C (fun a'=>wpListIn F m P l.toArray (Exit.then (fun a'' w'=>C w'/\sP F m P l C Q fin r q' a'' w') Q) (l[i]?).toList a' w) (q.filterMap (l[·]?)) a
theorem xI(hF:∀A,F.fn A){l:List Oper}(s:AU l.toArray=true)(u:Region.noSelect l.toArray=true)(v:zZ md l.toArray n=true)(p:∀b a z y w,Q (.panic b) (a.put z y) w->Q (.panic b) a w){K:Act->Prop}{w:World}(k:C w)(e:Nat)(d:Array Bool)
    (o:∀f,K f->uM F m P md l.toArray n C Q e d f w):∀(q:List Nat) (listed:Array Bool) (a:Act),NL md l.toArray n q listed=some d→
    wpQuiet P l.toArray C K (q.filterMap (l[·]?)) a->uM F m P md l.toArray n C Q (e+q.length) listed a w
 |[],listed,a,ho,h=>by
  simp only[NL,TF]at ho;subst ho;exact o a h
 | i :: q, listed, a, ho, h => by
  unfold NL at ho;split at ho
  . rename_i r;simp only[S9,SF]at r;obtain⟨⟨⟨g,B⟩,D⟩,j⟩:=r;cases c:l[i]? with
    |none=>simp[c]at j
    |some x=>
     have t:l.toArray[i]?=some x:=by simpa using c
     have G:BR x=true:=by simpa [c]using j
     rw[List.filterMap_cons,c]at h;simp only[wpQuiet]at h;obtain⟨y,H,E⟩:=wO G h;have:=xI hF s u v p k e d o q _ _ ho E;exact FL hF (Hl s) t (Region.noSelect_spec u) (fun b a w=>p b a _ _ w) (BX v g) _ _ _ _ (Region.free_spec t D) (by simpa using B) H k g this
  . cases ho
theorem CQ:∀(t:List Oper) (k:Nat) (listed:Array Bool) (a:Act) (w:World),n<=k->(∀b,t[b]?=l[k+b]?)→
    Region.seqB md l.toArray t.length k listed=true->wpListIn F m P l.toArray Q t a w->uM F m P md l.toArray n C Q t.length listed a w
 |[],_,_,_,_,_,_,hB,h=>⟨by simpa [Region.seqB]using hB,h⟩
 |o::t,k,listed,a,w,hk,hl,hB,h=>by
  have i:l.toArray[k]?=some o:=by simpa using(hl 0).symm
  simp only[Tc,Region.seqB,S9,SF]at hB;refine⟨fun d=>(by rw[hB.1]at d;cases d),fun c e=>?_⟩;rw[hB.1]at e;have j:c=k:=by simpa using e
  subst j;have q:wpOpIn F m P l.toArray Q c (wpListIn F m P l.toArray Q t) a w:=by unfold wpOpIn;simp only[i];exact h
  exact wpOpIn_mono (fun f r g=>⟨fun p=>absurd p (Wt.2 hk),CQ t (c+1) _ f r Zm (fun b=>by have:=hl (b+1);simpa [Ul,VR 1 b]using this) hB.2 g⟩) q
theorem PT{g:Oper}(b:g.wpIn F m P a w next (Exit.then K Q)):g.wpIn F m P a w next Q:=by
 unfold Oper.wpIn at*;refine⟨b.1,?_⟩;replace b:=b.2;generalize (g.semAt F.round a.eval).run P w=r at*;cases r with
 | ok n j =>
  cases n<;>simp only[Oper.uponIn]at b |-
  case value h=>exact b
  case skip=>exact b
  case defer d=>exact b
  case enter f args=>
   refine⟨b.1,CallsIn.mono b.2 fun e k c=>?_⟩;cases e with
   |returned h=>exact c
   |panicked i=>exact c
   |outgrown=>exact c
  case row row args=>exact b
  case round l f tmps assign body=>
   refine⟨b.1,RoundIn.mono b.2 fun e k c=>?_⟩;cases e with
   |returned h=>exact c
   |panicked i=>exact c
   |outgrown=>exact c
 |halt o j=>
  cases o<;>simp only[Oper.uponIn]at b |-
  case panic h=>exact b
theorem Eh(hF:∀o,F.fn o){l:List Oper}(u:AU l.toArray=true)(y:Region.noSelect l.toArray=true)(z:zZ md l.toArray n=true)(t:∀D a I R w,Q (.panic D) (a.put I R) w->Q (.panic D) a w)(M:n<=l.length):∀(B:List (List Nat×Nat)) (d:List Nat) (listed:Array Bool) (a:Act) (w:World),C w→
    Jk md l.toArray n B d listed=true->sP F m P l C Q (fun j c=>wpListIn F m P l.toArray Q (l.drop n) j c) B d a w->uM F m P md l.toArray n C Q ((l.length - n)+costs B d) listed a w
 |[],d,listed,a,w,hC,b,h=>by
  unfold Jk at b;split at b
  . rename_i g s;refine xI hF u y z t hC _ g (fun j e=>?_) d listed a s h;have:=CQ (F:=F) (m:=m) (md:=md) (C:=C) (l:=l) (l.drop n) n g j w (Tz _) (fun f=>by simp[UM]) (by simpa using b) e;simpa using this
  . cases b
 | (q, i) :: r, d, listed, a, w, hC, b, h => by
  unfold Jk at b;split at b
  . rename_i g s;simp only[S9,SF]at b;obtain⟨⟨x,S⟩,b⟩:=b;have J:l.length - n+costs ((q,i)::r) d=((l.length - n+costs r d)+1)+q.length:=by simp[costs];omega
    rw[J];refine xI hF u y z t hC _ g (fun j e=>?_) q listed a s h;refine⟨fun E=>(by rw[x]at E;cases E),fun f G=>?_⟩;rw[x]at G;have L:f=i:=by simpa using G
    subst L;cases v:l[f]? with
    |none=>
     exfalso;have:f∈Region.ready md l.toArray g:=by rw[x];simp
     obtain⟨_,H,N,_⟩:=VW.1 this;simp[v]at N
    | some H =>
     rw[v]at e;simp only[Option.toList,wpListIn]at e;unfold wpOpIn;have O:l.toArray[f]?=some H:=by simpa using v
     simp only[O];have step:∀k c,C c/\sP F m P l C Q (fun j c=>wpListIn F m P l.toArray Q (l.drop n) j c) r d k c->(f<n->C c)/\uM F m P md l.toArray n C Q (l.length - n+costs r d) (g.setIfInBounds f true) k c:=
      fun k c p=>⟨fun _=>p.1,Eh hF u y z t M r d _ k c p.1 b p.2⟩
     split
     . rename_i A;rw[SV A]at e;exact Oper.wpIn_mono (fun k c K=>step k c K) (PT e)
     . rename_i A;rw[SX A]at e;exact⟨fun o _=>hF o,step _ _ e.2⟩
  . cases b
end
theorem Ls{e:List Oper}(f:q.filterMap (l[·]?)=e)(b:∀K:Act->Prop,(∀c,d c w->K c)->wpQuiet P l.toArray C K e a):sP F m P l C Q d [] q a w:=by
 subst f;exact b _ fun _ b=>b
theorem J2{r:List (List Nat×Nat)}{g:List Nat}{h f:List Oper}(p:q.filterMap (l[·]?)=h)(s:(l[i]?).toList=f)(j:∀K:Act->Prop,(∀b,(∀K2:Act->World->Prop,(∀d c,C c->sP F m P l C Q e r g d c->K2 d c)->wpListIn F m P l.toArray (Exit.then K2 Q) f b w)->K b)->wpQuiet P l.toArray C K h a):sP F m P l C Q e ((q,i)::r) g a w:=by
 subst p s;refine j _ fun b k=>?_;exact k _ fun _ _ n o=>⟨n,o⟩
theorem JH{i:Type}(f:i->World)(n:Nat)(d:List (List Nat×Nat))(q:List Nat)(h0:∃b,w.drew=f b)(hF:∀f,F.fn f)(x:AU l.toArray=true)(v:P.follows .mixedOrders=true)(e:DJ l.toArray n d q=true)(u:∀g a k y w,Q (.panic g) (a.put k y) w->Q (.panic g) a w)(p:sP F m P l (fun c=>∃b,c=f b) Q (fun j c=>wpListIn F m P l.toArray Q (l.drop n) j c) d q a w.drew):(Code.region id l.toArray true).wpIn F m P Q a w:=by
 unfold DJ at e;simp only[S9,SF]at e;obtain⟨⟨⟨⟨r,s⟩,z⟩,h⟩,t⟩:=e;refine wpIn_region_any v (Bh (C:=fun c=>∃b,c=f b) (n:=n) _ _ _ _ ?_);have:=Eh hF x (C:=fun c=>∃b,c=f b) (md:=.any) r s u (by simpa using h) d q _ a w.drew h0 t p;have o:l.length - n+costs d q=l.toArray.size:=by
  have:n<=l.length:=by simpa using h
  simp;omega
 rw[o]at this;exact this
section
variable {F:Fence} {m:Nat} {P:Program} {l:List Oper} {C:World->Prop} {Q:Exit->Act->World->Prop} {fin:Act->World->Prop} {q:List Nat} {i j:Nat} {q':List Nat} {r:List (List Nat×Nat)} {a:Act} {w:World} {o o2:Oper}
theorem OE(e:List Oper)(g:q.filterMap (l[·]?)=e)(h:(l[i]?).toList=[o])(f:∀K:Act->Prop,(∀c,(∀K2:Act->World->Prop,(∀d b,C b->sP F m P l C Q fin r q' d b->K2 d b)->wpListIn F m P l.toArray (Exit.then K2 Q) [o] c w)->K c)->wpQuiet P l.toArray C K e a):sP F m P l C Q fin ((q,i)::r) q' a w:=J2 g h f
theorem Sc(f:(l[i]?).toList=[o])(d:∀K2:Act->World->Prop,(∀c b,C b->sP F m P l C Q fin r q' c b->K2 c b)->wpListIn F m P l.toArray (Exit.then K2 Q) [o] a w):sP F m P l C Q fin (([],i)::r) q' a w:=OE [] rfl f fun _ e=>qn e d
theorem QT(c:List Oper)(e:q.filterMap (l[·]?)=c)(d:∀K:Act->Prop,(∀b,fin b w->K b)->wpQuiet P l.toArray C K c a):sP F m P l C Q fin [] q a w:=Ls e d
theorem OG(b:fin a w):sP F m P l C Q fin [] [] a w:=QT [] rfl fun _ c=>qn c b
end
theorem Pz{g:Type}{f:g->World}(i:Zz (uD C g f))(n:Nat)(d:List (List Nat×Nat))(q:List Nat)(h0:C w.drew)(hF:∀f,F.fn f)
    (c:sP F m P l (fun e=>∃s,e=f s) Q (fun j e=>wpListIn F m P l.toArray Q (l.drop n) j e) d q a w.drew) (r:AU l.toArray=true:=by kernel_rfl) (p:P.follows .mixedOrders=true:=by kernel_rfl) (k:DJ l.toArray n d q=true:=by kernel_rfl)
    (o:∀h a b t w,Q (.panic h) (a.put b t) w->Q (.panic h) a w:=by exact fun _ _ b _ _ c=>by cases b<;>exact c):(Code.region id l.toArray true).wpIn F m P Q a w:=JH f n d q (i.o.o _ h0) hF r p k o c
theorem Cr{k:Nat}:∀{css:List (List Value)},(∀c∈css,c.length=k)->∀{q:Nat} {c:List Value},css[q]?=some c->∀{r:Nat},r<k->∀a,css.flatten.set (q*k+r) a=(css.set q (c.set r a)).flatten
 |[],_,q,c,h,_,_,_=>by simp at h
 |d::t,hk,0,c,h,r,hr,a=>by
  simp at h;subst h;have b:=hk d Zl;simp only[UX,Tq,UF,TK];rw[List.set_append_left _ _ Zm]
 |d::t,hk,q+1,c,h,r,hr,a=>by
  have b:=hk d Zl;have f:=Cr (fun g e=>hk g (UZ _ e)) (q:=q) (c:=c) (by simpa using h) hr a;simp only[UF,TQ];rw[List.set_append_right _ _ (by rw[b,UW];omega),b,show(q+1)*k+r - k=q*k+r by rw[UW];omega,f]
structure tX{α:Type}(e k:Nat)(R:mH α)(w:World)(I:Nat->Prop)(base:Nat)(v:Value)(css:List (List Value))(xs:List α):Prop where
 own:w.ownsRow base e k v xs.length css.flatten
 len:∀c∈css,c.length=k
 all:jR R w I xs css
section
variable {α:Type} {e k:Nat} {R:mH α} {w w':World} {I J:Nat->Prop} {base:Nat} {v:Value} {css:List (List Value)} {xs:List α} {D:Nat->Prop}
theorem tX.slice(b:tX e k R w I base v css xs)(c:0<k)(hI:∀a,base<=a->a<w.heap.size->I a)(hl:xs.length<=4294967296):SliceOf k R w I v xs:=
 SliceOf.owned b.own b.len c b.all hI hl
theorem tX.keep(c:tX e k R w I base v css xs)(hR:jK R)(d:Kp D w w')(h:∀b,v.ownBlock=some b->¬D b)(hI:∀a,I a->¬D a)(f:∀a,I a->J a):tX e k R w' J base v css xs:=
 ⟨iY c.own d (fun b g _=>h b g),c.len,c.all.keep hR (Kp.same d hI) f⟩
theorem tX.ext(b:tX e k R w I base v css xs)(hR:jK R)(c:Ext w w'):tX e k R w' I base v css xs:=b.keep hR c (fun _ _ a=>a) (fun _ _ a=>a) fun _ a=>a
theorem tX.get{f: Nat}(b:tX e k R w I base (g,n,f) css xs){q:Nat}{x:α}(m:xs[q]?=some x):∃a,css[q]?=some a/\a.length=k/\R w I x a/\hH w g (q*k) a:=by
 obtain⟨a,c,h⟩:=b.all.get q x m;refine⟨a,c,b.len a (Sy c),h,fun o p l=>?_⟩;rcases b.own.2 with⟨d,_⟩|⟨t,r,s,d,u,i,v,_,y,j⟩
 . cases d
 . cases d;have:=Ab b.len q a c o p l;rw[<-j,Uv]at this;split at this
   . simp only[World.cell?,i];simpa using this
   . cases this
theorem AZ{b: Nat}(d:w.ownsRow base e k (g,n,b) n css.flatten)(hl:∀c∈css,c.length=k){q:Nat}{c:List Value}(f:css[q]?=some c){r:Nat}(h:r<k)(a:Value):(w.setCell (g,q*k+r) a).ownsRow base e k (g,n,b) n (css.set q (c.set r a)).flatten:=by
 rw[<-Cr hl f h a];exact(d.stored _ a).1
theorem I5(hR:jK R)(b:Same I w w')(a:∀e,I e->J e){c:List Value}:∀{xs:List α} {css:List (List Value)} {q:Nat} {x:α},jR R w I xs css->xs[q]?=some x->R w' J x c->jR R w' J xs (css.set q c)
 |[],[],q,x,_,hx,_=>by simp at hx
 |y::xs,d::css,0,x,h,hx,hr=>by simp at hx;subst hx;exact⟨hr,h.2.keep hR b a⟩
 |y::xs,d::css,q+1,x,h,hx,hr=>⟨hR _ _ _ _ _ _ b a h.1,I5 hR b a h.2 (by simpa using hx) hr⟩
 |[],_::_,_,_,h,_,_=>h.elim
 |_::_,[],_,_,h,_,_=>h.elim
theorem AP(hl:∀c∈css,c.length=k){q:Nat}{c:List Value}(d:c.length=k):∀a∈css.set q c,a.length=k:=fun a e=>by
 rcases Uw e with b|b
 . exact hl a b
 . rw[b];exact d
theorem Sj{D:Nat->Prop}{q: Nat}(w:World)(a:D g)(b c d e:Value):Kp D w ((((w.setCell (g,q*4) b).setCell (g,q*4+1) c).setCell (g,q*4+2) d).setCell (g,q*4+3) e):=
 ((((Kp.refl D w).setCell (p:=⟨g,q*4,none⟩) (fun _=>a) b).setCell (p:=⟨g,q*4+1,none⟩) (fun _=>a) c).setCell (p:=⟨g,q*4+2,none⟩) (fun _=>a) d).setCell (p:=⟨g,q*4+3,none⟩) (fun _=>a) e
theorem Pq(p:w.ownsRow base e 4 (g,n,i) n css.flatten)(hl:∀c∈css,c.length=4){q:Nat}{u0 u1 u2 u3:Value}(o:css[q]?=some [u0,u1,u2,u3])(a b d h:Value):((((w.setCell (g,q*4) a).setCell (g,q*4+1) b).setCell (g,q*4+2) d).setCell (g,q*4+3) h).ownsRow base e 4 (g,n,i) n (css.set q [a,b,d,h]).flatten:=by
 have f:=(Tv.1 o).1;have j:=AZ p hl o (r:=0) Zn a;rw[Uh]at j;have k:=AZ (css:=css.set q [a,u1,u2,u3]) j (AP hl rfl) (q:=q) (c:=[a,u1,u2,u3]) (VP f) (r:=1) Zn b;rw[List.set_set]at k;have l:=AZ (css:=css.set q [a,b,u2,u3]) k (AP hl rfl) (q:=q) (c:=[a,b,u2,u3]) (VP f) (r:=2) Zn d;rw[List.set_set]at l;have m:=AZ (css:=css.set q [a,b,d,u3]) l (AP hl rfl) (q:=q) (c:=[a,b,d,u3]) (VP f) (r:=3) Zn h;rw[List.set_set]at m;exact m
theorem tX.nO(h:tX e 4 R w I base (g,n,i) css xs)(m:n=xs.length)(hR:jK R)(hI:∀f,I f->f≠g){q:Nat}{x:α}{u0 u1 u2 u3:Value}(p:xs[q]?=some x)(l:css[q]?=some [u0,u1,u2,u3]){a b c d:Value}(o:R ((((w.setCell (g,q*4) a).setCell (g,q*4+1) b).setCell (g,q*4+2) c).setCell (g,q*4+3) d) J x [a,b,c,d]) (k:∀f,I f->J f):tX e 4 R ((((w.setCell (g,q*4) a).setCell (g,q*4+1) b).setCell (g,q*4+2) c).setCell (g,q*4+3) d) J base (g,n,i) (css.set q [a,b,c,d]) xs/\Kp (·=g) w ((((w.setCell (g,q*4) a).setCell (g,q*4+1) b).setCell (g,q*4+2) c).setCell (g,q*4+3) d):=by
 subst m;have j:=Sj (D:=(·=g)) (q:=q) w rfl a b c d;exact⟨⟨Pq h.own h.len l a b c d,AP h.len rfl,I5 hR (Kp.same j hI) k h.all p o⟩,j⟩
end
end Go.Proofs.YtenhnldnpdlniaaGreat
