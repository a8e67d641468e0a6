/- Walks. -/
import Derived.Test.YtenhnldnpdlniaaGreatOtCoreLb
import Derived.Deep.DeepCutAuto
import Derived.Deep.CutRange
set_option maxRecDepth 100000
set_option maxHeartbeats 4000000
set_option linter.all false
namespace Go.Proofs.YtenhnldnpdlniaaGreat
open Go Go.RowKit Tryz M
theorem JJ(op a:Int)(n m:ByteArray)(w:World)(y: -100000<=a/\a<=100000)(K:n.size<=1000)(J:m.size<=1000):Calls prog 86 #[.agg #[op,a,n,m]] w fun c p=>LD 20000 c/\Ext w p:=by
 obtain⟨H,I⟩:=y;have k:∀d,Calls prog 135 #[a] d fun c s=>LD 11200 c/\Ext d s:=fun d=>(Rz a d Zm Zm).mono (by
  rintro c p ⟨⟨C,rfl,-,A⟩,x⟩;exact⟨⟨_,rfl,Zm⟩,x⟩)
 have r:=Zy k;clear k;go_enter func86,ntmps86;go_wp2_with fail;refine(Ns op a n m).mono ?_;rintro c M ⟨⟨t,rfl,o⟩,j⟩;have e:=Zy j;clear j;cases t
 . go_wp2;go_ret;exact⟨⟨_,rfl,T9 _⟩,Zv⟩
 . have g:=(h9.new w 134 #[op,a,n,m]).ext e;obtain⟨u,v⟩:=o rfl;obtain⟨b,rfl⟩:∃b:Nat,op=b:=⟨op.toNat,Zm⟩;have z:b=1\/b=2\/b=3\/b=4\/b=5\/b=6\/b=7\/b=8\/b=9\/b=10\/b=11\/b=12\/b=13\/b=14\/b=15:=Zm
   have i:=g.c 0 b rfl;have h:=Zy g;clear g;go_wp2_with fail;refine(JK b Zm).mono ?_;rintro c N ⟨⟨C,rfl,A⟩,f⟩;have q:=Zy (e.trans f);have B:(ByteArray.mk #[32]).size=1:=rfl;have l:=h.ext f;clear f e i o u v;obtain⟨-,i,D,E,F,-⟩:=l.ca;clear l h;rcases z with rfl|rfl|rfl|rfl|rfl|rfl|rfl|rfl|rfl|rfl|rfl|rfl|rfl|rfl|rfl
   all_goals
    go_wp2_with (go_at_call 135;refine(r _).mono ?_;rintro c O ⟨⟨P,rfl,L⟩,G⟩);go_ret;refine⟨⟨_,rfl,by first|omega|(simp only[Tj,B];omega)⟩,?_⟩;have:=q.o;exact Zv
namespace M
theorem Ow:∀(l d:List UInt8),∀b∈mU d l,b.length<=d.length+l.length
 |[],d,b,a=>by simp[mU]at a;subst a;simp
 |c::r,d,b,a=>by
  rw[mU]at a;split at a
  . rcases TI.1 a with rfl|a
    . omega
    . have:=Ow r [] b a;simp at this |-;omega
  . have:=Ow r _ b a;simp at this |-;omega
theorem JX{s x:ByteArray}(b:x∈words s):x.size<=s.size:=by
 unfold words at b;obtain⟨a,c,rfl⟩:=TM.1 b;have:=Ow s.data.toList [] a c;have d:(bs a).size=a.length:=by simp[bs,ByteArray.size]
 have e:s.data.toList.length=s.size:=by simp
 simp at this;omega
theorem EY(s:ByteArray):∃b a,words s=b::a:=by
 cases c:words s with
 |nil=>exact absurd (by simpa [words]using c) (Lm s.data.toList [])
 |cons b a=>exact⟨b,a,rfl⟩
end M
theorem kF.at_{w:World}{I:Nat->Prop}{a:Option Addr}{n c:Nat}{xs:List ByteArray}{i:Nat}{x:ByteArray}(f:SliceOf 1 kF w I (.slice a n c) xs)(h:xs[i]?=some x):∃b d,a=some ⟨b,d,none⟩/\w.cell? ⟨b,d+i,none⟩=some (.string x):=by
 obtain⟨b,d,j,e,-,rfl,-,g⟩:=f.get h;exact⟨b,d,e,by simpa using g.one⟩
theorem Kp.nO{D:Nat->Prop}{w:World}{b:Nat}(a:D b)(c d e f:Value):Kp D w ((((w.setCell b c).setCell (b,1) d).setCell (b,2) e).setCell (b,3) f):=
 (((((Kp.refl D w).setCell (p:=⟨b,0,none⟩) (fun _=>a) c).setCell (p:=⟨b,1,none⟩) (fun _=>a) d).setCell (p:=⟨b,2,none⟩) (fun _=>a) e).setCell (p:=⟨b,3,none⟩) (fun _=>a) f)
theorem h9.nO{w:World}{b:Nat}{t:TypeId}{u0 u1 u2 u3:Value}(f:h9 w b t #[u0,u1,u2,u3])(a c d e:Value):h9 ((((w.setCell b a).setCell (b,1) c).setCell (b,2) d).setCell (b,3) e) b t #[a,c,d,e]:=by
 have g:h9 (w.setCell b a) b t #[a,u1,u2,u3]:=f.jE 0 a;have h:h9 ((w.setCell b a).setCell (b,1) c) b t #[a,c,u2,u3]:=g.jE 1 c;have i:h9 (((w.setCell b a).setCell (b,1) c).setCell (b,2) d) b t #[a,c,d,u3]:=h.jE 2 d;exact i.jE 3 e
theorem uI:Bj 236 2:=⟨_,underlying236,by kernel_rfl⟩
theorem Ak:Bj 93 2:=⟨_,underlying93,by kernel_rfl⟩
theorem za:Bj 154 3:=⟨_,underlying154,by kernel_rfl⟩
theorem uO:Bj 38 4:=⟨_,underlying38,by kernel_rfl⟩
theorem Kp.BS{D:Nat->Prop}{w:World}{b:Nat}(a:D b)(c d e:Value):Kp D w (((w.setCell b c).setCell (b,1) d).setCell (b,2) e):=
 ((((Kp.refl D w).setCell (p:=⟨b,0,none⟩) (fun _=>a) c).setCell (p:=⟨b,1,none⟩) (fun _=>a) d).setCell (p:=⟨b,2,none⟩) (fun _=>a) e)
theorem h9.BS{w:World}{b:Nat}{t:TypeId}{u0 u1 u2:Value}(e:h9 w b t #[u0,u1,u2])(a c d:Value):h9 (((w.setCell b a).setCell (b,1) c).setCell (b,2) d) b t #[a,c,d]:=by
 have f:h9 (w.setCell b a) b t #[a,u1,u2]:=e.jE 0 a;have g:h9 ((w.setCell b a).setCell (b,1) c) b t #[a,c,u2]:=f.jE 1 c;exact g.jE 2 d
theorem Ej{n:Nat}(a:n≠3):((n:Int)==3)=false/\((n:Int) !=3)=true:=by
 have:(n:Int)≠3:=Zm
 exact⟨SI.2 this,by simp[this]⟩
theorem Kp.Ex{D:Nat->Prop}{w:World}{b:Nat}(a:D b)(c d:Value):Kp D w ((w.setCell b c).setCell (b,1) d):=
 (((Kp.refl D w).setCell (p:=⟨b,0,none⟩) (fun _=>a) c).setCell (p:=⟨b,1,none⟩) (fun _=>a) d)
theorem h9.Ex{w:World}{b:Nat}{t:TypeId}{u0 u1:Value}(d:h9 w b t #[u0,u1])(a c:Value):h9 ((w.setCell b a).setCell (b,1) c) b t #[a,c]:=by
 have e:h9 (w.setCell b a) b t #[a,u1]:=d.jE 0 a;exact e.jE 1 c
theorem uH:Bj 198 3:=⟨_,underlying198,by kernel_rfl⟩
def R4(w w':World)(e:Ending):Prop:=∃x c0 c1 c2 b,e=.returned (.tuple #[.agg #[c0,c1,c2],.bool b])/\mW w' (fun b=>w.heap.size<=b/\b<w'.heap.size) x [c0,c1,c2]
theorem R4.zero(w a:World)(b:Bool):R4 w a (.returned (.tuple #[.agg #[SS,(),()],.bool b])):=
 ⟨⟨0,[],[]⟩,_,_,_,b,rfl,_,_,rfl,SliceOf.nil _ _ _ _,SliceOf.nil _ _ _ _⟩
theorem vZ:Bj 113 8:=⟨_,underlying113,by kernel_rfl⟩
theorem Oh:Elem 107 109 2:=nM (z:=.agg #[SS, ""]) (bytes:=24) underlying107 Zo rfl Zn Zn
def LU(x:Kind):List Value:=[.int .i64 x.kind,.string x.name]
def QN(m:Nat)(w w':World)(e:Ending):Prop:=∃n va rk rn l2 l3 b,e=.returned (.tuple #[.agg #[.string n,va,.int .i64 rk,.string rn,.int .i64 l2,.int .i64 l3,.slice none 0 0,.slice none 0 0],.bool b])/\n.size<=m/\∃ks,SliceOf 2 oD w' (fun b=>w.heap.size<=b/\b<w'.heap.size) va ks
theorem QN.zero(m:Nat)(w a:World)(b:Bool):QN m w a (.returned (.tuple #[.agg #["",(),SS, "",SS,SS,(),()],.bool b])):=
 ⟨_,_,_,_,_,_,b,rfl,T9 _,[],SliceOf.nil _ _ _ _⟩
theorem oU:Elem 29 38 4:=nM (z:=.agg #["", "",(),()]) (bytes:=80) underlying29 Zo rfl Zn Zn
theorem Kc:Bj 32 2:=⟨_,underlying32,by kernel_rfl⟩
theorem h9.BK{W:World}{g:Nat}(t:TypeId)(cs:Array Value)(a:W=g):h9 (W.alloc (.cells cs t)) g t cs:=by
 subst a;exact h9.new W t cs
def Ch{α:Type}(k:Nat)(R:mH α)(w wx:World)(J:Nat->Prop)(bx:Nat)(t:TypeId)(cells:Array Value)(fi:Nat)(zs:List α):Prop:=
 ∃v',SliceOf k R wx (fun b=>J b\/w.heap.size<=b) v' zs/\h9 wx bx t (cells.setIfInBounds fi v')/\Kp (·=bx) w wx
theorem oO{α:Type}{k:Nat}{R:mH α}(hR:jK R)(B:0<k){w W:World}{J:Nat->Prop}{css:List (List Value)}{f:List Value}{xs:List α}{y:α}{b l g m c:Nat}{t:TypeId}{cells:Array Value}(v:W.ownsRow w l k (.slice (some ⟨g,0,none⟩) (m+1) c) (m+1) (css.flatten++f)) (z:∀c∈css,c.length=k) (A:jR R w J xs css) (C:R w J y f) (D:f.length=k) (h:Ext w W)(n:(∀d,J d->d≠b)/\xs.length+1<=4294967296) (p:h9 w b t cells) (e:Nat):Ch k R w (W.setCell (b,e) (.slice (some ⟨g,0,none⟩) (m+1) c)) J b t cells e (xs++[y]):=by
 have i:Kp (·=b) W (W.setCell (b,e) (.slice (some ⟨g,0,none⟩) (m+1) c)):=qA;have x:=p.ext h;have G:=p.lt;refine⟨_,?_,x.jE e _,h.any.trans i⟩;have o:=iY v i (fun I F q l=>Zm);have s:css.flatten++f=(css++[f]).flatten:=by simp
 rw[s]at o;have r:Same J w (W.setCell (b,e) (.slice (some ⟨g,0,none⟩) (m+1) c)):=fun d H K q j=>i.nQ (h.iW j) (n.1 d q);refine SliceOf.owned o (fun c j=>?_) B ((A.keep hR r (fun _ a=>.inl a)).snoc (hR _ _ _ _ _ _ r (fun _ a=>.inl a) C)) (fun d u E=>.inr u) (by simpa using n.2);rcases Ty.1 j with a|a
 . exact z c a
 . simp at a;subst a;exact D
theorem Nv(w:World)(I:Nat->Prop)(hI:∀a,I a->a<w.heap.size)(q:kC){ks:List Value}(hk:iX w I q ks)(x:Class){cs:List Value}(hx:jB w I x cs)(aA:q.owns≠[])(hl:q.owns.length<=1000):Calls prog 132 #[.agg ks.toArray,.agg cs.toArray] w fun v w'=>(∃aC,v=.returned (.agg aC.toArray)/\iX w' (fun a=>I a\/w.heap.size<=a) ⟨q.owns.dropLast++[x],q.asks⟩ aC)/\Ext w w':=by
 obtain⟨vo,va,rfl,hO,z⟩:=hk;obtain⟨s,q1,t,q2,rfl⟩:=hx.form;obtain⟨B,C,rfl,aU,aK⟩:=hO.form;obtain⟨E,J,rfl,-,-⟩:=z.form;have aL:=Vi.2 aA;obtain⟨i,X⟩:∃i,q.owns.length=i+1:=⟨q.owns.length - 1,Zm⟩;have av:q.owns.take i=q.owns.dropLast:=by rw[List.dropLast_eq_take,X];rfl
 have ag:=hO.take (i:=i) Zm;rw[av]at ag;have ax:q.owns.dropLast.length=i:=by rw[List.length_dropLast,X];rfl
 obtain⟨e,H⟩:=SH (((w.alloc (.cells #[.slice B q.owns.length C,.slice E q.asks.length J] 32)).alloc (.cells #[x.name,x.je,.slice s x.fields.length q1,.slice t x.methods.length q2] 38)).alloc (.cells #[(),()] 32));have P:Ext w e:=by rw[H];exact kx
 have b2:h9 e w 32 #[.slice B q.owns.length C,.slice E q.asks.length J]:=by rw[H];exact(h9.new _ _ _).ext kx
 have b3:h9 e (w+1) 38 #[x.name,x.je,.slice s x.fields.length q1,.slice t x.methods.length q2]:=by rw[H];exact(h9.BK (W:=w.alloc (.cells #[.slice B q.owns.length C,.slice E q.asks.length J] 32)) _ _ Zl).ext kx
 have b4:h9 e (w+2) 32 #[(),()]:=by rw[H];exact h9.BK _ _ Zl
 obtain⟨L,ak,au,ay⟩:=SliceOf.cells One.cls Zn (ag.ext jB.stays P);have⟨HY,aD,aa,ae,af,K,Z,aG⟩:=IQ (jB.stays _ _ _ _ _ _ (Ext.same P) (fun _ F=>F) hx) (z.ext uT.stays P) ak au ay b2 b4 P;have aB:e.heap.size=w+3:=by rw[H];simp
 have HJ:Zz ((∀a,I a->a≠w.heap.size)/\q.owns.dropLast.length+1<=4294967296):=Zy ⟨fun a c=>SK (hI a c),Zm⟩;have aj:=Zy aB;obtain⟨aR,aS,aW,U⟩:=mJ e;have r0:=fun ah=>(b2.ext (U.jv ah)).c 0 (.slice B q.owns.length C) rfl;obtain⟨-,r1,r2,r3,r4,-⟩:=h9.qW fun ah=>(b3.ext (U.jv ah));have g:=Zy U;have aM:((q.owns.length:Nat):Int) - 1=(i:Int):=Zm
 have aN:IntKind.i64.wrap (((q.owns.length:Nat):Int) - 1)=(i:Int):=by rw[Tg _ Zm];omega
 have aV:(0:Int)<=(i:Int):=Zm
 have aX:i<=4000:=Zm
 have⟨HI,HN,aQ,aH⟩:=kQ hI X ax H;clear aB P b2 b3 b4 H U ak au ay hO ag z hx av aA X ax aL aK hI;go_enter func132,ntmps132;go_upto_region 1 with(fail);rw[<-aH.o];go_cut [] (fun wx=>Ch 4 jB e wx I w 32 #[.slice B q.owns.length C,.slice E q.asks.length J] 0 (q.owns.dropLast++[x]))
 case first =>
  refine ve g 12 (.two [1,2,3,4,5,6,7,9] 0 10 (.two [] 8 10 (.one [] 10 (.one [] 11 (.fin []))) (.one [] 8 (.one [] 11 (.fin [])))) (.one [] 0 (.one [] 8 (.one [] 11 (.fin []))))) ?_ ?_
  . exact jg
  refine two [_,_,_,_,_,_,_,_] rfl rfl rfl fun aI G=>?_;(repeat (go_big_quiet_step (fail)));((refine JE G (fun d b=>?_) fun d b=>?_)<;>clear G aI)
  . have N:Ext e e.drew:=jg;generalize e.drew=wd at N |-;go_wp2_with fail;obtain⟨f,m⟩:∃A,A=wd.alloc (.cells #[] 38):=⟨_,rfl⟩;have y:Ext e f:=N.trans (by rw[m];exact jh _);have o:f.ownsRow e 38 4 (.slice (some ⟨wd,0,none⟩) 0 0) 0 []:=by rw[m];exact lh wd _ _ _ N.size rfl
    have ai:Zz ((f:Nat)=wd+1):=Zy (by rw[m];simp);rw[<-m];clear m;refine kk g b y ?_;clear b d;refine FJ rfl rfl (fun d b=>?_) fun d b=>?_
    . skip;refine jJ oU _ rfl (.tmp 5) (.tmp 12) rfl e (.slice (some ⟨wd,0,none⟩) 0 0) 0 [] rfl o B i C L.flatten rfl (af.ext y) Zm y.size ?_;intro T k h aO;rw[Tq,Ti]at h;have l:=y.own aO (fun a c=>(o.lt a c).1);change d _ _;refine kk g b l ?_;clear b d;refine jX rfl fun d b=>?_;go_wp2_with fail;obtain⟨wc,O⟩:∃A,A=k.alloc (.cells #[x.name,x.je,.slice s x.fields.length q1,.slice t x.methods.length q2] 38):=⟨_,rfl⟩;have p:Ext e wc:=l.trans (by rw[O];exact jh _);have aJ:Ext k wc:=by rw[O];exact jh _
      have j:hH wc k 0 [x.name,x.je,.slice s x.fields.length q1,.slice t x.methods.length q2]:=by rw[O];exact hH.nC _ _ rfl
      have aY:Zz ((wc:Nat)=k+1):=Zy (by rw[O];simp);rw[<-O];clear O;refine kk g b p ?_;clear b d;have h:=iY (D:=fun _=>False) h aJ fun _ _ _ x=>x;refine jX rfl fun d b=>?_;refine ji oU rfl (.tmp 13) (.tmp 15) rfl e T i L.flatten rfl h k 1 [x.name,x.je,.slice s x.fields.length q1,.slice t x.methods.length q2] rfl rfl j Zt Zm p.size ?_;intro g9 c9 wf D R _;have r:=p.own R (fun a c=>(h.lt a c).1);change d _ _;refine kk g b r ?_;clear b d;refine kJ ?_;have u:=K.ext r;obtain⟨zX,vX,-⟩:=u.ca;have fX:=u.frozen 0;have z:=oO (R:=jB) jB.stays Zm D aa ae HY rfl r HJ K 0;clear j o h D g u;go_wp2;go_meet;exact z
    . skip;go_wp2_with fail;obtain⟨k,n⟩:∃A,A=f.alloc (.cells #[x.name,x.je,.slice s x.fields.length q1,.slice t x.methods.length q2] 38):=⟨_,rfl⟩;have l:Ext e k:=y.trans (by rw[n];exact jh _);have V:Ext f k:=by rw[n];exact jh _
      have j:hH k f 0 [x.name,x.je,.slice s x.fields.length q1,.slice t x.methods.length q2]:=by rw[n];exact hH.nC _ _ rfl
      have aP:Zz ((k:Nat)=f+1):=Zy (by rw[n];simp);rw[<-n];clear n;refine kk g b l ?_;clear b d;have o:=iY (D:=fun _=>False) o V fun _ _ _ x=>x;refine jX rfl fun d b=>?_;refine jJ oU _ rfl (.tmp 5) (.tmp 12) rfl e (.slice (some ⟨wd,0,none⟩) 0 0) 0 [] rfl o B i C L.flatten rfl (af.ext l) Zm l.size ?_;intro T wc h Q;rw[Tq,Ti]at h;have p:=l.own Q (fun a c=>(o.lt a c).1);have j:=j.kp Q (fun v=>by simp[Value.ownBlock]at v;have:=ai.o;omega);change d _ _;refine kk g b p ?_;clear b d;refine jX rfl fun d b=>?_;refine ji oU rfl (.tmp 13) (.tmp 15) rfl e T i L.flatten rfl h f 1 [x.name,x.je,.slice s x.fields.length q1,.slice t x.methods.length q2] rfl rfl j Zt Zm p.size ?_;intro g9 c9 wf D R _;have r:=p.own R (fun a c=>(h.lt a c).1);change d _ _;refine kk g b r ?_;clear b d;refine kJ ?_;have u:=K.ext r;obtain⟨zX,vX,-⟩:=u.ca;have fX:=u.frozen 0;have z:=oO (R:=jB) jB.stays Zm D aa ae HY rfl r HJ K 0;clear j o h D g u;go_wp2;go_meet;exact z
  . have N:Ext e e.drew:=jg;generalize e.drew=wd at N |-;go_wp2_with fail;obtain⟨f,m⟩:∃A,A=wd.alloc (.cells #[x.name,x.je,.slice s x.fields.length q1,.slice t x.methods.length q2] 38):=⟨_,rfl⟩;have y:Ext e f:=N.trans (by rw[m];exact jh _);have aT:Ext wd f:=by rw[m];exact jh _
    have j:hH f wd 0 [x.name,x.je,.slice s x.fields.length q1,.slice t x.methods.length q2]:=by rw[m];exact hH.nC _ _ rfl
    have ai:Zz ((f:Nat)=wd+1):=Zy (by rw[m];simp);rw[<-m];clear m;refine kk g b y ?_;clear b d;refine jX rfl fun d b=>?_;go_wp2_with fail;obtain⟨k,n⟩:∃A,A=f.alloc (.cells #[] 38):=⟨_,rfl⟩;have V:Ext f k:=by rw[n];exact jh _
    have l:=y.trans V;have o:k.ownsRow e 38 4 (.slice (some ⟨f,0,none⟩) 0 0) 0 []:=by rw[n];exact lh f _ _ _ y.size rfl
    have aP:Zz ((k:Nat)=f+1):=Zy (by rw[n];simp);rw[<-n];clear n;refine kk g b l ?_;clear b d;have j:=j.ext V;refine jX rfl fun d b=>?_;refine jJ oU _ rfl (.tmp 5) (.tmp 12) rfl e (.slice (some ⟨f,0,none⟩) 0 0) 0 [] rfl o B i C L.flatten rfl (af.ext l) Zm l.size ?_;intro T wc h Q;rw[Tq,Ti]at h;have p:=l.own Q (fun a c=>(o.lt a c).1);have j:=j.kp Q (fun v=>by simp[Value.ownBlock]at v;have:=ai.o;omega);change d _ _;refine kk g b p ?_;clear b d;refine jX rfl fun d b=>?_;refine ji oU rfl (.tmp 13) (.tmp 15) rfl e T i L.flatten rfl h wd 1 [x.name,x.je,.slice s x.fields.length q1,.slice t x.methods.length q2] rfl rfl j Zt Zm p.size ?_;intro g9 c9 wf D R _;have r:=p.own R (fun a c=>(h.lt a c).1);change d _ _;refine kk g b r ?_;clear b d;refine kJ ?_;have u:=K.ext r;obtain⟨zX,vX,-⟩:=u.ca;have fX:=u.frozen 0;have z:=oO (R:=jB) jB.stays Zm D aa ae HY rfl r HJ K 0;clear j o h D g u;go_wp2;go_meet;exact z
 obtain⟨v',Y,c,G⟩:=hcut;obtain⟨a6,m6,rfl,-,-⟩:=Y.form;obtain⟨S,az⟩:∃S,(q.owns.dropLast++[x]).length=S:=⟨_,rfl⟩;rw[az]at Y c;clear az;have c:h9 wc w 32 #[.slice a6 S m6,.slice E q.asks.length J]:=c;have W:=Z.kp G Zm;obtain⟨ez,e0,e1,-⟩:=c.ca;obtain⟨gz,g0,g1,-⟩:=W.ca;obtain⟨k0,k1,-⟩:=W.fz;have⟨Z,HS,HK,aF⟩:=kQ W Y G (aD.keep uT.stays (G.same (fun a c=>SK (HI.o a c))) (fun _ F=>F));clear c W Y G r0 r1 r2 r3 r4 g aM aN;go_wp2_with fail;refine Px (jA Kc rfl (w+2) rfl [.slice a6 S m6,.slice E q.asks.length J] (hH.mO (h9.Ex Z _ _)) rfl) rfl ?_;have hP:Kp (·=w+2) wc ((wc.setCell ⟨w+2,0,none⟩ (.slice a6 S m6)).setCell ⟨w+2,1,none⟩ (.slice E q.asks.length J)):=Kp.Ex (D:=(·=w+2)) rfl _ _;exact⟨⟨_,rfl,_,_,rfl,HS.keep jB.stays (hP.same (fun a c v=>c.elim (fun F=>SK (HI.o a F)) (fun F=>SK aj.o))) (fun a c=>c.imp id (fun F=>SK aj.o)),aF.o.keep uT.stays (hP.same (fun a c v=>SK (HI.o a c))) (fun a c=>.inl c)⟩,(aG.o.own HK.o (fun a v=>Zm)).own hP (fun a v=>Zm)⟩
end Go.Proofs.YtenhnldnpdlniaaGreat
