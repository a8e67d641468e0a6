/- Walks. -/
import Derived.Test.YtlhlnddgfcmfkaaGreatRsCoreH
import Derived.Test.YtlhlnddgfcmfkaaGreatRsCoreLs
set_option maxRecDepth 100000
set_option maxHeartbeats 4000000
set_option linter.all false
namespace Go.Proofs.YtlhlnddgfcmfkaaGreat
open Go Go.RowKit Tryz M
theorem ji.Py{w i:World}{l:jh}{p:hZ}{q:Own}{o e:Nat}{lk:Bool}{g:Gh}(a:ji w l p q o e lk g)(n:Int)
    (d f:Nat) (v:i.ownsRow o 3 1 (d,g.outs.length+1,f) (g.outs.length+1) (g.outs.flatMap uJ++[.int .i64 n])) (A:Kp (fun b=>g.vo.ownBlock=some b) w i) (z:g.vo.ownBlock=some d\/w<=d)
    (F:M.Good p ({g with outs:=g.outs++[n],vo:=(d,g.outs.length+1,f)}:Gh).st):
    Kp (MO l q) w (i.setCell (e,5) (d,g.outs.length+1,f))/\∃D,mV w q D/\ji (i.setCell (e,5) (d,g.outs.length+1,f)) l p D o e lk {g with outs:=g.outs++[n],vo:=(d,g.outs.length+1,f)}:=by
 have u:Kp (·=e) i (i.setCell (e,5) (d,g.outs.length+1,f)):=(Kp.refl (·=e) i).setCell (p:=⟨e,5,none⟩) (fun _=>rfl) _;obtain⟨j,t⟩:=Ry (i.setCell (e,5) (d,g.outs.length+1,f));have B:g.vo.ownBlock≠some e:=fun c=>by have:=a.outs.role _ c;rw[a.role]at this;cases this
 have G:hV j e 85 (xP l lk {g with outs:=g.outs++[n],vo:=(d,g.outs.length+1,f)}):=by rw[t];exact(a.blk.kp A B).jk 5 _
 have J:d≠e:=fun c=>by
  subst c;rcases z with s|s
  . exact B s
  . have:=a.blk.lt;omega
 have C:j.ownsRow o 3 1 (d,g.outs.length+1,f) (g.outs.length+1) (g.outs.flatMap uJ++[.int .i64 n]):=by
  rw[t];exact iZ v u (fun r x _ c=>J (by cases x;exact c))
 rw[<-t]at u |-;clear t;have h:Kp (PO q fun r=>r=(0,0)\/r=(3,0)) w j:=(A.weak fun b _ c=>⟨_,a.outs.role b c,.inr rfl⟩).trans (u.weak fun b _ c=>⟨_,by rw[c];exact a.role,.inl rfl⟩);have k:=Own.yn (by
  rcases z with s|s
  . exact .inl (a.outs.role _ s)
  . exact .inr Zm)
 have I:∀b,q.add d (3,0) b≠none->o<=b/\b<j.heap.size:=fun b m=>by
  by_cases c:b=d
  . subst c;exact C.lt b rfl
  . rw[Own.lT _ c]at m;exact a.zi h.size b m
 refine⟨h.weak fun b _ c=>c.mo,_,k,a.E8 h,a.hB,G,(k _ a.blk.lt).trans a.role,a.low,a.calls.xy h k Zl,fun y E H=>(a.call y E H).xy h k Zl a.xO,a.heap.xy h k Zl,fun K L v=>(a.obj K L v).xy h k Zl,⟨?_,fun r x=>?_⟩,I,F,a.xI.kp h (fun b y m ⟨r,h1,h2⟩=>by rw[m]at h1;cases h1;simp at h2) fun b y m=>Own.F9 Zl m⟩
 . simpa [uJ]using C
 . cases x;exact Own.add_eq _ _ _
theorem PX {w: World} {l: jh} {p: hZ} {B: Own} {x n: Nat} {lk: Bool} {g: Gh} (Z : ji w l p B x n lk g) (r : List GC) (c : GC) (aC : g.cs = r ++ [c]) (aD : g.status = 1) (i : Ins) (hi : nO (M.method p c.f.of) i = true) (A : i.op = 14) :Calls prog 87 #[some n,.agg #[i.op,i.a,i.name,i.member]] w (jY w l p B x n lk (.int .i64 (jF p lk i g.st).1) (jF p lk i g.st).2):=by
 have HI:=Zy (qR hi);obtain⟨w0,aH,aa,W⟩:=nu w #[i.op,i.a,i.name,i.member] 149;have⟨aQ,y,au,aL,av,k⟩:=nZ (Z.fresh (R5 _)) (Z.ext aa) aa W aH aC;have bz:=W.lt;clear Z aa W aH aC hi;rcases R8 c.f.stack with h|⟨j,S,h⟩
 . have a:Zz (jF p lk i g.st=(10,g.st)):=Zy (by unfold jF;rw[A];simp only[Gh.zw k.o h];rfl);have T:=Zy h;clear h A;go_enter func87,ntmps87;go_wp2_with fail;rw[<-av.o];refine(kV _ _ _ _ _ _ _ _ y r c k).mono ?_;rintro b w1 ⟨rfl,m⟩;have⟨C,D⟩:=je (y.ext m) (au.trans m);clear m;go_wp2_with fail;refine(qX C r c k T).mono ?_;rintro b w2 ⟨rfl,ae⟩;have⟨aK,aN⟩:=je (C.ext ae) (D.trans ae);clear ae;go_wp2_with fail;go_ret;rw[a.o];exact jY.mk' (aN.alloc _).any (mV.refl _ _) (aK.ext kx) rfl
 . rw [R9] at h; have aG := (jA.1 (y.C9 k)).2.2.2.2.2.2 S (by rw [h]; simp); have aR := Zy (by simpa [Gh.st] using aG); have a : Zz (∀ e, jF p lk i g.st = if S.kind = 1 then next p (if (g.kI r c j e).st.outs.length < 40 then { (g.kI r c j e).st with outs := (g.kI r c j e).st.outs ++ [S.n] } else (g.kI r c j e).st) else (10, (g.kI r c j e).st)) := Zy (fun e => by unfold jF; rw [A]; simp only [Gh.pop k.o h e]; rfl); have ⟨T, aY⟩ := je h A; clear h A aG; obtain ⟨vk, v⟩ := S; simp only at a; go_enter func87, ntmps87; go_wp2_with fail; rw [<- av.o]; refine (kV _ _ _ _ _ _ _ _ y r c k).mono ?_; rintro b w1 ⟨rfl, m⟩; have ⟨C, D⟩ := je (y.ext m) m; clear m; go_wp2_with fail; refine (vQ C r c k j ⟨vk, v⟩ T).mono ?_; rintro b w2 ⟨rfl, f, e, s⟩; replace a := Zy (a e); obtain ⟨w3, aI, af, b5⟩ := nu w2 #[vk, v] 37; have ⟨d, E⟩ := je (s.ext af) (((au.trans D).any.trans f).trans af.any); have ax := (aL.ext D).kp f aQ; obtain ⟨yz,-, y1,-⟩ := ax.ca; have ⟨U, aM, aP⟩ := jy aI b5 (s.fresh (R5 _)); obtain ⟨t, u, aj⟩ := s.outs.form; have m5 := s.blk.c 5 (.slice t g.outs.length u) (by rw [show (Value.slice t g.outs.length u) = g.vo from aj.symm]; rfl); have mz := s.blk.lt; have H : Zz (g.vo = .slice t g.outs.length u) := Zy aj; clear af b5 f s ax aI aj; by_cases N : vk = 1
   . subst N;replace a:=Zy (a.trans (RV rfl));have aU:=yP aR rfl;simp only at aU;by_cases O:g.outs.length<40
     . have aT:(g.outs.length:Int)<40:=Zm
       replace a:=Zy (a.trans (by rw[RV (show(g.kI r c j e).st.outs.length<40 from O)]));have ai:¬g.vo.ownBlock=some n:=fun b=>by have:=d.outs.role _ b;rw[d.o.role]at this;cases this
       have aF:¬g.vo.ownBlock=some w2.heap.size:=fun b=>aP.o (.inr (by rw[d.o.outs.role _ b];simp));obtain⟨aZ,bf,bu,F⟩:=rA.ex (fun W'=>Kp (fun V=>g.vo.ownBlock=some V) w3 W') _ Kp.rr;have rm:=fun ak=>(d.blk.kp (F.jm ak) ai).c 5 (.slice t g.outs.length u) (by rw[<-H.o];rfl);have aW:=fun ak=>(aM.kp (F.jm ak) aF).c 1 v rfl;have⟨G,aS⟩:=je F ai;have bn:=d.low;have bq:=d.blk.lt;clear F ai aF O;go_wp2_with fail;rw[<-U.o];refine kD G 9 [([0,1,2,3,4,5,6],7),([],8)] [] ?_ ?_
       . exact jf
       refine lS ?_;intro I f;go_wp2_with fail;refine kk G f kx ?_;clear f I;refine lF rfl fun I f=>?_;refine jo zO rfl (.tmp 32) (.tmp 35) rfl x (.slice t g.outs.length u) g.outs.length (g.outs.flatMap uJ) rfl (by rw[<-H.o];exact iZ (D:=fun _=>False) d.outs.row kx fun _ _ _ aX=>aX) w3 1 [v] rfl rfl (hH.Hn _ _ rfl) Zt Zm Zr ?_;intro Y X w9 aA ag ah;change I _ _;rw[<-H.o]at ag ah;have K:=(kx:Ext w3 _).any.trans ag;refine kk G f K ?_;clear f I;have P:=d.blk.kp K aS;have x5:=P.c 5 (.slice t g.outs.length u) (by rw[<-H.o];rfl);have f5:=P.frozen 5;have R:=P.lt;have q:=d.good;obtain⟨ay,aJ,aB,az⟩:=d.Py v Y X aA K (by
        rcases ah with b|b
        . exact .inl b
        . right;simp at b;omega) ⟨q.heap,q.frames,q.nf,by simp[Gh.st,Gh.kI];omega,(fun aV Q=>by
          simp only[Gh.st,Gh.kI,SF,List.mem_singleton]at Q;rcases Q with Q|rfl
          . exact q.sw aV Q
          . unfold nQ;simp;omega),q.back⟩
       obtain⟨J,L⟩:=Ry (w9.setCell (n,5) (Y,g.outs.length+1,X));have HX:Zz (Kp (MO l B) w J/\mV w B aJ):=Zy (by
        rw[L];exact⟨E.mo ay (mV.refl _ _),fun V hb=>aB V (Z0 E.size)⟩)
       have HW:=Zy L;have aO:Zz (ji J l p aJ x n lk {(g.kI r c j e)with outs:=g.outs++[v],vo:=(Y,g.outs.length+1,X)}):=Zy (by rw[L];exact az);clear ay aB az L aA ag ah K P G rm aW q m5 mz;refine kC ?_;go_wp2_with fail;rw[<-HW.o];refine(uh aO r rfl aD).mono ?_;rintro b w4 z;have o:=Zy (jY.after HX.1 HX.2 z);obtain⟨rfl,-⟩:=z;replace o:Zz (jY w l p B x n lk (.int .i64 (jF p lk i g.st).1) (jF p lk i g.st).2 _ w4):=Zy (by rw[a.o];exact o);clear x5 f5 R;go_wp2_with fail;go_ret;have R:=o.o;rw[a.o]at R |-;exact R
     . have aT:¬(g.outs.length:Int)<40:=Zm
       replace a:=Zy (a.trans (by rw[RX (show¬(g.kI r c j e).st.outs.length<40 from O)]));clear O;go_wp2_with fail;rw[<-U.o];refine(uh d r rfl aD).mono ?_;rintro b w4 z;have o:=Zy (jY.after E (mV.refl _ _) z);obtain⟨rfl,-⟩:=z;rw[<-a.o]at o |-;go_wp2_with fail;go_ret;exact o
   . have bg:=RS.2 N;replace a:=Zy (a.trans (RX N));clear N;go_wp2_with fail;go_ret;rw[a.o,<-U.o];exact jY.mk' E (mV.refl _ _) d rfl
theorem uO{w:World}{l:jh}{p:hZ}{Q:Own}{D C:Nat}{lk:Bool}{g:Gh}(v:ji w l p Q D C lk g)(r:List GC)(c:GC)(y:g.cs=r++[c])(z:c.f.stack=[]):Calls prog 132 #[some C] w fun b R=>b=.returned (.tuple #[.agg #[.int .i64 0,.int .i64 0],.bool false])/\Ext w R:=by
 obtain⟨S,B,j,i⟩:=nu w #[.int .i64 0,.int .i64 0] 37;have⟨o,H,F,K,q⟩:=mr (v.ext j) j i B y;have aa:=i.lt;have J:=Zy z;clear v j i B y z;go_enter func132,ntmps132;go_wp2_with fail;rw[<-K.o];refine(kV _ _ _ _ _ _ _ _ o r c q).mono ?_;rintro b w1 ⟨rfl,k⟩;have⟨E,s⟩:=je (o.ext k) k;clear k;go_wp2_with fail;refine(qX E r c q J).mono ?_;rintro b f ⟨rfl,m⟩;obtain⟨a,e⟩:=Ry (f.alloc (.cells #[.int .i64 0,.int .i64 0] 37));have n:Ext S a:=by rw[e];exact(s.trans m).alloc _
 have ae:(w:Nat)<f:=Z4 m.size s.size
 have u:hV a f 37 #[.int .i64 0,.int .i64 0]:=by rw[e];exact hV.new _ _ _
 have P:¬(f:Nat)=w:=Zm
 obtain⟨U,W,Z,h⟩:=rA.ex (fun O=>Kp (·=w) a O) _ Kp.rr;obtain⟨-,af,ag,-⟩:=hV.lL fun T=>(u.kp (h.jm T) P);have⟨t,L⟩:=je h e;have d:=F.ext n;obtain⟨hz,x0,x1,-⟩:=d.ca;obtain⟨X,Y,-⟩:=d.fz;have⟨G,I⟩:=je d n;clear n u m e h d;go_wp2_with fail;rw[<-L.o];refine kD t 13 [([0,1,2,3,4,5,6,7,8,9,10,11],12)] [] ?_ ?_
 . exact jf
 refine lS ?_;intro N x;go_wp2_with fail;have A:Kp (·=w) a ((a.drew.setCell w (.int .i64 0)).setCell (w,1) (.int .i64 0)):=(((Kp.refl (·=w) a).drew).setCell (p:=⟨w,0,none⟩) (fun _=>rfl) _).setCell (p:=⟨w,1,none⟩) (fun _=>rfl) _;refine kk t x A ?_;clear x N;refine kC ?_;go_wp2_with fail;refine DV (ja zL rfl w rfl [.int .i64 0,.int .i64 0] (hH.lV ((G.ext jf).set2 _ _)) rfl) rfl ?_;exact⟨rfl,(H.trans I).own A (fun V b=>Zm)⟩
theorem xR{w:World}{l:jh}{p:hZ}{k:Own}{z y:Nat}{lk:Bool}{g:Gh}(q:ji w l p k z y lk g)(r:List GC)(c:GC)(S:g.cs=r++[c])(st:List Val)(v:Val)(T:c.f.stack=st++[v]):Calls prog 132 #[some y] w fun f V=>f=.returned (.tuple #[.agg #[v.kind,v.n],.bool (decide (v.kind=2\/v.kind=3))])/\Kp (MO l k) w V/\∃m,ji V l p k z y lk (g.kI r c st m):=by
 obtain⟨b,e⟩:=v;obtain⟨w0,U,J,H⟩:=nu w #[.int .i64 0,.int .i64 0] 37;have P:=Zy (q.fresh (R5 _));have au:=q.ku.lt;have⟨N,Z,X,ae,O⟩:=mr (q.ext J) J H U S;have ax:=H.lt;have HS:=Zy T;clear q J H U S T;go_enter func132,ntmps132;go_wp2_with fail;rw[<-ae.o];refine(kV _ _ _ _ _ _ _ _ N r c O).mono ?_;rintro f w1 ⟨rfl,K⟩;have⟨W,B⟩:=je (N.ext K) K;clear K;go_wp2_with fail;refine(vQ W r c O st ⟨b,e⟩ HS).mono ?_;rintro f n ⟨rfl,a,m,R⟩;obtain⟨d,x⟩:=Ry (n.alloc (.cells #[b,e] 37));have t:Ext n d:=by rw[x];exact kx
 have ay:(w:Nat)<n:=Z4 a.size B.size
 have Q:hV d n 37 #[b,e]:=by rw[x];exact hV.new _ _ _
 have af:¬(n:Nat)=w:=Zm
 obtain⟨ah,ai,av,E⟩:=rA.ex (fun W'=>Kp (·=w) d W') _ Kp.rr;obtain⟨-,az,aA,-⟩:=hV.lL fun ag=>(Q.kp (E.jm ag) af);have⟨h,F⟩:=je E x;have u:=((X.ext B).kp a P).ext t;obtain⟨hz,x0,x1,-⟩:=u.ca;obtain⟨f0,f1,-⟩:=u.fz;have⟨A,aa,o⟩:=jy u (((Z.trans B).any.trans a).trans t.any) (R.ext t);have i:Kp (·=w) d ((d.drew.setCell w b).setCell (w,1) e):=(((Kp.refl (·=w) d).drew).setCell (p:=⟨w,0,none⟩) (fun _=>rfl) _).setCell (p:=⟨w,1,none⟩) (fun _=>rfl) _;have D:=Zy i;have C:Zz (Kp (MO l k) w ((d.drew.setCell w b).setCell (w,1) e)/\∃m,ji ((d.drew.setCell w b).setCell (w,1) e) l p k z y lk (g.kI r c st m)):=Zy (by
  refine⟨aa.own i (fun G f=>Zm),m,o.o.keep i (mV.refl _ _) (o.o.zi i.size) (o.o.ku.kp i (fun G L f=>Zm)) (fun G L f=>by subst f;exact P (.inr L)) (fun G L f=>Z0 o.ku.ord)⟩)
 clear t Q a R x E u i;by_cases s:b=2
 . subst s;go_wp2_with fail;rw[<-F.o];refine kD h 13 [([0,1,2,3,4,5,6,7,8,9,10,11],12)] [] ?_ ?_
   . exact jf
   refine lS ?_;intro j a;go_wp2_with fail;refine kk h a D ?_;clear a j;refine kC ?_;go_wp2_with fail;refine DV (ja zL rfl w rfl [.int .i64 2,e] (hH.lV ((A.ext jf).set2 _ _)) rfl) rfl ?_;exact⟨rfl,C⟩
 by_cases I:b=3
 . subst I;clear s;go_wp2_with fail;rw[<-F.o];refine kD h 13 [([0,1,2,3,4,5,6,7,8,9,10,11],12)] [] ?_ ?_
   . exact jf
   refine lS ?_;intro j a;go_wp2_with fail;refine kk h a D ?_;clear a j;refine kC ?_;go_wp2_with fail;refine DV (ja zL rfl w rfl [.int .i64 3,e] (hH.lV ((A.ext jf).set2 _ _)) rfl) rfl ?_;exact⟨rfl,C⟩
 . have aj:=QC.2 s;have ak:=QC.2 I;have Y:Zz (decide (b=2\/b=3)=false):=Zy (R7 Zm);clear s I;go_wp2_with fail;rw[<-F.o];refine kD h 13 [([0,1,2,3,4,5,6,7,8,9,10,11],12)] [] ?_ ?_
   . exact jf
   refine lS ?_;intro j a;go_wp2_with fail;refine kk h a D ?_;clear a j;refine kC ?_;go_wp2_with fail;refine DV (ja zL rfl w rfl [b,e] (hH.lV ((A.ext jf).set2 _ _)) rfl) rfl ?_;exact⟨by rw[Y.o];rfl,C⟩
theorem Gh.split{g:Gh}{r:List Fr}{f:Fr}(a:g.st.frames=r++[f]):∃d c,g.cs=d++[c]/\c.f=f:=by
 rcases R8 g.cs with b|⟨d,c,b⟩
 . unfold Gh.st at a;rw[b]at a;simp at a
 . rw[R9]at b;refine⟨d,c,b,?_⟩;unfold Gh.st at a;rw[b]at a;simp only[RI,List.map_cons,List.map_nil]at a;have:=List.append_inj_right' a rfl;simpa using this
theorem LC.mo{l:jh}{p:hZ}{c:Own}{w W:World}(b:LC l p w W):Kp (MO l c) w W:=b.kp.weak fun d _ a=>.inl a
theorem L9{w:World}{l:jh}{p:hZ}{U:Own}{I H:Nat}{lk:Bool}{g:Gh}(B:ji w l p U I H lk g)(r:List GC)(c:GC)(O:g.cs=r++[c])(Q:g.status=1)(i:Ins)(P:nO (M.method p c.f.of) i=true)(m:i.op=12):Calls prog 85 #[some H,.agg #[i.op,i.a,i.name,i.member]] w (jY w l p U I H lk (.int .i64 (jF p lk i g.st).1) (jF p lk i g.st).2):=by
 have HI:=Zy (qR P);obtain⟨w0,S,C,z⟩:=nu w #[i.op,i.a,i.name,i.member] 149;have⟨aa,q,J,Y,K,h⟩:=nZ (B.fresh (R5 _)) (B.ext C) C z S O;have aj:=z.lt;clear B C z S O P;rcases R8 c.f.stack with b|⟨t,n,b⟩
 . have a:Zz (jF p lk i g.st=(10,g.st)):=Zy (by unfold jF;rw[m];simp only[Gh.zw h.o b];rfl);have x:=Zy b;clear b m;go_enter func85,ntmps85;go_wp2_with fail;rw[<-K.o];refine(uO q r c h x).mono ?_;rintro A W ⟨rfl,D⟩;have⟨X,Z⟩:=je (q.ext D) (J.trans D);clear D;go_wp2_with fail;go_ret;rw[a.o];exact jY.mk' (Z.alloc _).any (mV.refl _ _) (X.ext kx) rfl
 . rw[R9]at b;have R:=(jA.1 (q.C9 h)).2.2.2.2.2.2 n (by rw[b];simp);have ah:=Zy (by simpa [Gh.st]using R);have a:Zz (∀e,jF p lk i g.st=if n.kind=2\/n.kind=3 then(if n.kind=3 then jump p i.a (g.kI r c t e).st else next p (g.kI r c t e).st)else(10,(g.kI r c t e).st)):=Zy (fun e=>by unfold jF;rw[m];simp only[Gh.pop h.o b e];rfl);have⟨x,ae⟩:=je b m;clear b m R;obtain⟨o,V⟩:=n;simp only at a;go_enter func85,ntmps85;go_wp2_with fail;rw[<-K.o];refine(xR q r c h t ⟨o,V⟩ x).mono ?_;rintro A W ⟨rfl,F,e,G⟩;replace a:=Zy (a e);obtain⟨w3,T,E,L⟩:=nu W #[o,V] 37;have⟨v,u⟩:=je (G.ext E) ((J.any.trans F).trans E.any);have N:=Y.kp F aa;obtain⟨yz,-,y1,y2,-⟩:=N.ca;have⟨y,af,ag⟩:=jy T L (G.fresh (R5 _));clear E L F G N T;by_cases d:o=2\/o=3
   . have f:=R6 d;simp only[f];replace a:=Zy (a.trans (RV d));by_cases s:o=3
     . subst s;replace a:=Zy (a.trans (RV rfl));clear d f;go_wp2_with fail;rw[<-y.o];refine(A8 v r _ rfl Q i.a (HI.2.2.1 (.inr (.inl ae))).1).mono ?_;rintro A w4 k;have j:=Zy (jY.after u (mV.refl _ _) k);obtain⟨rfl,-⟩:=k;rw[<-a.o]at j |-;go_wp2_with fail;go_ret;exact j
     . have ai:=QC.2 s;replace a:=Zy (a.trans (RX s));clear s d f;go_wp2_with fail;rw[<-y.o];refine(uh v r rfl Q).mono ?_;rintro A w4 k;have j:=Zy (jY.after u (mV.refl _ _) k);obtain⟨rfl,-⟩:=k;rw[<-a.o]at j |-;go_wp2_with fail;go_ret;exact j
   . have f:=R7 d;simp only[f];replace a:=Zy (a.trans (RX d));clear d f;go_wp2_with fail;go_ret;rw[a.o,<-y.o];exact jY.mk' u (mV.refl _ _) v rfl
theorem Oc{w:World}{l:jh}{p:hZ}{aJ:Own}{ah mb:Nat}{lk:Bool}{g:Gh}(U:ji w l p aJ ah mb lk g)(r:List GC)(c:GC)(aB:g.cs=r++[c])(aD:g.status=1)(i:Ins)(hi:nO (M.method p c.f.of) i=true)(B:i.op=15):Calls prog 88 #[some mb,.agg #[i.op,i.a,i.name,i.member]] w (jY w l p aJ ah mb lk (.int .i64 (jF p lk i g.st).1) (jF p lk i g.st).2):=by
 have HI:=Zy (qR hi);obtain⟨w0,aG,V,T⟩:=nu w #[i.op,i.a,i.name,i.member] 149;have⟨aS,D,ai,aM,ak,x⟩:=nZ (U.fresh (R5 _)) (U.ext V) V T aG aB;have bE:=T.lt;clear U V T aG aB hi;rcases R8 c.f.stack with f|⟨d,n,f⟩
 . have a:Zz (jF p lk i g.st=(10,g.st)):=Zy (by unfold jF;rw[B];simp only[Gh.zw x.o f];rfl);have Q:=Zy f;clear f B;go_enter func88,ntmps88;go_wp2_with fail;rw[<-ak.o];refine(uO D.o r c x.o Q.o).mono ?_;rintro q w2 ⟨rfl,W⟩;have⟨aL,aP⟩:=je (D.o.ext W) (ai.o.trans W);clear W;go_wp2_with fail;go_ret;rw[a.o];exact jY.mk' (aP.o.alloc _).any (mV.refl _ _) (aL.o.ext kx) rfl
 . rw [R9] at f; have aF := (jA.1 (D.o.C9 x.o)).2.2.2.2.2.2 n (by rw [f]; simp); have R := Zy (by simpa [Gh.st] using aF); have a : Zz (∀ b, jF p lk i g.st = if n.kind = 2 \/ n.kind = 3 then (if n.kind = 3 then push p n (g.kI r c d b).st else if (qg p i.name (g.kI r c d b).st).2 then (if under p (uX (g.kI r c d b).st.heap n.n) (qg p i.name (g.kI r c d b).st).1 then push p n (g.kI r c d b).st else (6, (g.kI r c d b).st)) else (4, (g.kI r c d b).st)) else (10, (g.kI r c d b).st)) := Zy (fun b => by unfold jF; rw [B]; simp only [Gh.pop x.o f b]; rfl); have ⟨Q, bq⟩ := je f B; clear f B aF; obtain ⟨v, t⟩ := n; simp only at a; go_enter func88, ntmps88; go_wp2_with fail; rw [<- ak.o]; refine (xR D.o r c x.o d ⟨v, t⟩ Q.o).mono ?_; rintro q w2 ⟨rfl, m, b, Y⟩; replace a := Zy (a.o b); obtain ⟨w3, aH, X, b5⟩ := nu w2 #[v, t] 37; have ⟨E, O⟩ := je (Y.ext X) ((ai.o.any.trans m).trans X.any); have ax := aM.o.kp m aS.o; obtain ⟨yz,-, y1, y2,-⟩ := ax.ca; have ⟨S, aN, aR⟩ := jy aH b5 (Y.fresh (R5 _)); clear X b5 m Y ax aH; by_cases s : v = 2 \/ v = 3
   . have u:=R6 s;simp only[u];replace a:=Zy (a.o.trans (RV s));by_cases H:v=3
     . subst H;replace a:=Zy (a.o.trans (RV rfl));clear s u;go_wp2_with fail;rw[<-S.o];refine(rQ E.o r _ rfl aD ⟨3,t⟩ R.o).mono ?_;rintro q w4 A;have y:=Zy (jY.after O.o (mV.refl _ _) A);obtain⟨rfl,-⟩:=A;rw[<-a.o]at y |-;go_wp2_with fail;go_ret;exact y.o
     . have bB:=QC.2 H;obtain rfl:v=2:=by omega
       replace a:=Zy (a.o.trans (RX H));clear H s u;obtain⟨⟨⟨K,L⟩,lb⟩,hF⟩:∃aK,qg p i.name (g.kI r c d b).st=aK:=⟨_,rfl⟩;rw[hF]at a;go_wp2_with fail;rw[<-S.o];have ae:=Dv E.o r _ rfl i.name;rw[hF]at ae;refine ae.mono ?_;rintro q w4 ⟨rfl,z⟩;clear ae hF y1 y2 yz;simp only;have Z:=E.o.oJ z.kp z.at_;have ay:=aN.o.kp z.kp (fun q=>aR.o (.inl q));have⟨bn,aQ,N⟩:=jy Z (O.o.trans z.mo) ay;obtain⟨w5,aI,G,b7⟩:=nu w4 #[K,L] 63;have⟨aO,j,P,au,aj⟩:=mr b7 (Z.ext G) (aQ.o.trans G.any) aI G;clear z Z ay aI G b7;cases lb
       . replace a:Zz (jF p lk i g.st=(4,(g.kI r c d b).st)):=Zy (a.o.trans rfl);go_wp2_with fail;go_ret;rw[a.o,<-au.o];exact jY.mk' P.o (mV.refl _ _) j.o rfl
       . replace a:Zz (jF p lk i g.st=if under p (uX (g.kI r c d b).st.heap t) ⟨K,L⟩then push p ⟨2,t⟩ (g.kI r c d b).st else(6,(g.kI r c d b).st)):=Zy (a.o.trans rfl);obtain⟨aT,af⟩:=sF R.o rfl;simp only at aT af;obtain⟨h,rfl⟩:∃h:Nat,t=h:=⟨t.toNat,by omega⟩;obtain⟨C,ho⟩:∃C,g.os[h]?=some C:=⟨g.os[h]'Zm,Rz _⟩;have aC:uX (g.kI r c d b).st.heap h=C.o.of:=Ag (by simp[Gh.st,Gh.kI,ho]);rw[aC]at a;obtain⟨ha,aA,ag⟩:=j.o.heap.form;have I:=j.o.heap.row;rw[ag]at I;obtain⟨av,bz,eb,-⟩:=jS I (by show 0<g.os.length;omega);cases eb;have aa:=lK (enc:=pR) (k:=3) (fun _=>rfl) I (l:=g.os) ho;obtain⟨bu,bA,bD,k⟩:=kY w5;have bf:=fun e=>(j.o.ext (k.jm e)).blk.c 0 (some l.L) rfl;have bg:=fun e=>(j.o.ext (k.jm e)).blk.c 4 (av,g.os.length,aA) (by rw[show(Value.slice (some ⟨av,0,none⟩) g.os.length aA)=g.vh from ag.symm];rfl);have aV:=fun e=>((N.o.ext aj.o).ext (k.jm e)).c 1 h rfl;obtain⟨-,aW,aX,-⟩:=hV.lL fun e=>(aO.o.ext (k.jm e));have aY:=fun e=>(hH.ext aa (k.jm e)).three.1;have aZ:=fun e=>(hH.ext aa (k.jm e)).three.2.1;have q0:=N.o.c 0 (.int .i64 2) rfl;have F:=Zy k;have bC:(h:Int)<g.os.length:=af;clear k ag I aa ho aC af;go_wp2_with fail;rw[<-au.o];refine kD F 16 [([0,1,2,3,4,5,6,7,8,9,10,11,12,13],14)] [15] ?_ ?_
         . exact jf
         refine lS ?_;intro K2 m;go_wp2_with fail;refine(uN (j.o.ku.ext jf) C.o.of ⟨K,L⟩).mono ?_;rintro q w6 ⟨rfl,az⟩;have o:=Zy (((Kp.refl _ w5).drew:Ext w5 _).trans az);clear az;obtain⟨-,aU,bF,-⟩:=((N.o.ext aj.o).ext o.o).ca;have bG:=iY aU;cases J:under p C.o.of ⟨K,L⟩
         . rw[J]at a;replace a:Zz (jF p lk i g.st=(6,(g.kI r c d b).st)):=Zy (a.o.trans rfl);clear J;go_wp2_with fail;refine kk F m o.o ?_;clear m K2;refine sK ?_;go_wp2_with fail;go_ret;rw[a.o];exact jY.mk' (P.o.trans o.o.any) (mV.refl _ _) (j.o.ext o.o) rfl
         . rw[J]at a;replace a:Zz (jF p lk i g.st=push p ⟨2,h⟩ (g.kI r c d b).st):=Zy (a.o.trans rfl);clear J;go_wp2_with fail;refine kk F m o.o ?_;clear m K2;clear F bf bg aV aW aX aY aZ;refine sK ?_;go_wp2_with fail;refine(rQ (j.o.ext o.o) r _ rfl aD ⟨2,h⟩ R.o).mono ?_;rintro q w7 A;have y:=Zy (jY.after (P.o.trans o.o.any) (mV.refl _ _) A);obtain⟨rfl,-⟩:=A;rw[<-a.o]at y |-;go_wp2_with fail;go_ret;exact y.o
   . have u:=R7 s;simp only[u];replace a:=Zy (a.o.trans (RX s));clear s u;go_wp2_with fail;go_ret;rw[a.o,<-S.o];exact jY.mk' O.o (mV.refl _ _) E.o rfl
theorem EW:∀(l:List Val) (q:Nat) (x:Val),((l.flatMap jW).set (q*2) x.kind).set (q*2+1) x.n=(l.set q x).flatMap jW:=by
 intro l;induction l with
 |nil=>intro q x;simp
 | cons c b a =>
  intro q x;cases q with
  |zero=>simp[jW]
  |succ q=>
   rw[show(q+1)*2=q*2+1+1 from by omega];simp only[Tn,RU,jW,Sm,RF];rw[a]
theorem ji.xX{w:World}{l:jh}{p:hZ}{j:Own}{s C:Nat}{lk:Bool}{g:Gh}(h:ji w l p j s C lk g){r:List GC}{c:GC}(m:g.cs=r++[c]){a E:Nat}(y:c.vl=.slice (some ⟨a,0,none⟩) c.f.locals.length E)(q:Nat)(x:Val)(D:ko x g.os.length=true):
    Kp (MO l j) w ((w.setCell (a,q*2) x.kind).setCell (a,q*2+1) x.n)/\ji ((w.setCell (a,q*2) x.kind).setCell (a,q*2+1) x.n) l p j s C lk {g with cs:=r++[{c with f:={c.f with locals:=c.f.locals.set q x}}]}:=by
 have b:=h.at_ m;have n:Kp (·=a) w ((w.setCell (a,q*2) x.kind).setCell (a,q*2+1) x.n):=
  ((Kp.refl (·=a) w).setCell (p:=⟨a,q*2,none⟩) (fun _=>rfl) _).setCell (p:=⟨a,q*2+1,none⟩) (fun _=>rfl) _
 have u:=b.loc.role a (by rw[y];rfl);have o:Kp (PO j (·=(5,r.length))) w ((w.setCell (a,q*2) x.kind).setCell (a,q*2+1) x.n):=n.weak fun i _ d=>⟨_,by rw[d];exact u,rfl⟩;have A:=mV.refl w j;have B:=b.loc.row;rw[y]at B;have z:=(B.stored (q*2) x.kind).1.stored (q*2+1) x.n;have t:=EW c.f.locals q x;rw[t]at z;have e:=jA.1 (h.C9 m);refine⟨o.weak fun i _ d=>d.mo,h.Gm m rfl (o.weak fun i _ ⟨q,e1,t⟩=>⟨q,e1,.inr (.inl t)⟩) A (h.zi n.size) ⟨b.blk.kp n (fun d=>?_),b.role,b.low,jL.kp jd.stays o (fun i k=>h.xO i k) b.ml,⟨?_,b.loc.role⟩,b.kI.xy o A Zl⟩ ?_ n (fun i G k d=>by rw[d,u]at k;cases k) fun _ _ x=>x⟩
 . have:=b.role;rw[d,u]at this;cases this
 . show World.ownsRow _ s _ 2 c.vl (c.f.locals.set q x).length _
   rw[Tg,y];exact z.1
 . rw[show({g with cs:=r++[{c with f:={c.f with locals:=c.f.locals.set q x}}]}:Gh).st={g.st with frames:=r.map GC.f++[{c.f with locals:=c.f.locals.set q x}]}from by simp[Gh.st]];refine h.good.turn (Gh.fr m) (jA.2 ⟨e.1,e.2.1,e.2.2.1,by simp;exact e.2.2.2.1,e.2.2.2.2.1,?_,e.2.2.2.2.2.2⟩);intro F v;rcases List.mem_or_eq_of_mem_set v with v|rfl
   . exact e.2.2.2.2.2.1 F v
   . simpa [Gh.st]using D
theorem PV{w:World}{l:jh}{p:hZ}{n:Own}{E C:Nat}{lk:Bool}{g:Gh}(t:ji w l p n E C lk g)(r:List GC)(c:GC)(y:g.cs=r++[c])(ak:g.status=1)(i:Ins)(hi:nO (M.method p c.f.of) i=true)(P:i.op=6):Calls prog 79 #[some C,.agg #[i.op,i.a,i.name,i.member]] w (jY w l p n E C lk (.int .i64 (jF p lk i g.st).1) (jF p lk i g.st).2):=by
 obtain⟨D,z⟩:=Ry (w.alloc (.cells #[i.op,i.a,i.name,i.member] 149));have u:Ext w D:=by rw[z];exact kx
 have⟨F,X,aa,W,ax⟩:=mr (t.ext u) u z y t;obtain⟨⟨⟨b,d⟩,B⟩,hF⟩:∃S,qg p i.name g.st=S:=⟨_,rfl⟩;have a:Zz (jF p lk i g.st=if B=true then(if 12<=g.st.heap.length then(8,g.st)else push p (create p ⟨b,d⟩ g.st).1 (create p ⟨b,d⟩ g.st).2)else(4,g.st)):=Zy (by unfold jF;rw[P];simp only[hF];rfl);have V:Zz (B=true->kg p ⟨b,d⟩=true):=Zy (fun k=>by
  subst k;unfold qg at hF;simp only[Prod.mk.injEq,Sc]at hF;rw[<-hF.1];exact hF.2.2)
 have x:=Dv F r c y i.name;rw[hF]at x;have G:=Zy x;clear t u z y hi P hF x;go_enter func79,ntmps79;go_wp2_with fail;rw[<-aa.o];refine G.mono ?_;rintro k R ⟨rfl,m⟩;have f:=F.oJ m.kp m.at_;obtain⟨o,A⟩:=Ry (R.alloc (.cells #[b,d] 63));have v:Ext R o:=by rw[A];exact kx
 obtain⟨ha,ag,Q⟩:=f.heap.form;have m4:=f.blk.c 4 (.slice ha g.os.length ag) (by rw[<-Q];rfl);have mz:=f.blk.lt;have q:=Zy (f.ext v);have j:Zz (Kp (MO l n) w o):=Zy ((X.any.trans m.mo).trans v.any);have s:=Zy A;clear G m f A v Q;have aj:g.st.heap.length=g.os.length:=by simp[Gh.st]
 cases B
 . replace a:Zz (jF p lk i g.st=(4,g.st)):=Zy a.o;go_wp2_with fail;go_ret;rw[a.o,<-s.o];exact jY.mk' j (mV.refl _ _) q rfl
 . replace a:Zz (jF p lk i g.st=if 12<=g.st.heap.length then(8,g.st)else push p (create p ⟨b,d⟩ g.st).1 (create p ⟨b,d⟩ g.st).2):=Zy a.o;by_cases af:12<=g.os.length
   . replace a:=Zy (a.trans (RV Zm));have I:decide ((12:Int)<=g.os.length)=true:=R6 Zm;have ay:(12:Int)<=g.os.length:=Zm
     go_wp2_with fail;go_ret;rw[a.o,<-s.o];exact jY.mk' j (mV.refl _ _) q rfl
   . replace a:=Zy (a.trans (RX Zm));have I:((12:Int)<=g.os.length)=False:=Tq Zm;have ai:g.os.length<12:=Zm
     clear af aj;go_wp2_with fail;rw[<-s.o];refine(BL _ _ _ _ _ _ _ q ⟨b,d⟩ (V Zl) ai).mono ?_;rintro k w3 ⟨rfl,K,av,e,N,L,h⟩;obtain⟨r3,c3,O,-⟩:=Gh.split (g:=e) (r:=r.map GC.f) (f:=c.f) (by rw[h];exact Gh.fr W);have au:e.status=1:=by
      have:e.st.status=g.st.status:=by rw[h];rfl
      exact this.trans ak
     have ah:e.os.length=g.os.length+1:=by
      have:e.st.heap.length=g.st.heap.length+1:=by rw[h];simp[create]
      simpa [Gh.st]using this
     have⟨Z,Y⟩:=je L (j.mo K (mV.refl _ _));have T:Zz (mV w n av):=Zy (fun ae hb=>N ae (Z0 j.size));replace a:Zz (jF p lk i g.st=push p ⟨2,g.os.length⟩ e.st):=Zy (by rw[a.o,<-h];simp[create,Gh.st]);have U:=Zy O;clear K N L h O m4 mz I;go_wp2_with fail;refine(rQ Z r3 c3 U au ⟨2,g.os.length⟩ (Aq _ Zm (by rw[ah];omega))).mono ?_;rintro k w4 J;have H:=Zy (jY.after Y T J);obtain⟨rfl,-⟩:=J;rw[<-a.o]at H |-;go_wp2_with fail;go_ret;exact H
theorem PY{w:World}{l:jh}{p:hZ}{ak:Own}{R N:Nat}{lk:Bool}{g:Gh}(E:ji w l p ak R N lk g)(r:List GC)(c:GC)(ae:g.cs=r++[c])(aK:g.status=1)(i:Ins)(hi:nO (M.method p c.f.of) i=true)(t:i.op=3):Calls prog 76 #[some N,.agg #[i.op,i.a,i.name,i.member]] w (jY w l p ak R N lk (.int .i64 (jF p lk i g.st).1) (jF p lk i g.st).2):=by
 have HI:=Zy (qR hi);obtain⟨w0,ai,F,D⟩:=nu w #[i.op,i.a,i.name,i.member] 149;have⟨U,n,T,S,W,d⟩:=nZ (E.fresh (R5 _)) (E.ext F) F D ai ae;have aW:=D.lt;clear E F D ai ae hi;rcases R8 c.f.stack with b|⟨u,O,b⟩
 . have e:Zz (jF p lk i g.st=(10,g.st)):=Zy (by unfold jF;rw[t];simp only[Gh.zw d.o b];rfl);have C:=Zy b;clear b t;go_enter func76,ntmps76;go_wp2_with fail;rw[<-W.o];refine(kV _ _ _ _ _ _ _ _ n r c d).mono ?_;rintro y w1 ⟨rfl,h⟩;have⟨x,o⟩:=je (n.ext h) (T.trans h);clear h;go_wp2_with fail;refine(qX x r c d C).mono ?_;rintro y w2 ⟨rfl,G⟩;have⟨au,ax⟩:=je (x.ext G) (o.trans G);clear G;go_wp2_with fail;go_ret;rw[e.o];exact jY.mk' (ax.alloc _).any (mV.refl _ _) (au.ext kx) rfl
 . rw[R9]at b;have ah:=(jA.1 (n.C9 d)).2.2.2.2.2.2 O (by rw[b];simp);have aD:=Zy (by simpa [Gh.st]using ah);have e:Zz (∀k,jF p lk i g.st=next p ({(g.kI r c u k)with cs:=r++[{c with f:={c.f with stack:=u,locals:=c.f.locals.set i.a.toNat O},vs:=k}]}:Gh).st):=Zy (fun k=>by unfold jF;rw[t];simp only[Gh.pop d.o b k];rw[qw (s:=(g.kI r c u k).st) (r:=r.map GC.f) (t:={c.f with stack:=u}) (by simp[Gh.kI,Gh.st])];simp[Gh.kI,Gh.st]);have⟨C,aB⟩:=je b t;clear b t ah;obtain⟨P,Q⟩:=O;simp only at e;go_enter func76,ntmps76;go_wp2_with fail;rw[<-W.o];refine(kV _ _ _ _ _ _ _ _ n r c d).mono ?_;rintro y w1 ⟨rfl,h⟩;have⟨x,o⟩:=je (n.ext h) h;clear h;go_wp2_with fail;refine(vQ x r c d u ⟨P,Q⟩ C).mono ?_;rintro y w2 ⟨rfl,A,k,H⟩;replace e:=Zy (e k);obtain⟨m,aj,z,Y⟩:=nu w2 #[P,Q] 37;have⟨B,az⟩:=je (H.ext z) (((T.trans o).any.trans A).trans z.any);have Z:=(S.ext o).kp A U;obtain⟨yz,-,y1,-⟩:=Z.ca;have⟨aF,av,aP,aA,ay⟩:=mr aj Y (H.fresh (R5 _)) A z;clear z Y A H Z aj;obtain⟨aS,aT⟩:=HI.2.1 (.inr aB);obtain⟨a,hq⟩:∃a:Nat,i.a=a:=⟨i.a.toNat,Zm⟩;have ag:i.a.toNat=a:=Zm
   have af:=jA.1 (n.C9 d);have aJ:a<c.f.locals.length:=Z0 af.2.2.2.1
   obtain⟨L,lc,j,-⟩:=jS (B.at_ rfl).loc.row (by show 0<c.f.locals.length;omega);replace j:=j;have I:=B.at_ rfl;have K:=I.loc.row;obtain⟨aX,hu⟩:=nW c.f.locals a aJ;have J:=lK (enc:=jW) (k:=2) (fun _=>rfl) (l:=c.f.locals) (by rw[<-j];exact K) hu;obtain⟨aR,s⟩:=oh K (g:=L) (by show c.vl.ownBlock=some L;rw[j];rfl);obtain⟨aQ,f,aU,q⟩:=kY m;have rc:=fun v=>(I.blk.ext (q.jm v)).c 12 (L,c.f.locals.length,lc) (by rw[<-j];rfl);obtain⟨-,aM,aN,-⟩:=hV.lL fun v=>(av.ext (q.jm v));have aL:=fun v=>(((S.ext o).kp aA U).ext (ay.trans (q.jm v))).c 1 a (by rw[<-hq];rfl);have x0:=J.two.1;have x1:=J.two.2;have f0:=s.frozen (a*2);have f1:=s.frozen (a*2+1);have hz:=s.lt;have aV:(a:Int)<c.f.locals.length:=Zm
   have aC:=Zy ((B.ext ((Kp.refl _ m).drew:Ext m m.drew)).xX rfl j a ⟨P,Q⟩ aD);rw[ag]at e;have⟨V,aO⟩:=je q s;clear q j I K hu J s hq ag y1 yz af;go_wp2_with fail;rw[<-aF.o];refine kD V 7 [] [0,1,2,3,4,5,6] ?_ ?_
   . exact jf
   refine sP [_,_,_,_,_,_,_] rfl fun aG hK=>?_;(repeat (go_big_quiet_step (fail)));refine qn hK ?_;clear hK aG;clear V rc aM aN aL;go_wp2_with fail;obtain⟨aH,aI⟩:=aC.o;refine(uh aI r rfl aK).mono ?_;rintro y w4 aa;have X:=Zy (jY.after ((az.trans ((Kp.refl _ m).drew:Ext m m.drew).any).trans aH) (mV.refl _ _) aa);obtain⟨rfl,-⟩:=aa;rw[<-e.o]at X |-;go_wp2_with fail;go_ret;exact X
theorem Oe{w:World}{l:jh}{p:hZ}{aj:Own}{Y X:Nat}{lk:Bool}{g:Gh}(N:ji w l p aj Y X lk g)(r:List GC)(c:GC)(E:g.cs=r++[c])(ah:g.status=1)(i:Ins)(T:nO (M.method p c.f.of) i=true)(U:i.op=2):Calls prog 75 #[some X,.agg #[i.op,i.a,i.name,i.member]] w (jY w l p aj Y X lk (.int .i64 (jF p lk i g.st).1) (jF p lk i g.st).2):=by
 have HI:=Zy (qR T);obtain⟨a,ai,P,b3⟩:=nu w #[i.op,i.a,i.name,i.member] 149;have S:=jA.1 (N.C9 E);obtain⟨ay,az⟩:=(qR T).2.1 (.inl U);obtain⟨n,hq⟩:∃n:Nat,i.a=n:=⟨i.a.toNat,Zm⟩;have af:i.a.toNat=n:=Zm
 have aB:n<c.f.locals.length:=Z0 S.2.2.2.1
 obtain⟨⟨e,o⟩,K⟩:=nW c.f.locals n aB;have aa:=Zy (by simpa [Gh.st]using S.2.2.2.2.2.1 _ (R3 K));have b:Zz (jF p lk i g.st=if e=0 then(10,g.st)else push p ⟨e,o⟩ g.st):=Zy (by
  unfold jF;rw[U];simp only[Gh.top E,af,K];rfl)
 have O:=N.ext P;have J:=O.at_ E;obtain⟨lg,lc,W,-⟩:=jS J.loc.row Zm;have ag:=J.loc.row;have R:=lK (enc:=jW) (k:=2) (fun _=>rfl) (l:=c.f.locals) (by rw[<-W];exact ag) K;obtain⟨aD,aG,aH,t⟩:=kY a;have rc:=fun q=>(J.blk.ext (t.jm q)).c 12 (lg,c.f.locals.length,lc) (by rw[<-W];rfl);have ak:=fun q=>(b3.ext (t.jm q)).c 1 n (by rw[<-hq];rfl);have au:=fun q=>(hH.ext R (t.jm q)).two.1;have av:=fun q=>(hH.ext R (t.jm q)).two.2;have aI:(n:Int)<c.f.locals.length:=Zm
 have⟨h,F,Z,ax,G⟩:=mr t O P ai E;clear N P b3 ai E T U O J W ag K R t S hq af ay az;go_enter func75,ntmps75;go_wp2_with fail;rw[<-ax.o];refine qA h 10 (.two [0,5,6] 1 9 (.one [2,3,4,7,8] 9 (.fin [])) (.one [] 1 (.fin [2,3,4,7,8]))) ?_ ?_
 . exact jf
 refine two [_,_,_] rfl rfl rfl fun L D=>?_;(repeat (go_big_quiet_step (fail)));((refine Gf D (fun j d=>?_) fun j d=>?_)<;>clear D L)
 . go_wp2_with fail;refine(kV _ _ _ _ _ _ _ _ (F.ext jf) r c G).mono ?_;rintro H v ⟨rfl,u⟩;have s:=Zy (((Kp.refl _ a).drew:Ext a _).trans u);clear u;go_wp2_with fail;refine kk h d s ?_;clear d j;refine Cf ?_;intro j d;go_wp2_with fail;refine kk h d (s.alloc _) ?_;clear d j;obtain⟨x,m⟩:=Ry (v.alloc (.cells #[e,o] 37));have k:Ext a x:=by rw[m];exact s.alloc _
   have⟨z,y,A⟩:=jy (Z.trans k) (F.ext k) m;clear h rc ak au av m k;refine kM ?_;by_cases f:e=0
   . subst f;replace b:=Zy (b.trans (RV rfl));go_wp2_with fail;go_ret;rw[b.o,<-A.o];exact jY.mk' z.any (mV.refl _ _) (y) rfl
   . have aA:=QC.2 f;replace b:=Zy (b.trans (RX f));clear f;go_wp2_with fail;rw[<-A.o];refine(rQ y r c G ah ⟨e,o⟩ aa).mono ?_;rintro H w4 C;have B:=Zy (jY.behind z C);obtain⟨rfl,-⟩:=C;rw[<-b.o]at B |-;go_wp2_with fail;go_ret;exact B
 . go_wp2_with fail;refine kk h d (((Kp.refl _ a).drew).alloc _) ?_;clear d j;refine jZ rfl fun j d=>?_;have b5:hV (a.drew.alloc (.cells #[.int .i64 0,.int .i64 0] 37)) a 37 #[.int .i64 0,.int .i64 0]:=hV.new _ _ _;have ae:Ext a (a.drew.alloc (.cells #[.int .i64 0,.int .i64 0] 37)):=((Kp.refl _ a).drew).alloc _;go_wp2_with fail;refine(kV _ _ _ _ _ _ _ _ (F.ext (((Kp.refl _ a).drew).alloc _)) r c G).mono ?_;rintro H v ⟨rfl,u⟩;have s:=Zy (ae.trans u);have I:=b5.ext u;obtain⟨hz,x0,x1,-⟩:=I.ca;obtain⟨f0,f1,-⟩:=I.fz;have V:Kp (·=a) v ((v.setCell a e).setCell (a,1) o):=((Kp.refl (·=a) v).setCell (p:=⟨a,0,none⟩) (fun _=>rfl) _).setCell (p:=⟨a,1,none⟩) (fun _=>rfl) _;have Q:=I.set2 e o;obtain⟨x,m⟩:=Ry ((v.setCell a e).setCell (a,1) o);rw[<-m]at V Q;have k:=s.own V (fun aF H=>Zm);have⟨z,y,A,aC⟩:=jV (Z.trans k) (F.ext k) m Q;clear u I V Q m k b5 ae;go_wp2_with fail;refine kk h d s ?_;clear d j;clear h;refine El [_,_,_,_,_] rfl fun L D=>?_;(repeat (go_big_quiet_step (fail)));refine qn D ?_;clear D L;clear rc ak au av;by_cases f:e=0
   . subst f;replace b:=Zy (b.trans (RV rfl));go_wp2_with fail;go_ret;rw[b.o,<-A.o];exact jY.mk' z.any (mV.refl _ _) (y) rfl
   . have aA:=QC.2 f;replace b:=Zy (b.trans (RX f));clear f;go_wp2_with fail;rw[<-A.o];refine(rQ y r c G ah ⟨e,o⟩ aa).mono ?_;rintro H w4 C;have B:=Zy (jY.behind z C);obtain⟨rfl,-⟩:=C;rw[<-b.o]at B |-;go_wp2_with fail;go_ret;exact B
theorem PS{w:World}{l:jh}{p:hZ}{ai:Own}{Q N:Nat}{lk:Bool}{g:Gh}(W:ji w l p ai Q N lk g)(r:List GC)(c:GC)(ah:g.cs=r++[c])(ay:g.status=1)(i:Ins)(hi:nO (M.method p c.f.of) i=true)(F:i.op=4):Calls prog 77 #[some N,.agg #[i.op,i.a,i.name,i.member]] w (jY w l p ai Q N lk (.int .i64 (jF p lk i g.st).1) (jF p lk i g.st).2):=by
 obtain⟨O,L⟩:=Ry (w.alloc (.cells #[i.op,i.a,i.name,i.member] 149));have I:Ext w O:=by rw[L];exact kx
 have⟨t,R,U,m⟩:=jV (W.ext I) I L ah;clear W I L ah hi;by_cases o:c.f.stack.length<2
 . have a:Zz (jF p lk i g.st=(10,g.st)):=Zy (by unfold jF;rw[F];simp only[Gh.yM m.o o];rfl);clear F;go_enter func77,ntmps77;go_wp2_with fail;rw[<-U.o];refine(kV _ _ _ _ _ _ _ _ t r c m).mono ?_;rintro e w1 ⟨rfl,n⟩;have⟨z,H⟩:=je (t.ext n) (R.trans n);clear n;go_wp2_with fail;refine(uA z r c m 2 o Zm).mono ?_;rintro e q ⟨rfl,rfl⟩;go_wp2_with fail;go_ret;rw[a.o];exact jY.mk' H.any (mV.refl _ _) z rfl
 . obtain⟨k,f,h,y⟩:∃k f h,c.f.stack=k++[f,h]:=by
    rcases R8 c.f.stack with e|⟨s1,h,e⟩
    . rw[e]at o;simp at o
    . rw[R9]at e;rcases R8 s1 with D|⟨s2,f,D⟩
      . rw[e,D]at o;simp at o
      . rw[R9]at D;exact⟨s2,f,h,by rw[e,D];simp⟩
   have K:=(jA.1 (t.C9 m)).2.2.2.2.2.2;have az:ko f g.os.length=true:=by simpa [Gh.st]using K f (by rw[y];simp)
   have aA:ko h g.os.length=true:=by simpa [Gh.st]using K h (by rw[y];simp)
   have a:Zz (∀j,jF p lk i g.st=if f.kind=1/\h.kind=1 then(if nQ (f.n+h.n)then push p (mF (f.n+h.n)) (g.kI r c k j).st else(9,(g.kI r c k j).st))else(10,(g.kI r c k j).st)):=Zy (fun j=>by unfold jF;rw[F];simp only[Gh.nL m.o (n:=2) y rfl j];rfl);have HS:=Zy y;clear y F K o;obtain⟨s,b⟩:=f;obtain⟨u,d⟩:=h;simp only at a;go_enter func77,ntmps77;go_wp2_with fail;rw[<-U.o];refine(kV _ _ _ _ _ _ _ _ t r c m).mono ?_;rintro e w1 ⟨rfl,n⟩;have⟨z,H⟩:=je (t.ext n) (R.trans n);clear n;go_wp2_with fail;refine(BM z r c m k [⟨s,b⟩,⟨u,d⟩] 2 HS rfl Zm).mono ?_;rintro e q ⟨v',rfl,G,aa,j,ae⟩;replace a:=Zy (a j);obtain⟨gt,gc,rfl,-⟩:=jS G Zm;have af:=(lK (enc:=jW) (k:=2) (fun _=>rfl) (l:=[⟨s,b⟩,⟨u,d⟩]) G (i:=0) (x:=⟨s,b⟩) rfl).two;have ag:=(lK (enc:=jW) (k:=2) (fun _=>rfl) (l:=[⟨s,b⟩,⟨u,d⟩]) G (i:=1) (x:=⟨u,d⟩) rfl).two;simp only[Sj,Nat.one_mul,RO]at af ag;obtain⟨x0,x1⟩:=af;obtain⟨x2,x3⟩:=ag;have⟨B,A⟩:=je ae (H.any.trans aa);clear G aa ae;by_cases v:s=1/\u=1
   . obtain⟨rfl,rfl⟩:=v;have av:=yP az rfl;have ax:=yP aA rfl;simp only at av ax;replace a:=Zy (a.trans (RV ⟨rfl,rfl⟩));have aH:IntKind.i64.wrap (b+d)=b+d:=RQ _ Zm;obtain⟨aB,aC,aG,C⟩:=kY q;have r1:=fun P=>(C.jm P).jb x1;have r3:=fun P=>(C.jm P).jb x3;have T:=Zy C;clear C;go_wp2_with fail;refine kD T 9 [] [0,1,2,3,4,5,6,7,8] ?_ ?_
     . exact jf
     refine sP [_,_,_,_,_,_,_,_,_] rfl fun au Z=>?_;(repeat (go_big_quiet_step (fail)));refine qn Z ?_;clear Z au;clear T r1 r3;go_wp2_with fail;have J:=Gc (b+d) q.drew;rw[show(decide (-9999<=b+d)&&decide (b+d<=9999))=nQ (b+d)from rfl]at J;refine J.mono ?_;rintro e w3 ⟨rfl,rfl⟩;clear J;cases x:nQ (b+d)
     . rw[x]at a;replace a:Zz (jF p lk i g.st=(9,(g.kI r c k j).st)):=Zy a.o;clear x;go_wp2_with fail;go_ret;rw[a.o];exact jY.mk' (A.trans ((Kp.refl _ q).drew:Ext q _).any) (mV.refl _ _) (B.ext jf) rfl
     . have aj:=Zy x;rw[x]at a;replace a:Zz (jF p lk i g.st=push p (mF (b+d)) (g.kI r c k j).st):=Zy a.o;clear x;go_wp2_with fail;refine(CE (b+d)).mono ?_;rintro e w3 ⟨rfl,X⟩;have S:=Zy (((Kp.refl _ q).drew:Ext q _).trans X);clear X;go_wp2_with fail;refine(rQ (B.ext S) r _ rfl ay (mF (b+d)) (pg _ aj)).mono ?_;rintro e w4 Y;have V:=Zy (jY.after (A.trans S.any) (mV.refl _ _) Y);obtain⟨rfl,-⟩:=Y;rw[<-a.o]at V |-;go_wp2_with fail;go_ret;exact V
   . replace a:=Zy (a.trans (RX v));by_cases E:s=1
     . have aF:=RS.2 (fun e=>v ⟨E,e⟩);subst E;clear v;go_wp2_with fail;go_ret;rw[a.o];exact jY.mk' A (mV.refl _ _) B rfl
     . have aD:=RS.2 E;clear v E;go_wp2_with fail;go_ret;rw[a.o];exact jY.mk' A (mV.refl _ _) B rfl
theorem PZ {w: World} {l: jh} {p: hZ} {L: Own} {T e: Nat} {lk: Bool} {g: Gh} (P : ji w l p L T e lk g) (r : List GC) (c : GC) (aN : g.cs = r ++ [c]) (bK : g.status = 1) (i : Ins) (hi : nO (M.method p c.f.of) i = true) (Q : i.op = 10) :Calls prog 83 #[some e,.agg #[i.op,i.a,i.name,i.member]] w (jY w l p L T e lk (.int .i64 (jF p lk i g.st).1) (jF p lk i g.st).2):=by
 have HI:=Zy (qR hi);obtain⟨w0,aU,au,b3⟩:=nu w #[i.op,i.a,i.name,i.member] 149;have⟨bD,G,aD,bn,aH,v⟩:=nZ (P.fresh (R5 _)) (P.ext au) au b3 aU aN;have bX:=b3.lt;clear P au b3 aU aN hi;rcases R8 c.f.stack with A|⟨m,S,A⟩
 . have b:Zz (jF p lk i g.st=(10,g.st)):=Zy (by unfold jF;rw[Q];simp only[Gh.zw v.o A];rfl);have HS:=Zy A;clear A Q;go_enter func83,ntmps83;go_wp2_with fail;rw[<-aH.o];refine(kV _ _ _ _ _ _ _ _ G r c v).mono ?_;rintro a w1 ⟨rfl,E⟩;have⟨U,V⟩:=je (G.ext E) (aD.trans E);clear E;go_wp2_with fail;refine(qX U r c v HS).mono ?_;rintro a N ⟨rfl,av⟩;have⟨bg,bq⟩:=je (U.ext av) (V.trans av);clear av;obtain⟨k,K⟩:=Ry (N.alloc (.cells #[.int .i64 0,.int .i64 0] 37));have F:Ext N k:=by rw[K];exact kx
   obtain⟨bG,f,bI,y⟩:=kY k;have⟨o,aj,af⟩:=jy y K F;clear y K F;go_wp2_with fail;rw[<-aj.o];refine kD o 22 [([0,1,2,3,4,5,6,7,9,10,11,12,13,14,15,16,17,18],8),([],19)] [20,21] ?_ ?_
   . exact jf
   refine lS ?_;intro z d;go_wp2_with fail;refine kk o d ((Kp.refl _ k).drew:Ext k _) ?_;clear d z;refine lF rfl fun z d=>?_;go_wp2_with fail;refine kk o d ((Kp.refl _ k).drew:Ext k _) ?_;clear d z;refine sK ?_;go_wp2_with fail;go_ret;rw[b.o];exact jY.mk' ((bq.trans af).drew).any (mV.refl _ _) (bg.ext (af.drew)) rfl
 . rw [R9] at A; have aT := (jA.1 (G.C9 v)).2.2.2.2.2.2 S (by rw [A]; simp); have ai := Zy (by simpa [Gh.st] using aT); have b : Zz (∀ j, jF p lk i g.st = if hasType p c.f.of.of.keeper g.st.heap S (M.method p c.f.of).ret then (if r.length = 0 then (2, { (g.kI r c m j).st with back := S }) else push p S { g.st with frames := r.map GC.f }) else (10, (g.kI r c m j).st)) := Zy (fun j => by unfold jF; rw [Q]; simp only [Gh.pop v.o A j, Gh.top v.o]; simp [Gh.kI, Gh.st]); have ⟨HS, bM⟩ := je A Q; clear A Q aT; obtain ⟨s, t⟩ := S; simp only at b; go_enter func83, ntmps83; go_wp2_with fail; rw [<- aH.o]; refine (kV _ _ _ _ _ _ _ _ G r c v).mono ?_; rintro a w1 ⟨rfl, E⟩; have ⟨U, V⟩ := je (G.ext E) E; clear E; go_wp2_with fail; refine (vQ U r c v m ⟨s, t⟩ HS).mono ?_; rintro a N ⟨rfl, d, j, ax⟩; replace b := Zy (b j); obtain ⟨k, K, F, b5⟩ := nu N #[s, t] 37; have ⟨D, ag⟩ := je (ax.ext F) (((aD.trans V).any.trans d).trans F.any); have aI := (bn.ext V).kp d bD; obtain ⟨yz,-, y1,-⟩ := aI.ca; have ⟨aj, aC, bC, bL, af⟩ := mr K b5 (ax.fresh (R5 _)) d F; clear F b5 d ax aI K y1 yz; obtain ⟨Z, aa, aA⟩ := D.heap.form; have aO := D.Mw; have ay := D.at_ rfl; obtain ⟨bG, f, bI, y⟩ := kY k; have aZ := fun B => (D.ext (y.jm B)).blk.c 0 (some l.L) rfl; have bf := fun B => (D.ext (y.jm B)).blk.c 4 (.slice Z g.os.length aa) (by rw [show (Value.slice Z g.os.length aa) = g.vh from aA.symm]; rfl); obtain ⟨-, aV, aW,-⟩ := hV.lL fun B => (aC.ext (y.jm B)); obtain ⟨-,-,-,-,-,-, aX, aY,-⟩ := hV.lL fun B => (ay.blk.ext (y.jm B)); have aQ := fun W (Y : Ext k W) => (ay.blk.ext Y).c 0 c.f.of.of.keeper rfl; have bz := Zy aQ; have aP := fun W (Y : Ext k W) => uV W l p (D.ku.ext Y) c.f.of.of.keeper (.slice Z g.os.length aa) g.st.heap (by
    have:=aO.ext Y;rw[show(Value.slice Z g.os.length aa)=g.vh from aA.symm];exact this) ⟨s,t⟩ (fun a=>by have:=sF ai a;simpa [Gh.st]using this) (M.method p c.f.of).ret
   have⟨bu,o⟩:=je aP y;clear y ay aQ aP aO aA;go_wp2_with fail;rw[<-aj.o];refine kD o 22 [([0,1,2,3,4,5,6,7,9,10,11,12,13,14,15,16,17,18],8),([],19)] [20,21] ?_ ?_
   . exact jf
   refine lS ?_;intro z d;go_wp2_with fail;refine(mQ _ (bz _ jf)).mono ?_;rintro a we ⟨rfl,rfl⟩;go_wp2_with fail;refine kk o d ((Kp.refl _ k).drew:Ext k _) ?_;clear d z;refine lF rfl fun z d=>?_;go_wp2_with fail;refine(bu _ jf).mono ?_;rintro a h ⟨rfl,aK⟩;have C:=Zy (((Kp.refl _ k).drew:Ext k _).trans aK);have H:=D.ext C;have aJ:=aC.ext C;obtain⟨qz,q0,q1,-⟩:=aJ.ca;have bJ:¬e=N:=fun a=>bC.o (.inr (by rw[<-a,D.o.role];simp));have bR:¬N=e:=fun a=>bJ a.symm;have az:=H.calls.row;have aS:(g.kI r c m j).cs.length=r.length+1:=by simp[Gh.kI]
   rw[aS]at az;obtain⟨u,q,aB,-,-,bV⟩:=jS az Zm;have m3:=H.blk.c 3 (u,r.length+1,q) (by rw[<-aB];rfl);obtain⟨mz,-,-,-,-,-,-,m6,m7,-⟩:=H.blk.ca;obtain⟨-,-,-,f3,-,-,f6,f7,-⟩:=H.blk.fz;have⟨x,aG⟩:=je H aB;have bS:r.length+1<=8:=by have:=G.good.nf;rw[Gh.fr v.o]at this;simpa using this
   clear aK H aJ az aS aB;cases ae:hasType p c.f.of.of.keeper g.st.heap ⟨s,t⟩ (M.method p c.f.of).ret
   . rw[ae]at b;replace b:Zz (jF p lk i g.st=(10,(g.kI r c m j).st)):=Zy b.o;clear ae;go_wp2_with fail;refine kk o d C ?_;clear d z;refine sK ?_;go_wp2_with fail;go_ret;rw[b.o];exact jY.mk' (ag.trans C.any) (mV.refl _ _) x rfl
   . rw [ae] at b; replace b : Zz (jF p lk i g.st = if r.length = 0 then (2, { (g.kI r c m j).st with back := ⟨s, t⟩ }) else push p ⟨s, t⟩ { g.st with frames := r.map GC.f }) := Zy b.o; clear ae; by_cases J : r.length = 0
     . replace b:=Zy (b.trans (RV J));go_wp2_with fail;refine kk o d C ?_;clear d z;clear o aZ bf aV aW aX aY;refine sK ?_;go_wp2_with fail;go_ret;rw[b.o];have hk:Kp (·=e) h ((h.setCell (e,6) s).setCell (e,7) t):=((Kp.refl (·=e) h).setCell (p:=⟨e,6,none⟩) (fun _=>rfl) _).setCell (p:=⟨e,7,none⟩) (fun _=>rfl) _;have I:Kp (PO L (·=(0,0))) h ((h.setCell (e,6) s).setCell (e,7) t):=hk.weak fun ak _ a=>⟨_,by rw[a];exact x.role,rfl⟩;have n:=x.good;exact jY.mk' ((ag.trans C.any).trans (I.weak fun ak _ a=>a.mo)) (mV.refl _ _) (x.Gl {(g.kI r c m j)with back:=⟨s,t⟩} I ((x.blk.jk 6 _).jk 7 _) (.inl ⟨rfl,rfl⟩) ⟨rfl,rfl,rfl,rfl⟩ ⟨n.heap,n.frames,n.nf,n.outs,n.sw,by simpa [Gh.st,Gh.kI]using ai.o⟩) rfl
     . replace b:=Zy (b.trans (RX J));obtain⟨R,O,aR⟩:∃R O,r=R++[O]:=by
        rcases R8 r with a|⟨R,O,a⟩
        . rw[a]at J;exact absurd rfl J
        . exact⟨R,O,by rw[a,R9]⟩
       have bE:=Zy aR;clear aR;have bN:((r.length:Int)+1==1)=false:=QC.2 Zm;have bO:¬r.length=0:=J;have bP:((r.length:Int)==0)=false:=QC.2 Zm;have bW:IntKind.i64.wrap ((r.length:Int)+1 - 1)=r.length:=by rw[RQ _ Zm];omega
       have bT:(0:Int)<=r.length:=Zm
       have bU:(r.length:Int)<=q:=Zm
       have hk:Kp (·=e) h.drew (h.drew.setCell (e,3) (u,r.length,q)):=(Kp.refl (·=e) h.drew).setCell (p:=⟨e,3,none⟩) (fun _=>rfl) _;have X:=x.ext ((Kp.refl _ h).drew:Ext h h.drew);have I:Kp (PO L (·=(0,0))) h.drew (h.drew.setCell (e,3) (u,r.length,q)):=hk.weak fun ak _ a=>⟨_,by rw[a];exact x.role,rfl⟩;have n:=x.good;have aM:ji (h.drew.setCell (e,3) (u,r.length,q)) l p L T e lk {(g.kI r c m j)with cs:=r,vc:=(u,r.length,q)}:=by
        refine X.Gl {(g.kI r c m j)with cs:=r,vc:=(u,r.length,q)} I (X.blk.jk 3 _) (.inr ⟨?_,[_],rfl⟩) ⟨rfl,rfl,rfl,rfl⟩ ?_
        . have h1:=X.calls;have h2:lU h.drew L T (1,0) 166 1 (u,r.length+1,q) (r.length+1) ((r++[{c with f:={c.f with stack:=m},vs:=j}]).flatMap uR):=by
           have e1:(g.kI r c m j).vc=.slice (some ⟨u,0,none⟩) (r.length+1) q:=aG.o;have e2:(g.kI r c m j).cs.length=r.length+1:=by simp[Gh.kI]
           rw[<-e1,<-e2];exact h1
          have h3:=h2.take (j:=r.length) Zm;rw[AP (enc:=uR) (k:=1) (fun _=>rfl)]at h3;exact h3
        . exact⟨n.heap,(fun f hf=>n.frames f (by simp only[Gh.st,Gh.kI,RI,SF];exact .inl hf)),by simp[Gh.st];omega,n.outs,n.sw,n.back⟩
       have⟨bB,bA⟩:=je aM (((ag.trans C.any).trans ((Kp.refl _ h).drew:Ext h _).any).trans (I.weak fun ak _ a=>a.mo));obtain⟨T2,f2,bQ,ah⟩:=kY h;have s3:=fun B=>(x.ext (ah.jm B)).blk.c 3 (u,r.length+1,q) (by rw[<-aG.o];rfl);have aF:=Zy ah;clear ah hk I X n aM J m6 m7 f6 f7;go_wp2_with fail;refine kk o d C ?_;clear d z;clear o aZ bf aV aW aX aY;refine sK ?_;go_wp2_with fail;(refine wK f2 12 [] [0,1,2,3,4,5,6,7,8,9,10,11] (aF.o.o _ ?_) Zo Zo (fun _ _ bH _ _ P=>by cases bH<;>exact P) ?_)
       . exact jf
       refine sP [_,_,_,_,_,_,_,_,_,_,_,_] rfl fun bF hK=>?_;(repeat (go_big_quiet_step (fail)));refine qn hK ?_;clear hK bF;clear aF s3;go_wp2_with fail;refine(rQ bB R O bE bK ⟨s,t⟩ ai).mono ?_;rintro a w6 aL;have HZ:=Zy (jY.after bA (mV.refl _ _) aL);obtain⟨rfl,-⟩:=aL;replace b:Zz (jF p lk i g.st=push p ⟨s,t⟩ ({(g.kI r c m j)with cs:=r,vc:=(u,r.length,q)}:Gh).st):=Zy b.o;rw[<-b.o]at HZ |-;go_wp2_with fail;go_ret;exact HZ
end Go.Proofs.YtlhlnddgfcmfkaaGreat
