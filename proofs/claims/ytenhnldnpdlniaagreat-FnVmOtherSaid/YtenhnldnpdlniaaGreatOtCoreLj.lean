/- Walks. -/
import Derived.Test.YtenhnldnpdlniaaGreatOtCoreLf
import Derived.Test.YtenhnldnpdlniaaGreatOtCoreLe
set_option maxRecDepth 100000
set_option maxHeartbeats 4000000
set_option linter.all false
namespace Go.Proofs.YtenhnldnpdlniaaGreat
open Go Go.RowKit Tryz M
theorem eq_of_beq{a b:ByteArray}{l:List UInt8}(d:(a.toList==l)=true)(e:b.toList=l):a=b:=by
 have c:=Ub.1 d;rw[<-e,U4,U4]at c;exact ByteArray.ext (Vl.1 c)
theorem kr{a b:ByteArray}{l:List UInt8}(c:(a.toList==l)=false)(d:b.toList=l):a≠b:=by
 rintro rfl;rw[d]at c;simp at c
theorem Js(s:ByteArray)(w:World):Calls prog 209 #[s] w fun e h=>e=.returned (.tuple #[.agg #[.int .i64 (M.lQ s).1.kind,.string (M.lQ s).1.name],.bool (M.lQ s).2])/\Ext w h:=by
 cases g:(s.toList==[35])
 . have f:=kr (b:=⟨#[35]⟩) g (by decide+kernel);cases c:jf s
   . have a:=fun d=>Zy (kg s d);have b:M.lQ s=(⟨0,none_⟩,false):=by unfold M.lQ;rw[SX f,c];rfl
     rw[b];simp only[c]at a;go_enter func209,ntmps209;go_wp2_with fail;refine(a _).o.mono ?_;rintro e i ⟨rfl,rfl⟩;go_wp2_with fail;refine Px (h7 Dr rfl w rfl [SS, ""] (hH.nC _ _ rfl) rfl) rfl ?_;exact⟨rfl,Zx⟩
   . have a:=fun d=>Zy (kg s d);have b:M.lQ s=(⟨2,s⟩,true):=by unfold M.lQ;rw[SX f,c];rfl
     rw[b];simp only[c]at a;go_enter func209,ntmps209;go_wp2_with fail;refine(a _).o.mono ?_;rintro e i ⟨rfl,rfl⟩;go_wp2_with fail;refine Px (h7 Dr rfl w rfl [.int .i64 2,s] (hH.nC _ _ rfl) rfl) rfl ?_;exact⟨rfl,Zx⟩
 . have b:M.lQ s=(⟨1,none_⟩,true):=by unfold M.lQ;rw[SV (eq_of_beq g (by decide+kernel))]
   rw[b];go_enter func209,ntmps209;go_wp2_with fail;refine Px (h7 Dr rfl w rfl [.int .i64 1, ""] (hH.nC _ _ rfl) rfl) rfl ?_;exact⟨rfl,Zx⟩
theorem Jw(s:ByteArray)(w:World):Calls prog 210 #[s] w fun c h=>c=.returned (.tuple #[.agg #[.int .i64 (M.mQ s).1.kind,.string (M.mQ s).1.name],.bool (M.mQ s).2])/\Ext w h:=by
 cases e:(s.toList==[63])
 . have b:=kr (b:=⟨#[63]⟩) e (by decide+kernel);cases f:(s.toList==[35])
   . have d:=kr (b:=⟨#[35]⟩) f (by decide+kernel);cases g:(s.toList==[33])
     . have a:M.mQ s=(⟨2,s⟩,jf s):=by unfold M.mQ;rw[SX b,SX d,SX (kr g (by decide+kernel))]
       rw[a];go_enter func210,ntmps210;go_wp2_with fail;refine(kg s _).mono ?_;rintro c i ⟨rfl,rfl⟩;go_wp2_with fail;refine Px (h7 uI rfl w rfl [.int .i64 2,s] (hH.nC _ _ rfl) rfl) rfl ?_;exact⟨rfl,Zx⟩
     . have a:M.mQ s=(⟨3,none_⟩,true):=by unfold M.mQ;rw[SX b,SX d,SV (eq_of_beq g (by decide+kernel))]
       rw[a];go_enter func210,ntmps210;go_wp2_with fail;refine Px (h7 uI rfl w rfl [.int .i64 3, ""] (hH.nC _ _ rfl) rfl) rfl ?_;exact⟨rfl,Zx⟩
   . have a:M.mQ s=(⟨1,none_⟩,true):=by unfold M.mQ;rw[SX b,SV (eq_of_beq f (by decide+kernel))]
     rw[a];go_enter func210,ntmps210;go_wp2_with fail;refine Px (h7 uI rfl w rfl [.int .i64 1, ""] (hH.nC _ _ rfl) rfl) rfl ?_;exact⟨rfl,Zx⟩
 . have a:M.mQ s=(⟨0,none_⟩,true):=by unfold M.mQ;rw[SV (eq_of_beq e (by decide+kernel))]
   rw[a];go_enter func210,ntmps210;go_wp2_with fail;refine Px (h7 uI rfl w rfl [SS, ""] (hH.nC _ _ rfl) rfl) rfl ?_;exact⟨rfl,Zx⟩
theorem CF(op:Nat)(h:op<=15){w:World}:Calls prog 134 #[op] w fun c g=>c=.returned (M.xe op)/\Ext w g:=by
 go_enter func134,ntmps134;have b:h9 (w.alloc (.cells #["",.string ⟨#[110,117,109]⟩,.string ⟨#[116,97,107,101]⟩,.string ⟨#[112,117,116]⟩,.string ⟨#[97,100,100]⟩,.string ⟨#[110,117,108,108]⟩,.string ⟨#[110,101,119]⟩,.string ⟨#[103,101,116]⟩,.string ⟨#[115,101,116]⟩,.string ⟨#[99,97,108,108]⟩,.string ⟨#[114,101,116]⟩,.string ⟨#[122,101,114,111]⟩,.string ⟨#[110,105,108]⟩,.string ⟨#[103,111]⟩,.string ⟨#[111,117,116]⟩,.string ⟨#[99,97,115,116]⟩] 9)) w 9 _:=h9.new w 9 _;obtain⟨a,e,f⟩:∃a:ByteArray,(w.alloc (.cells #["",.string ⟨#[110,117,109]⟩,.string ⟨#[116,97,107,101]⟩,.string ⟨#[112,117,116]⟩,.string ⟨#[97,100,100]⟩,.string ⟨#[110,117,108,108]⟩,.string ⟨#[110,101,119]⟩,.string ⟨#[103,101,116]⟩,.string ⟨#[115,101,116]⟩,.string ⟨#[99,97,108,108]⟩,.string ⟨#[114,101,116]⟩,.string ⟨#[122,101,114,111]⟩,.string ⟨#[110,105,108]⟩,.string ⟨#[103,111]⟩,.string ⟨#[111,117,116]⟩,.string ⟨#[99,97,115,116]⟩] 9)).cell? (w,op)=some (.string a)/\a=M.xe op:=by
  have d:=b.cell op;have:op=0\/op=1\/op=2\/op=3\/op=4\/op=5\/op=6\/op=7\/op=8\/op=9\/op=10\/op=11\/op=12\/op=13\/op=14\/op=15:=Zm
  rcases this with rfl|rfl|rfl|rfl|rfl|rfl|rfl|rfl|rfl|rfl|rfl|rfl|rfl|rfl|rfl|rfl<;>exact⟨_,d,rfl⟩
 have i:=iV e;clear b;go_wp2;go_ret;exact⟨by rw[<-f];rfl,Zx⟩
theorem IV{op a:Int}{n m:ByteArray}(e:kE ⟨op,a,n,m⟩=true):1<=op/\op<=15:=by
 by_cases d:1<=op/\op<=15
 . exact d
 . exfalso;have b:∀c:Int,1<=c->c<=15->(op==c)=false:=fun c f g=>SI.2 Zm;simp only[kE,isNum,oG,pq,qY,b 1 Zm Zm,b 2 Zm Zm,b 3 Zm Zm,b 4 Zm Zm,b 5 Zm Zm,b 6 Zm Zm,b 7 Zm Zm,b 8 Zm Zm,b 9 Zm Zm,b 10 Zm Zm,b 11 Zm Zm,b 12 Zm Zm,b 13 Zm Zm,b 14 Zm Zm,b 15 Zm Zm,Bool.or_false,UN,UJ]at e
theorem M.DL{i:Ins}(a:kE i=true):M.lY i=if isNum i.op then M.xe i.op.toNat++M.Fe++M.yt i.a else if oG i.op then M.xe i.op.toNat++M.Fe++i.name else if pq i.op then M.xe i.op.toNat++M.Fe++i.name++M.Fe++i.member else M.xe i.op.toNat:=by
 unfold M.lY;rw[SV a]
theorem M.F7(k:Nat):(M.xe k).size<=4:=by
 by_cases a:k<16
 . have:k=0\/k=1\/k=2\/k=3\/k=4\/k=5\/k=6\/k=7\/k=8\/k=9\/k=10\/k=11\/k=12\/k=13\/k=14\/k=15:=Zm
   rcases this with rfl|rfl|rfl|rfl|rfl|rfl|rfl|rfl|rfl|rfl|rfl|rfl|rfl|rfl|rfl|rfl<;>decide
 . have:M.xe k=none_:=by unfold M.xe;rw[List.getD_eq_getElem?_getD,TS (by simp[M.IW];omega)];rfl
   rw[this];decide
theorem Jr(op a:Int)(n m:ByteArray)(w:World)(y: -100000<=a/\a<=100000)(I:n.size<=1000)(H:m.size<=1000):Calls prog 86 #[.agg #[op,a,n,m]] w fun d A=>d=.returned (.string (M.lY ⟨op,a,n,m⟩))/\Ext w A:=by
 obtain⟨F,G⟩:=y;have u:=Zy (M.BM a Zm Zm);obtain⟨g,e⟩:∃g,kE ⟨op,a,n,m⟩=g:=⟨_,rfl⟩;have l:=Zy e;obtain⟨p,i⟩:∃p,M.lY ⟨op,a,n,m⟩=p:=⟨_,rfl⟩;have o:=Zy i;rw[i];clear i;go_enter func86,ntmps86;go_wp2_with fail;refine(Gn op a n m).mono ?_;rintro d X ⟨rfl,r⟩;rw[e];have f:=Zy r;clear r;cases g
 . go_wp2;go_ret;exact⟨by rw[<-o.o];unfold M.lY;rw[l.o];rfl,Zx⟩
 . have j:=(h9.new w 134 #[op,a,n,m]).ext f;obtain⟨v,x⟩:=IV e;obtain⟨b,rfl⟩:∃b:Nat,op=b:=⟨op.toNat,Zm⟩;have z:b=1\/b=2\/b=3\/b=4\/b=5\/b=6\/b=7\/b=8\/b=9\/b=10\/b=11\/b=12\/b=13\/b=14\/b=15:=Zm
   have q:=j.c 0 (.int .i64 b) rfl;have k:=Zy j;clear j;go_wp2_with fail;refine(CF b Zm).mono ?_;rintro d Y ⟨rfl,h⟩;have t:=Zy (f.trans h);have W:(ByteArray.mk #[32]).size=1:=rfl;have s:=k.ext h;clear h f q v x e;obtain⟨-,q,B,C,D,-⟩:=s.ca;clear s k;rcases z with rfl|rfl|rfl|rfl|rfl|rfl|rfl|rfl|rfl|rfl|rfl|rfl|rfl|rfl|rfl
   all_goals
    have J:=u.o;have c:=fun b=>F7 b;have K:=c 1;have Q:=c 2;have R:=c 3;have S:=c 6;have T:=c 7;have U:=c 8;have V:=c 9;have L:=c 11;have N:=c 12;have O:=c 13;have P:=c 15;clear c;go_wp2_with (go_at_call 135;refine(KV Zm Zm).mono ?_;rintro d Z ⟨rfl,E⟩);go_ret;refine⟨by rw[<-o.o,DL l.o];rfl,?_⟩;have:=t.o;exact Zx
namespace M
theorem DK{k:Nat}{x0 x1:ByteArray}{r:List ByteArray}{n:Int}(a:jO x1=(n,false)):AJ k (x0::x1::r)=⟨k,0,x1,match r with|[]=>none_|x2::_=>x2⟩:=by
 show(if(jO x1).2 then _ else _)=_
 rw[a];rfl
theorem Ct{k:Nat}{x0 x1:ByteArray}{r:List ByteArray}{n:Int}(a:jO x1=(n,true)):AJ k (x0::x1::r)=⟨k,n,none_,match r with|[]=>none_|x2::_=>x2⟩:=by
 show(if(jO x1).2 then _ else _)=_
 rw[a];rfl
end M
theorem wI{s:ByteArray}{m:Int}{ok:Bool}(a:M.jO s=(m,ok)){w:World}(c:s.size<=4000000000):Calls prog 164 #[s] w fun b d=>b=.returned (.tuple #[m,.bool ok])/\Ext w d:=
 (Qs s w c).mono (by rw[a];exact fun _ _ a=>a)
theorem qH{op a:Int}{n m y:ByteArray}(b:M.lY ⟨op,a,n,m⟩=y)(w:World)(d: -100000<=a/\a<=100000)(f:n.size<=1000)(e:m.size<=1000):Calls prog 86 #[.agg #[op,a,n,m]] w fun c g=>c=.returned y/\Ext w g:=
 (Jr op a n m w d f e).mono (by rw[b];exact fun _ _ b=>b)
def NS(s:ByteArray)(e:Ending):Prop:=∃i b,M.qE s=(i,b)/\e=.returned (.tuple #[.agg #[.int .i64 i.op,.int .i64 i.a,.string i.name,.string i.member],.bool b])
theorem Jq (s : ByteArray) {w: World} (hs : s.size <= 4000000000) : Calls prog 168 #[s] w fun c w' => NS s c /\ Ext w w' := by
 obtain⟨w0,aY,aT,hb⟩:=nu w #[SS,SS, "", ""] 134;have⟨bn,HB,bq⟩:=jr aT hb aY;clear aT hb aY;go_enter func168,ntmps168;go_wp2_with fail;rw[<-bq.o];refine(Ba s w0 hs).mono ?_;rintro c w1 ⟨⟨bO,rfl,hS⟩,aO⟩;obtain⟨aD,bE,rfl,aX,-⟩:=hS.form;obtain⟨x0,aB,aZ⟩:=M.EY s;have aR:Zz (∀bf∈M.words s,bf.size<=s.size):=Zy (fun bf hx=>M.JX hx);have aj:=Zy aZ;rw[aZ]at hS aX aR |-;obtain⟨aF,bN,rfl,L⟩:=kF.at_ (i:=0) hS rfl;rw[Uh]at L;obtain⟨ae,hn⟩:∃ae,(x0::aB).length=ae:=⟨_,rfl⟩;have bG:1<=ae:=by rw[<-hn];simp
 have HN:=Zy hn;rw[hn]at aX hS |-;have⟨HS,au,aL⟩:=jr hS (HB.ext aO) (bn.trans aO);clear aO hS hn;go_wp2;go_loopw [5] (fun i wr=>∃b:Nat,1<=b/\b<=16/\i=.int .i64 b/\Zz (∀T,1<=T->T<b->M.xe T≠x0)/\Ext w1 wr) (fun i _=>16 - (intOf i).toNat)
 case atStart=>exact⟨1,Tz _,Zm,rfl,Zy (fun T _ _=>Zm),Kp.rr⟩
 case round =>
  obtain⟨b,k1,bM,rfl,aM,hE⟩:=hrel;have gw:=hE.iW L;have gz:=iV gw;have HE:=Zy hE;clear hE;by_cases hk:b<=15
  . have bu : (b : Int) <= 15 := by omega
    obtain⟨bD,bF,bK,HT⟩:=mJ wr;have r0:=fun bC=>(HT.jv bC).iW gw;have aC:=Zy HT;clear HT;go_wp2_with fail;refine kT aC 6 [([0,2,3,4],1)] [5] ?_ ?_
    . exact jg
    refine mP ?_;intro K2 aJ;go_wp2_with fail;refine(CF b Zm).mono ?_;rintro c a ⟨rfl,aU⟩;have S:=Zy (((Kp.refl _ wr).drew).trans aU);clear aU;cases hq:((M.xe b).toList==x0.toList)
    . go_wp2_with fail;refine kk aC aJ S ?_;clear aJ K2;refine uG ?_;go_wp2;go_round
      case rel=>exact⟨b+1,Zm,Zm,by go_num,Zy (fun T aD aF=>by
          rcases Uo T b with aS|aS
          . exact aM T aD aS
          . obtain rfl:T=b:=Zm
            exact kr hq rfl),HE.trans S⟩
      case measure=>simp[intOf];omega
    . go_wp2_with fail;refine kk aC aJ S ?_;clear aJ K2;refine uG ?_;have az:=Zy (M.Pp k1 hk aM (nk hq));obtain⟨w3,aK⟩:=SH (a.alloc (.cells #[b,SS, "", ""] 134));have aV:Ext a w3:=by rw[aK];exact Zx
      have aI:=(HE.trans S).trans aV;have V:Zz (h9 w3 a 134 #[b,SS, "", ""]):=Zy (by rw[aK];exact h9.new _ _ _);have⟨R,af,aA,aN⟩:=kQ (au.ext aI) (aL.trans aI) (HS.ext kF.stays aI) aK;have ak:(w:Nat)≠a:=SL au.lt ((HE.trans S).size)
      have aW:aF≠a:=SK S.size
      have ah:Zz ((w:Nat)<a):=Zy (SL au.lt ((HE.trans S).size));clear aV aI aK L gw gz HE S au aL HS aC r0 hq;have ai:=aR.o;rcases aB with _|⟨f,aB⟩
      . have hn:ae=1:=HN.symm;subst hn;clear ai;rw[aN.o]at R V af;obtain⟨-,v,x,y,z,-⟩:=R.ca;obtain⟨q,r,t,u,-⟩:=R.fz;obtain⟨-,E,F,G,H,-⟩:=V.ca;obtain⟨L,j,N,Y,-⟩:=V.fz;have A:=R.lt;have I:=V.lt;have h:Zz (M.qE s=M.sw s ⟨b,0,⟨#[]⟩,⟨#[]⟩⟩):=Zy (M.sF aj az (rfl));obtain⟨l,K⟩:∃l,M.lY ⟨b,0,⟨#[]⟩,⟨#[]⟩⟩=l:=⟨_,rfl⟩;have D:=Zy K;by_cases aG:(30:Int)<s.size
        . go_wp2_with fail;refine Px (h7 mq rfl w rfl [SS,SS, "", ""] (hH.mO (h9.nO R _ _ _ _)) rfl) rfl ?_;exact⟨⟨_,_,h.trans (M.uh Zm),rfl⟩,af.own (Kp.nO (D:=(·=w)) rfl _ _ _ _) (fun _ c=>Zm)⟩
        . have aH:s.size<=30:=Zm
          go_wp2_with fail;refine(qH K _ Zm (T9 _) (T9 _)).mono ?_;rintro c w6 ⟨rfl,e⟩;have⟨d,B,C⟩:=jr (R.ext e) (V.ext e) (af.trans e);clear v x y z q r t u E F G H L j N Y A I e;obtain⟨-,v,x,y,z,-⟩:=d.ca;obtain⟨q,r,t,u,-⟩:=d.fz;obtain⟨-,E,F,G,H,-⟩:=B.ca;have A:=d.lt;have I:=B.lt;cases J:(l.toList==s.toList)
          . go_wp2_with fail;refine Px (h7 mq rfl w rfl [SS,SS, "", ""] (hH.mO (h9.nO d _ _ _ _)) rfl) rfl ?_;exact⟨⟨_,_,h.trans (M.sD (fun Z=>kr J rfl (D.symm.trans Z))),rfl⟩,C.own (Kp.nO (D:=(·=w)) rfl _ _ _ _) (fun _ c=>Zm)⟩
          . go_wp2_with fail;refine Px (h7 mq rfl w rfl [b,SS, "", ""] (hH.mO (h9.nO d _ _ _ _)) rfl) rfl ?_;exact⟨⟨_,_,h.trans (M.ui Zm (D.trans (nk J))),rfl⟩,C.own (Kp.nO (D:=(·=w)) rfl _ _ _ _) (fun _ c=>Zm)⟩
      . rcases aB with _|⟨O,aB⟩
        . obtain⟨_,_,e1,j⟩:=kF.at_ (i:=1) aA rfl;cases e1;have bB:=ai f Zl;have hn:ae=2:=HN.symm;subst hn;have gz:=iV j;clear ai aA;rw[aN.o]at R V af j gz;go_wp2_with fail;obtain⟨⟨g,ok⟩,aa⟩:∃aQ,M.jO f=aQ:=⟨_,rfl⟩;obtain⟨bz,bA⟩: -100000<=g/\g<=100000:=by have:=M.zY f;rw[aa]at this;exact this
          refine(wI aa Zm).mono ?_;rintro c k ⟨rfl,P⟩;have ay:=Zy aa;clear aa;have⟨U,m,av⟩:=jr (R.ext P) (V.ext P) (af.trans P);have h1:=P.iW j;have hz:=iV h1;clear P j gz;have aP:aF≠a:=aW;have v0:=m.frozen 0;have v1:=m.frozen 1;have v2:=m.frozen 2;have v3:=m.frozen 3;have vz:=m.lt;obtain⟨pz,q0,q1,q2,q3,-⟩:=U.ca;obtain⟨p0,p1,p2,p3,-⟩:=U.fz;obtain⟨-,l0,l1,l2,l3,-⟩:=m.ca;cases ok
          . have o:Kp (·=a) k (k.setCell (a,2) f):=qA;have n:Zz (h9 (k.setCell (a,2) f) a 134 #[b,SS,f, ""]):=Zy (m.jE 2 _);have⟨p,X⟩:=jc (U.kp o ak) (av.own o (fun _ c=>SK ah.o));clear o;obtain⟨-,v,x,y,z,-⟩:=p.ca;obtain⟨q,r,t,u,-⟩:=p.fz;obtain⟨-,E,F,G,H,-⟩:=n.ca;obtain⟨L,j,N,Y,-⟩:=n.fz;have A:=p.lt;have I:=n.lt;have h:Zz (M.qE s=M.sw s ⟨b,0,f,⟨#[]⟩⟩):=Zy (M.sF aj az (M.DK ay));obtain⟨l,K⟩:∃l,M.lY ⟨b,0,f,⟨#[]⟩⟩=l:=⟨_,rfl⟩;have D:=Zy K;by_cases aG:(30:Int)<s.size
            . go_wp2_with fail;refine Px (h7 mq rfl w rfl [SS,SS, "", ""] (hH.mO (h9.nO p _ _ _ _)) rfl) rfl ?_;exact⟨⟨_,_,h.trans (M.uh Zm),rfl⟩,X.own (Kp.nO (D:=(·=w)) rfl _ _ _ _) (fun _ c=>Zm)⟩
            . have aH:s.size<=30:=Zm
              go_wp2_with fail;refine(qH K _ Zm Zm (T9 _)).mono ?_;rintro c w6 ⟨rfl,e⟩;have⟨d,B,C⟩:=jr (p.ext e) (n.ext e) (X.trans e);clear v x y z q r t u E F G H L j N Y A I e;obtain⟨-,v,x,y,z,-⟩:=d.ca;obtain⟨q,r,t,u,-⟩:=d.fz;obtain⟨-,E,F,G,H,-⟩:=B.ca;have A:=d.lt;have I:=B.lt;cases J:(l.toList==s.toList)
              . go_wp2_with fail;refine Px (h7 mq rfl w rfl [SS,SS, "", ""] (hH.mO (h9.nO d _ _ _ _)) rfl) rfl ?_;exact⟨⟨_,_,h.trans (M.sD (fun Z=>kr J rfl (D.symm.trans Z))),rfl⟩,C.own (Kp.nO (D:=(·=w)) rfl _ _ _ _) (fun _ c=>Zm)⟩
              . go_wp2_with fail;refine Px (h7 mq rfl w rfl [b,SS,f, ""] (hH.mO (h9.nO d _ _ _ _)) rfl) rfl ?_;exact⟨⟨_,_,h.trans (M.ui Zm (D.trans (nk J))),rfl⟩,C.own (Kp.nO (D:=(·=w)) rfl _ _ _ _) (fun _ c=>Zm)⟩
          . have o:Kp (·=a) k (k.setCell (a,1) g):=qA;have n:Zz (h9 (k.setCell (a,1) g) a 134 #[b,g, "", ""]):=Zy (m.jE 1 _);have⟨p,X⟩:=jc (U.kp o ak) (av.own o (fun _ c=>SK ah.o));clear o;obtain⟨-,v,x,y,z,-⟩:=p.ca;obtain⟨q,r,t,u,-⟩:=p.fz;obtain⟨-,E,F,G,H,-⟩:=n.ca;obtain⟨L,j,N,Y,-⟩:=n.fz;have A:=p.lt;have I:=n.lt;have h:Zz (M.qE s=M.sw s ⟨b,g,⟨#[]⟩,⟨#[]⟩⟩):=Zy (M.sF aj az (M.Ct ay));obtain⟨l,K⟩:∃l,M.lY ⟨b,g,⟨#[]⟩,⟨#[]⟩⟩=l:=⟨_,rfl⟩;have D:=Zy K;by_cases aG:(30:Int)<s.size
            . go_wp2_with fail;refine Px (h7 mq rfl w rfl [SS,SS, "", ""] (hH.mO (h9.nO p _ _ _ _)) rfl) rfl ?_;exact⟨⟨_,_,h.trans (M.uh Zm),rfl⟩,X.own (Kp.nO (D:=(·=w)) rfl _ _ _ _) (fun _ c=>Zm)⟩
            . have aH:s.size<=30:=Zm
              go_wp2_with fail;refine(qH K _ Zm (T9 _) (T9 _)).mono ?_;rintro c w6 ⟨rfl,e⟩;have⟨d,B,C⟩:=jr (p.ext e) (n.ext e) (X.trans e);clear v x y z q r t u E F G H L j N Y A I e;obtain⟨-,v,x,y,z,-⟩:=d.ca;obtain⟨q,r,t,u,-⟩:=d.fz;obtain⟨-,E,F,G,H,-⟩:=B.ca;have A:=d.lt;have I:=B.lt;cases J:(l.toList==s.toList)
              . go_wp2_with fail;refine Px (h7 mq rfl w rfl [SS,SS, "", ""] (hH.mO (h9.nO d _ _ _ _)) rfl) rfl ?_;exact⟨⟨_,_,h.trans (M.sD (fun Z=>kr J rfl (D.symm.trans Z))),rfl⟩,C.own (Kp.nO (D:=(·=w)) rfl _ _ _ _) (fun _ c=>Zm)⟩
              . go_wp2_with fail;refine Px (h7 mq rfl w rfl [b,g, "", ""] (hH.mO (h9.nO d _ _ _ _)) rfl) rfl ?_;exact⟨⟨_,_,h.trans (M.ui Zm (D.trans (nk J))),rfl⟩,C.own (Kp.nO (D:=(·=w)) rfl _ _ _ _) (fun _ c=>Zm)⟩
        . obtain⟨_,_,e1,j⟩:=kF.at_ (i:=1) aA rfl;cases e1;have bB:=ai f Zl;obtain⟨_,_,e1,N⟩:=kF.at_ (i:=2) aA rfl;cases e1;have bL:=ai O Zl;have bH:3<=ae:=by have:=HN.o;simp at this;omega
          have bI:(1:Int)<ae:=Zm
          have bJ:(2:Int)<ae:=Zm
          have gz:=iV j;clear ai aA;rw[aN.o]at R V af j gz N;go_wp2_with fail;obtain⟨⟨g,ok⟩,aa⟩:∃aQ,M.jO f=aQ:=⟨_,rfl⟩;obtain⟨bz,bA⟩: -100000<=g/\g<=100000:=by have:=M.zY f;rw[aa]at this;exact this
          refine(wI aa Zm).mono ?_;rintro c k ⟨rfl,P⟩;have ay:=Zy aa;clear aa;have⟨U,m,av⟩:=jr (R.ext P) (V.ext P) (af.trans P);have h1:=P.iW j;have hz:=iV h1;have h2:=P.iW N;clear P j gz N;have aP:=aW;have v0:=m.frozen 0;have v1:=m.frozen 1;have v2:=m.frozen 2;have v3:=m.frozen 3;have vz:=m.lt;obtain⟨pz,q0,q1,q2,q3,-⟩:=U.ca;obtain⟨p0,p1,p2,p3,-⟩:=U.fz;obtain⟨-,l0,l1,l2,l3,-⟩:=m.ca;cases ok
          . have o:Kp (·=a) k (k.setCell (a,2) f):=qA;have n:Zz (h9 (k.setCell (a,2) f) a 134 #[b,SS,f, ""]):=Zy (m.jE 2 _);have⟨p,X⟩:=jc (U.kp o ak) (av.own o (fun _ c=>SK ah.o));have h3:=o.nQ h2 aP;have y3:=n.c 3 "" rfl;have x3:=n.frozen 3;have ag:Kp (·=a) (k.setCell (a,2) f) ((k.setCell (a,2) f).setCell (a,3) O):=qA;have W:Zz (h9 ((k.setCell (a,2) f).setCell (a,3) O) a 134 #[b,SS,f,O]):=Zy (n.jE 3 _);have⟨Q,ax⟩:=jc (p.kp ag ak) (X.own ag (fun _ c=>SK ah.o));clear ag;clear o;obtain⟨-,v,x,y,z,-⟩:=Q.ca;obtain⟨q,r,t,u,-⟩:=Q.fz;obtain⟨-,E,F,G,H,-⟩:=W.ca;obtain⟨L,j,N,Y,-⟩:=W.fz;have A:=Q.lt;have I:=W.lt;have h:Zz (M.qE s=M.sw s ⟨b,0,f,O⟩):=Zy (M.sF aj az (M.DK ay));obtain⟨l,K⟩:∃l,M.lY ⟨b,0,f,O⟩=l:=⟨_,rfl⟩;have D:=Zy K;by_cases aG:(30:Int)<s.size
            . go_wp2_with fail;refine Px (h7 mq rfl w rfl [SS,SS, "", ""] (hH.mO (h9.nO Q _ _ _ _)) rfl) rfl ?_;exact⟨⟨_,_,h.trans (M.uh Zm),rfl⟩,ax.own (Kp.nO (D:=(·=w)) rfl _ _ _ _) (fun _ c=>Zm)⟩
            . have aH:s.size<=30:=Zm
              go_wp2_with fail;refine(qH K _ Zm Zm Zm).mono ?_;rintro c w6 ⟨rfl,e⟩;have⟨d,B,C⟩:=jr (Q.ext e) (W.ext e) (ax.trans e);clear v x y z q r t u E F G H L j N Y A I e;obtain⟨-,v,x,y,z,-⟩:=d.ca;obtain⟨q,r,t,u,-⟩:=d.fz;obtain⟨-,E,F,G,H,-⟩:=B.ca;have A:=d.lt;have I:=B.lt;cases J:(l.toList==s.toList)
              . go_wp2_with fail;refine Px (h7 mq rfl w rfl [SS,SS, "", ""] (hH.mO (h9.nO d _ _ _ _)) rfl) rfl ?_;exact⟨⟨_,_,h.trans (M.sD (fun Z=>kr J rfl (D.symm.trans Z))),rfl⟩,C.own (Kp.nO (D:=(·=w)) rfl _ _ _ _) (fun _ c=>Zm)⟩
              . go_wp2_with fail;refine Px (h7 mq rfl w rfl [b,SS,f,O] (hH.mO (h9.nO d _ _ _ _)) rfl) rfl ?_;exact⟨⟨_,_,h.trans (M.ui Zm (D.trans (nk J))),rfl⟩,C.own (Kp.nO (D:=(·=w)) rfl _ _ _ _) (fun _ c=>Zm)⟩
          . have o:Kp (·=a) k (k.setCell (a,1) g):=qA;have n:Zz (h9 (k.setCell (a,1) g) a 134 #[b,g, "", ""]):=Zy (m.jE 1 _);have⟨p,X⟩:=jc (U.kp o ak) (av.own o (fun _ c=>SK ah.o));have h3:=o.nQ h2 aP;have y3:=n.c 3 "" rfl;have x3:=n.frozen 3;have ag:Kp (·=a) (k.setCell (a,1) g) ((k.setCell (a,1) g).setCell (a,3) O):=qA;have W:Zz (h9 ((k.setCell (a,1) g).setCell (a,3) O) a 134 #[b,g, "",O]):=Zy (n.jE 3 _);have⟨Q,ax⟩:=jc (p.kp ag ak) (X.own ag (fun _ c=>SK ah.o));clear ag;clear o;obtain⟨-,v,x,y,z,-⟩:=Q.ca;obtain⟨q,r,t,u,-⟩:=Q.fz;obtain⟨-,E,F,G,H,-⟩:=W.ca;obtain⟨L,j,N,Y,-⟩:=W.fz;have A:=Q.lt;have I:=W.lt;have h:Zz (M.qE s=M.sw s ⟨b,g,⟨#[]⟩,O⟩):=Zy (M.sF aj az (M.Ct ay));obtain⟨l,K⟩:∃l,M.lY ⟨b,g,⟨#[]⟩,O⟩=l:=⟨_,rfl⟩;have D:=Zy K;by_cases aG:(30:Int)<s.size
            . go_wp2_with fail;refine Px (h7 mq rfl w rfl [SS,SS, "", ""] (hH.mO (h9.nO Q _ _ _ _)) rfl) rfl ?_;exact⟨⟨_,_,h.trans (M.uh Zm),rfl⟩,ax.own (Kp.nO (D:=(·=w)) rfl _ _ _ _) (fun _ c=>Zm)⟩
            . have aH:s.size<=30:=Zm
              go_wp2_with fail;refine(qH K _ Zm (T9 _) Zm).mono ?_;rintro c w6 ⟨rfl,e⟩;have⟨d,B,C⟩:=jr (Q.ext e) (W.ext e) (ax.trans e);clear v x y z q r t u E F G H L j N Y A I e;obtain⟨-,v,x,y,z,-⟩:=d.ca;obtain⟨q,r,t,u,-⟩:=d.fz;obtain⟨-,E,F,G,H,-⟩:=B.ca;have A:=d.lt;have I:=B.lt;cases J:(l.toList==s.toList)
              . go_wp2_with fail;refine Px (h7 mq rfl w rfl [SS,SS, "", ""] (hH.mO (h9.nO d _ _ _ _)) rfl) rfl ?_;exact⟨⟨_,_,h.trans (M.sD (fun Z=>kr J rfl (D.symm.trans Z))),rfl⟩,C.own (Kp.nO (D:=(·=w)) rfl _ _ _ _) (fun _ c=>Zm)⟩
              . go_wp2_with fail;refine Px (h7 mq rfl w rfl [b,g, "",O] (hH.mO (h9.nO d _ _ _ _)) rfl) rfl ?_;exact⟨⟨_,_,h.trans (M.ui Zm (D.trans (nk J))),rfl⟩,C.own (Kp.nO (D:=(·=w)) rfl _ _ _ _) (fun _ c=>Zm)⟩
  . have bu:¬(b:Int)<=15:=Zm
    have hB:=au.ext HE;obtain⟨-,v,x,y,z,-⟩:=hB.ca;obtain⟨q,r,t,u,-⟩:=hB.fz;have⟨bg,S⟩:=jc hB (aL.trans HE);have A:=hB.lt;clear hB;go_wp2_with fail;refine Px (h7 mq rfl w rfl [SS,SS, "", ""] (hH.mO (h9.nO bg _ _ _ _)) rfl) rfl ?_;exact⟨⟨_,_,M.GQ aj (M.Nf (fun T aD aF=>aM.o T aD Zm)),rfl⟩,S.own (Kp.nO (D:=(·=w)) rfl _ _ _ _) (fun _ c=>Zm)⟩
theorem NB {w: World} (I : Nat -> Prop) {cs: List Value} (c : M.Method) (B : jb w I c cs) :Calls prog 198 #[.agg cs.toArray] w fun f w'=>f=.returned (.bool (qU c))/\Ext w w':=by
 obtain⟨va,vc,vm,rfl,-,h1,O⟩:=B;obtain⟨ca,cc,rfl,aO,aH⟩:=h1.form;obtain⟨aa,ae,rfl,hn,aG⟩:=O.form;obtain⟨F,K⟩:=SH (w.alloc (.cells #[c.name,va,c.ret.kind,c.ret.name,c.locals,c.stack,.slice ca c.code.length cc,.slice aa c.maps.length ae] 113));have P:Ext w F:=by rw[K];exact Zx
 have Q:h9 F w.heap.size 113 #[c.name,va,c.ret.kind,c.ret.name,c.locals,c.stack,.slice ca c.code.length cc,.slice aa c.maps.length ae]:=by rw[K];exact h9.new _ _ _
 obtain⟨cz,-,-,-,-,-,-,-,c7,-⟩:=Q.ca;have⟨HB,V,s,Y⟩:=kQ Q (O.ext mW.stays P) P K;clear P Q K h1 O;by_cases h5:5<c.maps.length
 . have az:(5:Int)<c.maps.length:=by omega
   go_enter func198,ntmps198;go_wp2_with fail;rw[<-Y.o];go_wp2;go_ret;exact⟨hQ (by unfold qU;rw[RN Zm];rfl),s.o⟩
 have X:Zz (qU c=j3 c 0 c.maps):=Zy (by unfold qU;rw[SY Zm];rfl);have az:¬(5:Int)<c.maps.length:=by omega
 go_enter func198,ntmps198;go_wp2_with fail;rw[<-Y.o];go_wp2;go_loopw [3] (fun S wr=>∃g:Nat,g<=c.maps.length/\S=.int .i64 g/\Ext F wr/\Zz (j3 c 0 (c.maps.take g)=true)) (fun S _=>c.maps.length - (intOf S).toNat)
 case atStart=>exact⟨0,T9 _,rfl,Kp.rr,Zy rfl⟩
 case round =>
  obtain⟨g,hk,rfl,D,N⟩:=hrel;have W:=Zy D;have d7:=D.iW c7;have dz:=iV d7;by_cases ag:g<c.maps.length
  . have dk:(g:Int)<c.maps.length:=by omega
    obtain⟨b,R⟩:∃b,c.maps[g]?=some b:=⟨c.maps[g]'ag,Dj ag⟩;obtain⟨b',aC,cs,rfl,hI,⟨vl,vs,rfl,T,U⟩,-,hc⟩:=V.o.get R;obtain⟨o,p,rfl,-,aN⟩:=T.form;obtain⟨q,r,rfl,-,aQ⟩:=U.form;obtain⟨g0,g1,g2⟩:=(hc.ext D).three;have gz:=iV g0;obtain⟨G,L⟩:=SH (wr.alloc (.cells #[.int .i64 b.at_,.slice o b.locals.length p,.slice q b.stack.length r] 198));have af:Ext wr G:=by rw[L];exact Zx
    have b5:h9 G wr.heap.size 198 #[.int .i64 b.at_,.slice o b.locals.length p,.slice q b.stack.length r]:=by rw[L];exact h9.new _ _ _
    have j:=Zy (W.o.trans af);have bm:=HB.o.ext j.o;have⟨t,u,ax⟩:=jr (T.ext kU.stays j.o) (U.ext kU.stays j.o) L;obtain⟨aD,ay,aP,C⟩:=mJ G;obtain⟨-,x0,x1,x2,-⟩:=h9.qW fun A=>(b5.ext (C.jv A));obtain⟨-,-,-,-,-,m4,m5,m6,m7,-⟩:=h9.qW fun A=>(bm.ext (C.jv A));have a:=Zy C;have HJ:=Zy (fun(i:Nat) (k:SMap) (z:c.maps[i]?=some k)=>(show∀A,(ay A).cell? ⟨b',aC+i*3,none⟩=some (.int .i64 k.at_)from fun A=>by
     obtain⟨_,_,aF,e2,_,⟨_,_,rfl,_,_⟩,-,aA⟩:=V.o.get z;cases e2;exact((aA.ext j.o).ext (C.jv A)).three.1))
    have Z:=Zy R;clear C R hc D af L b5 bm T U;obtain⟨q1,ah⟩:∃y,(decide (1<=b.at_)&&decide (b.at_<=(c.code.length:Int) - 1))=y:=⟨_,rfl⟩;have l:=Zy ah;clear ah;obtain⟨q3,ai⟩:∃y,((b.locals.length:Int) !=c.locals)=y:=⟨_,rfl⟩;obtain⟨q4,aj⟩:∃y,decide (c.stack<(b.stack.length:Int))=y:=⟨_,rfl⟩;obtain⟨q5,ak⟩:∃y,b.locals.all oZ=y:=⟨_,rfl⟩;obtain⟨q6,au⟩:∃y,b.stack.all oZ=y:=⟨_,rfl⟩;have⟨m,n⟩:=jc ak au;clear ak au;obtain⟨q2,E,av⟩:∃q2,((g=0/\q2=false)\/∃i k,g=i+1/\c.maps[i]?=some k/\q2=decide (b.at_<=k.at_))/\j3 c 0 (c.maps.take (g+1))=(q1&& !q2&& !q3&& !q4&&q5&&q6):=by
     by_cases h0:g=0
     . exact⟨false,.inl ⟨h0,rfl⟩,by rw[Gg Z.o N.o (.inl ⟨h0,rfl⟩),l.o,ai,aj,m.o,n.o]⟩
     . obtain⟨i,J⟩:∃i,g=i+1:=⟨g - 1,by omega⟩;obtain⟨k,z⟩:∃k,c.maps[i]?=some k:=⟨c.maps[i]'Zm,Dj Zm⟩;exact⟨_,.inr ⟨i,k,J,z,rfl⟩,by rw[Gg Z.o N.o (.inr ⟨i,k,J,z,rfl⟩),l.o,ai,aj,m.o,n.o]⟩
    have⟨v,H⟩:=jc av E;have x:Zz (j3 c 0 (c.maps.take (g+1))=false->qU c=false):=Zy fun f=>X.o.trans (Pf f);clear av E;go_wp2_with fail;rw[<-ax.o];cases q1
    . go_wp2_with fail;refine Fb a ?_ ?_;rotate_left;(repeat (go_big_quiet_step ((first|(go_at_call 76;refine(ry).mono ?_;rintro f d ⟨rfl,rfl⟩;rw[l.o];exact⟨rfl,a.o.o _ (a.o.jv _)⟩)|(go_at_call 226;with_reducible refine(kD I (.slice o b.locals.length p) b.locals (t.o.ext kU.stays (a.o.jv _))).mono ?_;rintro f d ⟨rfl,e⟩;rw[m.o];exact⟨rfl,a.o.o d ((a.o.jv _).trans e)⟩)|(go_at_call 226;with_reducible refine(kD I (.slice q b.stack.length r) b.stack (u.o.ext kU.stays (a.o.jv _))).mono ?_;rintro f d ⟨rfl,e⟩;rw[n.o];exact⟨rfl,a.o.o d ((a.o.jv _).trans e)⟩)))));refine wpQuiet_nil ?_;(rintro _ ⟨h,rfl⟩);rotate_left
      . exact jg
      go_wp2;go_ret;exact⟨hQ (x.o (v.o.trans rfl)).symm,(s.o.trans j.o).trans (a.o.jv h)⟩
    by_cases aM:0<g
    . have aB:decide ((0:Int)<(g:Int))=true:=SY Zm;obtain⟨i,k,J,z,E⟩:∃i k,g=i+1/\c.maps[i]?=some k/\q2=decide (b.at_<=k.at_):=H.o.resolve_left (fun B=>by have:=B.1;omega);replace E:=E.symm;have aI:IntKind.i64.wrap ((g:Int) - 1)=(i:Int):=by rw[Tg _ Zm];omega
      have aJ:(g:Int) - 1=(i:Int):=by omega
      have aK:(0:Int)<=(i:Int):=by omega
      have aL:(i:Int)<c.maps.length:=by omega
      have yj:=HJ.o i k z;clear z J;clear H;cases q2;rotate_left
      . go_wp2_with fail;refine Fb a ?_ ?_;rotate_left;(repeat (go_big_quiet_step ((first|(go_at_call 76;refine(ry).mono ?_;rintro f d ⟨rfl,rfl⟩;rw[l.o];exact⟨rfl,a.o.o _ (a.o.jv _)⟩)|(go_at_call 226;with_reducible refine(kD I (.slice o b.locals.length p) b.locals (t.o.ext kU.stays (a.o.jv _))).mono ?_;rintro f d ⟨rfl,e⟩;rw[m.o];exact⟨rfl,a.o.o d ((a.o.jv _).trans e)⟩)|(go_at_call 226;with_reducible refine(kD I (.slice q b.stack.length r) b.stack (u.o.ext kU.stays (a.o.jv _))).mono ?_;rintro f d ⟨rfl,e⟩;rw[n.o];exact⟨rfl,a.o.o d ((a.o.jv _).trans e)⟩)))));refine wpQuiet_nil ?_;(rintro _ ⟨h,rfl⟩);rotate_left
        . exact jg
        go_wp2;go_ret;exact⟨hQ (x.o (v.o.trans rfl)).symm,(s.o.trans j.o).trans (a.o.jv h)⟩
      cases q3;rotate_left
      . go_wp2_with fail;refine Fb a ?_ ?_;rotate_left;(repeat (go_big_quiet_step ((first|(go_at_call 76;refine(ry).mono ?_;rintro f d ⟨rfl,rfl⟩;rw[l.o];exact⟨rfl,a.o.o _ (a.o.jv _)⟩)|(go_at_call 226;with_reducible refine(kD I (.slice o b.locals.length p) b.locals (t.o.ext kU.stays (a.o.jv _))).mono ?_;rintro f d ⟨rfl,e⟩;rw[m.o];exact⟨rfl,a.o.o d ((a.o.jv _).trans e)⟩)|(go_at_call 226;with_reducible refine(kD I (.slice q b.stack.length r) b.stack (u.o.ext kU.stays (a.o.jv _))).mono ?_;rintro f d ⟨rfl,e⟩;rw[n.o];exact⟨rfl,a.o.o d ((a.o.jv _).trans e)⟩)))));refine wpQuiet_nil ?_;(rintro _ ⟨h,rfl⟩);rotate_left
        . exact jg
        go_wp2;go_ret;exact⟨hQ (x.o (v.o.trans rfl)).symm,(s.o.trans j.o).trans (a.o.jv h)⟩
      cases q4;rotate_left
      . go_wp2_with fail;refine Fb a ?_ ?_;rotate_left;(repeat (go_big_quiet_step ((first|(go_at_call 76;refine(ry).mono ?_;rintro f d ⟨rfl,rfl⟩;rw[l.o];exact⟨rfl,a.o.o _ (a.o.jv _)⟩)|(go_at_call 226;with_reducible refine(kD I (.slice o b.locals.length p) b.locals (t.o.ext kU.stays (a.o.jv _))).mono ?_;rintro f d ⟨rfl,e⟩;rw[m.o];exact⟨rfl,a.o.o d ((a.o.jv _).trans e)⟩)|(go_at_call 226;with_reducible refine(kD I (.slice q b.stack.length r) b.stack (u.o.ext kU.stays (a.o.jv _))).mono ?_;rintro f d ⟨rfl,e⟩;rw[n.o];exact⟨rfl,a.o.o d ((a.o.jv _).trans e)⟩)))));refine wpQuiet_nil ?_;(rintro _ ⟨h,rfl⟩);rotate_left
        . exact jg
        go_wp2;go_ret;exact⟨hQ (x.o (v.o.trans rfl)).symm,(s.o.trans j.o).trans (a.o.jv h)⟩
      cases q5
      . go_wp2_with fail;refine Fb a ?_ ?_;rotate_left;(repeat (go_big_quiet_step ((first|(go_at_call 76;refine(ry).mono ?_;rintro f d ⟨rfl,rfl⟩;rw[l.o];exact⟨rfl,a.o.o _ (a.o.jv _)⟩)|(go_at_call 226;with_reducible refine(kD I (.slice o b.locals.length p) b.locals (t.o.ext kU.stays (a.o.jv _))).mono ?_;rintro f d ⟨rfl,e⟩;rw[m.o];exact⟨rfl,a.o.o d ((a.o.jv _).trans e)⟩)|(go_at_call 226;with_reducible refine(kD I (.slice q b.stack.length r) b.stack (u.o.ext kU.stays (a.o.jv _))).mono ?_;rintro f d ⟨rfl,e⟩;rw[n.o];exact⟨rfl,a.o.o d ((a.o.jv _).trans e)⟩)))));refine wpQuiet_nil ?_;(rintro _ ⟨h,rfl⟩);rotate_left
        . exact jg
        go_wp2;go_ret;exact⟨hQ (x.o (v.o.trans rfl)).symm,(s.o.trans j.o).trans (a.o.jv h)⟩
      cases q6
      . go_wp2_with fail;refine Fb a ?_ ?_;rotate_left;(repeat (go_big_quiet_step ((first|(go_at_call 76;refine(ry).mono ?_;rintro f d ⟨rfl,rfl⟩;rw[l.o];exact⟨rfl,a.o.o _ (a.o.jv _)⟩)|(go_at_call 226;with_reducible refine(kD I (.slice o b.locals.length p) b.locals (t.o.ext kU.stays (a.o.jv _))).mono ?_;rintro f d ⟨rfl,e⟩;rw[m.o];exact⟨rfl,a.o.o d ((a.o.jv _).trans e)⟩)|(go_at_call 226;with_reducible refine(kD I (.slice q b.stack.length r) b.stack (u.o.ext kU.stays (a.o.jv _))).mono ?_;rintro f d ⟨rfl,e⟩;rw[n.o];exact⟨rfl,a.o.o d ((a.o.jv _).trans e)⟩)))));refine wpQuiet_nil ?_;(rintro _ ⟨h,rfl⟩);rotate_left
        . exact jg
        go_wp2;go_ret;exact⟨hQ (x.o (v.o.trans rfl)).symm,(s.o.trans j.o).trans (a.o.jv h)⟩
      go_wp2_with fail;refine Fb a ?_ ?_;rotate_left;(repeat (go_big_quiet_step ((first|(go_at_call 76;refine(ry).mono ?_;rintro f d ⟨rfl,rfl⟩;rw[l.o];exact⟨rfl,a.o.o _ (a.o.jv _)⟩)|(go_at_call 226;with_reducible refine(kD I (.slice o b.locals.length p) b.locals (t.o.ext kU.stays (a.o.jv _))).mono ?_;rintro f d ⟨rfl,e⟩;rw[m.o];exact⟨rfl,a.o.o d ((a.o.jv _).trans e)⟩)|(go_at_call 226;with_reducible refine(kD I (.slice q b.stack.length r) b.stack (u.o.ext kU.stays (a.o.jv _))).mono ?_;rintro f d ⟨rfl,e⟩;rw[n.o];exact⟨rfl,a.o.o d ((a.o.jv _).trans e)⟩)))));refine wpQuiet_nil ?_;(rintro _ ⟨h,rfl⟩);rotate_left
      . exact jg
      go_wp2;go_round
      case rel=>exact⟨g+1,by omega,by go_num,j.o.trans (a.o.jv h),Zy (v.o.trans rfl)⟩
      case measure=>simp[intOf];omega
    . have aB:decide ((0:Int)<(g:Int))=false:=RN Zm;obtain rfl:q2=false:=by rcases H.o with B|⟨i,k,B,-⟩<;>first|exact B.2|omega
      clear H;cases q3;rotate_left
      . go_wp2_with fail;refine Fb a ?_ ?_;rotate_left;(repeat (go_big_quiet_step ((first|(go_at_call 76;refine(ry).mono ?_;rintro f d ⟨rfl,rfl⟩;rw[l.o];exact⟨rfl,a.o.o _ (a.o.jv _)⟩)|(go_at_call 226;with_reducible refine(kD I (.slice o b.locals.length p) b.locals (t.o.ext kU.stays (a.o.jv _))).mono ?_;rintro f d ⟨rfl,e⟩;rw[m.o];exact⟨rfl,a.o.o d ((a.o.jv _).trans e)⟩)|(go_at_call 226;with_reducible refine(kD I (.slice q b.stack.length r) b.stack (u.o.ext kU.stays (a.o.jv _))).mono ?_;rintro f d ⟨rfl,e⟩;rw[n.o];exact⟨rfl,a.o.o d ((a.o.jv _).trans e)⟩)))));refine wpQuiet_nil ?_;(rintro _ ⟨h,rfl⟩);rotate_left
        . exact jg
        go_wp2;go_ret;exact⟨hQ (x.o (v.o.trans rfl)).symm,(s.o.trans j.o).trans (a.o.jv h)⟩
      cases q4;rotate_left
      . go_wp2_with fail;refine Fb a ?_ ?_;rotate_left;(repeat (go_big_quiet_step ((first|(go_at_call 76;refine(ry).mono ?_;rintro f d ⟨rfl,rfl⟩;rw[l.o];exact⟨rfl,a.o.o _ (a.o.jv _)⟩)|(go_at_call 226;with_reducible refine(kD I (.slice o b.locals.length p) b.locals (t.o.ext kU.stays (a.o.jv _))).mono ?_;rintro f d ⟨rfl,e⟩;rw[m.o];exact⟨rfl,a.o.o d ((a.o.jv _).trans e)⟩)|(go_at_call 226;with_reducible refine(kD I (.slice q b.stack.length r) b.stack (u.o.ext kU.stays (a.o.jv _))).mono ?_;rintro f d ⟨rfl,e⟩;rw[n.o];exact⟨rfl,a.o.o d ((a.o.jv _).trans e)⟩)))));refine wpQuiet_nil ?_;(rintro _ ⟨h,rfl⟩);rotate_left
        . exact jg
        go_wp2;go_ret;exact⟨hQ (x.o (v.o.trans rfl)).symm,(s.o.trans j.o).trans (a.o.jv h)⟩
      cases q5
      . go_wp2_with fail;refine Fb a ?_ ?_;rotate_left;(repeat (go_big_quiet_step ((first|(go_at_call 76;refine(ry).mono ?_;rintro f d ⟨rfl,rfl⟩;rw[l.o];exact⟨rfl,a.o.o _ (a.o.jv _)⟩)|(go_at_call 226;with_reducible refine(kD I (.slice o b.locals.length p) b.locals (t.o.ext kU.stays (a.o.jv _))).mono ?_;rintro f d ⟨rfl,e⟩;rw[m.o];exact⟨rfl,a.o.o d ((a.o.jv _).trans e)⟩)|(go_at_call 226;with_reducible refine(kD I (.slice q b.stack.length r) b.stack (u.o.ext kU.stays (a.o.jv _))).mono ?_;rintro f d ⟨rfl,e⟩;rw[n.o];exact⟨rfl,a.o.o d ((a.o.jv _).trans e)⟩)))));refine wpQuiet_nil ?_;(rintro _ ⟨h,rfl⟩);rotate_left
        . exact jg
        go_wp2;go_ret;exact⟨hQ (x.o (v.o.trans rfl)).symm,(s.o.trans j.o).trans (a.o.jv h)⟩
      cases q6
      . go_wp2_with fail;refine Fb a ?_ ?_;rotate_left;(repeat (go_big_quiet_step ((first|(go_at_call 76;refine(ry).mono ?_;rintro f d ⟨rfl,rfl⟩;rw[l.o];exact⟨rfl,a.o.o _ (a.o.jv _)⟩)|(go_at_call 226;with_reducible refine(kD I (.slice o b.locals.length p) b.locals (t.o.ext kU.stays (a.o.jv _))).mono ?_;rintro f d ⟨rfl,e⟩;rw[m.o];exact⟨rfl,a.o.o d ((a.o.jv _).trans e)⟩)|(go_at_call 226;with_reducible refine(kD I (.slice q b.stack.length r) b.stack (u.o.ext kU.stays (a.o.jv _))).mono ?_;rintro f d ⟨rfl,e⟩;rw[n.o];exact⟨rfl,a.o.o d ((a.o.jv _).trans e)⟩)))));refine wpQuiet_nil ?_;(rintro _ ⟨h,rfl⟩);rotate_left
        . exact jg
        go_wp2;go_ret;exact⟨hQ (x.o (v.o.trans rfl)).symm,(s.o.trans j.o).trans (a.o.jv h)⟩
      go_wp2_with fail;refine Fb a ?_ ?_;rotate_left;(repeat (go_big_quiet_step ((first|(go_at_call 76;refine(ry).mono ?_;rintro f d ⟨rfl,rfl⟩;rw[l.o];exact⟨rfl,a.o.o _ (a.o.jv _)⟩)|(go_at_call 226;with_reducible refine(kD I (.slice o b.locals.length p) b.locals (t.o.ext kU.stays (a.o.jv _))).mono ?_;rintro f d ⟨rfl,e⟩;rw[m.o];exact⟨rfl,a.o.o d ((a.o.jv _).trans e)⟩)|(go_at_call 226;with_reducible refine(kD I (.slice q b.stack.length r) b.stack (u.o.ext kU.stays (a.o.jv _))).mono ?_;rintro f d ⟨rfl,e⟩;rw[n.o];exact⟨rfl,a.o.o d ((a.o.jv _).trans e)⟩)))));refine wpQuiet_nil ?_;(rintro _ ⟨h,rfl⟩);rotate_left
      . exact jg
      go_wp2;go_round
      case rel=>exact⟨g+1,by omega,by go_num,j.o.trans (a.o.jv h),Zy (v.o.trans rfl)⟩
      case measure=>simp[intOf];omega
  . have dk:¬(g:Int)<c.maps.length:=by omega
    clear D;go_wp2;go_ret;exact⟨hQ (by have:=N.o;rw[Tu Zm]at this;rw[X.o,this]),s.o.trans W.o⟩
end Go.Proofs.YtenhnldnpdlniaaGreat
