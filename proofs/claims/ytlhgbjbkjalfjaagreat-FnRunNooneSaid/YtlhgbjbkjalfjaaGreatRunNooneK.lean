/- FnRunNoone: for every input the program returns true, and the input reads as it did. No condition. -/
import Derived.Test.YtlhgbjbkjalfjaaGreatTwCoreLq
import Derived.Test.YtlhgbjbkjalfjaaGreatRows
import Derived.ProofKit
import Derived.Carry
set_option maxRecDepth 100000
set_option maxHeartbeats 4000000
set_option linter.all false
namespace Go.Proofs.YtlhgbjbkjalfjaaGreat
open Go Go.RowKit M
variable {a p: List MemPlace}{b g: Type}{v: Value}{W: World}
theorem DT(w:World):Calls Tryz.prog 7 #[] w fun b d=>b=.returned (.bool true)/\d=w:=by
 have c:jJ ⟨#[97]⟩=true:=by decide+kernel
 have a:=Zy (mf ⟨#[97]⟩ w);rw[c]at a;go_enter Tryz.func7,Tryz.ntmps7;go_wp2_with fail;refine a.mono ?_;rintro b e ⟨rfl,rfl⟩;go_wp2;go_ret;exact⟨rfl,rfl⟩
theorem GG(w:World){I J:Nat->Prop}{va u:Value}(l:List Val)(f:SliceOf 2 mY w I va l)(g:SliceOf 2 mY w J u l):Calls Tryz.prog 34 #[va,u] w fun E H=>E=.returned (.bool true)/\Ext w H:=by
 obtain⟨N,P,rfl,-,W⟩:=f.form;obtain⟨O,Q,rfl,-,-⟩:=g.form;have⟨x,y⟩:=jf f g;clear f g;go_enter Tryz.func34,Tryz.ntmps34;go_wp2;go_loopw [5] (fun k wr=>∃t:Nat,t<=l.length/\k=.int .i64 t/\Ext w wr) (fun k _=>l.length - (intOf k).toNat)
 case atStart=>exact⟨0,SV _,rfl,Kp.rr⟩
 case round=>
  obtain⟨a,V,rfl,b⟩:=hrel;have m:=Zy b;by_cases q:a<l.length
  . have D:(a:Int)<l.length:=Zm
    have T:(0:Int)<=a:=Zm
    obtain⟨⟨e,v⟩,j⟩:∃K,l[a]?=some K:=⟨l[a]'q,Ou q⟩;obtain⟨B,F,R,rfl,-,rfl,-,h⟩:=x.get j;obtain⟨C,G,S,rfl,-,rfl,-,i⟩:=y.get j;have n:w.cell? (B,F+a*2)=some (.int .i64 e):=by simpa using h 0 e rfl
    have o:=h 1 v rfl;have r:w.cell? (C,G+a*2)=some (.int .i64 e):=by simpa using i 0 e rfl
    have s:=i 1 v rfl;obtain⟨L,U,X,d⟩:=ll wr;have Y:=fun c=>(b.trans (d.jv c)).je n;have Z:=fun c=>(b.trans (d.jv c)).je o;have y0:=fun c=>(b.trans (d.jv c)).je r;have y1:=fun c=>(b.trans (d.jv c)).je s;have z:=Zy d;clear d h i j n o r s b;go_upto_region 6 with(fail);refine jW z 9 [] [0,1,2,3,4,5,6,7,8] ?_ ?_
    . exact jg
    refine AJ [_,_,_,_,_,_,_,_,_] rfl rfl fun A p=>?_;(repeat (go_big_quiet_step (fail)));refine qn p ?_;clear p A;go_wp2;go_round
    case rel=>exact⟨a+1,Zm,by go_num,m.o.trans jg⟩
    case measure=>simp[intOf];omega
  . have D:¬(a:Int)<l.length:=Zm
    clear b;go_wp2;go_ret;exact⟨rfl,m⟩
theorem Ra(w:World){I J:Nat->Prop}(s:St){ca cb:List Value}(ha:kg w I s ca)(hb:kg w J s cb):Calls Tryz.prog 12 #[.agg ca.toArray,.agg cb.toArray] w fun C w'=>C=.returned (.bool true)/\Ext w w':=by
 obtain⟨a1,c1,a2,c2,a3,c3,rfl,ah,ai,aB⟩:=ha.form;obtain⟨b1,d1,b2,d2,b3,d3,rfl,aC,aD,aF⟩:=hb.form;obtain⟨_,_,-,-,bu⟩:=ah.form;obtain⟨_,_,-,-,bz⟩:=ai.form;obtain⟨i,F⟩:=SS ((w.alloc (.cells #[s.status,.slice a1 s.frames.length c1,.slice a2 s.heap.length c2,.slice a3 s.outs.length c3,s.back.kind,s.back.n] 39)).alloc (.cells #[s.status,.slice b1 s.frames.length d1,.slice b2 s.heap.length d2,.slice b3 s.outs.length d3,s.back.kind,s.back.n] 39));have k:Ext w i:=by rw[F];exact Zx
 have e2:hZ i w 39 #[s.status,.slice a1 s.frames.length c1,.slice a2 s.heap.length c2,.slice a3 s.outs.length c3,s.back.kind,s.back.n]:=by rw[F];exact(hZ.new _ _ _).ext (jw _)
 have e3:hZ i (w+1) 39 #[s.status,.slice b1 s.frames.length d1,.slice b2 s.heap.length d2,.slice b3 s.outs.length d3,s.back.kind,s.back.n]:=by rw[F];exact hZ.newAt _ _ Zl
 have⟨aI,aJ,aK,aL⟩:=jU (ah.ext Dc.stays k) (ai.ext wC.stays k) (aC.ext Dc.stays k) (aD.ext wC.stays k);have aS:=Zy fun B l=>by
  have:=PE B s.outs s.outs ((aB.ext oW.stays k).ext oW.stays l) ((aF.ext oW.stays k).ext oW.stays l);rwa[Tz rfl]at this
 have⟨aM,u,af,aV⟩:=jU k e2 e3 F;obtain⟨j,p0,t,S,p3,p4,p5,-⟩:=(e2).ca;obtain⟨T,q0,q1,q2,q3,q4,q5,-⟩:=(e3).ca;clear ha hb ah ai aB aC aD aF k e2 e3 F;go_enter Tryz.func12,Tryz.ntmps12;go_upto_region 1 with(fail);rw[<-aV.o];go_wp2_with fail;refine(aS i Kp.rr).mono ?_;rintro C w1 ⟨rfl,aa⟩;have aN:=Zy aa;clear p0 q0 t q1 S q2 p3 q3 p4 q4 p5 q5 j T;obtain⟨j,p0,t,S,p3,p4,p5,-⟩:=(u.ext aa).ca;obtain⟨T,q0,q1,q2,q3,q4,q5,-⟩:=(af.ext aa).ca;clear aa;go_wp2;go_loopw [5] (fun p wr=>∃b:Nat,b<=s.frames.length/\p=.int .i64 b/\Ext i wr) (fun p _=>s.frames.length - (intOf p).toNat)
 case atStart=>exact⟨0,SV _,rfl,aN⟩
 case round=>
  obtain⟨b,hk,rfl,c⟩:=hrel;have av:=Zy c;clear p0 q0 t q1 S q2 p3 q3 p4 q4 p5 q5 j T;by_cases E:b<s.frames.length
  . have Y:(b:Int)<s.frames.length:=Zm
    have bg:(0:Int)<=b:=Zm
    obtain⟨a,m⟩:∃a,s.frames[b]?=some a:=⟨s.frames[b]'E,Ou E⟩;obtain⟨W,Z,aY,rfl,-,⟨v1,v2,rfl,n,aj⟩,-,e⟩:=aI.get m;obtain⟨U,V,rfl,-,-⟩:=n.form;obtain⟨y1,y2,rfl,-,-⟩:=aj.form;obtain⟨X,fb,aZ,rfl,-,⟨v3,v4,rfl,o,ak⟩,-,f⟩:=aK.get m;obtain⟨u1,u2,rfl,-,-⟩:=o.form;obtain⟨z1,z2,rfl,-,-⟩:=ak.form;obtain⟨j,-,t,-⟩:=(u.ext c).ca;obtain⟨T,-,q1,-⟩:=(af.ext c).ca;have q:wr.cell? (W,Z+b*6)=some (.int .i64 a.of.of.keeper):=c.je (by simpa using e 0 (.int .i64 a.of.of.keeper) rfl);have r:wr.cell? (X,fb+b*6)=some (.int .i64 a.of.of.keeper):=c.je (by simpa using f 0 (.int .i64 a.of.of.keeper) rfl);have v:=c.je (e 1 (.string a.of.of.name) rfl);have x:=c.je (e 2 (.int .i64 a.of.at_) rfl);have H:=c.je (e 3 (.int .i64 a.pc) rfl);have K:=c.je (e 4 (.slice U a.locals.length V) rfl);have L:=c.je (e 5 (.slice y1 a.stack.length y2) rfl);have y:=c.je (f 1 (.string a.of.of.name) rfl);have z:=c.je (f 2 (.int .i64 a.of.at_) rfl);have O:=c.je (f 3 (.int .i64 a.pc) rfl);have P:=c.je (f 4 (.slice u1 a.locals.length u2) rfl);have Q:=c.je (f 5 (.slice z1 a.stack.length z2) rfl);have N:=jc q;have R:=jc r;obtain⟨A,G⟩:=SS ((wr.alloc (.cells #[.int .i64 a.of.of.keeper,.string a.of.of.name,.int .i64 a.of.at_,.int .i64 a.pc,.slice U a.locals.length V,.slice y1 a.stack.length y2] 80)).alloc (.cells #[.int .i64 a.of.of.keeper,.string a.of.of.name,.int .i64 a.of.at_,.int .i64 a.pc,.slice u1 a.locals.length u2,.slice z1 a.stack.length z2] 80));have ag:Ext wr A:=by rw[G];exact Zx
    have k4:hZ A wr 80 #[.int .i64 a.of.of.keeper,.string a.of.of.name,.int .i64 a.of.at_,.int .i64 a.pc,.slice U a.locals.length V,.slice y1 a.stack.length y2]:=by rw[G];exact(hZ.new _ _ _).ext (jw _)
    have k5:hZ A (wr+1) 80 #[.int .i64 a.of.of.keeper,.string a.of.of.name,.int .i64 a.of.at_,.int .i64 a.pc,.slice u1 a.locals.length u2,.slice z1 a.stack.length z2]:=by rw[G];exact hZ.newAt _ _ Zl
    have D:=c.trans ag;have aQ:=Zy fun B l=>GG B a.locals ((n.ext mY.stays D).ext mY.stays l) ((o.ext mY.stays D).ext mY.stays l);have aR:=Zy fun B l=>GG B a.stack ((aj.ext mY.stays D).ext mY.stays l) ((ak.ext mY.stays D).ext mY.stays l);have⟨aO,aW,K4,K5⟩:=jU ag G k4 k5;clear ag D G k4 k5 n aj o ak e f m c;go_upto_region 8 with(fail);rw[<-aW.o];clear q r v y x z H O K P L Q N R t q1 j T;obtain⟨N,q,v,x,H,K,L,-⟩:=(K4).ca;obtain⟨R,r,y,z,O,P,Q,-⟩:=(K5).ca;go_wp2_with fail;refine(aQ A Kp.rr).mono ?_;rintro C w5 ⟨rfl,ae⟩;have au:=Zy ae;clear q r v y x z H O K P L Q N R;obtain⟨N,q,v,x,H,K,L,-⟩:=(K4.ext ae).ca;obtain⟨R,r,y,z,O,P,Q,-⟩:=(K5.ext ae).ca;clear ae;go_wp2_with fail;refine(aR w5 au).mono ?_;rintro C w6 ⟨rfl,az⟩;have aP:=Zy (av.trans ((aO.trans au).trans az));clear q r v y x z H O K P L Q N R az;go_wp2;go_round
    case rel=>exact⟨b+1,Zm,by go_num,aP.o⟩
    case measure=>simp[intOf];omega
  . have Y:¬(b:Int)<s.frames.length:=Zm
    obtain⟨j,-,t,-⟩:=(u.ext c).ca;clear c;go_wp2_with fail;obtain⟨wo,rfl⟩:∃wo:World,wo=wr:=⟨_,rfl⟩;obtain⟨k8,rfl⟩:∃k8:Nat,k8=b:=⟨_,rfl⟩;go_loopw [8] (fun p wr=>∃b:Nat,b<=s.heap.length/\p=.int .i64 b/\Ext i wr) (fun p _=>s.heap.length - (intOf p).toNat)
    case atStart=>exact⟨0,SV _,rfl,av⟩
    case round=>
     obtain⟨b,hk,rfl,c⟩:=hrel;have g:=Zy c;clear t j Y;by_cases E:b<s.heap.length
     . have Y:(b:Int)<s.heap.length:=Zm
       have bg:(0:Int)<=b:=Zm
       obtain⟨a,m⟩:∃a,s.heap[b]?=some a:=⟨s.heap[b]'E,Ou E⟩;obtain⟨W,Z,aY,rfl,-,⟨v1,rfl,n⟩,-,e⟩:=aJ.get m;obtain⟨U,V,rfl,-,-⟩:=n.form;obtain⟨X,fb,aZ,rfl,-,⟨v3,rfl,o⟩,-,f⟩:=aL.get m;obtain⟨u1,u2,rfl,-,-⟩:=o.form;obtain⟨j,-,-,S,-⟩:=(u.ext c).ca;have aG:i.cell? (W,Z+b*3)=some (.int .i64 a.of.keeper):=by simpa using e 0 (.int .i64 a.of.keeper) rfl
       have aH:i.cell? (X,fb+b*3)=some (.int .i64 a.of.keeper):=by simpa using f 0 (.int .i64 a.of.keeper) rfl
       obtain⟨bn,bq,bA,h⟩:=ll wr;have P2:=fun d=>(u.ext (g.trans (h.jv d))).c 2 (.slice (some ⟨W,Z,none⟩) s.heap.length c2) rfl;have Q2:=fun d=>(af.ext (g.trans (h.jv d))).c 2 (.slice (some ⟨X,fb,none⟩) s.heap.length d2) rfl;have q:=fun d=>(g.trans (h.jv d)).je aG;have r:=fun d=>(g.trans (h.jv d)).je aH;have v:=fun d=>(g.trans (h.jv d)).je (e 1 (.string a.of.name) rfl);have y:=fun d=>(g.trans (h.jv d)).je (f 1 (.string a.of.name) rfl);have x:=fun d=>(g.trans (h.jv d)).je (e 2 (.slice U a.fields.length V) rfl);have z:=fun d=>(g.trans (h.jv d)).je (f 2 (.slice u1 a.fields.length u2) rfl);have⟨aT,aU,ax⟩:=jB n o h;clear h e f n o m c aG aH;go_upto_region 13 with(fail);refine jW ax 29 [([0,1,2,3,4,5,6,7,8,9,10,11,12,13,14,15,16,17,18,19,20,21,22,23,24,25],26)] [27,28] ?_ ?_
       . exact jg
       refine uJ [_,_,_,_,_,_,_,_,_,_,_,_,_,_,_,_,_,_,_,_,_,_,_,_,_,_] rfl rfl fun aX hK=>?_;(repeat (go_big_quiet_step (fail)));refine qn hK fun K2 aA=>?_;clear hK aX;go_wp2_with fail;have ay:=g.trans jg;refine(GG wr.drew a.fields (aT.ext mY.stays ay) (aU.ext mY.stays ay)).mono ?_;rintro C w7 ⟨rfl,bf⟩;have e7:=(jg:Ext wr wr.drew).trans bf;go_wp2_with fail;refine kk ax aA e7 ?_;clear aA K2;refine rC ?_;go_wp2;go_round
       case rel=>exact⟨b+1,Zm,by go_num,g.o.trans e7⟩
       case measure=>simp[intOf];omega
     . have Y:¬(b:Int)<s.heap.length:=Zm
       obtain⟨j,-,-,S,-⟩:=(u.ext c).ca;clear c;go_wp2;go_ret;exact⟨rfl,aM.trans g⟩
open Go Go.ChangeShapes Go.WideShapes Go.ChangeAt Go.RowKit M
theorem Tryz.own:ownKnob Tryz.prog.godebug=none:=by kernel_rfl
theorem Tryz.laidOut:laidOutB Tryz.prog=true:=by kernel_rfl
theorem zL:Tryz.prog.cellsOf 5=1:=by kernel_rfl
theorem bytes_at{enc:TypeId×Value->g}{d:DataW g}(l:∃b e c,v=.slice b e c)(h0:DataW.Trod enc Tryz.prog W 0 (fun _=>true) true 22 v d p):∃f,BytesAt W v f:=by
 obtain⟨s,e,c,rfl⟩:=l;obtain⟨u,i⟩:=h0;rcases open_ints Tryz.underlying22 Tryz.underlying5 zL i with⟨a,n⟩|⟨b,y,t,f,a,_,w,x,o,n,h,m⟩
 . simp[Value.cells]at a;obtain⟨rfl,rfl,rfl⟩:=a;exact⟨[],.inl ⟨rfl,rfl⟩⟩
 . simp[Value.cells]at a;obtain⟨rfl,rfl,rfl⟩:=a;simp only[U2]at o;refine⟨f.take e,.inr ⟨b,c,by rw[Tj,U5 Zm],by rw[Tj];omega,fun q j=>?_,fun r k=>?_⟩⟩
   . rw[Tj]at j;have:=h q Zm;rw[this];congr 2;simp only[List.getD,Uu];rw[Tv Zm]
   . have:=m r (Uv k);simp[Lit.wf,IntKind.min,IntKind.max,IntKind.bits,IntKind.signed]at this;omega
theorem DF{enc:TypeId×Value->b}{fn:Func}{s:ChangeSpec}{f: World}{d:DataW b}(l:fn.params=#[22])(m:fn.resultTypes=#[4])(n:s.vars=[])
    (c:s.fn b ([d]++[])={results:=[.lit (.bool true)],args:=[d]}) (h:DataW.Whole enc Tryz.prog fn.params.toList s.vars false W [v] [d] [] a)
    (h0:DataW.Trod enc Tryz.prog W 0 (fun _=>true) true 22 v d a) (j:Ext W f):s.post enc Tryz.prog fn false true false false W #[v] (.bool true) f:=by
 have k:∀e∈a,e.block<W:=fun e o=>by simpa using h.lt e o
 have g:=Ext.Jd j;refine⟨[d],[],a,[],a,[],h,?_,?_,?_,g.frame _,fun i=>by cases i⟩
 . rw[c,m];exact trodAll_mk1 (shut_bool Tryz.underlying4 true)
 . rw[c,l];exact trodAll_mk1 (Below.trod Tryz.laidOut Zo (Uo Zo) h0 g k)
 . rw[c,n];exact(rfl:([]:List MemPlace)=[])
end Go.Proofs.YtlhgbjbkjalfjaaGreat
namespace Go.Proofs.YtlhgbjbkjalfjaaGreat
open Go Go.RowKit M
variable {cs: List Value}{I: Nat->Prop}{x y z: RW}{w: World}
theorem lh.inside(a:lh w I x cs):lh w (fun b=>I b/\b<w) x cs:=by
 obtain⟨j,i,k,c,d,e,f,g,h⟩:=a;exact⟨j,i,k,c,d,e.inside (fun _ _ _ _ a=>ja.inside a) Zn,f.inside (fun _ _ _ _ a=>a) Zn,g.inside (fun _ _ _ _ a=>a) Zn,h.Aw⟩
theorem lh.form(m:lh w I x cs):∃g a h b i c j d k e l f,cs=[.slice g x.p.length a,.slice h x.b.jI.length b,.slice i x.b.jq.length c,.int .i64 x.s.status,.slice j x.s.frames.length d,.slice k x.s.heap.length e,.slice l x.s.outs.length f,.int .i64 x.s.back.kind,.int .i64 x.s.back.n]:=by
 obtain⟨t,s,u,r,rfl,n,o,p,q⟩:=m;obtain⟨_,_,_,_,_,_,rfl,-⟩:=q.form;obtain⟨_,_,rfl,-⟩:=n.form;obtain⟨_,_,rfl,-⟩:=o.form;obtain⟨_,_,rfl,-⟩:=p.form;exact⟨_,_,_,_,_,_,_,_,_,_,_,_,rfl⟩
theorem lh.parts{a b c d e f g h i:Value}(k:lh w I x [a,b,c,d,e,f,g,h,i]):SliceOf 2 ja w I a x.p/\SliceOf 4 nG w I b x.b.jI/\SliceOf 3 lq w I c x.b.jq/\kg w I x.s [d,e,f,g,h,i]:=by
 obtain⟨r,q,s,p,j,l,m,n,o⟩:=k;cases j;exact⟨l,m,n,o⟩
structure M.Hp(y z:RW):Prop where
 ok:wD z
 le:y.b.le z.b
 st:stays y.p z.p y.b
theorem M.Hp.turn(a:z.b=y.b)(b:stays y.p z.p y.b)(c:wD z):Hp y z:=⟨c,by rw[a];exact Book.le.refl _,b⟩
theorem M.Hp.step(b:wD y)(a:z.p=y.p)(c:wD z)(hl:y.b.le z.b):Hp y z:=⟨c,hl,by rw[a];exact stays.refl b.book⟩
structure M.OZ(s s1:St):Prop where
 outs:s.outs.length<=s1.outs.length
 len:s.heap.length<=s1.heap.length
 heap:∀(k:Nat) (a:qG),s.heap[k]?=some a->∃a',s1.heap[k]?=some a'/\a'.of=a.of
theorem M.OZ.refl(s:St):OZ s s:=⟨T9 _,T9 _,fun _ a b=>⟨a,b,rfl⟩⟩
theorem M.OZ.step{p:iZ}(l:kQ p=true){s:St}(h:CO p s=true):OZ s (M.step p true s):=by
 by_cases e:s.status=1
 . obtain⟨q,r,o,a,-,-,-,m,c,-,-⟩:=Rn l (wm.1 h) e true;have b:(end_ a.1 a.2).outs=a.2.outs/\(end_ a.1 a.2).heap=a.2.heap:=by unfold end_;split<;>exact⟨rfl,rfl⟩
   rw[m];refine⟨?_,?_,fun n f k=>?_⟩
   . rw[b.1];rcases c.outs with d|⟨t,d⟩<;>rw[d]
     . exact T9 _
     . simp
   . rw[b.2];exact c.heap.1
   . rw[b.2];obtain⟨g,i,j,-⟩:=c.heap.2.2 n f k;exact⟨g,i,j⟩
 . rw[show M.step p true s=s by unfold M.step;rw[Tt e]];exact OZ.refl s
theorem Gv:Qh 4:=by
 intro ak dH zs c;by_cases hl:zs.length<=1048576;rotate_left
 . obtain⟨va,vc,rfl⟩:=c.form;have aZ:(1048576:Int)<zs.length:=Zm
   clear c hl;go_enter Tryz.func4,Tryz.ntmps4;go_wp2;go_ret;exact⟨rfl,Kp.rr⟩
 have HD:=Zy (A7 ak dH zs c);obtain⟨va,vc,rfl⟩:=c.form;have aZ:((1048576:Int)<zs.length)=False:=VB Zm;clear c hl;go_enter Tryz.func4,Tryz.ntmps4;go_wp2_with fail;refine HD.mono ?_;rintro f w1 ⟨⟨pl,pa,pc,dF,dE,bW,bY,bX,cB,bZ,y,rfl,hp,ha,aY,W⟩,aT⟩;obtain⟨w2,bu,z,b2⟩:=nu w1 #[.slice pa pl.length pc] 25;obtain⟨-,e0,-⟩:=b2.ca;have⟨bM,bP,af,bJ,bH,dK⟩:=nE (KP w2 (fun b=>ak<=b/\b<w1) (fun b c=>Tx c.2 z.size) pl (hp.ext ja.stays z) dF dE bX bW bY ((ha.inside (fun _ _ _ _ d=>d) Zn).ext oW.stays z)) bu (aT.trans z) ((W.inside (fun _ _ _ _ d=>EvL.inside d) Zn).ext EvL.stays z) z aY;clear bu aT z b2 hp ha HD W aY;go_upto_region 4 with(fail);rw[<-bP.o];go_wp2_with fail;refine bM.mono ?_;rintro f w3 ⟨⟨j,cs,rfl,hx,bn⟩,aH⟩;have dB:=hx.form;obtain⟨f0,c0,f1,c1,f2,c2,f3,c3,f4,c4,f5,c5,rfl⟩:=dB;obtain⟨w4,bz,aI,b4⟩:=nu w3 #[.slice f0 j.p.length c0,.slice f1 j.b.jI.length c1,.slice f2 j.b.jq.length c2,j.s.status,.slice f3 j.s.frames.length c3,.slice f4 j.s.heap.length c4,.slice f5 j.s.outs.length c5,j.s.back.kind,j.s.back.n] 41;obtain⟨-,-,-,-,u,-⟩:=b4.ca;have⟨HX,bL,bQ,aQ,ag,aj⟩:=nE (lh.stays _ _ _ _ _ _ (Ext.same aI) (fun _ d=>d) (lh.inside hx)) bn bz b4 (aH.trans aI) (Tn aH.size b4.lt);clear hx bn bz b4 aH aI e0;go_upto_region 5 with(fail);rw[<-bQ.o];by_cases Y:j.s.status=0
 . have dz:=Uq.2 Y;clear Y;go_wp2_with fail;refine(DT _).mono ?_;rintro f k ⟨rfl,rfl⟩;go_wp2;go_ret;exact⟨rfl,af.trans ag⟩
 have dz:((j.s.status:Int)==0)=false:=by simpa using Y
 have hv:=bL.resolve_left Y;have HV:=Zy hv;clear hv Y;obtain⟨g,aS⟩:∃g,g=w3.heap.size:=⟨_,rfl⟩;rw[<-aS]at aQ HX aj u |-;have bE:=bH.size;have x:Zz (w1.heap.size<=g/\g<w4.heap.size/\ak.heap.size<=g):=Zy ⟨TL bE aj.1,aj.2,SY af.size aj.1⟩;clear aS bE;go_wp2_with fail;clear u;go_loopw [9] (fun B wr=>∃(t:Nat) (e:RW) (cy:List Value),t<=y.length/\B=.int .i64 t/\Kp (·=g) w4 wr/\hZ wr g 41 cy.toArray/\lh wr (fun b=>b≠g/\b<wr) e cy/\wD e) (fun B _=>y.length - (intOf B).toNat)
 case atStart=>exact⟨0,j,_,SV _,rfl,Kp.rr,aQ,lh.stays _ _ _ _ _ _ (fun _ _ _ _ d=>d) (fun b c=>⟨SX c.2,SY c.2 x.o⟩) HX.o,HV.o.2⟩
 case round=>
  obtain⟨t,e,cy,hk,rfl,i,c,hR,bD⟩:=hrel;obtain⟨g0,d0,g1,d1,g2,d2,g3,d3,g4,d4,g5,d5,rfl⟩:=lh.form hR;by_cases bf:t<y.length;rotate_left
  . have dn:¬(t:Int)<(y.length:Int):=Zm
    clear bf;have U:=((af.trans ag).own i fun b f=>SX x.o);have aC:=Zy U;clear U;go_wp2_with fail;refine(DT _).mono ?_;rintro f k ⟨rfl,rfl⟩;go_wp2;go_ret;exact⟨rfl,aC⟩
  have dn:(t:Int)<(y.length:Int):=Zm
  by_cases dP:(t:Int)<60;rotate_left
  . have U:=((af.trans ag).own i fun b f=>SX x.o);have aC:=Zy U;clear U;go_wp2_with fail;refine(DT _).mono ?_;rintro f k ⟨rfl,rfl⟩;go_wp2;go_ret;exact⟨rfl,aC⟩
  obtain⟨ev,W⟩:=get_some bf;have cO:Kp (fun b=>b=g) w4 wr:=i;have bq:SliceOf 8 EvL wr (fun b=>ak<=b/\b<w1) (.slice cB y.length bZ) y:=(bJ.ext EvL.stays ag).keep EvL.stays (Kp.same i fun b c f=>SX x.o) fun _ d=>d;obtain⟨gb,dV,ce,rfl,dQ,aM,-,aL⟩:=bq.get W;have df:=aM;obtain⟨a1,m1,a2,m2,rfl,-⟩:=df;obtain⟨s,I,J,K,L,N,O,P⟩:=aL.eight;have jz:=jc s;obtain⟨sz,u,s1,s2,s3,s4,s5,s6,s7,s8,-⟩:=c.ca;obtain⟨k,bA,F,b5⟩:=nu wr #[.slice g0 e.p.length d0,.slice g1 e.b.jI.length d1,.slice g2 e.b.jq.length d2,e.s.status,.slice g3 e.s.frames.length d3,.slice g4 e.s.heap.length d4,.slice g5 e.s.outs.length d5,e.s.back.kind,e.s.back.n] 41;have⟨bR,HK,HB,C,HR,bI,aR,E,aB⟩:=sV bA i (c.ext F) b5 (lh.stays _ _ _ _ _ _ (Ext.same F) (fun _ d=>d) hR) (EvL.stays _ _ _ _ _ _ (Ext.same F) (fun _ d=>d) aM) (aL.ext F) bD F;have q:Zz (gb≠wr/\g<wr.heap.size/\(w4:Nat)<=wr):=Zy ⟨SY x.o i.size,SY x.o i.size,i.size⟩;clear i cO c hR bD W bq aM aL bA b5 F;go_upto_region 11 with(fail);rw[<-bR.o];clear s I J K L N O P u s1 s2 s3 s4 s5 s6 s7 s8 jz sz;obtain⟨s,I,J,K,L,N,O,P⟩:=aR.eight;have jz:=jc s;by_cases ay:ev.kind=0;rotate_left;focus
   have dm:(ev.kind !=0)=true:=TI.2 ay
   clear ay
   go_upto_region 12 with(fail)
   clear s I J K L N O P jz
   obtain⟨bV,cu,dw,h⟩:=qC.ex (fun W'=>Kp (·=wr) k W') _ Kp.rr
   obtain⟨-,u,s1,s2,s3,s4,s5,s6,s7,s8,-⟩:=hZ.lC fun a=>HB.kp (h.jv a) fun f=>SX q.o
   have n:=fun a=>(aR.kp (h.jv a) q.1).eight
   have s:=fun a=>(n a).1
   have I:=fun a=>(n a).2.1
   have J:=fun a=>(n a).2.2.1
   have K:=fun a=>(n a).2.2.2.1
   have L:=fun a=>(n a).2.2.2.2.1
   have N:=fun a=>(n a).2.2.2.2.2.1
   have O:=fun a=>(n a).2.2.2.2.2.2.1
   have P:=fun a=>(n a).2.2.2.2.2.2.2
   have w:=Zy h
   clear h n
   refine jW w 11 [([0,1,2,3,4,5],6),([7,8,9],10)] [] ?_ ?_
   . exact jg
   refine lJ ?_;intro K2 V
   go_wp2_with fail
   have hD:Ext k k.drew:=jg
   refine(I1 k.drew (fun b=>b≠g/\b<wr) (fun b c=>by have:=aB.size;have:=c.2;simp;omega) e (lh.stays _ _ _ _ _ _ (Ext.same hD) (fun _ d=>d) HR.o) E.o ev (EvL.stays _ _ _ _ _ _ (Ext.same hD) (fun b c=>S9 x.o q.o c.2) bI.o)).mono ?_
   rintro f w6 ⟨⟨a,cz,tb,rfl,H,Z,ae,aa,A⟩,G⟩
   obtain⟨p0,q0,p1,q1,p2,q2,p3,q3,p4,q4,p5,q5,rfl⟩:=lh.form A
   have aJ:=hD.trans G
   have m:=C.ext aJ
   obtain⟨k0,k1,k2,k3,k4,k5,k6,k7,k8,-⟩:=m.fz
   obtain⟨kz,i0,i1,i2,i3,i4,i5,i6,i7,i8,-⟩:=m.ca
   have⟨Q,S⟩:=jf m (lh.inside A)
   have v:=Zy aJ
   have D:Zz (Hp e a/\OZ e.s a.s):=Zy ⟨Hp.turn Z ae aa,by rw[H];exact OZ.refl _⟩
   have aG:=Zy H
   clear Z ae aa A m G aJ hD H
   go_wp2_with fail
   refine kk w V v.any ?_;clear V K2
   refine lJ ?_;intro K2 V
   go_wp2_with fail
   obtain⟨w8,bB,aW,X⟩:=OJ Q (.slice p0 a.p.length q0) (.slice p1 a.b.jI.length q1) (.slice p2 a.b.jq.length q2) (.int .i64 a.s.status) (.slice p3 a.s.frames.length q3) (.slice p4 a.s.heap.length q4) (.slice p5 a.s.outs.length q5) (.int .i64 a.s.back.kind) (.int .i64 a.s.back.n)
   rw[<-bB]
   refine kk w V (v.any.trans X) ?_;clear V K2
   clear w u s1 s2 s3 s4 s5 s6 s7 s8 s I J K L N O P k0 k1 k2 k3 k4 k5 k6 k7 k8 kz i0 i1 i2 i3 i4 i5 i6 i7 i8 bB
   refine tH rfl ?_
   have aD:Zz (lh w8 (fun b=>b≠wr/\b≠g/\b<w8) a _):=Zy (lh.stays _ _ _ _ _ _ (Kp.same X fun b c f=>by
    have:=C.lt;rcases c.1 with d|d
    . have:=d.2;omega
    . simp at d;omega) (fun b c=>by
    have h5:=C.lt;have h6:=c.2;have h7:=X.size;have h8:=q.o;rcases c.1 with d|d
    . exact⟨SX d.2,d.1,Zm⟩
    . simp at d;exact⟨Zm,Zm,Zm⟩) S.o)
   have ah:Zz (Kp (·=wr) k w8):=Zy (v.any.trans X)
   have az:=Zy aW
   clear aW X Q S v
   have aP:=aD.parts.2.2.2
   rw[aG.o]at aP
   have aV:lh w8 (fun b=>b≠g/\b<wr) e _:=lh.stays _ _ _ _ _ _ (Kp.same ah fun b c f=>SX c.2) (fun _ d=>d) HR.o
   have bK:=Zy (Ra w8 e.s aP aV.parts.2.2.2)
   obtain⟨zz,-,-,-,u3,u4,u5,u6,u7,u8,-⟩:=az.ca
   obtain⟨yz,-,-,-,y3,y4,y5,y6,y7,y8,-⟩:=(HB.kp ah fun f=>SX q.o).ca
   rw[aG.o]at u3 u4 u5 u6 u7 u8
   clear aP aV
   go_wp2_with fail
   refine bK.mono ?_
   rintro f p ⟨rfl,T⟩
   have aF:Zz (lh p (fun b=>b≠wr/\b≠g/\b<p) a _):=Zy (lh.stays _ _ _ _ _ _ (Ext.same T) (fun b c=>⟨c.1,c.2.1,Tx c.2.2 T.size⟩) aD)
   have ai:Zz (Kp (·=wr) k p):=Zy (ah.trans T.any)
   have aA:=Zy (az.ext T)
   clear zz u3 u4 u5 u6 u7 u8 yz y3 y4 y5 y6 y7 y8 T aD ah az aG
   go_upto_region 16 with(fail)
  rotate_left;focus
   have dm:(ev.kind !=0)=false:=by rw[ay];rfl
   clear ay
   obtain⟨sz,u,s1,s2,s3,s4,s5,s6,s7,s8,-⟩:=HB.ca
   have bN:=Zy (IZ k (fun b=>b≠g/\b<wr) (fun b c=>Tx c.2 aB.size) e (lh.stays _ _ _ _ _ _ (fun _ _ _ _ d=>d) (fun _ d=>d) HR) E)
   go_wp2_with fail
   refine bN.mono ?_
   rintro f w6 ⟨⟨a,cz,rfl,ae,H,⟨aa,Z⟩,A⟩,G⟩
   obtain⟨p0,q0,p1,q1,p2,q2,p3,q3,p4,q4,p5,q5,rfl⟩:=lh.form A
   have m:=C.ext G
   obtain⟨k0,k1,k2,k3,k4,k5,k6,k7,k8,-⟩:=m.fz
   obtain⟨kz,i0,i1,i2,i3,i4,i5,i6,i7,i8,-⟩:=m.ca
   have⟨Q,S,v⟩:=jB m (lh.inside A) G
   have D:Zz (Hp e a/\OZ e.s a.s):=Zy ⟨Hp.step E ae aa Z,by rw[H];exact OZ.step E.kr E.vm⟩
   clear Z ae aa A m G H u s1 s2 s3 s4 s5 s6 s7 s8 sz s I J K L N O P jz
   go_upto_region 16 with(fail)
   obtain⟨p,bC,aX,ax⟩:=OJ Q (.slice p0 a.p.length q0) (.slice p1 a.b.jI.length q1) (.slice p2 a.b.jq.length q2) (.int .i64 a.s.status) (.slice p3 a.s.frames.length q3) (.slice p4 a.s.heap.length q4) (.slice p5 a.s.outs.length q5) (.int .i64 a.s.back.kind) (.int .i64 a.s.back.n)
   rw[<-bC]
   have aF:Zz (lh p (fun b=>b≠wr/\b≠g/\b<p) a _):=Zy (lh.stays _ _ _ _ _ _ (Kp.same ax fun b c f=>by
    have:=C.lt;rcases c.1 with d|d
    . have:=d.2;omega
    . omega) (fun b c=>by
    have h5:=C.lt;have h6:=c.2;have h7:=ax.size;have h8:=q.o;rcases c.1 with d|d
    . exact⟨SX d.2,d.1,Zm⟩
    . exact⟨Zm,Zm,Zm⟩) S.o)
   have ai:Zz (Kp (·=wr) k p):=Zy (v.any.trans ax)
   have aA:=Zy aX
   clear k0 k1 k2 k3 k4 k5 k6 k7 k8 kz i0 i1 i2 i3 i4 i5 i6 i7 i8 bC aX ax Q S v
  all_goals
   have l:=HB.kp ai fun f=>SX q.o
   have aU:lh p (fun b=>b≠g/\b<wr) e _:=lh.stays _ _ _ _ _ _ (Kp.same ai fun b c f=>SX c.2) (fun _ d=>d) HR.o;have⟨bG,bO⟩:=jf l aU;obtain⟨yz,y0,y1,y2,y3,y4,y5,y6,y7,y8,-⟩:=l.ca;obtain⟨zz,u0,u1,u2,u3,u4,u5,u6,u7,u8,-⟩:=aA.ca;clear l aU;obtain⟨-,-,-,ys⟩:=bO.parts;obtain⟨-,-,-,dJ⟩:=aF.parts;obtain⟨_,_,_,e1,-,yh,-⟩:=ys;obtain⟨_,_,_,e2,-,zh,-⟩:=dJ;cases e1;cases e2;have⟨bS,bT⟩:=jf yh zh;have dR:e.s.heap.length<=12:=(Bc.1 E.vm).2.1;have dU:¬(a.s.heap.length:Int)<(e.s.heap.length:Int):=SX D.2.len
   have aZ:¬(a.s.outs.length:Int)<(e.s.outs.length:Int):=SX D.2.outs
   clear yh zh;go_upto_region 18 with(fail);clear yz y0 y1 y2 y3 y4 y5 y6 y7 y8 zz u0 u1 u2 u3 u4 u5 u6 u7 u8;go_wp2;go_loopw [11] (fun B wr=>∃o:Nat,o<=e.s.heap.length/\B=.int .i64 o/\Ext p wr) (fun B _=>e.s.heap.length - (intOf B).toNat)
   case atStart=>exact⟨0,SV _,rfl,Kp.rr⟩
   case round=>
    obtain⟨o,hj,rfl,r⟩:=hrel;have l:=bG.ext r;have au:=aA.ext r;obtain⟨yz,y0,y1,y2,y3,y4,y5,y6,y7,y8,-⟩:=l.ca;obtain⟨zz,u0,u1,u2,u3,u4,u5,u6,u7,u8,-⟩:=au.ca;by_cases dh:o<e.s.heap.length
    . have di:(o:Int)<(e.s.heap.length:Int):=Zm
      have dS:(o:Int)<(a.s.heap.length:Int):=SX D.2.len
      obtain⟨o1,aO⟩:=get_some dh;obtain⟨o2,bg,dx⟩:=D.2.heap o o1 aO;obtain⟨b1,dN,dL,dC,-,⟨v1,rfl,-⟩,-,aK⟩:=(bS.ext wC.stays r).get aO;obtain⟨b2,dO,dM,dD,-,⟨v2,rfl,-⟩,-,av⟩:=(bT.ext wC.stays r).get bg;rw[dx]at av;subst dC dD;obtain⟨bV,cu,dw,h⟩:=ll wr;obtain⟨-,-,-,-,-,-,dI,-⟩:=hZ.lC fun a=>l.ext (h.jv a);obtain⟨-,-,-,-,-,-,dG,-⟩:=hZ.lC fun a=>au.ext (h.jv a);have m0:=fun a=>(aK.ext (h.jv a)).three.1;have m1:=fun a=>(aK.ext (h.jv a)).three.2.1;have n0:=fun a=>(av.ext (h.jv a)).three.1;have n1:=fun a=>(av.ext (h.jv a)).three.2.1;have⟨w,R⟩:=jf h r;clear l au aK av h aO bg r;go_upto_region 21 with(fail);clear yz y0 y1 y2 y3 y4 y5 y6 y7 y8 zz u0 u1 u2 u3 u4 u5 u6 u7 u8;refine jW w 15 [] [0,1,2,3,4,5,6,7,8,9,10,11,12,13,14] ?_ ?_
      . exact jg
      refine AJ [_,_,_,_,_,_,_,_,_,_,_,_,_,_,_] rfl rfl fun bU i=>?_;(repeat (go_big_quiet_step (fail)));refine qn i ?_;clear i bU;clear w m0 m1 n0 n1 dI dG;go_wp2_with fail;exact⟨⟨o+1,Zm,by go_num,R.o.trans jg⟩,by simp[intOf];omega⟩
    . have di:¬(o:Int)<(e.s.heap.length:Int):=Zm
      have R:=Zy r;obtain⟨x0,x1,x2,x3,x4,x5,x6,x7,x8,-⟩:=l.fz;have bF:=Zy l;clear l au r;go_wp2_with fail;obtain⟨dW,dA,cZ,aN⟩:=OJ bF (.slice p0 a.p.length q0) (.slice p1 a.b.jI.length q1) (.slice p2 a.b.jq.length q2) (.int .i64 a.s.status) (.slice p3 a.s.frames.length q3) (.slice p4 a.s.heap.length q4) (.slice p5 a.s.outs.length q5) (.int .i64 a.s.back.kind) (.int .i64 a.s.back.n);rw[<-dA];have cK:=((aB.any.trans ai).trans R.any);refine⟨⟨t+1,a,[_,_,_,_,_,_,_,_,_],Zm,by go_num,?_,cZ,lh.stays _ _ _ _ _ _ (Kp.same aN fun b c f=>c.2.1 f) (fun b c=>⟨c.2.1,S9 R.o.size aN.size c.2.2⟩) (lh.stays _ _ _ _ _ _ (Ext.same R.o) (fun _ d=>d) aF.o),D.o.1.ok⟩,by simp[intOf];omega⟩;exact(HK.Ri cK fun b f=>.inr (SX q.o)).trans aN
open Go Go.ChangeShapes Go.WideShapes Go.ChangeAt Go.RowKit M
theorem Ar(i:Os)(v:i.Started)(m:Type)(enc:TypeId×Value->m):ReturnsInHanded {} Tryz.checked i 4 .any (Rows.fnRunNooneSpec.pre6 enc Tryz.prog Tryz.f4 Rows.fnRunNooneRow.domain false) (Rows.fnRunNooneSpec.post enc Tryz.prog Tryz.f4 false true false false):=by
 refine returnsInHanded_of_change (C:=Tryz.checked) Tryz.own v Zo Tryz.func4
  (ChangeSpec.witness6 (enc:=enc) (C:=Tryz.checked) false ⟨#[],#[()],[]⟩ 8 Zo Zo Zo Zo) ?_
 intro a n b o B y t e C _;have g:∀(h:Nat) j k,Tryz.f4.params[h]?=some j->b[h]?=some k->Value.okWide Tryz.prog a .any n j k:=t;have f:=e;obtain⟨u,F,p,q,rfl,D,E⟩:=e;have d:DataW.TrodAll enc Tryz.prog a 0 (fun _=>true) true Tryz.f4.params.toList b.toList o u:=p;rw[Tryz.params4]at d g;obtain⟨l,z,rfl,rfl,c⟩:=trodAll_one d;obtain⟨rfl,rfl⟩:=trodVars_none q;simp only[List.append_nil]at f;obtain⟨w,r⟩:=bytes_at (okWide_slice Tryz.underlying22 (g 0 22 l rfl rfl)) c;refine(Gv a l w r).mono fun A x ⟨s,hE⟩=>?_;subst s;exact⟨_,rfl,DF (fn:=Tryz.f4) Tryz.params4 rfl rfl rfl f c hE⟩
theorem EU:Tryz.prog.inPlace 4=Rows.fnRunNooneRow.inPlace:=by kernel_rfl
theorem zy:Tryz.prog.unfollowed 4=true:=by kernel_rfl
theorem EW:Tryz.prog.varsNamed 4=Rows.fnRunNooneRow.named:=by kernel_rfl
theorem EX:Tryz.prog.recurses 4=true:=by unfold Program.recurses;rw[zy];rfl
theorem EY:joinedFacts Tryz.prog 4 Tryz.f4 Rows.fnRunNooneSpec Rows.fnRunNooneRow=true:=by
 unfold joinedFacts;rw[EU,zy,EW,EX];kernel_rfl
theorem fnRunNoone_holds:Rows.FnRunNooneSaid:=
 OpenClaim.holds_of_wide 4 Tryz.f4 rfl rfl rfl rfl rfl rfl rfl ⟨rfl,rfl,rfl,rfl,rfl⟩ rfl rfl rfl rfl rfl Zo Tryz.func4 EY
  (Uo Zo) (by unfold Func.isWrapper;rw[Tt (by decide+kernel)];exact⟨rfl,rfl⟩)
  (fun c d a b _=>Ar c d a b)
#print axioms fnRunNoone_holds
end Go.Proofs.YtlhgbjbkjalfjaaGreat
