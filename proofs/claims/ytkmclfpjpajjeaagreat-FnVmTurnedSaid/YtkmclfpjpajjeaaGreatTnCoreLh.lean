/- Walks. -/
import Derived.Test.YtkmclfpjpajjeaaGreatTnCoreLg
set_option maxRecDepth 100000
set_option maxHeartbeats 4000000
set_option linter.unusedSimpArgs false
set_option linter.unusedVariables false
namespace Go.Proofs.YtkmclfpjpajjeaaGreat
open Go Go.RowKit
def NM(w w':World)(e:Ending):Prop:=∃(n m:ByteArray) (a:Option Addr) (c:Nat) (args:List Int),e=.returned (.tuple #[.string n,.string m,.slice a args.length c])∧SliceOf 1 jQ w' (fun b=>w.heap.size≤b) (.slice a args.length c) args∧args.length≤1∧n.size≤20∧m.size≤20
theorem Ll{w w':World}{g:Nat}{n m:ByteArray}(hn:n.size≤20)(hm:m.size≤20):NM w w' (.returned (.tuple #[.string n,.string m,.slice (some ⟨g,0,none⟩) 0 0])):=
 ⟨n,m,_,_,[],rfl,⟨_,_,rfl,Nat.le_refl _,by simp,fun i x hx=>by simp at hx⟩,by simp,hn,hm⟩
theorem xN{w w':World}{g c:Nat}{n m:ByteArray}{x:Int}(hc:ae w' g 0 [.int .i64 x])(hg:w.heap.size≤g)(h1:1≤c)(hn:n.size≤20)(hm:m.size≤20):NM w w' (.returned (.tuple #[.string n,.string m,.slice (some ⟨g,0,none⟩) 1 c])):=
 ⟨n,m,_,_,[x],rfl,SliceOf.row (R:=jQ) (xs:=[x]) [[.int .i64 x]] hc rfl Wf ⟨rfl,trivial⟩ hg h1 Wf,by simp,hn,hm⟩
theorem YP{k:Nat}(cs:List Value)(hk:k<cs.length)(h:cs.all QE=true):∃s:ByteArray,(∀h:k<cs.length,cs[k]'h=.string s)∧s.size≤20:=by
 have h1:=List.all_eq_true.1 h cs[k] Wf;unfold QE at h1;split at h1
 · rename_i s hs;exact⟨s,fun _=>hs,by simpa using h1⟩
 · cases h1
theorem Sk(w:World)(rb p:Nat)(v:Value)(zs:List Int)(h:kJ w rb v zs p)(hp:p≤700000):
    Calls Tryz.prog 16 #[.pointer (some ⟨rb,0,none⟩)] w fun e w'=>NM w w' e∧(∃q,q≤p+10∧kJ w' rb v zs q)∧Kp (·=rb) w w':=by
 have dZ:=Z3 h.below;obtain⟨w1,jX,bH,b1⟩:=nu w #[.int .i64 0,.int .i64 1,.int .i64 3,.int .i64 5,.int .i64 (-1),.int .i64 9999] 3;have⟨BA,tL,BB⟩:=bg (dJ w1 rb p v zs 6 (h.ext bH) Wg Wg) b1 jX;have eQ:Zs (Kp (·=rb) w w1):=Z3 bH.any;clear h jX bH b1;go_enter Tryz.func16,Tryz.ntmps16;go_wp2_with fail;rw[←BB.o];refine BA.o.mono ?_;rintro e w2 ⟨⟨k,rfl,hk⟩,DR,ag⟩;have uC:k<6:=by omega
 obtain⟨x,hx, -, -⟩:=Et (k:=k) (tL.o.kp ag (by have:=dZ.o.1;omega)) X2 Wk;obtain⟨w3,jD,dK,b3⟩:=nu w2 #[.int .i64 x] 3;have hxz:=aF hx;have⟨HP3,gN,mV⟩:=bg (dJ w3 rb (p+1) v zs 12 (DR.ext dK) Wg Wg) b3 jD;have jc:Zs (Kp (·=rb) w w3):=Z3 ((eQ.o.trans ag).trans dK.any);obtain⟨g,hg⟩:∃g,g=w2.heap.size:=⟨_,rfl⟩;have HG:Zs (w.heap.size≤g):=Z3 (by have:=eQ.o.size;have:=ag.size;omega);have HGR:Zs (g≠rb):=Z3 (by have:=DR.below.1;omega);clear jD dK b3 DR ag hk BA;go_wp2_with fail;rw[←mV.o];refine HP3.o.mono ?_;rintro e w4 ⟨⟨t,rfl,ht⟩,UU,nQ⟩;have ahk:t=0∨t=1∨t=2∨t=3∨t=4∨t=5∨(6≤t∧t<12):=by omega
 rw[←hg]at gN ⊢;have⟨kP,iG,zi⟩:=bg (gN.o.kp nQ HGR.o) (jc.o.trans nQ) UU;clear UU nQ ht HP3 hx hxz hg;rcases ahk with rfl|rfl|rfl|rfl|rfl|rfl|⟨t6,t12⟩
 · go_wp2_with fail;refine bodyPost_ret (v:=.tuple #[.string ⟨#[116,111,112]⟩,.string ⟨#[103,101,116]⟩,.slice (some ⟨w4.heap.size,0,none⟩) 0 0]) (by simp[results,Tryz.results16,go_sem]) rfl ?_;exact⟨Ll Wk Wk,⟨_,by omega,zi.o.ext (Kp.rr.alloc _)⟩,iG.o.trans (Kp.rr.alloc _)⟩
 · go_wp2_with fail;refine bodyPost_ret (v:=.tuple #[.string ⟨#[99,101,108,108]⟩,.string ⟨#[103,101,116]⟩,.slice (some ⟨w4.heap.size,0,none⟩) 0 0]) (by simp[results,Tryz.results16,go_sem]) rfl ?_;exact⟨Ll Wk Wk,⟨_,by omega,zi.o.ext (Kp.rr.alloc _)⟩,iG.o.trans (Kp.rr.alloc _)⟩
 · have HZ4:=Z3 iG.o.size;go_wp2_with fail;refine bodyPost_ret (v:=.tuple #[.string ⟨#[109,97,105,110]⟩,.string ⟨#[114,117,110]⟩,.slice (some ⟨w4.heap.size,0,none⟩) 1 1]) (by simp[results,Tryz.results16,go_sem]) rfl ?_;exact⟨xN (ae.fB _ _ rfl) HZ4.o (Nat.le_refl _) Wk Wk,⟨_,by omega,zi.o.ext (Kp.rr.alloc _)⟩,iG.o.trans (Kp.rr.alloc _)⟩
 · go_wp2_with fail;refine bodyPost_ret (v:=.tuple #[.string ⟨#[109,97,105,110]⟩,.string ⟨#[110,111,110,101]⟩,.slice (some ⟨g,0,none⟩) 1 1]) (by simp[results,Tryz.results16,go_sem]) rfl ?_;exact⟨xN (ae.gM kP.o) HG.o (Nat.le_refl _) Wk Wk,⟨_,by omega,zi.o⟩,iG.o⟩
 · go_wp2_with fail;refine bodyPost_ret (v:=.tuple #[.string ⟨#[65]⟩,.string ⟨#[114,117,110]⟩,.slice (some ⟨g,0,none⟩) 1 1]) (by simp[results,Tryz.results16,go_sem]) rfl ?_;exact⟨xN (ae.gM kP.o) HG.o (Nat.le_refl _) Wk Wk,⟨_,by omega,zi.o⟩,iG.o⟩
 · go_wp2_with fail;refine bodyPost_ret (v:=.tuple #[.string ⟨#[116,111,112]⟩,.string ⟨#[98,117,109,112]⟩,.slice (some ⟨g,0,none⟩) 1 1]) (by simp[results,Tryz.results16,go_sem]) rfl ?_;exact⟨xN (ae.gM kP.o) HG.o (Nat.le_refl _) Wk Wk,⟨_,by omega,zi.o⟩,iG.o⟩
 · go_upto_region 15 with(fail);first|(go_region_with (go_at_call 35;refine(dJ _ rb (p+1+1) v zs 4 (zi.o.ext kx) Wg Wg).mono ?_;rintro e w5 ⟨⟨j,rfl,hj⟩,vg,gU⟩;(have hj4:j<4:=by omega);have yJ:=Z3 vg;have oW:=Z3 gU;clear vg hj;(first|(with_reducible change Kp (·=rb) (w4.alloc (.cells #[.string ⟨#[114,117,110]⟩,.string ⟨#[114,117,110]⟩,.string ⟨#[115,117,109]⟩,.string ⟨#[99,97,115,116]⟩] 9)).drew w5 at gU;have vM:=Z3 (((Kp.rr.alloc _).drew).trans gU);have Vo:=ru (k:=j) (((ay.new w4 9 #[.string ⟨#[114,117,110]⟩,.string ⟨#[114,117,110]⟩,.string ⟨#[115,117,109]⟩,.string ⟨#[99,97,115,116]⟩]).ext (Kp.rr.drew)).kp gU (by have:=zi.o.below.1;omega)) X2 Wk;clear gU;obtain⟨u,hu,G8⟩:=Vo;have huz:=aF hu)|(with_reducible change Kp (·=rb) w4.drew w5 at gU;have vM:=Z3 ((Kp.rr.drew).trans gU);have Vo:=YP (k:=j) [.string ⟨#[114,117,110]⟩,.string ⟨#[114,117,110]⟩,.string ⟨#[115,117,109]⟩,.string ⟨#[99,97,115,116]⟩] X2 Wk;clear gU;obtain⟨u,hu,G8⟩:=Vo))))|fail
   all_goals
    go_wp2_with fail;refine bodyPost_ret (v:=.tuple #[.string ⟨#[109,97,105,110]⟩,.string u,.slice (some ⟨g,0,none⟩) 1 1]) (by simp[results,Tryz.results16,go_sem,hu]) rfl ?_;have fM:=(Kp.refl (·=rb) w4).trans vM.o;first
    |exact⟨xN (ae.gM (kP.o.kp fM HGR.o)) HG.o (Nat.le_refl _) Wk G8,⟨_,by omega,yJ.o⟩,iG.o.trans fM⟩
    |exact⟨xN (ae.gM ((kP.o.kp fM HGR.o).ext (Kp.rr.alloc _))) HG.o (Nat.le_refl _) Wk G8,⟨_,by omega,yJ.o.ext (Kp.rr.alloc _)⟩,(iG.o.trans fM).trans (Kp.rr.alloc _)⟩
end Go.Proofs.YtkmclfpjpajjeaaGreat
namespace Go.Proofs.YtkmclfpjpajjeaaGreat.M
theorem mD{α:Type}{name:α→ByteArray}{ok:α→Bool}:∀{l:List α} {seen:List ByteArray},aZ name ok l seen=true→∀x∈l,ok x=true
 |[],_,_=>by simp
 |y::r,seen,h=>by
  unfold aZ at h;simp only[Bool.and_eq_true]at h;intro x hx;rcases List.mem_cons.1 hx with rfl|hx
  · exact h.1.1
  · exact mD h.2 x hx
theorem xY{p:ax}(h:dF p=true):1≤p.length∧p.length≤3:=by
 unfold dF at h;simp only[Bool.and_eq_true,decide_eq_true_eq]at h;exact⟨h.1.1,h.1.2⟩
theorem qA{p:ax}(h:dF p=true){k:Int}{q:eY}(hk:fw p k=some q):bA p q=true:=by
 unfold dF at h;simp only[Bool.and_eq_true]at h;unfold fw at hk;split at hk
 · exact List.all_eq_true.1 h.2 q (List.mem_of_getElem? hk)
 · cases hk
theorem rq{p:ax}{k:Int}:has p k=true↔0≤k∧k<p.length:=by
 unfold has;simp
theorem OA{p:ax}(jM:dF p=true){k:Int}{n:ByteArray}{q:Int}(h:ug p k n=some q):has p q=true:=by
 unfold ug at h;rw[Option.bind_eq_some_iff]at h;obtain⟨kp,hk,h2⟩:=h;rw[Option.map_eq_some_iff]at h2;obtain⟨a,ha,rfl⟩:=h2;have h3:=qA jM hk;unfold bA at h3;simp only[Bool.and_eq_true]at h3;have:=mD h3.2 a (List.mem_of_find?_eq_some ha);simp only[Bool.and_eq_true]at this;exact this.2
theorem MP{p:ax}(r:Ref):(tu p r).isSome=owned p r:=by
 unfold tu owned cls?;cases fw p r.keeper with
 |none=>rfl
 |some q=>
  simp only[Option.bind_some];rw[Bool.eq_iff_iff,List.findIdx?_isSome,List.find?_isSome];simp
theorem BK{p:ax}{r:Ref}{c:Class}(h:cls? p r=some c):∃q i,fw p r.keeper=some q∧tu p r=some i∧q.owns[i]?=some c∧i<q.owns.length:=by
 unfold cls? at h;rw[Option.bind_eq_some_iff]at h;obtain⟨q,hq,h2⟩:=h;have hi:(q.owns.findIdx? fun c=>decide (c.name=r.name)).isSome=true:=by
  rw[List.findIdx?_isSome,List.any_eq_true];exact⟨c,List.mem_of_find?_eq_some h2,by simpa using List.find?_some h2⟩
 obtain⟨i,hi⟩:=Option.isSome_iff_exists.1 hi;refine⟨q,i,hq,by unfold tu;rw[hq];exact hi,?_,?_⟩
 · rw[List.findIdx?_eq_some_iff_getElem]at hi;obtain⟨bY,h3,h4⟩:=hi;rw[List.getElem?_eq_getElem bY];rw[List.find?_eq_some_iff_getElem]at h2;obtain⟨h8,j,hj,h5,h6⟩:=h2;have:i=j:=by
    rcases Nat.lt_trichotomy i j with h|h|h
    · have:=h6 i h;simp only[Bool.not_eq_true']at this;rw[h3]at this;cases this
    · exact h
    · have h9:=h4 j h;rw[h5]at h9;exact absurd h8 h9
   subst this;rw[h5]
 · rw[List.findIdx?_eq_some_iff_getElem]at hi;exact hi.1
theorem Ud{p:ax}{r:Ref}{c:Class}(h:cls? p r=some c):c.name=r.name:=by
 unfold cls? at h;rw[Option.bind_eq_some_iff]at h;obtain⟨q,hq,h2⟩:=h;simpa using List.find?_some h2
theorem Ej{p:ax}{r:Ref}{c:Class}(h:cls? p r=some c):0≤r.keeper∧r.keeper<p.length:=by
 obtain⟨q,i,hq,_⟩:=BK h;unfold fw at hq;split at hq
 · have:=(List.getElem?_eq_some_iff.1 hq).1;omega
 · cases hq
theorem R3{p:ax}{l:List Int}(hn:l.Nodup)(hh:∀q∈l,has p q=true):l.length≤p.length:=by
 have h1:l ⊆ (List.range p.length).map Int.ofNat:=by
  intro q hq;have:=rq.1 (hh q hq);exact List.mem_map.2 ⟨q.toNat,List.mem_range.2 Wg,by simp;omega⟩
 have:=hn.length_le_of_subset h1;simpa using this
theorem A7{p:ax}{n:ByteArray}:∀{f:Nat} {asked:List Int} {k:Int},asked.getLastD 0=k→(gX p n f asked k).2=1→owned p ⟨(gX p n f asked k).1.getLastD 0,n⟩=true
 |0,_,_,_,h=>by simp[gX]at h
 |f+1,asked,k,hl,h=>by
  unfold gX at h ⊢;split at h
  · rename_i h1;split at h
    · rename_i h2;simp only[h2,if_true];rw[hl];exact h2
    · simp at h
  · rename_i next h1
    split at h
    · simp at h
    · rename_i h2;simp only[h2,if_false,Bool.false_eq_true];exact A7 Wf h
theorem Gf{p:ax}{k:Int}{n:ByteArray}(h:(path p k n).2=1):owned p ⟨(path p k n).1.getLastD 0,n⟩=true:=by
 unfold path at h ⊢;split at h
 · rename_i hk;rw[if_pos hk];exact A7 rfl h
 · simp at h
theorem fu{p:ax}{k:Int}{n:ByteArray}(h:(resolve p k n).2=1):∃c,cls? p (resolve p k n).1=some c:=by
 unfold resolve at h ⊢;split at h
 · rename_i hp;rw[if_pos hp];exact Option.isSome_iff_exists.1 (Gf hp)
 · rename_i hp;exact absurd h hp
theorem pg{α:Type}{name:α→ByteArray}{ok:α→Bool}:∀{l r:List α} {seen:List ByteArray},aZ name ok (l++r) seen=(aZ name ok l seen&&aZ name ok r (seen++l.map name))
 |[],r,seen=>by simp[aZ]
 |x::l,r,seen=>by
  simp only[List.cons_append,aZ,pg (l:=l),Bool.and_assoc,List.map_cons,List.append_assoc,List.nil_append]
theorem uA{α:Type}{name:α→ByteArray}{ok:α→Bool}{l:List α}{k:Nat}{x:α}(hx:l[k]?=some x):
    aZ name ok (l.take (k+1)) []=(aZ name ok (l.take k) []&&(ok x&& !((l.take k).any fun y=>decide (name y=name x)))):=by
 rw[List.take_add_one,hx,pg,List.nil_append];simp only[Option.toList_some,aZ,List.any_map,Function.comp_def,Bool.and_true]
theorem xS{α:Type}{name:α→ByteArray}{ok:α→Bool}{l:List α}{k:Nat}(h:aZ name ok (l.take k) []=false):aZ name ok l []=false:=by
 rw[←List.take_append_drop k l,pg,h];rfl
theorem Eg{α:Type}{f:α→Bool}{l:List α}{k:Nat}{x:α}(hx:l[k]?=some x)(h:f x=false):l.all f=false:=by
 refine Bool.eq_false_iff.2 fun e=>?_;rw[List.all_eq_true.1 e x (List.mem_of_getElem? hx)]at h;cases h
theorem EU{α:Type}{f:α→Bool}{l:List α}{k:Nat}{x:α}(hx:l[k]?=some x)(h:f x=true)(h0:(l.take k).all f=true):(l.take (k+1)).all f=true:=by
 rw[List.take_add_one,hx,List.all_append,h0];simp[h]
def Cb(l:List SMap):Int:=(l.getLast?.map SMap.at_).getD 0
theorem pF{m:Method}:∀{l r:List SMap} {a:Int},dH m a (l++r)=(dH m a l&&dH m ((l.getLast?.map SMap.at_).getD a) r)
 |[],r,a=>by simp[dH]
 |x::l,r,a=>by
  simp only[List.cons_append,dH,pF (l:=l),List.getLast?_cons];cases l.getLast?<;>simp[Bool.and_assoc]
theorem RV{m:Method}{l:List SMap}{k:Nat}{x:SMap}(hx:l[k]?=some x):dH m 0 (l.take (k+1))=(dH m 0 (l.take k)&&(decide (Cb (l.take k)<x.at_)&&rE m x)):=by
 rw[List.take_add_one,hx,pF];simp only[Option.toList_some,dH,Cb,Bool.and_true];rfl
theorem VU{m:Method}{l:List SMap}{k:Nat}(h:dH m 0 (l.take k)=false):dH m 0 l=false:=by
 rw[←List.take_append_drop k l,pF,h];rfl
theorem MB{m:Method}:∀{l:List SMap} {a:Int},0≤a→dH m a l=true→∀f∈l,1≤f.at_
 |[],_,_,_=>by simp
 |x::l,a,ha,h=>by
  unfold dH at h;simp only[Bool.and_eq_true,decide_eq_true_eq]at h;intro f hf;rcases List.mem_cons.1 hf with rfl|hf
  · omega
  · exact MB Wg h.2 f hf
theorem RG{l:List SMap}{j:Nat}{y:SMap}(hy:l[j]?=some y):Cb (l.take (j+1))=y.at_:=by
 unfold Cb;rw[List.take_add_one,hy];simp
theorem Ry{i:Ins}(h:eH i=true):1≤i.op∧i.op≤15:=by
 unfold eH isNum jO kS mG at h;simp only[Bool.or_eq_true,beq_iff_eq]at h;repeat' split at h
 all_goals first|omega|cases h
theorem I6{c:Method}{k:Nat}{x:SMap}{q2:Bool}(hx:c.maps[k]?=some x)(hp:dH c 0 (c.maps.take k)=true)
    (h2:(k=0∧q2=false)∨∃j y,k=j+1∧c.maps[j]?=some y∧q2=decide (x.at_≤y.at_)):
    dH c 0 (c.maps.take (k+1))=((decide (1≤x.at_)&&decide (x.at_≤(c.code.length:Int) - 1))&& !q2&& !((x.locals.length:Int) !=c.locals)&& !decide (c.stack<(x.stack.length:Int))&&x.locals.all nI&&x.stack.all nI):=by
 rw[RV hx,hp,Bool.true_and];unfold rE rU;have e1:(!((x.locals.length:Int) !=c.locals))=decide ((x.locals.length:Int)=c.locals):=by
  by_cases h:(x.locals.length:Int)=c.locals<;>simp[h]
 have e2:(!decide (c.stack<(x.stack.length:Int)))=decide ((x.stack.length:Int)≤c.stack):=by
  by_cases h:c.stack<(x.stack.length:Int)
  · rw[decide_eq_true h,decide_eq_false Wg];rfl
  · rw[decide_eq_false h,decide_eq_true Wg];rfl
 have e3:(decide (Cb (c.maps.take k)<x.at_)&&decide (x.at_ <(c.code.length:Int)))=((decide (1≤x.at_)&&decide (x.at_≤(c.code.length:Int) - 1))&& !q2):=by
  rcases h2 with⟨rfl,rfl⟩|⟨j,y,rfl,hy,rfl⟩
  · rw[show Cb (c.maps.take 0)=0 from rfl,Bool.not_false,Bool.and_true];refine Bool.eq_iff_iff.2 ?_;simp only[Bool.and_eq_true,decide_eq_true_eq];omega
  · rw[RG hy];have:=MB Wg hp y (List.mem_of_getElem? (i:=j) (by rw[List.getElem?_take,if_pos Wg,hy]));refine Bool.eq_iff_iff.2 ?_;simp only[Bool.and_eq_true,decide_eq_true_eq,Bool.not_eq_true',decide_eq_false_iff_not];omega
 rw[e1,e2,←e3];simp only[Bool.and_assoc]
end Go.Proofs.YtkmclfpjpajjeaaGreat.M
namespace Go.Proofs.YtkmclfpjpajjeaaGreat
open Go Go.RowKit
theorem R6{op:Int}(h:M.isNum op=true):op=1∨op=2∨op=3∨op=11∨op=12∨op=13:=by
 simpa [M.isNum,or_assoc]using h
theorem Iz{op:Int}(h:M.jO op=true):op=6∨op=15:=by
 simpa [M.jO,or_assoc]using h
theorem I7{op:Int}(h:M.kS op=true):op=7∨op=8∨op=9:=by
 simpa [M.kS,or_assoc]using h
theorem Jb{op:Int}(h:M.mG op=true):op=4∨op=5∨op=10∨op=14:=by
 simpa [M.mG,or_assoc]using h
theorem VX{op:Int}(h1:M.isNum op=false)(h2:M.jO op=false)(h3:M.kS op=false)(h4:M.mG op=false):
    (¬op=1∧¬op=2∧¬op=3∧¬op=4∧¬op=5∧¬op=6∧¬op=7∧¬op=8)∧¬op=9∧¬op=10∧¬op=11∧¬op=12∧¬op=13∧¬op=14∧¬op=15:=by
 simp[M.isNum,M.jO,M.kS,M.mG]at h1 h2 h3 h4;omega
theorem Uo(op a:Int)(s m:ByteArray)(w:World)(h:M.isNum op=true):
    Calls Tryz.prog 186 #[.agg #[.int .i64 op,.int .i64 a,.string s,.string m]] w fun e w'=>e=.returned (.iface 271 (.agg #[.int .i64 op,.int .i64 a]))∧Ext w w':=by
 rcases R6 h with rfl|rfl|rfl|rfl|rfl|rfl
 all_goals
  clear h;go_enter Tryz.func186,Tryz.ntmps186;go_wp2;go_ret;exact⟨rfl,(Kp.rr.alloc _)⟩
theorem Um(op a:Int)(s m:ByteArray)(w:World)(h:M.jO op=true):
    Calls Tryz.prog 186 #[.agg #[.int .i64 op,.int .i64 a,.string s,.string m]] w fun e w'=>e=.returned (.iface 273 (.agg #[.int .i64 op,.string s]))∧Ext w w':=by
 rcases Iz h with rfl|rfl
 all_goals
  clear h;go_enter Tryz.func186,Tryz.ntmps186;go_wp2;go_ret;exact⟨rfl,(Kp.rr.alloc _)⟩
theorem Un(op a:Int)(s m:ByteArray)(w:World)(h:M.kS op=true):
    Calls Tryz.prog 186 #[.agg #[.int .i64 op,.int .i64 a,.string s,.string m]] w fun e w'=>e=.returned (.iface 275 (.agg #[.int .i64 op,.string s,.string m]))∧Ext w w':=by
 rcases I7 h with rfl|rfl|rfl
 all_goals
  clear h;go_enter Tryz.func186,Tryz.ntmps186;go_wp2;go_ret;exact⟨rfl,(Kp.rr.alloc _)⟩
theorem Uq(op a:Int)(s m:ByteArray)(w:World)(h:M.mG op=true):
    Calls Tryz.prog 186 #[.agg #[.int .i64 op,.int .i64 a,.string s,.string m]] w fun e w'=>e=.returned (.iface 277 (.agg #[.int .i64 op]))∧Ext w w':=by
 rcases Jb h with rfl|rfl|rfl|rfl
 all_goals
  clear h;go_enter Tryz.func186,Tryz.ntmps186;go_wp2;go_ret;exact⟨rfl,(Kp.rr.alloc _)⟩
theorem X4(op a:Int)(s m:ByteArray)(w:World)(h1:M.isNum op=false)(h2:M.jO op=false)(h3:M.kS op=false)(h4:M.mG op=false):
    Calls Tryz.prog 186 #[.agg #[.int .i64 op,.int .i64 a,.string s,.string m]] w fun e w'=>e=.returned .nilIface∧Ext w w':=by
 obtain⟨⟨a1,a2,a3,a4,a5,a6,a7,a8⟩,b1,b2,b3,b4,b5,b6,b7⟩:=VX h1 h2 h3 h4;clear h1 h2 h3 h4;go_enter Tryz.func186,Tryz.ntmps186;go_wp2;go_ret;exact⟨rfl,(Kp.rr.alloc _)⟩
theorem GD(x:Value)(w:World):(Instr.typeAssert (.iface 271 x) 20 277 true).run Tryz.prog w=.ok (.tuple #[.agg #[.int .i64 0],.bool false]) w:=by kernel_rfl
theorem Gv(x:Value)(w:World):(Instr.typeAssert (.iface 273 x) 20 277 true).run Tryz.prog w=.ok (.tuple #[.agg #[.int .i64 0],.bool false]) w:=by kernel_rfl
theorem Gz(x:Value)(w:World):(Instr.typeAssert (.iface 275 x) 20 277 true).run Tryz.prog w=.ok (.tuple #[.agg #[.int .i64 0],.bool false]) w:=by kernel_rfl
theorem GG(x:Value)(w:World):(Instr.typeAssert (.iface 277 x) 20 277 true).run Tryz.prog w=.ok (.tuple #[x,.bool true]) w:=by kernel_rfl
theorem GA(x:Value)(w:World):(Instr.typeAssert (.iface 271 x) 20 271 true).run Tryz.prog w=.ok (.tuple #[x,.bool true]) w:=by kernel_rfl
theorem Gu(x:Value)(w:World):(Instr.typeAssert (.iface 273 x) 20 271 true).run Tryz.prog w=.ok (.tuple #[.agg #[.int .i64 0,.int .i64 0],.bool false]) w:=by kernel_rfl
theorem Gy(x:Value)(w:World):(Instr.typeAssert (.iface 275 x) 20 271 true).run Tryz.prog w=.ok (.tuple #[.agg #[.int .i64 0,.int .i64 0],.bool false]) w:=by kernel_rfl
theorem Gt(x:Value)(w:World):(Instr.typeAssert (.iface 273 x) 20 273 true).run Tryz.prog w=.ok (.tuple #[x,.bool true]) w:=by kernel_rfl
theorem Gw(x:Value)(w:World):(Instr.typeAssert (.iface 275 x) 20 273 true).run Tryz.prog w=.ok (.tuple #[.agg #[.int .i64 0,.string M.none_],.bool false]) w:=by kernel_rfl
theorem Gx(x:Value)(w:World):(Instr.typeAssert (.iface 275 x) 20 275 true).run Tryz.prog w=.ok (.tuple #[x,.bool true]) w:=by kernel_rfl
theorem JW(op a:Int)(w:World):
    Calls Tryz.prog 187 #[.iface 271 (.agg #[.int .i64 op,.int .i64 a])] w fun e w'=>e=.returned (.agg #[.int .i64 op,.int .i64 a,.string M.none_,.string M.none_])∧Ext w w':=by
 have t1:=GD (.agg #[.int .i64 op,.int .i64 a]);have t2:=GA (.agg #[.int .i64 op,.int .i64 a]);go_enter Tryz.func187,Tryz.ntmps187;go_wp2;refine bodyPost_ret (v:=.agg #[.int .i64 op,.int .i64 a,.string M.none_,.string M.none_]) (by simp[results,Tryz.results187,go_sem]) rfl ?_;exact⟨rfl,kx⟩
theorem JV(op:Int)(s:ByteArray)(w:World):
    Calls Tryz.prog 187 #[.iface 273 (.agg #[.int .i64 op,.string s])] w fun e w'=>e=.returned (.agg #[.int .i64 op,.int .i64 0,.string s,.string M.none_])∧Ext w w':=by
 have t1:=Gv (.agg #[.int .i64 op,.string s]);have t2:=Gu (.agg #[.int .i64 op,.string s]);have t3:=Gt (.agg #[.int .i64 op,.string s]);go_enter Tryz.func187,Tryz.ntmps187;go_wp2;refine bodyPost_ret (v:=.agg #[.int .i64 op,.int .i64 0,.string s,.string M.none_]) (by simp[results,Tryz.results187,go_sem]) rfl ?_;exact⟨rfl,kx⟩
theorem Qx(op:Int)(s m:ByteArray)(w:World):
    Calls Tryz.prog 187 #[.iface 275 (.agg #[.int .i64 op,.string s,.string m])] w fun e w'=>e=.returned (.agg #[.int .i64 op,.int .i64 0,.string s,.string m])∧Ext w w':=by
 have t1:=Gz (.agg #[.int .i64 op,.string s,.string m]);have t2:=Gy (.agg #[.int .i64 op,.string s,.string m]);have t3:=Gw (.agg #[.int .i64 op,.string s,.string m]);have t4:=Gx (.agg #[.int .i64 op,.string s,.string m]);go_enter Tryz.func187,Tryz.ntmps187;go_wp2;refine bodyPost_ret (v:=.agg #[.int .i64 op,.int .i64 0,.string s,.string m]) (by simp[results,Tryz.results187,go_sem]) rfl ?_;exact⟨rfl,kx⟩
theorem Es(op:Int)(w:World):
    Calls Tryz.prog 187 #[.iface 277 (.agg #[.int .i64 op])] w fun e w'=>e=.returned (.agg #[.int .i64 op,.int .i64 0,.string M.none_,.string M.none_])∧Ext w w':=by
 have t1:=GG (.agg #[.int .i64 op]);go_enter Tryz.func187,Tryz.ntmps187;go_wp2;refine bodyPost_ret (v:=.agg #[.int .i64 op,.int .i64 0,.string M.none_,.string M.none_]) (by simp[results,Tryz.results187,go_sem]) rfl ?_;exact⟨rfl,kx⟩
theorem R7(op:Int)(w:World):
    Calls Tryz.prog 192 #[.int .i64 op] w fun e w'=>e=.returned (.tuple #[.int .i64 (M.kU op),.int .i64 (M.lZ op)])∧w=w':=by
 by_cases h1:op=1
 · subst h1;go_enter Tryz.func192,Tryz.ntmps192;go_wp2;go_ret2;exact⟨rfl,rfl⟩
 by_cases h2:op=2
 · subst h2;go_enter Tryz.func192,Tryz.ntmps192;go_wp2;go_ret2;exact⟨rfl,rfl⟩
 by_cases h3:op=3
 · subst h3;go_enter Tryz.func192,Tryz.ntmps192;go_wp2;go_ret2;exact⟨rfl,rfl⟩
 · have e1:M.kU op=0:=if_neg h1;have e2:M.lZ op=15:=by unfold M.lZ;rw[if_neg h1,if_neg Wg]
   rw[e1,e2];clear e1 e2;go_enter Tryz.func192,Tryz.ntmps192;go_wp2;go_ret2;exact⟨rfl,rfl⟩
theorem zu(op a:Int)(w:World):
    Calls Tryz.prog 188 #[.iface 271 (.agg #[.int .i64 op,.int .i64 a])] w fun e w'=>e=.returned (.bool (decide (M.kU op≤a)&&decide (a≤M.lZ op)))∧Ext w w':=by
 have t1:=GD (.agg #[.int .i64 op,.int .i64 a]);have t2:=GA (.agg #[.int .i64 op,.int .i64 a]);generalize hl:M.kU op=l;generalize hm:M.lZ op=m;have hr:=R7 op;rw[hl,hm]at hr;have HR:=Z3 hr;clear hr hl hm;by_cases h1:l≤a
 · go_enter Tryz.func188,Tryz.ntmps188;go_wp2_with (go_at_call 192;refine(HR.o _).mono ?_;rintro e w' ⟨rfl,rfl⟩);go_ret;exact⟨af (by rw[decide_eq_true h1];simp),kx⟩
 · go_enter Tryz.func188,Tryz.ntmps188;go_wp2_with (go_at_call 192;refine(HR.o _).mono ?_;rintro e w' ⟨rfl,rfl⟩);go_ret;exact⟨af (by rw[decide_eq_false (p:=l≤a) Wg];simp),kx⟩
theorem zt(op:Int)(s:ByteArray)(w:World):
    Calls Tryz.prog 188 #[.iface 273 (.agg #[.int .i64 op,.string s])] w fun e w'=>e=.returned (.bool (M.aT s))∧Ext w w':=by
 have t1:=Gv (.agg #[.int .i64 op,.string s]);have t2:=Gu (.agg #[.int .i64 op,.string s]);have t3:=Gt (.agg #[.int .i64 op,.string s]);go_enter Tryz.func188,Tryz.ntmps188;go_wp2_with (go_at_call 36;refine(Bc _ _).mono ?_;rintro e w' ⟨rfl,rfl⟩);go_ret;exact⟨rfl,kx⟩
theorem Fh(op:Int)(s m:ByteArray)(w:World):
    Calls Tryz.prog 188 #[.iface 275 (.agg #[.int .i64 op,.string s,.string m])] w fun e w'=>e=.returned (.bool (M.aT s&&M.aT m))∧Ext w w':=by
 have t1:=Gz (.agg #[.int .i64 op,.string s,.string m]);have t2:=Gy (.agg #[.int .i64 op,.string s,.string m]);have t3:=Gw (.agg #[.int .i64 op,.string s,.string m]);have t4:=Gx (.agg #[.int .i64 op,.string s,.string m]);cases hs:M.aT s
 all_goals
  have HS:=Z3 hs;clear hs;go_enter Tryz.func188,Tryz.ntmps188;go_wp2_with fail;refine(Bc _ _).mono ?_;rintro e w' ⟨rfl,rfl⟩;rw[HS.o]
 · go_wp2;go_ret;exact⟨rfl,kx⟩
 · go_wp2_with (go_at_call 36;refine(Bc _ _).mono ?_;rintro e w' ⟨rfl,rfl⟩);go_ret;exact⟨rfl,kx⟩
theorem uy(op:Int)(w:World):
    Calls Tryz.prog 188 #[.iface 277 (.agg #[.int .i64 op])] w fun e w'=>e=.returned (.bool true)∧Ext w w':=by
 have t1:=GG (.agg #[.int .i64 op]);go_enter Tryz.func188,Tryz.ntmps188;go_wp2;go_ret;exact⟨rfl,kx⟩
theorem iV(a b:ByteArray):(a.toList==b.toList)=decide (a=b):=by
 rw[ByteArray.toList_eq,ByteArray.toList_eq,Bool.eq_iff_iff,decide_eq_true_iff,beq_iff_eq];constructor
 · intro h;obtain⟨⟨x⟩⟩:=a;obtain⟨⟨y⟩⟩:=b;simp at h;subst h;rfl
 · intro h;rw[h]
theorem toList_nil(s:ByteArray):s.toList=[]↔s=M.none_:=by
 rw[ByteArray.toList_eq];obtain⟨⟨l⟩⟩:=s;simp[M.none_]
theorem Rw{op a:Int}{s m:ByteArray}(h:M.isNum op=true):M.eH ⟨op,a,s,m⟩=(decide (s=M.none_)&&decide (m=M.none_)&&decide (M.kU op≤a)&&decide (a≤M.lZ op)):=by
 unfold M.eH;rw[if_pos h]
theorem Ru{op a:Int}{s m:ByteArray}(h0:M.isNum op=false)(h:M.jO op=true):M.eH ⟨op,a,s,m⟩=(decide (a=0)&&decide (m=M.none_)&&M.aT s):=by
 unfold M.eH;rw[if_neg (by simp[h0]),if_pos h]
theorem Rv{op a:Int}{s m:ByteArray}(h0:M.isNum op=false)(h1:M.jO op=false)(h:M.kS op=true):M.eH ⟨op,a,s,m⟩=(decide (a=0)&&M.aT s&&M.aT m):=by
 unfold M.eH;rw[if_neg (by simp[h0]),if_neg (by simp[h1]),if_pos h]
theorem Rx{op a:Int}{s m:ByteArray}(h0:M.isNum op=false)(h1:M.jO op=false)(h2:M.kS op=false)(h:M.mG op=true):M.eH ⟨op,a,s,m⟩=(decide (a=0)&&decide (s=M.none_)&&decide (m=M.none_)):=by
 unfold M.eH;rw[if_neg (by simp[h0]),if_neg (by simp[h1]),if_neg (by simp[h2]),if_pos h]
theorem Vu{op a:Int}{s m:ByteArray}(h0:M.isNum op=false)(h1:M.jO op=false)(h2:M.kS op=false)(h:M.mG op=false):M.eH ⟨op,a,s,m⟩=false:=by
 unfold M.eH;rw[if_neg (by simp[h0]),if_neg (by simp[h1]),if_neg (by simp[h2]),if_neg (by simp[h])]
theorem VD{op:Int}(h:M.jO op=true):M.isNum op=false:=by rcases Iz h with rfl|rfl<;>rfl
theorem Mi{op:Int}(h:M.kS op=true):M.isNum op=false∧M.jO op=false:=by rcases I7 h with rfl|rfl|rfl<;>exact⟨rfl,rfl⟩
theorem FM{op:Int}(h:M.mG op=true):M.isNum op=false∧M.jO op=false∧M.kS op=false:=by
 rcases Jb h with rfl|rfl|rfl|rfl<;>exact⟨rfl,rfl,rfl⟩
theorem RB(op a:Int)(s m:ByteArray)(w:World)(h:M.isNum op=true):
    Calls Tryz.prog 171 #[.agg #[.int .i64 op,.int .i64 a,.string s,.string m]] w fun e w'=>e=.returned (.bool (M.eH ⟨op,a,s,m⟩))∧Ext w w':=by
 have HE:=Z3 (Rw (op:=op) (a:=a) (s:=s) (m:=m) h);have HK:=Z3 h;clear h;go_enter Tryz.func171,Tryz.ntmps171;go_wp2_with (go_at_call 186;refine(Uo _ _ _ _ _ HK.o).mono ?_;rintro e w1 ⟨rfl,hB⟩);have b1:=(ay.new w 130 #[.int .i64 op,.int .i64 a,.string s,.string m]).ext hB;obtain⟨hz,c0,c1,c2,c3, -⟩:=b1.ca;have HB:=Z3 hB;clear hB b1;by_cases hs:s.toList=[]
 · by_cases hm:m.toList=[]
   · first|(go_region_with (first|(go_at_call 187;refine(JW _ _ _).mono ?_;rintro e w2 ⟨rfl,hB2⟩;have d0:=hB2.aD c0;have d1:=hB2.aD c1;have d2:=hB2.aD c2;have d3:=hB2.aD c3)|(go_at_call 188;refine(zu _ _ _).mono ?_;rintro e w3 ⟨rfl,Hp⟩)))|fail
     all_goals
      go_wp2;go_ret;have hB:=HB.o;exact⟨af (by rw[HE.o];rw[toList_nil]at hs hm;simp[hs,hm]),ZS⟩
   · first|(go_region_with (first|(go_at_call 187;refine(JW _ _ _).mono ?_;rintro e w2 ⟨rfl,hB2⟩;have d0:=hB2.aD c0;have d1:=hB2.aD c1;have d2:=hB2.aD c2;have d3:=hB2.aD c3)|(go_at_call 188;refine(zu _ _ _).mono ?_;rintro e w3 ⟨rfl,Hp⟩)))|fail
     all_goals
      go_wp2;go_ret;have hB:=HB.o;exact⟨af (by rw[HE.o];rw[toList_nil]at hm;simp[hm]),ZS⟩
 · first|(go_region_with (first|(go_at_call 187;refine(JW _ _ _).mono ?_;rintro e w2 ⟨rfl,hB2⟩;have d0:=hB2.aD c0;have d1:=hB2.aD c1;have d2:=hB2.aD c2;have d3:=hB2.aD c3)|(go_at_call 188;refine(zu _ _ _).mono ?_;rintro e w3 ⟨rfl,Hp⟩)))|fail
   all_goals
    go_wp2;go_ret;have hB:=HB.o;exact⟨af (by rw[HE.o];rw[toList_nil]at hs;simp[hs]),ZS⟩
theorem Rz(op a:Int)(s m:ByteArray)(w:World)(h:M.jO op=true):
    Calls Tryz.prog 171 #[.agg #[.int .i64 op,.int .i64 a,.string s,.string m]] w fun e w'=>e=.returned (.bool (M.eH ⟨op,a,s,m⟩))∧Ext w w':=by
 have HE:=Z3 (Ru (op:=op) (a:=a) (s:=s) (m:=m) (VD h) h);have HK:=Z3 h;clear h;go_enter Tryz.func171,Tryz.ntmps171;go_wp2_with (go_at_call 186;refine(Um _ _ _ _ _ HK.o).mono ?_;rintro e w1 ⟨rfl,hB⟩);have b1:=(ay.new w 130 #[.int .i64 op,.int .i64 a,.string s,.string m]).ext hB;obtain⟨hz,c0,c1,c2,c3, -⟩:=b1.ca;have HB:=Z3 hB;clear hB b1;by_cases ha:0=a
 · by_cases hm:m.toList=[]
   · first|(go_region_with (first|(go_at_call 187;refine(JV _ _ _).mono ?_;rintro e w2 ⟨rfl,hB2⟩;have d0:=hB2.aD c0;have d1:=hB2.aD c1;have d2:=hB2.aD c2;have d3:=hB2.aD c3)|(go_at_call 188;refine(zt _ _ _).mono ?_;rintro e w3 ⟨rfl,Hp⟩)))|fail
     all_goals
      go_wp2;go_ret;have hB:=HB.o;exact⟨af (by rw[HE.o];rw[toList_nil]at hm;simp[←ha,hm]),ZS⟩
   · first|(go_region_with (first|(go_at_call 187;refine(JV _ _ _).mono ?_;rintro e w2 ⟨rfl,hB2⟩;have d0:=hB2.aD c0;have d1:=hB2.aD c1;have d2:=hB2.aD c2;have d3:=hB2.aD c3)|(go_at_call 188;refine(zt _ _ _).mono ?_;rintro e w3 ⟨rfl,Hp⟩)))|fail
     all_goals
      go_wp2;go_ret;have hB:=HB.o;exact⟨af (by rw[HE.o];rw[toList_nil]at hm;simp[hm]),ZS⟩
 · first|(go_region_with (first|(go_at_call 187;refine(JV _ _ _).mono ?_;rintro e w2 ⟨rfl,hB2⟩;have d0:=hB2.aD c0;have d1:=hB2.aD c1;have d2:=hB2.aD c2;have d3:=hB2.aD c3)|(go_at_call 188;refine(zt _ _ _).mono ?_;rintro e w3 ⟨rfl,Hp⟩)))|fail
   all_goals
    go_wp2;go_ret;have hB:=HB.o;exact⟨af (by rw[HE.o];simp[Ne.symm ha]),ZS⟩
theorem RA(op a:Int)(s m:ByteArray)(w:World)(h:M.kS op=true):
    Calls Tryz.prog 171 #[.agg #[.int .i64 op,.int .i64 a,.string s,.string m]] w fun e w'=>e=.returned (.bool (M.eH ⟨op,a,s,m⟩))∧Ext w w':=by
 have HE:=Z3 (Rv (op:=op) (a:=a) (s:=s) (m:=m) (Mi h).1 (Mi h).2 h);have HK:=Z3 h;clear h;go_enter Tryz.func171,Tryz.ntmps171;go_wp2_with (go_at_call 186;refine(Un _ _ _ _ _ HK.o).mono ?_;rintro e w1 ⟨rfl,hB⟩);have b1:=(ay.new w 130 #[.int .i64 op,.int .i64 a,.string s,.string m]).ext hB;obtain⟨hz,c0,c1,c2,c3, -⟩:=b1.ca;have HB:=Z3 hB;clear hB b1;by_cases ha:0=a
 · first|(go_region_with (first|(go_at_call 187;refine(Qx _ _ _ _).mono ?_;rintro e w2 ⟨rfl,hB2⟩;have d0:=hB2.aD c0;have d1:=hB2.aD c1;have d2:=hB2.aD c2;have d3:=hB2.aD c3)|(go_at_call 188;refine(Fh _ _ _ _).mono ?_;rintro e w3 ⟨rfl,Hp⟩)))|fail
   all_goals
    go_wp2;go_ret;have hB:=HB.o;exact⟨af (by rw[HE.o];simp[←ha]),ZS⟩
 · first|(go_region_with (first|(go_at_call 187;refine(Qx _ _ _ _).mono ?_;rintro e w2 ⟨rfl,hB2⟩;have d0:=hB2.aD c0;have d1:=hB2.aD c1;have d2:=hB2.aD c2;have d3:=hB2.aD c3)|(go_at_call 188;refine(Fh _ _ _ _).mono ?_;rintro e w3 ⟨rfl,Hp⟩)))|fail
   all_goals
    go_wp2;go_ret;have hB:=HB.o;exact⟨af (by rw[HE.o];simp[Ne.symm ha]),ZS⟩
theorem RD (op a : Int) (s m : ByteArray) (w : World) (h : M.mG op = true) :
    Calls Tryz.prog 171 #[.agg #[.int .i64 op,.int .i64 a,.string s,.string m]] w fun e w'=>e=.returned (.bool (M.eH ⟨op,a,s,m⟩))∧Ext w w':=by
 have HE:=Z3 (Rx (op:=op) (a:=a) (s:=s) (m:=m) (FM h).1 (FM h).2.1 (FM h).2.2 h);have HK:=Z3 h;clear h;go_enter Tryz.func171,Tryz.ntmps171;go_wp2_with (go_at_call 186;refine(Uq _ _ _ _ _ HK.o).mono ?_;rintro e w1 ⟨rfl,hB⟩);have b1:=(ay.new w 130 #[.int .i64 op,.int .i64 a,.string s,.string m]).ext hB;obtain⟨hz,c0,c1,c2,c3, -⟩:=b1.ca;have HB:=Z3 hB;clear hB b1;by_cases ha:0=a
 · by_cases hs:s.toList=[]
   · by_cases hm:m.toList=[]
     · first|(go_region_with (first|(go_at_call 187;refine(Es _ _).mono ?_;rintro e w2 ⟨rfl,hB2⟩;have d0:=hB2.aD c0;have d1:=hB2.aD c1;have d2:=hB2.aD c2;have d3:=hB2.aD c3)|(go_at_call 188;refine(uy _ _).mono ?_;rintro e w3 ⟨rfl,Hp⟩)))|fail
       all_goals
        go_wp2;go_ret;have hB:=HB.o;exact⟨af (by rw[HE.o];rw[toList_nil]at hs hm;simp[←ha,hs,hm]),ZS⟩
     · first|(go_region_with (first|(go_at_call 187;refine(Es _ _).mono ?_;rintro e w2 ⟨rfl,hB2⟩;have d0:=hB2.aD c0;have d1:=hB2.aD c1;have d2:=hB2.aD c2;have d3:=hB2.aD c3)|(go_at_call 188;refine(uy _ _).mono ?_;rintro e w3 ⟨rfl,Hp⟩)))|fail
       all_goals
        go_wp2;go_ret;have hB:=HB.o;exact⟨af (by rw[HE.o];rw[toList_nil]at hm;simp[hm]),ZS⟩
   · first|(go_region_with (first|(go_at_call 187;refine(Es _ _).mono ?_;rintro e w2 ⟨rfl,hB2⟩;have d0:=hB2.aD c0;have d1:=hB2.aD c1;have d2:=hB2.aD c2;have d3:=hB2.aD c3)|(go_at_call 188;refine(uy _ _).mono ?_;rintro e w3 ⟨rfl,Hp⟩)))|fail
     all_goals
      go_wp2;go_ret;have hB:=HB.o;exact⟨af (by rw[HE.o];rw[toList_nil]at hs;simp[hs]),ZS⟩
 · first|(go_region_with (first|(go_at_call 187;refine(Es _ _).mono ?_;rintro e w2 ⟨rfl,hB2⟩;have d0:=hB2.aD c0;have d1:=hB2.aD c1;have d2:=hB2.aD c2;have d3:=hB2.aD c3)|(go_at_call 188;refine(uy _ _).mono ?_;rintro e w3 ⟨rfl,Hp⟩)))|fail
   all_goals
    go_wp2;go_ret;have hB:=HB.o;exact⟨af (by rw[HE.o];simp[Ne.symm ha]),ZS⟩
theorem Vw(op a:Int)(s m:ByteArray)(w:World)(h1:M.isNum op=false)(h2:M.jO op=false)(h3:M.kS op=false)(h4:M.mG op=false):
    Calls Tryz.prog 171 #[.agg #[.int .i64 op,.int .i64 a,.string s,.string m]] w fun e w'=>e=.returned (.bool (M.eH ⟨op,a,s,m⟩))∧Ext w w':=by
 have⟨HE,H⟩:=aJ (Vu (op:=op) (a:=a) (s:=s) (m:=m) h1 h2 h3 h4) (And.intro (And.intro h1 h2) (And.intro h3 h4));clear h1 h2 h3 h4;go_enter Tryz.func171,Tryz.ntmps171;go_wp2_with (go_at_call 186;refine(X4 _ _ _ _ _ H.o.1.1 H.o.1.2 H.o.2.1 H.o.2.2).mono ?_;rintro e w1 ⟨rfl,hB⟩);go_quiet (fail);go_wp2;go_ret;exact⟨af (by rw[HE.o]),ZS⟩
theorem Vv(i:M.Ins)(w:World):
    Calls Tryz.prog 171 #[.agg #[.int .i64 i.op,.int .i64 i.a,.string i.name,.string i.member]] w fun e w'=>e=.returned (.bool (M.eH i))∧Ext w w':=by
 cases h1:M.isNum i.op
 · cases h2:M.jO i.op
   · cases h3:M.kS i.op
     · cases h4:M.mG i.op
       · exact Vw _ _ _ _ _ h1 h2 h3 h4
       · exact RD _ _ _ _ _ h4
     · exact RA _ _ _ _ _ h3
   · exact Rz _ _ _ _ _ h2
 · exact RB _ _ _ _ _ h1
theorem Ct(k:Int)(s:ByteArray)(w:World):Calls Tryz.prog 106 #[.agg #[.int .i64 k,.string s]] w fun e w'=>e=.returned (.bool (M.fe ⟨k,s⟩))∧Ext w w':=by
 have hv:M.fe ⟨k,s⟩=((k==1)&&(s.toList==[])|| (k==2)&&M.aT s):=by unfold M.fe;simp only[kT]
 rw[hv];clear hv;obtain⟨q,hq⟩:∃q,(s.toList==[])=q:=⟨_,rfl⟩;have HN:=fun W=>Z3 (di s W);obtain⟨r,hr⟩:∃r,M.aT s=r:=⟨_,rfl⟩;rw[hq,hr];simp only[hr]at HN;clear hr;by_cases h1:k=1
 · subst h1;cases q<;>cases r
   all_goals
    go_enter Tryz.func106,Tryz.ntmps106;go_wp2_with (go_at_call 75;refine(HN _).o.mono ?_;rintro e w' ⟨rfl,rfl⟩)
    all_goals
     go_ret;exact⟨rfl,Z2⟩
 have Ya:(k==1)=false:=beq_eq_false_iff_ne.2 h1;by_cases h2:k=2
 · subst h2;cases r
   all_goals
    go_enter Tryz.func106,Tryz.ntmps106;go_wp2_with (go_at_call 75;refine(HN _).o.mono ?_;rintro e w' ⟨rfl,rfl⟩)
    all_goals
     go_ret;exact⟨rfl,Z2⟩
 have Hn:(k==2)=false:=beq_eq_false_iff_ne.2 h2;rw[Ya,Hn];go_enter Tryz.func106,Tryz.ntmps106;go_wp2_with fail
 all_goals
  go_ret;exact⟨rfl,Z2⟩
theorem Pq(op a:Int)(n m:ByteArray)(w:World)(ho:op=1∨op=2∨op=3∨op=11∨op=12∨op=13):Calls Tryz.prog 115 #[.agg #[.int .i64 op,.int .i64 a,.string n,.string m]] w fun e w'=>e=.returned (.bool (M.eH ⟨op,a,n,m⟩))∧Ext w w':=by
 have hv:M.eH ⟨op,a,n,m⟩=((decide (M.kU op≤a)&&decide (a≤M.lZ op))&&(n.toList==[])&&(m.toList==[])):=by
  unfold M.eH;simp only[kT];rcases ho with rfl|rfl|rfl|rfl|rfl|rfl<;>simp[M.isNum,M.jO,M.kS,M.mG,Bool.and_assoc,Bool.and_comm,Bool.and_left_comm]
 rw[hv];clear hv;obtain⟨q,hq⟩:∃q,(n.toList==[])=q:=⟨_,rfl⟩;obtain⟨q',Qr⟩:∃q,(m.toList==[])=q:=⟨_,rfl⟩;have HN:=fun W=>Z3 (di n W);have HM:=fun W=>Z3 (di m W);obtain⟨r,hr⟩:∃r,M.aT n=r:=⟨_,rfl⟩;obtain⟨r',Eo⟩:∃r,M.aT m=r:=⟨_,rfl⟩;simp only[hr]at HN;simp only[Eo]at HM;rw[hq,Qr];clear hr Eo;rcases ho with rfl|rfl|rfl|rfl|rfl|rfl
 all_goals
  simp only[M.kU,M.lZ,Int.reduceEq,if_true,if_false,or_true,true_or,or_false,or_self];generalize hb:(decide (_≤a)&&decide (a≤_))=b;cases b
  · simp only[Bool.false_and];go_enter Tryz.func115,Tryz.ntmps115;go_wp2_with (go_at_call 29;refine(lT _ _ _ _).mono ?_;rintro e w' ⟨rfl,rfl⟩;rw[hb])
    all_goals
     go_ret;exact⟨rfl,Z2⟩
  cases q
  · simp only[Bool.true_and,Bool.false_and];go_enter Tryz.func115,Tryz.ntmps115;go_wp2_with (go_at_call 29;refine(lT _ _ _ _).mono ?_;rintro e w' ⟨rfl,rfl⟩;rw[hb])
    all_goals
     go_ret;exact⟨rfl,Z2⟩
  simp only[Bool.true_and];cases q'
  all_goals
   go_enter Tryz.func115,Tryz.ntmps115;go_wp2_with (go_at_call 29;refine(lT _ _ _ _).mono ?_;rintro e w' ⟨rfl,rfl⟩;rw[hb])
   all_goals
    go_ret;exact⟨rfl,Z2⟩
theorem Ps(op a:Int)(n m:ByteArray)(w:World)(ho:op=4∨op=5∨op=10∨op=14):Calls Tryz.prog 115 #[.agg #[.int .i64 op,.int .i64 a,.string n,.string m]] w fun e w'=>e=.returned (.bool (M.eH ⟨op,a,n,m⟩))∧Ext w w':=by
 have hv:M.eH ⟨op,a,n,m⟩=(decide (a=0)&&(n.toList==[])&&(m.toList==[])):=by
  unfold M.eH;simp only[kT];rcases ho with rfl|rfl|rfl|rfl<;>simp[M.isNum,M.jO,M.kS,M.mG,Bool.and_assoc,Bool.and_comm,Bool.and_left_comm]
 rw[hv];clear hv;obtain⟨q,hq⟩:∃q,(n.toList==[])=q:=⟨_,rfl⟩;obtain⟨q',Qr⟩:∃q,(m.toList==[])=q:=⟨_,rfl⟩;have HN:=fun W=>Z3 (di n W);have HM:=fun W=>Z3 (di m W);obtain⟨r,hr⟩:∃r,M.aT n=r:=⟨_,rfl⟩;obtain⟨r',Eo⟩:∃r,M.aT m=r:=⟨_,rfl⟩;simp only[hr]at HN;simp only[Eo]at HM;rw[hq,Qr];clear hr Eo;rcases ho with rfl|rfl|rfl|rfl
 all_goals
  by_cases ha:a=0
  · subst ha;simp only[decide_true,Bool.true_and];cases q
    · simp only[Bool.true_and,Bool.false_and];go_enter Tryz.func115,Tryz.ntmps115;go_wp2_with (fail)
      all_goals
       go_ret;exact⟨rfl,Z2⟩
    simp only[Bool.true_and];cases q'
    all_goals
     go_enter Tryz.func115,Tryz.ntmps115;go_wp2_with (fail)
     all_goals
      go_ret;exact⟨rfl,Z2⟩
  · have Xa:(a==0)=false:=beq_eq_false_iff_ne.2 ha;rw[decide_eq_false ha];simp only[Bool.false_and];go_enter Tryz.func115,Tryz.ntmps115;go_wp2_with (fail)
    all_goals
     go_ret;exact⟨rfl,Z2⟩
theorem Po(op a:Int)(n m:ByteArray)(w:World)(ho:op=6∨op=15):Calls Tryz.prog 115 #[.agg #[.int .i64 op,.int .i64 a,.string n,.string m]] w fun e w'=>e=.returned (.bool (M.eH ⟨op,a,n,m⟩))∧Ext w w':=by
 have hv:M.eH ⟨op,a,n,m⟩=(decide (a=0)&&M.aT n&&(m.toList==[])):=by
  unfold M.eH;simp only[kT];rcases ho with rfl|rfl<;>simp[M.isNum,M.jO,M.kS,M.mG,Bool.and_assoc,Bool.and_comm,Bool.and_left_comm]
 rw[hv];clear hv;obtain⟨q,hq⟩:∃q,(n.toList==[])=q:=⟨_,rfl⟩;obtain⟨q',Qr⟩:∃q,(m.toList==[])=q:=⟨_,rfl⟩;have HN:=fun W=>Z3 (di n W);have HM:=fun W=>Z3 (di m W);obtain⟨r,hr⟩:∃r,M.aT n=r:=⟨_,rfl⟩;obtain⟨r',Eo⟩:∃r,M.aT m=r:=⟨_,rfl⟩;simp only[hr]at HN;simp only[Eo]at HM;rw[Qr,hr];clear hr Eo;rcases ho with rfl|rfl
 all_goals
  by_cases ha:a=0
  · subst ha;simp only[decide_true,Bool.true_and];cases r
    · simp only[Bool.true_and,Bool.false_and];go_enter Tryz.func115,Tryz.ntmps115;go_wp2_with (go_at_call 75;refine(HN _).o.mono ?_;rintro e w' ⟨rfl,rfl⟩)
      all_goals
       go_ret;exact⟨rfl,Z2⟩
    simp only[Bool.true_and];cases q'
    all_goals
     go_enter Tryz.func115,Tryz.ntmps115;go_wp2_with (go_at_call 75;refine(HN _).o.mono ?_;rintro e w' ⟨rfl,rfl⟩)
     all_goals
      go_ret;exact⟨rfl,Z2⟩
  · have Xa:(a==0)=false:=beq_eq_false_iff_ne.2 ha;rw[decide_eq_false ha];simp only[Bool.false_and];go_enter Tryz.func115,Tryz.ntmps115;go_wp2_with (fail)
    all_goals
     go_ret;exact⟨rfl,Z2⟩
theorem Pp(op a:Int)(n m:ByteArray)(w:World)(ho:op=7∨op=8∨op=9):Calls Tryz.prog 115 #[.agg #[.int .i64 op,.int .i64 a,.string n,.string m]] w fun e w'=>e=.returned (.bool (M.eH ⟨op,a,n,m⟩))∧Ext w w':=by
 have hv:M.eH ⟨op,a,n,m⟩=(decide (a=0)&&M.aT n&&M.aT m):=by
  unfold M.eH;simp only[kT];rcases ho with rfl|rfl|rfl<;>simp[M.isNum,M.jO,M.kS,M.mG,Bool.and_assoc,Bool.and_comm,Bool.and_left_comm]
 rw[hv];clear hv;obtain⟨q,hq⟩:∃q,(n.toList==[])=q:=⟨_,rfl⟩;obtain⟨q',Qr⟩:∃q,(m.toList==[])=q:=⟨_,rfl⟩;have HN:=fun W=>Z3 (di n W);have HM:=fun W=>Z3 (di m W);obtain⟨r,hr⟩:∃r,M.aT n=r:=⟨_,rfl⟩;obtain⟨r',Eo⟩:∃r,M.aT m=r:=⟨_,rfl⟩;simp only[hr]at HN;simp only[Eo]at HM;rw[hr,Eo];clear hr Eo;rcases ho with rfl|rfl|rfl
 all_goals
  by_cases ha:a=0
  · subst ha;simp only[decide_true,Bool.true_and];cases r
    · simp only[Bool.true_and,Bool.false_and];go_enter Tryz.func115,Tryz.ntmps115;go_wp2_with (go_at_call 75;first|(with_reducible refine(HN _).o.mono ?_;rintro e w' ⟨rfl,rfl⟩)|(with_reducible refine(HM _).o.mono ?_;rintro e w' ⟨rfl,rfl⟩))
      all_goals
       go_ret;exact⟨rfl,Z2⟩
    simp only[Bool.true_and];cases r'
    all_goals
     go_enter Tryz.func115,Tryz.ntmps115;go_wp2_with (go_at_call 75;first|(with_reducible refine(HN _).o.mono ?_;rintro e w' ⟨rfl,rfl⟩)|(with_reducible refine(HM _).o.mono ?_;rintro e w' ⟨rfl,rfl⟩))
     all_goals
      go_ret;exact⟨rfl,Z2⟩
  · have Xa:(a==0)=false:=beq_eq_false_iff_ne.2 ha;rw[decide_eq_false ha];simp only[Bool.false_and];go_enter Tryz.func115,Tryz.ntmps115;go_wp2_with (fail)
    all_goals
     go_ret;exact⟨rfl,Z2⟩
theorem Sq(op a:Int)(n m:ByteArray)(w:World)(h:¬(1≤op∧op≤15)):Calls Tryz.prog 115 #[.agg #[.int .i64 op,.int .i64 a,.string n,.string m]] w fun e w'=>e=.returned (.bool (M.eH ⟨op,a,n,m⟩))∧Ext w w':=by
 have hk:∀k:Int,1≤k→k≤15→(op==k)=false:=fun k h1 h2=>beq_eq_false_iff_ne.2 Wg;have k1:=hk 1 Wg Wg;have k2:=hk 2 Wg Wg;have k3:=hk 3 Wg Wg;have k4:=hk 4 Wg Wg;have k5:=hk 5 Wg Wg;have k6:=hk 6 Wg Wg;have k7:=hk 7 Wg Wg;have k8:=hk 8 Wg Wg;have k9:=hk 9 Wg Wg;have k10:=hk 10 Wg Wg;have k11:=hk 11 Wg Wg;have k12:=hk 12 Wg Wg;have k13:=hk 13 Wg Wg;have k14:=hk 14 Wg Wg;have k15:=hk 15 Wg Wg;clear hk;simp only[M.eH,M.isNum,M.jO,M.kS,M.mG,k1,k2,k3,k4,k5,k6,k7,k8,k9,k10,k11,k12,k13,k14,k15,Bool.or_false,Bool.false_eq_true,if_false];go_enter Tryz.func115,Tryz.ntmps115;go_wp2_with fail
 all_goals
  go_ret;exact⟨rfl,Z2⟩
theorem Sr(op a:Int)(n m:ByteArray)(w:World):Calls Tryz.prog 115 #[.agg #[.int .i64 op,.int .i64 a,.string n,.string m]] w fun e w'=>e=.returned (.bool (M.eH ⟨op,a,n,m⟩))∧Ext w w':=by
 by_cases h:1≤op∧op≤15
 · have hoo:(op=1∨op=2∨op=3∨op=11∨op=12∨op=13)∨(op=4∨op=5∨op=10∨op=14)∨(op=6∨op=15)∨(op=7∨op=8∨op=9):=by omega
   rcases hoo with h|h|h|h
   · exact Pq op a n m w h
   · exact Ps op a n m w h
   · exact Po op a n m w h
   · exact Pp op a n m w h
 · exact Sq op a n m w h
theorem Sv (w : World) (I : Nat → Prop) (cs : List Value) (c : M.Method) (h : aG w I c cs) :
    Calls Tryz.prog 134 #[.agg cs.toArray] w fun e w'=>e=.returned (.bool (M.nG c))∧Ext w w':=by
 obtain⟨va,vc,vm,rfl, -,h1,h2⟩:=h;obtain⟨ca,cc,rfl,mR,ahD⟩:=h1.form;obtain⟨a,cap,rfl,hn,dm⟩:=h2.form;obtain⟨w0,bI⟩:∃w0,w0=w.alloc (.cells #[.string c.name,va,.int .i64 c.ret.kind,.string c.ret.name,.int .i64 c.locals,.int .i64 c.stack,.slice ca c.code.length cc,.slice a c.maps.length cap] 106):=⟨_,rfl⟩;have aU:Ext w w0:=by rw[bI];exact Z2
 have hb:ay w0 w.heap.size 106 #[.string c.name,va,.int .i64 c.ret.kind,.string c.ret.name,.int .i64 c.locals,.int .i64 c.stack,.slice ca c.code.length cc,.slice a c.maps.length cap]:=by rw[bI];exact ay.new _ _ _
 obtain⟨cz, -, -, -, -, -, -, -,c7, -⟩:=hb.ca;have⟨HB,H,bM,dO⟩:=gD hb (h2.ext gY.stays aU) aU bI;clear aU hb bI h1 h2;by_cases h5:5<c.maps.length
 · have h5':(5:Int)<c.maps.length:=by omega
   go_enter Tryz.func134,Tryz.ntmps134;go_wp2_with fail;rw[←dO.o];go_wp2_with fail;go_ret;exact⟨af (by unfold M.nG;rw[decide_eq_false Wg];rfl),bM.o⟩
 have HMO:Zs (M.nG c=M.dH c 0 c.maps):=Z3 (by unfold M.nG;rw[decide_eq_true Wg];rfl);have h5':¬(5:Int)<c.maps.length:=by omega
 go_enter Tryz.func134,Tryz.ntmps134;go_wp2_with fail;rw[←dO.o];go_wp2_with fail;go_loopw [3] (fun i wr=>∃k:Nat,k≤c.maps.length∧i=.int .i64 k∧Ext w0 wr∧Zs (M.dH c 0 (c.maps.take k)=true)) (fun i _=>c.maps.length - (intOf i).toNat)
 case atStart=>exact⟨0,Nat.zero_le _,rfl,Kp.rr,Z3 rfl⟩
 case round =>
  obtain⟨k,hk,rfl,hE,HA⟩:=hrel;have HE:=Z3 hE;have d7:=hE.aD c7;have dz:=aF d7;by_cases bY:k<c.maps.length
  · have dk:(k:Int)<c.maps.length:=by omega
    obtain⟨x,hx⟩:∃x,c.maps[k]?=some x:=⟨c.maps[k]'bY,List.getElem?_eq_getElem bY⟩;obtain⟨b',off,cs,rfl,hI,⟨vl,vs,rfl,sl,ss⟩, -,hc⟩:=H.o.get hx;obtain⟨la,lc,rfl, -,yB⟩:=sl.form;obtain⟨sa,sc,rfl, -,hsn⟩:=ss.form;obtain⟨g0,g1,g2⟩:=(hc.ext hE).three;have gz:=aF g0;obtain⟨w5,iA⟩:∃w5,w5=wr.alloc (.cells #[.int .i64 x.at_,.slice la x.locals.length lc,.slice sa x.stack.length sc] 138):=⟨_,rfl⟩;have cZ:Ext wr w5:=by rw[iA];exact Z2
    have b5:ay w5 wr.heap.size 138 #[.int .i64 x.at_,.slice la x.locals.length lc,.slice sa x.stack.length sc]:=by rw[iA];exact ay.new _ _ _
    have gy:Zs (Ext w0 w5):=Z3 (HE.o.trans cZ);have bm:=HB.o.ext gy.o;have⟨Ad,PV,tN⟩:=bg (sl.ext eB.stays gy.o) (ss.ext eB.stays gy.o) iA;obtain⟨T,f,dA,HT⟩:=iN.ex (fun W'=>Ext w5 W') _ Kp.rr;obtain⟨-,x0,x1,x2, -⟩:=ay.kY fun s=>(b5.ext (HT.aW s));obtain⟨-, -, -, -, -,m4,m5,m6,m7, -⟩:=ay.kY fun s=>(bm.ext (HT.aW s));have aj:=Z3 HT;have HJ:=Z3 (fun(j:Nat) (y:M.SMap) (hy:c.maps[j]?=some y)=>(show∀s,(f s).cell? ⟨b',off+j*3,none⟩=some (.int .i64 y.at_)from fun s=>by
     obtain⟨_,_,cs2,e2,_,⟨_,_,rfl,_,_⟩, -,yQ⟩:=H.o.get hy;cases e2;exact((yQ.ext gy.o).ext (HT.aW s)).three.1))
    have HX:=Z3 hx;clear HT hx hc hE cZ iA b5 bm sl ss;obtain⟨q1,Bq⟩:∃q,(decide (1≤x.at_)&&decide (x.at_≤(c.code.length:Int) - 1))=q:=⟨_,rfl⟩;have GR:=Z3 Bq;clear Bq;obtain⟨q3,hq3⟩:∃q,((x.locals.length:Int) !=c.locals)=q:=⟨_,rfl⟩;obtain⟨q4,hq4⟩:∃q,decide (c.stack<(x.stack.length:Int))=q:=⟨_,rfl⟩;obtain⟨q5,hq5⟩:∃q,x.locals.all M.nI=q:=⟨_,rfl⟩;obtain⟨q6,hq6⟩:∃q,x.stack.all M.nI=q:=⟨_,rfl⟩;have⟨Jn,K7⟩:=aJ hq5 hq6;clear hq5 hq6;obtain⟨q2,pY,dw⟩:∃q2,((k=0∧q2=false)∨∃j y,k=j+1∧c.maps[j]?=some y∧q2=decide (x.at_≤y.at_))∧M.dH c 0 (c.maps.take (k+1))=(q1&& !q2&& !q3&& !q4&&q5&&q6):=by
     by_cases h0:k=0
     · exact⟨false,.inl ⟨h0,rfl⟩,by rw[M.I6 HX.o HA.o (.inl ⟨h0,rfl⟩),GR.o,hq3,hq4,Jn.o,K7.o]⟩
     · obtain⟨j,hj⟩:∃j,k=j+1:=⟨k - 1,by omega⟩;obtain⟨y,hy⟩:∃y,c.maps[j]?=some y:=⟨c.maps[j]'Wg,List.getElem?_eq_getElem Wg⟩;exact⟨_,.inr ⟨j,y,hj,hy,rfl⟩,by rw[M.I6 HX.o HA.o (.inr ⟨j,y,hj,hy,rfl⟩),GR.o,hq3,hq4,Jn.o,K7.o]⟩
    have⟨pM,Ed⟩:=aJ dw pY;have vN:Zs (M.dH c 0 (c.maps.take (k+1))=false→M.nG c=false):=Z3 fun e=>HMO.o.trans (M.VU e);clear dw pY;go_wp2_with fail;rw[←tN.o];cases q1
    · go_wp2_with fail;(refine Hb aj ?_ ?_);rotate_left;(repeat (go_big_quiet_step ((first|(go_at_call 29;refine(lT _ _ _ _).mono ?_;rintro e w6 ⟨rfl,rfl⟩;rw[GR.o];exact⟨rfl,aj.o.o _ (aj.o.aW _)⟩)|(go_at_call 168;with_reducible refine(dE _ I (.slice la x.locals.length lc) x.locals (Ad.o.ext eB.stays (aj.o.aW _))).mono ?_;rintro e w6 ⟨rfl,dC⟩;rw[Jn.o];exact⟨rfl,aj.o.o w6 ((aj.o.aW _).trans dC)⟩)|(go_at_call 168;with_reducible refine(dE _ I (.slice sa x.stack.length sc) x.stack (PV.o.ext eB.stays (aj.o.aW _))).mono ?_;rintro e w6 ⟨rfl,dC⟩;rw[K7.o];exact⟨rfl,aj.o.o w6 ((aj.o.aW _).trans dC)⟩)))));(refine wpQuiet_nil ?_);(rintro _ ⟨sW,rfl⟩);rotate_left
      · exact Kp.rr.drew
      go_wp2_with fail;go_ret;exact⟨af (vN.o (pM.o.trans rfl)).symm,(bM.o.trans gy.o).trans (aj.o.aW sW)⟩
    by_cases zB:0<k
    · have abU:decide ((0:Int)<(k:Int))=true:=decide_eq_true Wg;obtain⟨j,y,hj,hy,pY⟩:∃j y,k=j+1∧c.maps[j]?=some y∧q2=decide (x.at_≤y.at_):=Ed.o.resolve_left (fun h=>by have:=h.1;omega);replace pY:=pY.symm;have Xe:IntKind.i64.wrap ((k:Int) - 1)=(j:Int):=by rw[IntWalk.i64_in _ Wg];omega
      have Ti:(k:Int) - 1=(j:Int):=by omega
      have hj2:(0:Int)≤(j:Int):=by omega
      have hj3:(j:Int)<c.maps.length:=by omega
      have yj:=HJ.o j y hy;clear hy hj;clear Ed;cases q2;rotate_left
      · go_wp2_with fail;(refine Hb aj ?_ ?_);rotate_left;(repeat (go_big_quiet_step ((first|(go_at_call 29;refine(lT _ _ _ _).mono ?_;rintro e w6 ⟨rfl,rfl⟩;rw[GR.o];exact⟨rfl,aj.o.o _ (aj.o.aW _)⟩)|(go_at_call 168;with_reducible refine(dE _ I (.slice la x.locals.length lc) x.locals (Ad.o.ext eB.stays (aj.o.aW _))).mono ?_;rintro e w6 ⟨rfl,dC⟩;rw[Jn.o];exact⟨rfl,aj.o.o w6 ((aj.o.aW _).trans dC)⟩)|(go_at_call 168;with_reducible refine(dE _ I (.slice sa x.stack.length sc) x.stack (PV.o.ext eB.stays (aj.o.aW _))).mono ?_;rintro e w6 ⟨rfl,dC⟩;rw[K7.o];exact⟨rfl,aj.o.o w6 ((aj.o.aW _).trans dC)⟩)))));(refine wpQuiet_nil ?_);(rintro _ ⟨sW,rfl⟩);rotate_left
        · exact Kp.rr.drew
        go_wp2_with fail;go_ret;exact⟨af (vN.o (pM.o.trans rfl)).symm,(bM.o.trans gy.o).trans (aj.o.aW sW)⟩
      cases q3;rotate_left
      · go_wp2_with fail;(refine Hb aj ?_ ?_);rotate_left;(repeat (go_big_quiet_step ((first|(go_at_call 29;refine(lT _ _ _ _).mono ?_;rintro e w6 ⟨rfl,rfl⟩;rw[GR.o];exact⟨rfl,aj.o.o _ (aj.o.aW _)⟩)|(go_at_call 168;with_reducible refine(dE _ I (.slice la x.locals.length lc) x.locals (Ad.o.ext eB.stays (aj.o.aW _))).mono ?_;rintro e w6 ⟨rfl,dC⟩;rw[Jn.o];exact⟨rfl,aj.o.o w6 ((aj.o.aW _).trans dC)⟩)|(go_at_call 168;with_reducible refine(dE _ I (.slice sa x.stack.length sc) x.stack (PV.o.ext eB.stays (aj.o.aW _))).mono ?_;rintro e w6 ⟨rfl,dC⟩;rw[K7.o];exact⟨rfl,aj.o.o w6 ((aj.o.aW _).trans dC)⟩)))));(refine wpQuiet_nil ?_);(rintro _ ⟨sW,rfl⟩);rotate_left
        · exact Kp.rr.drew
        go_wp2_with fail;go_ret;exact⟨af (vN.o (pM.o.trans rfl)).symm,(bM.o.trans gy.o).trans (aj.o.aW sW)⟩
      cases q4;rotate_left
      · go_wp2_with fail;(refine Hb aj ?_ ?_);rotate_left;(repeat (go_big_quiet_step ((first|(go_at_call 29;refine(lT _ _ _ _).mono ?_;rintro e w6 ⟨rfl,rfl⟩;rw[GR.o];exact⟨rfl,aj.o.o _ (aj.o.aW _)⟩)|(go_at_call 168;with_reducible refine(dE _ I (.slice la x.locals.length lc) x.locals (Ad.o.ext eB.stays (aj.o.aW _))).mono ?_;rintro e w6 ⟨rfl,dC⟩;rw[Jn.o];exact⟨rfl,aj.o.o w6 ((aj.o.aW _).trans dC)⟩)|(go_at_call 168;with_reducible refine(dE _ I (.slice sa x.stack.length sc) x.stack (PV.o.ext eB.stays (aj.o.aW _))).mono ?_;rintro e w6 ⟨rfl,dC⟩;rw[K7.o];exact⟨rfl,aj.o.o w6 ((aj.o.aW _).trans dC)⟩)))));(refine wpQuiet_nil ?_);(rintro _ ⟨sW,rfl⟩);rotate_left
        · exact Kp.rr.drew
        go_wp2_with fail;go_ret;exact⟨af (vN.o (pM.o.trans rfl)).symm,(bM.o.trans gy.o).trans (aj.o.aW sW)⟩
      cases q5
      · go_wp2_with fail;(refine Hb aj ?_ ?_);rotate_left;(repeat (go_big_quiet_step ((first|(go_at_call 29;refine(lT _ _ _ _).mono ?_;rintro e w6 ⟨rfl,rfl⟩;rw[GR.o];exact⟨rfl,aj.o.o _ (aj.o.aW _)⟩)|(go_at_call 168;with_reducible refine(dE _ I (.slice la x.locals.length lc) x.locals (Ad.o.ext eB.stays (aj.o.aW _))).mono ?_;rintro e w6 ⟨rfl,dC⟩;rw[Jn.o];exact⟨rfl,aj.o.o w6 ((aj.o.aW _).trans dC)⟩)|(go_at_call 168;with_reducible refine(dE _ I (.slice sa x.stack.length sc) x.stack (PV.o.ext eB.stays (aj.o.aW _))).mono ?_;rintro e w6 ⟨rfl,dC⟩;rw[K7.o];exact⟨rfl,aj.o.o w6 ((aj.o.aW _).trans dC)⟩)))));(refine wpQuiet_nil ?_);(rintro _ ⟨sW,rfl⟩);rotate_left
        · exact Kp.rr.drew
        go_wp2_with fail;go_ret;exact⟨af (vN.o (pM.o.trans rfl)).symm,(bM.o.trans gy.o).trans (aj.o.aW sW)⟩
      cases q6
      · go_wp2_with fail;(refine Hb aj ?_ ?_);rotate_left;(repeat (go_big_quiet_step ((first|(go_at_call 29;refine(lT _ _ _ _).mono ?_;rintro e w6 ⟨rfl,rfl⟩;rw[GR.o];exact⟨rfl,aj.o.o _ (aj.o.aW _)⟩)|(go_at_call 168;with_reducible refine(dE _ I (.slice la x.locals.length lc) x.locals (Ad.o.ext eB.stays (aj.o.aW _))).mono ?_;rintro e w6 ⟨rfl,dC⟩;rw[Jn.o];exact⟨rfl,aj.o.o w6 ((aj.o.aW _).trans dC)⟩)|(go_at_call 168;with_reducible refine(dE _ I (.slice sa x.stack.length sc) x.stack (PV.o.ext eB.stays (aj.o.aW _))).mono ?_;rintro e w6 ⟨rfl,dC⟩;rw[K7.o];exact⟨rfl,aj.o.o w6 ((aj.o.aW _).trans dC)⟩)))));(refine wpQuiet_nil ?_);(rintro _ ⟨sW,rfl⟩);rotate_left
        · exact Kp.rr.drew
        go_wp2_with fail;go_ret;exact⟨af (vN.o (pM.o.trans rfl)).symm,(bM.o.trans gy.o).trans (aj.o.aW sW)⟩
      go_wp2_with fail;(refine Hb aj ?_ ?_);rotate_left;(repeat (go_big_quiet_step ((first|(go_at_call 29;refine(lT _ _ _ _).mono ?_;rintro e w6 ⟨rfl,rfl⟩;rw[GR.o];exact⟨rfl,aj.o.o _ (aj.o.aW _)⟩)|(go_at_call 168;with_reducible refine(dE _ I (.slice la x.locals.length lc) x.locals (Ad.o.ext eB.stays (aj.o.aW _))).mono ?_;rintro e w6 ⟨rfl,dC⟩;rw[Jn.o];exact⟨rfl,aj.o.o w6 ((aj.o.aW _).trans dC)⟩)|(go_at_call 168;with_reducible refine(dE _ I (.slice sa x.stack.length sc) x.stack (PV.o.ext eB.stays (aj.o.aW _))).mono ?_;rintro e w6 ⟨rfl,dC⟩;rw[K7.o];exact⟨rfl,aj.o.o w6 ((aj.o.aW _).trans dC)⟩)))));(refine wpQuiet_nil ?_);(rintro _ ⟨sW,rfl⟩);rotate_left
      · exact Kp.rr.drew
      go_wp2_with fail;go_round
      case rel=>exact⟨k+1,by omega,by go_num,gy.o.trans (aj.o.aW sW),Z3 (pM.o.trans rfl)⟩
      case measure=>simp[intOf];omega
    · have abU:decide ((0:Int)<(k:Int))=false:=decide_eq_false Wg;obtain rfl:q2=false:=by rcases Ed.o with h|⟨j,y,h, -⟩<;>first|exact h.2|omega
      clear Ed;cases q3;rotate_left
      · go_wp2_with fail;(refine Hb aj ?_ ?_);rotate_left;(repeat (go_big_quiet_step ((first|(go_at_call 29;refine(lT _ _ _ _).mono ?_;rintro e w6 ⟨rfl,rfl⟩;rw[GR.o];exact⟨rfl,aj.o.o _ (aj.o.aW _)⟩)|(go_at_call 168;with_reducible refine(dE _ I (.slice la x.locals.length lc) x.locals (Ad.o.ext eB.stays (aj.o.aW _))).mono ?_;rintro e w6 ⟨rfl,dC⟩;rw[Jn.o];exact⟨rfl,aj.o.o w6 ((aj.o.aW _).trans dC)⟩)|(go_at_call 168;with_reducible refine(dE _ I (.slice sa x.stack.length sc) x.stack (PV.o.ext eB.stays (aj.o.aW _))).mono ?_;rintro e w6 ⟨rfl,dC⟩;rw[K7.o];exact⟨rfl,aj.o.o w6 ((aj.o.aW _).trans dC)⟩)))));(refine wpQuiet_nil ?_);(rintro _ ⟨sW,rfl⟩);rotate_left
        · exact Kp.rr.drew
        go_wp2_with fail;go_ret;exact⟨af (vN.o (pM.o.trans rfl)).symm,(bM.o.trans gy.o).trans (aj.o.aW sW)⟩
      cases q4;rotate_left
      · go_wp2_with fail;(refine Hb aj ?_ ?_);rotate_left;(repeat (go_big_quiet_step ((first|(go_at_call 29;refine(lT _ _ _ _).mono ?_;rintro e w6 ⟨rfl,rfl⟩;rw[GR.o];exact⟨rfl,aj.o.o _ (aj.o.aW _)⟩)|(go_at_call 168;with_reducible refine(dE _ I (.slice la x.locals.length lc) x.locals (Ad.o.ext eB.stays (aj.o.aW _))).mono ?_;rintro e w6 ⟨rfl,dC⟩;rw[Jn.o];exact⟨rfl,aj.o.o w6 ((aj.o.aW _).trans dC)⟩)|(go_at_call 168;with_reducible refine(dE _ I (.slice sa x.stack.length sc) x.stack (PV.o.ext eB.stays (aj.o.aW _))).mono ?_;rintro e w6 ⟨rfl,dC⟩;rw[K7.o];exact⟨rfl,aj.o.o w6 ((aj.o.aW _).trans dC)⟩)))));(refine wpQuiet_nil ?_);(rintro _ ⟨sW,rfl⟩);rotate_left
        · exact Kp.rr.drew
        go_wp2_with fail;go_ret;exact⟨af (vN.o (pM.o.trans rfl)).symm,(bM.o.trans gy.o).trans (aj.o.aW sW)⟩
      cases q5
      · go_wp2_with fail;(refine Hb aj ?_ ?_);rotate_left;(repeat (go_big_quiet_step ((first|(go_at_call 29;refine(lT _ _ _ _).mono ?_;rintro e w6 ⟨rfl,rfl⟩;rw[GR.o];exact⟨rfl,aj.o.o _ (aj.o.aW _)⟩)|(go_at_call 168;with_reducible refine(dE _ I (.slice la x.locals.length lc) x.locals (Ad.o.ext eB.stays (aj.o.aW _))).mono ?_;rintro e w6 ⟨rfl,dC⟩;rw[Jn.o];exact⟨rfl,aj.o.o w6 ((aj.o.aW _).trans dC)⟩)|(go_at_call 168;with_reducible refine(dE _ I (.slice sa x.stack.length sc) x.stack (PV.o.ext eB.stays (aj.o.aW _))).mono ?_;rintro e w6 ⟨rfl,dC⟩;rw[K7.o];exact⟨rfl,aj.o.o w6 ((aj.o.aW _).trans dC)⟩)))));(refine wpQuiet_nil ?_);(rintro _ ⟨sW,rfl⟩);rotate_left
        · exact Kp.rr.drew
        go_wp2_with fail;go_ret;exact⟨af (vN.o (pM.o.trans rfl)).symm,(bM.o.trans gy.o).trans (aj.o.aW sW)⟩
      cases q6
      · go_wp2_with fail;(refine Hb aj ?_ ?_);rotate_left;(repeat (go_big_quiet_step ((first|(go_at_call 29;refine(lT _ _ _ _).mono ?_;rintro e w6 ⟨rfl,rfl⟩;rw[GR.o];exact⟨rfl,aj.o.o _ (aj.o.aW _)⟩)|(go_at_call 168;with_reducible refine(dE _ I (.slice la x.locals.length lc) x.locals (Ad.o.ext eB.stays (aj.o.aW _))).mono ?_;rintro e w6 ⟨rfl,dC⟩;rw[Jn.o];exact⟨rfl,aj.o.o w6 ((aj.o.aW _).trans dC)⟩)|(go_at_call 168;with_reducible refine(dE _ I (.slice sa x.stack.length sc) x.stack (PV.o.ext eB.stays (aj.o.aW _))).mono ?_;rintro e w6 ⟨rfl,dC⟩;rw[K7.o];exact⟨rfl,aj.o.o w6 ((aj.o.aW _).trans dC)⟩)))));(refine wpQuiet_nil ?_);(rintro _ ⟨sW,rfl⟩);rotate_left
        · exact Kp.rr.drew
        go_wp2_with fail;go_ret;exact⟨af (vN.o (pM.o.trans rfl)).symm,(bM.o.trans gy.o).trans (aj.o.aW sW)⟩
      go_wp2_with fail;(refine Hb aj ?_ ?_);rotate_left;(repeat (go_big_quiet_step ((first|(go_at_call 29;refine(lT _ _ _ _).mono ?_;rintro e w6 ⟨rfl,rfl⟩;rw[GR.o];exact⟨rfl,aj.o.o _ (aj.o.aW _)⟩)|(go_at_call 168;with_reducible refine(dE _ I (.slice la x.locals.length lc) x.locals (Ad.o.ext eB.stays (aj.o.aW _))).mono ?_;rintro e w6 ⟨rfl,dC⟩;rw[Jn.o];exact⟨rfl,aj.o.o w6 ((aj.o.aW _).trans dC)⟩)|(go_at_call 168;with_reducible refine(dE _ I (.slice sa x.stack.length sc) x.stack (PV.o.ext eB.stays (aj.o.aW _))).mono ?_;rintro e w6 ⟨rfl,dC⟩;rw[K7.o];exact⟨rfl,aj.o.o w6 ((aj.o.aW _).trans dC)⟩)))));(refine wpQuiet_nil ?_);(rintro _ ⟨sW,rfl⟩);rotate_left
      · exact Kp.rr.drew
      go_wp2_with fail;go_round
      case rel=>exact⟨k+1,by omega,by go_num,gy.o.trans (aj.o.aW sW),Z3 (pM.o.trans rfl)⟩
      case measure=>simp[intOf];omega
  · have dk:¬(k:Int)<c.maps.length:=by omega
    clear hE;go_wp2_with fail;go_ret;exact⟨af (by have:=HA.o;rw[List.take_of_length_le Wg]at this;rw[HMO.o,this]),bM.o.trans HE.o⟩
theorem Su(w:World)(I:Nat→Prop)(cs:List Value)(c:M.Method)(h:aG w I c cs):
    Calls Tryz.prog 133 #[.agg cs.toArray] w fun e w'=>e=.returned (.bool (M.codeOk c))∧Ext w w':=by
 obtain⟨va,vc,vm,rfl, -,h1,h2⟩:=h;obtain⟨a,cap,rfl,hn,dm⟩:=h1.form;obtain⟨w0,bI,aU,hb⟩:=nu w #[.string c.name,va,.int .i64 c.ret.kind,.string c.ret.name,.int .i64 c.locals,.int .i64 c.stack,.slice a c.code.length cap,vm] 106;obtain⟨cz, -, -, -, -,c3, -,c5, -⟩:=hb.ca;have⟨HB,H,bM,dO⟩:=gD hb (h1.ext (fun _ _ _ _ _ _ _ _ h=>h) aU) aU bI;clear aU hb bI h1 h2;go_enter Tryz.func133,Tryz.ntmps133;go_wp2_with fail;rw[←dO.o];go_wp2_with fail;refine(lT _ _ _ _).mono ?_;rintro e w' ⟨rfl,rfl⟩;obtain⟨q,hq⟩:∃q,(decide (1≤(c.code.length:Int))&&decide ((c.code.length:Int)≤16))=q:=⟨_,rfl⟩;have KV:Zs (M.codeOk c=(q&&c.code.all (M.iZ c))):=Z3 (by
  unfold M.codeOk;rw[←hq];congr 2
  · exact decide_eq_decide.2 Wg
  · exact decide_eq_decide.2 Wg)
 rw[hq];cases q
 · go_wp2_with fail;go_ret;exact⟨af (by rw[KV.o];rfl),bM.o⟩
 clear hq;go_wp2_with fail;go_loopw [3] (fun i wr=>∃k:Nat,k≤c.code.length∧i=.int .i64 k∧Ext w0 wr∧Zs ((c.code.take k).all (M.iZ c)=true)) (fun i _=>c.code.length - (intOf i).toNat)
 case atStart=>exact⟨0,Nat.zero_le _,rfl,Kp.rr,Z3 Wf⟩
 case round =>
  obtain⟨k,hk,rfl,hE,HA⟩:=hrel;have HE:=Z3 hE;have d5:=hE.aD c5;have d3:=hE.aD c3;have dz:=aF d5;by_cases bY:k<c.code.length
  · have dk:(k:Int)<c.code.length:=by omega
    obtain⟨x,hx⟩:∃x,c.code[k]?=some x:=⟨c.code[k]'bY,List.getElem?_eq_getElem bY⟩;obtain⟨b',off,cs,rfl,hI,rfl, -,hc⟩:=H.o.get hx;obtain⟨g0,g1,g2,g3⟩:=(hc.ext hE).four;have gz:=aF g0;obtain⟨w5,iA⟩:∃w5,w5=wr.alloc (.cells #[.int .i64 x.op,.int .i64 x.a,.string x.name,.string x.member] 130):=⟨_,rfl⟩;have cZ:Ext wr w5:=by rw[iA];exact Z2
    have lC:Zs (ay w5 wr.heap.size 130 #[.int .i64 x.op,.int .i64 x.a,.string x.name,.string x.member]):=Z3 (by rw[iA];exact ay.new _ _ _);have⟨HD5,HD3,gy,tN,HX⟩:=kL (cZ.aD d5) (cZ.aD d3) (HE.o.trans cZ) iA hx;clear hx hc hE cZ iA;go_wp2_with fail;rw[←tN.o];refine(Sr x.op x.a x.name x.member _).mono ?_;rintro e w2 ⟨rfl,bZ⟩;have DU:M.iZ c x=(M.eH ⟨x.op,x.a,x.name,x.member⟩&&(if x.op=2∨x.op=3 then decide (x.a<c.locals)else if x.op=11∨x.op=12∨x.op=13 then decide (x.a<c.code.length)else true)):=rfl;have fF:M.eH ⟨x.op,x.a,x.name,x.member⟩=true→1≤x.op∧x.op≤15:=M.Ry;obtain⟨t,ht⟩:∃t,M.eH ⟨x.op,x.a,x.name,x.member⟩=t:=⟨_,rfl⟩;rw[ht]at DU fF ⊢;clear ht;have gL:=Z3 (gy.o.trans bZ);have e5:=bZ.aD HD5.o;have e3:=bZ.aD HD3.o;have ez:=aF e5;have nM:=lC.o.ext bZ;obtain⟨-,y0,y1, -⟩:=nM.ca;have yz:=aF y0;clear bZ nM g0 g1 g2 g3 gz d5 d3 dz c5 c3 cz;cases t
    · have SN:=Z3 DU;clear fF DU;go_wp2_with fail;go_ret;exact⟨af (by rw[KV.o,M.Eg HX.o (by rw[SN.o];rfl)];rfl),bM.o.trans gL.o⟩
    · obtain⟨o1,o2⟩:=fF rfl;have hoo:x.op=1∨x.op=2∨x.op=3∨x.op=4∨x.op=5∨x.op=6∨x.op=7∨x.op=8∨x.op=9∨x.op=10∨x.op=11∨x.op=12∨x.op=13∨x.op=14∨x.op=15:=by omega
      obtain⟨op,aev⟩:∃op,x.op=op:=⟨_,rfl⟩;rw[aev]at hoo y0 DU;obtain⟨xa,Qw⟩:∃xa,x.a=xa:=⟨_,rfl⟩;rw[Qw]at y1 DU;have SN:=Z3 DU;clear fF o1 o2 aev Qw DU;have b1:xa<c.locals∨c.locals≤xa:=by omega
      have b2:xa<c.code.length∨(c.code.length:Int)≤xa:=by omega
      rcases hoo with rfl|rfl|rfl|rfl|rfl|rfl|rfl|rfl|rfl|rfl|rfl|rfl|rfl|rfl|rfl<;>rcases b1 with b1|b1<;>rcases b2 with b2|b2
      all_goals
       have b3:decide (c.locals≤xa)=decide (c.locals≤xa):=rfl;go_wp2_with fail;first
       |(go_ret;exact⟨af (by rw[KV.o,M.Eg HX.o (by rw[SN.o];(first|(simp;done)|(simp;omega)))];rfl),bM.o.trans gL.o⟩)
       | (go_round
          case rel=>exact⟨k+1,by omega,by go_num,gL.o,Z3 (M.EU HX.o (by rw[SN.o];(first|(simp;done)|(simp;omega))) HA.o)⟩
          case measure=>simp[intOf];omega)
  · have dk:¬(k:Int)<c.code.length:=by omega
    clear hE;go_wp2_with fail;go_ret;exact⟨af (by have:=HA.o;rw[List.take_of_length_le Wg]at this;rw[KV.o,this];rfl),bM.o.trans HE.o⟩
theorem Wm(w:World)(I:Nat→Prop)(cs:List Value)(c:M.Method)(h:aG w I c cs):
    Calls Tryz.prog 108 #[.agg cs.toArray] w fun e w'=>e=.returned (.bool (M.jA c))∧Ext w w':=by
 obtain⟨va,vc,vm,rfl,h0,h1,h2⟩:=h;obtain⟨a1,u1,rfl,mR,Bo⟩:=h0.form;obtain⟨a2,u2,rfl,yD,Hw⟩:=h1.form;obtain⟨a3,u3,rfl,U8,hl3⟩:=h2.form;obtain⟨w0,bI⟩:∃w0,w0=w.alloc (.cells #[.string c.name,.slice a1 c.args.length u1,.int .i64 c.ret.kind,.string c.ret.name,.int .i64 c.locals,.int .i64 c.stack,.slice a2 c.code.length u2,.slice a3 c.maps.length u3] 106):=⟨_,rfl⟩;have aU:Ext w w0:=by rw[bI];exact Z2
 have hb:ay w0 w.heap.size 106 #[.string c.name,.slice a1 c.args.length u1,.int .i64 c.ret.kind,.string c.ret.name,.int .i64 c.locals,.int .i64 c.stack,.slice a2 c.code.length u2,.slice a3 c.maps.length u3]:=by rw[bI];exact ay.new _ _ _
 obtain⟨cz,c0,c1,c2,c3,c4,c5,c6,c7, -⟩:=hb.ca;have HB:=Z3 hb;have HM:Zs (aG w I c [.string c.name,.slice a1 c.args.length u1,.int .i64 c.ret.kind,.string c.ret.name,.int .i64 c.locals,.int .i64 c.stack,.slice a2 c.code.length u2,.slice a3 c.maps.length u3]):=Z3 ⟨_,_,_,rfl,h0,h1,h2⟩;have⟨HK,bM,dO⟩:=bg h0 aU bI;have HN:=fun W=>Z3 (di c.name W);clear aU hb bI h0 h1 h2;cases yF:M.aT c.name<;>simp only[yF]at HN
 · go_enter Tryz.func108,Tryz.ntmps108;go_wp2_with fail;rw[←dO.o];go_wp2_with fail;refine(HN _).o.mono ?_;rintro e w' ⟨rfl,rfl⟩;go_wp2_with fail;go_ret;exact⟨af (by unfold M.jA;rw[yF];simp),bM.o⟩
 by_cases h3:3<c.args.length
 · have Tc:decide ((3:Int)<c.args.length)=true:=decide_eq_true Wg;go_enter Tryz.func108,Tryz.ntmps108;go_wp2_with fail;rw[←dO.o];go_wp2_with fail;refine(HN _).o.mono ?_;rintro e w' ⟨rfl,rfl⟩;go_wp2_with fail;go_ret;exact⟨af (by unfold M.jA;rw[decide_eq_false (show¬c.args.length≤3 by omega)];simp),bM.o⟩
 have H3:Zs (c.args.length≤3):=Z3 Wg;have HNM:=Z3 yF;have Tc:decide ((3:Int)<c.args.length)=false:=decide_eq_false Wg;go_enter Tryz.func108,Tryz.ntmps108;go_wp2_with fail;rw[←dO.o];go_wp2_with fail;refine(HN _).o.mono ?_;rintro e w' ⟨rfl,rfl⟩;go_wp2_with fail;refine(Ct c.ret.kind c.ret.name _).mono ?_;rintro e w2 ⟨rfl,bZ⟩;obtain⟨q2,pY⟩:∃q,M.fe ⟨c.ret.kind,c.ret.name⟩=q:=⟨_,rfl⟩;have Ed:Zs (M.fe c.ret=q2):=Z3 pY;rw[pY];clear pY;have gL:=Z3 (bM.o.trans bZ);have nM:=HB.o.ext bZ;have mQ:=Z3 nM;clear bZ c0 c1 c2 c3 c4 c5 c6 c7 cz;obtain⟨dz,d0,d1,d2,d3,d4,d5,d6,d7, -⟩:=nM.ca;clear nM;cases q2
 · go_wp2_with fail;go_ret;exact⟨af (by unfold M.jA;rw[Ed.o];simp),gL.o⟩
 go_wp2_with fail;refine(lT _ _ _ _).mono ?_;rintro e w' ⟨rfl,rfl⟩;obtain⟨q3,hq3⟩:∃q,(decide ((c.args.length:Int)+1≤c.locals)&&decide (c.locals≤6))=q:=⟨_,rfl⟩;have HQ3:=Z3 hq3;rw[hq3];clear hq3;cases q3
 · go_wp2_with fail;go_ret;exact⟨af (by have:=HQ3.o;unfold M.jA;cases h1:decide ((c.args.length:Int)+1≤c.locals)<;>cases h2:decide (c.locals≤6)<;>simp_all),gL.o⟩
 go_wp2_with fail;refine(lT _ _ _ _).mono ?_;rintro e w' ⟨rfl,rfl⟩;obtain⟨q4,hq4⟩:∃q,(decide ((1:Int)≤c.stack)&&decide (c.stack≤5))=q:=⟨_,rfl⟩;have HQ4:=Z3 hq4;rw[hq4];clear hq4;cases q4
 · go_wp2_with fail;go_ret;exact⟨af (by have:=HQ4.o;unfold M.jA;cases h1:decide ((1:Int)≤c.stack)<;>cases h2:decide (c.stack≤5)<;>simp_all),gL.o⟩
 go_wp2_with fail;refine(Su _ I _ c (aG.stays _ _ _ _ _ _ (Ext.same gL.o) (fun _ h=>h) HM.o)).mono ?_;rintro e w3 ⟨rfl,dK⟩;obtain⟨q5,hq5⟩:∃q,M.codeOk c=q:=⟨_,rfl⟩;have Jn:=Z3 hq5;rw[hq5];clear hq5;have jc:=Z3 (gL.o.trans dK);have IM:=mQ.o.ext dK;have gN:=Z3 IM;clear dK d0 d1 d2 d3 d4 d5 d6 d7 dz;obtain⟨ez,e0,e1,e2,e3,e4,e5,e6,e7, -⟩:=IM.ca;clear IM;cases q5
 · go_wp2_with fail;go_ret;exact⟨af (by unfold M.jA;rw[Jn.o];simp),jc.o⟩
 go_wp2_with fail;refine(Sv _ I _ c (aG.stays _ _ _ _ _ _ (Ext.same jc.o) (fun _ h=>h) HM.o)).mono ?_;rintro e w4 ⟨rfl,dI⟩;obtain⟨q6,hq6⟩:∃q,M.nG c=q:=⟨_,rfl⟩;have K7:=Z3 hq6;rw[hq6];clear hq6;have iG:=Z3 (jc.o.trans dI);have BQ:=gN.o.ext dI;clear dI e0 e1 e2 e3 e4 e5 e6 e7 ez;obtain⟨fz, -,f1, -⟩:=BQ.ca;have kP:=Z3 BQ;clear BQ;cases q6
 · go_wp2_with fail;go_ret;exact⟨af (by unfold M.jA;rw[K7.o];simp),iG.o⟩
 have acu:Zs (M.jA c=c.args.all M.fe):=Z3 (by
  have h3:=HQ3.o;have h4:=HQ4.o;simp only[Bool.and_eq_true,decide_eq_true_eq]at h3 h4;unfold M.jA;rw[HNM.o,Ed.o,Jn.o,K7.o,decide_eq_true H3.o,decide_eq_true h3.1,decide_eq_true h3.2,decide_eq_true h4.1,decide_eq_true h4.2];simp)
 go_wp2_with fail;go_loopw [3] (fun i wr=>∃k:Nat,k≤c.args.length∧i=.int .i64 k∧Ext w4 wr∧Zs ((c.args.take k).all M.fe=true)) (fun i _=>c.args.length - (intOf i).toNat)
 case atStart=>exact⟨0,Nat.zero_le _,rfl,Kp.rr,Z3 Wf⟩
 case round =>
  obtain⟨k,hk,rfl,hE,HA⟩:=hrel;have HE:=Z3 hE;have g1:=hE.aD f1;have gz:=aF g1;by_cases bY:k<c.args.length
  · have dk:(k:Int)<c.args.length:=by omega
    obtain⟨x,hx⟩:∃x,c.args[k]?=some x:=⟨c.args[k]'bY,List.getElem?_eq_getElem bY⟩;obtain⟨b',off,cs,rfl,hI,rfl, -,hc⟩:=HK.o.get hx;obtain⟨y0,y1⟩:=(hc.ext (iG.o.trans hE)).two;have yz:=aF y0;have HX:=Z3 hx;clear hx hc hE;go_wp2_with fail;refine(Ct x.kind x.name _).mono ?_;rintro e w5 ⟨rfl,cZ⟩;obtain⟨t,ht⟩:∃q,M.fe ⟨x.kind,x.name⟩=q:=⟨_,rfl⟩;have HT:Zs (M.fe x=t):=Z3 ht;rw[ht];clear ht;have gy:=Z3 (HE.o.trans cZ);clear cZ;cases t
    · go_wp2_with fail;go_ret;exact⟨af (by rw[acu.o,M.Eg HX.o HT.o]),iG.o.trans gy.o⟩
    · go_wp2_with fail;go_round
      case rel=>exact⟨k+1,by omega,by go_num,gy.o,Z3 (M.EU HX.o HT.o HA.o)⟩
      case measure=>simp[intOf];omega
  · have dk:¬(k:Int)<c.args.length:=by omega
    clear hE;go_wp2_with fail;go_ret;exact⟨af (by have:=HA.o;rw[List.take_of_length_le Wg]at this;rw[acu.o,this]),iG.o.trans HE.o⟩
end Go.Proofs.YtkmclfpjpajjeaaGreat
