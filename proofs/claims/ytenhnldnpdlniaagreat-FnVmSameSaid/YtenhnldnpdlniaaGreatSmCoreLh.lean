/- Walks. -/
import Derived.Test.YtenhnldnpdlniaaGreatSmCoreLf
set_option maxRecDepth 100000
set_option maxHeartbeats 4000000
set_option linter.all false
namespace Go.Proofs.YtenhnldnpdlniaaGreat
open Go Go.RowKit Tryz M
theorem Nz{w:World}(I:Nat->Prop){cs:List Value}(c:M.Method)(v:jy w I c cs):Calls prog 197 #[.agg cs.toArray] w fun u V=>u=.returned (.bool (codeOk c))/\Ext w V:=by
 obtain⟨va,vc,vm,rfl,-,x,h2⟩:=v;obtain⟨ah,ai,rfl,hn,aj⟩:=x.form;obtain⟨w0,S,y,z⟩:=nu w #[c.name,va,c.ret.kind,c.ret.name,c.locals,c.stack,.slice ah c.code.length ai,vm] 113;obtain⟨cz,-,-,-,-,G,-,H,-⟩:=z.ca;have⟨HB,X,i,af⟩:=kD z (x.ext (fun _ _ _ _ _ _ _ _ v=>v) y) y S;clear y z S x h2;go_enter func197,ntmps197;go_wp2_with fail;rw[<-af.o];go_wp2_with fail;refine(rD).mono ?_;rintro u V ⟨rfl,rfl⟩;obtain⟨n,A⟩:∃n,(decide (1<=(c.code.length:Int))&&decide ((c.code.length:Int)<=16))=n:=⟨_,rfl⟩;have h:Zz (codeOk c=(n&&c.code.all (oL c))):=Zy (by
  unfold codeOk;rw[<-A];congr 2
  . exact UH.2 Zm
  . exact UH.2 Zm)
 rw[A];cases n
 . go_wp2;go_ret;exact⟨hV (by rw[h.o];rfl),i⟩
 clear A;go_wp2;go_loopw [3] (fun C wr=>∃b:Nat,b<=c.code.length/\C=.int .i64 b/\Ext w0 wr/\Zz ((c.code.take b).all (oL c)=true)) (fun C _=>c.code.length - (intOf C).toNat)
 case atStart=>exact⟨0,Tz _,rfl,Kp.rr,Zy Zl⟩
 case round=>
  obtain⟨b,hk,rfl,f,E⟩:=hrel;have F:=Zy f;have t:=f.jm H;have J:=f.jm G;have dz:=jv t;by_cases O:b<c.code.length
  . have dk:(b:Int)<c.code.length:=Zm
    obtain⟨a,B⟩:∃a,c.code[b]?=some a:=⟨c.code[b]'O,CU O⟩;obtain⟨b',ak,cs,rfl,hI,rfl,-,N⟩:=X.get B;obtain⟨K,g1,g2,g3⟩:=(N.ext f).four;have gz:=jv K;obtain⟨o,m⟩:=S9 (wr.alloc (.cells #[.int .i64 a.op,.int .i64 a.a,.string a.name,.string a.member] 134));have k:Ext wr o:=by rw[m];exact Zx
    have Y:Zz (jq o wr 134 #[.int .i64 a.op,.int .i64 a.a,.string a.name,.string a.member]):=Zy (by rw[m];exact jq.new _ _ _);have⟨aa,Z,ae,ag,q⟩:=nC (k.jm t) (k.jm J) (F.trans k) m B;clear B N f k m;go_wp2_with fail;rw[<-ag.o];refine(Ny a.op a.a a.name a.member).mono ?_;rintro u w2 ⟨rfl,g⟩;have e:oL c a=(mf ⟨a.op,a.a,a.name,a.member⟩&&(if a.op=2\/a.op=3 then decide (a.a<c.locals)else if a.op=11\/a.op=12\/a.op=13 then decide (a.a<c.code.length)else true)):=rfl;have l:mf ⟨a.op,a.a,a.name,a.member⟩=true->1<=a.op/\a.op<=15:=MI;obtain⟨D,R⟩:∃D,mf ⟨a.op,a.a,a.name,a.member⟩=D:=⟨_,rfl⟩;rw[R]at e l |-;clear R;have p:=Zy (ae.trans g);have e5:=g.jm aa;have e3:=g.jm Z;have ez:=jv e5;have L:=Y.ext g;obtain⟨-,W,y1,-⟩:=L.ca;have yz:=jv W;clear g L K g1 g2 g3 gz t J dz H G cz;cases D
    . have j:=Zy e;clear l e;go_wp2;go_ret;exact⟨hV (by rw[h.o,Dn q.o (by rw[j.o];rfl)];rfl),i.trans p⟩
    . obtain⟨o1,o2⟩:=l rfl;have P:a.op=1\/a.op=2\/a.op=3\/a.op=4\/a.op=5\/a.op=6\/a.op=7\/a.op=8\/a.op=9\/a.op=10\/a.op=11\/a.op=12\/a.op=13\/a.op=14\/a.op=15:=Zm
      obtain⟨U,Q⟩:∃U,a.op=U:=⟨_,rfl⟩;rw[Q]at P W e;obtain⟨d,T⟩:∃d,a.a=d:=⟨_,rfl⟩;rw[T]at y1 e;have j:=Zy e;clear l o1 o2 Q T e;have r:d<c.locals\/c.locals<=d:=Zm
      have s:d<c.code.length\/(c.code.length:Int)<=d:=Zm
      rcases P with rfl|rfl|rfl|rfl|rfl|rfl|rfl|rfl|rfl|rfl|rfl|rfl|rfl|rfl|rfl<;>rcases r with r|r<;>rcases s with s|s
      all_goals
       have b3:decide (c.locals<=d)=decide (c.locals<=d):=rfl;go_wp2_with fail;first
       |(go_ret;exact⟨hV (by rw[h.o,Dn q.o (by rw[j.o];(first|(simp;done)|(simp;omega)))];rfl),i.trans p⟩)
       | (go_round
          case rel=>exact⟨b+1,Zm,Zk,p.o,Zy (DT q.o (by rw[j.o];(first|(simp;done)|(simp;omega))) E.o)⟩
          case measure=>simp[intOf];omega)
  . have dk:¬(b:Int)<c.code.length:=Zm
    clear f;go_wp2;go_ret;exact⟨hV (by have:=E.o;rw[Tq Zm]at this;rw[h.o,this];rfl),i.trans F⟩
end Go.Proofs.YtenhnldnpdlniaaGreat
