/- Walks. -/
import Derived.Test.YtlhlnddgfcmfkaaGreatRsCoreH
import Derived.Test.YtlhlnddgfcmfkaaGreatRsCoreLz
set_option maxRecDepth 100000
set_option maxHeartbeats 4000000
set_option linter.all false
namespace Go.Proofs.YtlhlnddgfcmfkaaGreat
open Go Go.RowKit Tryz M
def yX(x:Gy):List Value:=[.int .i64 x.keeper,.string x.name,.int .i64 x.ref.keeper,.string x.ref.name]
def uY(x:uj):List Value:=[.int .i64 x.one,.int .i64 x.two,.string x.name]
def xg:l6 Gy:=fun _ _ x cs=>cs=yX x
def rX:l6 uj:=fun _ _ x cs=>cs=uY x
theorem xg.stays:jL xg:=fun _ _ _ _ _ _ _ _ a=>a
theorem rX.stays:jL rX:=fun _ _ _ _ _ _ _ _ a=>a
theorem CW:Elem 30 116 4:=kN (z:=.agg #[.int .i64 0, "",.int .i64 0, ""]) (bytes:=48) underlying30 Zo rfl Zn Zn
theorem yC:Elem 31 121 3:=kN (z:=.agg #[.int .i64 0,.int .i64 0, ""]) (bytes:=32) underlying31 Zo rfl Zn Zn
def Lv(b:Book)(x:Gy):Bool:=(b.jR.map uT).any fun y=>decide (uT x=y)
def Lx(b:Book)(x:uj):Bool:=(b.jH.map sJ).any fun y=>decide (sJ x=y)
theorem Oo{b:Book}{x:Gy}(a:Lv b x=false):uT x ∉ b.jR.map uT:=by
 intro c;unfold Lv at a;rw[Sg]at a;exact a _ c (R6 rfl)
theorem Oq{b:Book}{x:uj}(a:Lx b x=false):sJ x ∉ b.jH.map sJ:=by
 intro c;unfold Lx at a;rw[Sg]at a;exact a _ c (R6 rfl)
structure Rc where
 l:jh
 p:hZ
 B:Nat
 R:Nat
 OE:Nat
 OP:Nat
 ME:Nat
 MP:Nat
def QW(r:Rc)(ve:Value):Array Value:=#[ve,.map (some r.ME),.func (.func 44) #[] #[]]
def QX(r:Rc)(vp:Value):Array Value:=#[vp,.map (some r.MP),.func (.func 46) #[] #[]]
structure kT(w:World)(r:Rc)(ve vp:Value)(b:Book):Prop where
 ku:jg w r.l r.p
 hB:r.l.L<r.B
 low:r.B<=r.R/\r.B<=r.OE/\r.B<=r.OP/\r.B<=r.ME/\r.B<=r.MP
 blk:hV w r.R 124 #[.pointer (some ⟨r.l.L,0,none⟩),.pointer (some ⟨r.OE,0,none⟩),.pointer (some ⟨r.OP,0,none⟩)]
 be:hV w r.OE 156 (QW r ve)
 bp:hV w r.OP 160 (QX r vp)
 me:∃m,kH w r.ME m/\m.map Prod.fst=b.jR.map uT
 mp:∃m,PM.kH w r.MP m/\m.map Prod.fst=b.jH.map sJ
 re:w.ownsRow r.B 116 4 ve b.jR.length (b.jR.flatMap yX)
 rp:w.ownsRow r.B 121 3 vp b.jH.length (b.jH.flatMap uY)
 ne:r.ME≠r.MP
 ok:rC r.p b
def RD(r:Rc)(ve vp:Value)(b:Nat):Prop:=b=r.l.D\/b=r.OE\/b=r.OP\/b=r.ME\/b=r.MP\/ve.ownBlock=some b\/vp.ownBlock=some b
structure Rs where
 w:World
 ve:Value
 vp:Value
 b:Book
def kK(r:Rc)(s:Rs)(w:World):Prop:=
 Kp (RD r s.ve s.vp) s.w w/\∃ve vp b,jU s.w.heap.size s.ve s.vp ve vp/\s.b.le b/\kT w r ve vp b
def xq(r:Rc)(s:Rs)(b:Book)(w:World):Prop:=
 Kp (RD r s.ve s.vp) s.w w/\∃ve vp,jU s.w.heap.size s.ve s.vp ve vp/\kT w r ve vp b
theorem xq.is{r:Rc}{s:Rs}{b:Book}{w:World}(a:xq r s b w)(f:s.b.le b):kK r s w:=by
 obtain⟨c,g,h,d,e⟩:=a;exact⟨c,g,h,b,d,f,e⟩
def EA(b:Book)(x:Gy):Book:=if Lv b x=true\/200<=b.jR.length then b else⟨b.jR++[x],b.jH⟩
def EB(b:Book)(x:uj):Book:=if Lx b x=true\/200<=b.jH.length then b else⟨b.jR,b.jH++[x]⟩
theorem JU{b:Book}{x:Gy}:b.le (EA b x):=by
 unfold EA;split
 . exact .refl _
 . exact⟨⟨[x],rfl⟩,[],by simp⟩
theorem JV{b:Book}{x:uj}:b.le (EB b x):=by
 unfold EB;split
 . exact .refl _
 . exact⟨⟨[],by simp⟩,[x],rfl⟩
theorem kT.begin{w:World}{r:Rc}{a c:Value}{b:Book}(d:kT w r a c b):kK r ⟨w,a,c,b⟩ w:=
 ⟨Kp.rr,_,_,_,jU.refl _ _ _,Book.le.refl _,d⟩
theorem nN{w:World}{base e k n:Nat}{v:Value}{xs:List Value}(d:w.ownsRow base e k v n xs){g:Nat}(a:v.ownBlock=some g):∃b,hV w g e b:=by
 rcases d.2 with⟨rfl,_⟩|⟨i,h,c,rfl,_,f,_⟩
 . cases a
 . cases a;exact⟨c,f⟩
theorem kH.tH{w:World}{g:Nat}{m:List (Key×Int)}(a:kH w g m){t:TypeId}{cs:Array Value}(b:hV w g t cs):False:=by
 obtain⟨_,_,a,_⟩:=a;unfold hV at b;rw[a]at b;cases b
theorem PM.kH.tH{w:World}{g:Nat}{m:List (PM.Key×Int)}(a:PM.kH w g m){t:TypeId}{cs:Array Value}(b:hV w g t cs):False:=by
 obtain⟨_,_,a,_⟩:=a;unfold hV at b;rw[a]at b;cases b
section
variable {w w' W:World} {r:Rc} {ve vp:Value} {b:M.Book} {s:Rs}
theorem kT.other(c:kT w r ve vp b){g:Nat}{t:TypeId}{cs:Array Value}(d:hV w g t cs)(i:(t≠156/\t≠160/\t≠116/\t≠121):=by decide):¬RD r ve vp g:=by
 obtain⟨j,k,l,m⟩:=i;rintro(a|a|a|a|a|a|a)
 . subst a;obtain⟨h,e,_⟩:=c.ku.laid;exact e.tH d
 . subst a;exact j (hV.inj d c.be)
 . subst a;exact k (hV.inj d c.bp)
 . subst a;obtain⟨h,e,_⟩:=c.me;exact e.tH d
 . subst a;obtain⟨h,e,_⟩:=c.mp;exact e.tH d
 . obtain⟨_,f⟩:=nN c.re a;exact l (hV.inj d f)
 . obtain⟨_,f⟩:=nN c.rp a;exact m (hV.inj d f)
theorem kT.Be(c:kT w r ve vp b){g:Nat}(d:RD r ve vp g):g=r.l.D\/r.B<=g:=by
 obtain⟨e,f,h,i,j⟩:=c.low;rcases d with a|a|a|a|a|a|a
 . exact .inl a
 . right;omega
 . right;omega
 . right;omega
 . right;omega
 . exact .inr (c.re.lt g a).1
 . exact .inr (c.rp.lt g a).1
theorem kT.deep(c:kT w r ve vp b){g:Nat}(d:g<r.l.O):¬RD r ve vp g:=fun a=>by
 have:=c.ku.ord;have:=c.hB;rcases c.Be a with a|a<;>omega
theorem kT.kp{D:Nat->Prop}(a:kT w r ve vp b)(e:Kp D w w')(o:jg w' r.l r.p)(d:∀c,r.B<=c->c<w.heap.size->¬D c):kT w' r ve vp b:=by
 obtain⟨j,k,l,m,n⟩:=a.low;obtain⟨p,h,q⟩:=a.me;obtain⟨s,i,t⟩:=a.mp;exact⟨o,a.hB,a.low,a.blk.kp e (d _ j a.blk.lt),a.be.kp e (d _ k a.be.lt),a.bp.kp e (d _ l a.bp.lt),⟨p,h.kp e (d _ m h.lt),q⟩,⟨s,i.kp e (d _ n i.lt),t⟩,
  iZ a.re e (fun c g f=>d c f (a.re.lt c g).2),iZ a.rp e (fun c g f=>d c f (a.rp.lt c g).2),a.ne,a.ok⟩
theorem kT.ext(a:kT w r ve vp b)(c:Ext w w'):kT w' r ve vp b:=a.kp c (a.ku.ext c) fun _ _ _ d=>d
theorem kT.oJ(a:kT w r ve vp b)(d:Kp (·=r.l.D) w w')(c:jg w' r.l r.p):kT w' r ve vp b:=
 a.kp d c fun f g _ e=>Z4 a.hB c.ord
theorem Kp.rd{n:Nat}{ve' vp':Value}{a:World}(d:Kp (RD r ve vp) w a)(e:Kp (RD r ve' vp') a w')(h:jU w ve vp ve' vp'):Kp (RD r ve vp) w w':=
 ⟨e.os.trans d.os,e.tape.trans d.tape,e.output.trans d.output,RP d.size e.size,
  fun g f i=>(e.block g (Nv f d.size) (fun b=>i (by
   unfold RD at b |-;rcases b with b|b|b|b|b|b|b
   . exact .inl b
   . exact .inr (.inl b)
   . exact .inr (.inr (.inl b))
   . exact .inr (.inr (.inr (.inl b)))
   . exact .inr (.inr (.inr (.inr (.inl b))))
   . rcases h g (.inl b)with c|c|c
     . exact .inr (.inr (.inr (.inr (.inr (.inl c)))))
     . exact .inr (.inr (.inr (.inr (.inr (.inr c)))))
     . exact absurd f (Te.2 c)
   . rcases h g (.inr b)with c|c|c
     . exact .inr (.inr (.inr (.inr (.inr (.inl c)))))
     . exact .inr (.inr (.inr (.inr (.inr (.inr c)))))
     . exact absurd f (Te.2 c)))).trans (d.block g f i)⟩
theorem kK.start(c:kK r s w):∃a:Rs,a.w=w/\kT w r a.ve a.vp a.b/\kK r a w/\∀W,kK r a W->kK r s W:=by
 obtain⟨e,ve,vp,b,f,i,d⟩:=c;refine⟨⟨w,ve,vp,b⟩,rfl,d,d.begin,fun W c=>?_⟩;obtain⟨k,m,n,g,l,j,h⟩:=c;exact⟨Kp.rd (n:=0) e k f,m,n,g,f.trans l e.size,i.trans j,h⟩
theorem kT.Nw(c:kT w r ve vp b){g:Nat}(f:RD r ve vp g):g<w:=by
 rcases f with a|a|a|a|a|a|a
 . obtain⟨e,d,_⟩:=c.ku.laid;rw[a];exact d.lt
 . rw[a];exact c.be.lt
 . rw[a];exact c.bp.lt
 . obtain⟨e,d,_⟩:=c.me;rw[a];exact d.lt
 . obtain⟨e,d,_⟩:=c.mp;rw[a];exact d.lt
 . exact(c.re.lt g a).2
 . exact(c.rp.lt g a).2
theorem kK.qi(c:kK r s w)(e:Ext w w'):∃a:Rs,a.w=w'/\kT w' r a.ve a.vp a.b/\kK r a w'/\(∀W,kK r a W->kK r s W)/\∀W,kK r a W->Same (fun g=>g<r.l.O\/w<=g) w' W:=by
 obtain⟨o,ve,vp,b,h,k,d⟩:=c;have j:kK r s w':=⟨o.trans e.any,ve,vp,b,h,k,d.ext e⟩;refine⟨⟨w',ve,vp,b⟩,rfl,d.ext e,(d.ext e).begin,fun W c=>?_,fun W c=>Kp.same c.1 fun g f i=>?_⟩
 . obtain⟨p,t,u,l,q,n,m⟩:=c;exact⟨Kp.rd (n:=0) j.1 p h,t,u,l,h.trans q j.1.size,k.trans n,m⟩
 . rcases f with f|f
   . exact d.deep f i
   . exact absurd (d.Nw i) Zm
theorem xq.later{d:World}{a:Book}(e:xq r ⟨d,ve,vp,b⟩ a W)(c:Ext w d):xq r ⟨w,ve,vp,b⟩ a W:=by
 obtain⟨g,i,j,h,f⟩:=e;exact⟨c.any.trans g,i,j,h.le c.size,f⟩
theorem kT.same(c:kT w r ve vp b)(a:Ext w w'):xq r ⟨w,ve,vp,b⟩ b w':=⟨a.any,ve,vp,jU.refl _ _ _,c.ext a⟩
theorem kK.at_(a:kK r s w):∃ve vp b,kT w r ve vp b:=by
 obtain⟨_,ve,vp,b,_,_,c⟩:=a;exact⟨ve,vp,b,c⟩
theorem kK.ext(c:kK r s w)(a:Ext w w'):kK r s w':=by
 obtain⟨f,ve,vp,b,g,e,d⟩:=c;exact⟨f.trans a.any,ve,vp,b,g,e,d.ext a⟩
theorem kK.oJ(d:kK r s w)(a:Kp (·=r.l.D) w w')(f:jg w' r.l r.p):kK r s w':=by
 obtain⟨e,ve,vp,b,i,h,g⟩:=d;exact⟨e.trans (a.weak fun j _ c=>.inl c),ve,vp,b,i,h,g.oJ a f⟩
theorem kK.ku(a:kK r s w):jg w r.l r.p:=by
 obtain⟨_,_,_,b⟩:=a.at_;exact b.ku
theorem kK.xG(a:kK r s w):hV w r.R 124 #[some r.l.L,some r.OE,some r.OP]:=by
 obtain⟨_,_,_,b⟩:=a.at_;exact b.blk
theorem kK.blk(b:kK r s W)(h0:kT s.w r s.ve s.vp s.b){g:Nat}{t:TypeId}{cs:Array Value}(a:hV s.w g t cs)(c:(t≠156/\t≠160/\t≠116/\t≠121):=by decide):hV W g t cs:=
 a.kp b.1 (h0.other a c)
theorem kK.same(a:kK r s W)(h0:kT s.w r s.ve s.vp s.b):Same (· <r.l.O) s.w W:=Kp.same a.1 fun _ b=>h0.deep b
theorem kT.EA(d:kT w r ve vp b){x:Gy}{ve':Value}(e:Kp (fun c=>c=r.ME\/c=r.OE\/ve.ownBlock=some c) w w')(o:∃k,kH w' r.ME k/\k.map Prod.fst=(b.jR++[x]).map uT)(g:hV w' r.OE 156 (QW r ve'))(q:w'.ownsRow r.B 116 4 ve' (b.jR.length+1) ((b.jR++[x]).flatMap yX)) (p:∀c,ve'.ownBlock=some c->ve.ownBlock=some c\/w.heap.size<=c) (s:rC r.p ⟨b.jR++[x],b.jH⟩):xq r ⟨w,ve,vp,b⟩ ⟨b.jR++[x],b.jH⟩ w':=by
 have A:=d.hB;have B:=d.ku.ord;obtain⟨q1,q2,q3,q4,q5⟩:=d.low;obtain⟨k,t,C⟩:=d.me;obtain⟨u,i,v⟩:=d.mp;have n:∀c,c<=r.l.L->¬(c=r.ME\/c=r.OE\/ve.ownBlock=some c):=fun c h a=>by
  rcases a with a|a|a
  . omega
  . omega
  . have:=(d.re.lt c a).1;omega
 have j:∀{c:Nat} {l:TypeId} {m:Array Value},hV w c l m->l≠156->l≠116->¬(c=r.ME\/c=r.OE\/ve.ownBlock=some c):=fun g y z a=>by
  rcases a with a|a|a
  . subst a;exact t.tH g
  . subst a;exact y (hV.inj g d.be)
  . obtain⟨_,f⟩:=nN d.re a;exact z (hV.inj g f)
 refine⟨e.weak fun c _ a=>?_,ve',vp,fun c h=>?_,d.ku.kp e n,d.hB,d.low,d.blk.kp e (j d.blk Zn Zn),g,d.bp.kp e (j d.bp Zn Zn),o,⟨u,i.kp e ?_,v⟩,by simpa using q,iZ d.rp e (fun c h _=>?_),d.ne,s⟩
 . rcases a with a|a|a
   . exact .inr (.inr (.inr (.inl a)))
   . exact .inr (.inl a)
   . exact .inr (.inr (.inr (.inr (.inr (.inl a)))))
 . rcases h with a|a
   . exact(p c a).imp_right .inr
   . exact .inr (.inl a)
 . rintro(a|a|a)
   . exact d.ne a.symm
   . rw[a]at i;exact i.tH d.be
   . obtain⟨_,f⟩:=nN d.re a;exact i.tH f
 . obtain⟨_,f⟩:=nN d.rp h;exact j f Zn Zn
theorem kT.EB(d:kT w r ve vp b){x:uj}{vp':Value}(e:Kp (fun c=>c=r.MP\/c=r.OP\/vp.ownBlock=some c) w w')(o:∃i,PM.kH w' r.MP i/\i.map Prod.fst=(b.jH++[x]).map sJ)(g:hV w' r.OP 160 (QX r vp'))(q:w'.ownsRow r.B 121 3 vp' (b.jH.length+1) ((b.jH++[x]).flatMap uY)) (p:∀c,vp'.ownBlock=some c->vp.ownBlock=some c\/w.heap.size<=c) (s:rC r.p ⟨b.jR,b.jH++[x]⟩):xq r ⟨w,ve,vp,b⟩ ⟨b.jR,b.jH++[x]⟩ w':=by
 have z:=d.hB;have A:=d.ku.ord;obtain⟨q1,q2,q3,q4,q5⟩:=d.low;obtain⟨i,j,t⟩:=d.me;obtain⟨B,u,C⟩:=d.mp;have n:∀c,c<=r.l.L->¬(c=r.MP\/c=r.OP\/vp.ownBlock=some c):=fun c h a=>by
  rcases a with a|a|a
  . omega
  . omega
  . have:=(d.rp.lt c a).1;omega
 have k:∀{c:Nat} {l:TypeId} {m:Array Value},hV w c l m->l≠160->l≠121->¬(c=r.MP\/c=r.OP\/vp.ownBlock=some c):=fun g v y a=>by
  rcases a with a|a|a
  . subst a;exact u.tH g
  . subst a;exact v (hV.inj g d.bp)
  . obtain⟨_,f⟩:=nN d.rp a;exact y (hV.inj g f)
 refine⟨e.weak fun c _ a=>?_,ve,vp',fun c h=>?_,d.ku.kp e n,d.hB,d.low,d.blk.kp e (k d.blk Zn Zn),d.be.kp e (k d.be Zn Zn),g,⟨i,j.kp e ?_,t⟩,o,iZ d.re e (fun c h _=>?_),by simpa using q,d.ne,s⟩
 . rcases a with a|a|a
   . exact .inr (.inr (.inr (.inr (.inl a))))
   . exact .inr (.inr (.inl a))
   . exact .inr (.inr (.inr (.inr (.inr (.inr a)))))
 . rcases h with a|a
   . exact .inl a
   . exact .inr ((p c a).imp_right id)
 . rintro(a|a|a)
   . exact d.ne a
   . rw[a]at j;exact j.tH d.bp
   . obtain⟨_,f⟩:=nN d.rp a;exact j.tH f
 . obtain⟨_,f⟩:=nN d.re h;exact k f Zn Zn
theorem A7(m:List (Key×Int))(k:Key):(look m k).isSome=(m.map Prod.fst).any fun a=>decide (k=a):=by
 unfold look;rw[Option.isSome_map,List.any_map,List.isSome_find?];rfl
theorem PM.A7(m:List (PM.Key×Int))(k:PM.Key):(PM.look m k).isSome=(m.map Prod.fst).any fun a=>decide (k=a):=by
 unfold PM.look;rw[Option.isSome_map,List.any_map,List.isSome_find?];rfl
theorem GZ{b:Book}{x:Gy}{m:List (Key×Int)}(a:m.map Prod.fst=b.jR.map uT):(look m (x.keeper,x.name)).isSome=Lv b x:=by
 rw[A7,a];rfl
theorem G5{b:Book}{x:uj}{m:List (PM.Key×Int)}(a:m.map Prod.fst=b.jH.map sJ):(PM.look m (x.one,x.two,x.name)).isSome=Lx b x:=by
 rw[PM.A7,a];rfl
end
end Go.Proofs.YtlhlnddgfcmfkaaGreat
namespace Go.Proofs.YtlhlnddgfcmfkaaGreat
open Go Go.RowKit Tryz M
structure M.RW where
 p:hZ
 b:Book
 s:St
def rY:l6 RW:=fun w I x cs=>∃vp ve vq cv,cs=vp::ve::vq::cv/\SliceOf 2 jc w I vp x.p/\SliceOf 4 xg w I ve x.b.jR/\SliceOf 3 rX w I vq x.b.jH/\jQ w I x.s cv
theorem rY.stays:jL rY:=fun _ _ _ _ _ _ b a ⟨_,_,_,_,e,h1,h2,h3,h4⟩=>⟨_,_,_,_,e,h1.keep jc.stays b a,h2.keep xg.stays b a,h3.keep rX.stays b a,jQ.stays _ _ _ _ _ _ b a h4⟩
theorem jQ.zY{w:World}{I:Nat->Prop}{s:St}{cs:List Value}(b:jQ w I s cs):jQ w (fun e=>I e/\e<w) s cs:=by
 obtain⟨d,i,j,c,f,g,h⟩:=b;exact⟨d,i,j,c,f.inside (fun _ _ _ _ b=>b.inside) Zn,g.inside (fun _ _ _ _ ⟨d,c,a⟩=>⟨d,c,a.inside (fun _ _ _ _ b=>b) Zn⟩) Zn,h.inside (fun _ _ _ _ b=>b) Zn⟩
theorem One.QA:One xg:=fun _ _ _ _ b c a=>by subst b;simp[yX]at a;rcases a with rfl|rfl|rfl|rfl<;>rfl
theorem One.Nj:One rX:=fun _ _ _ _ b c a=>by subst b;simp[uY]at a;rcases a with rfl|rfl|rfl<;>rfl
def CO:l6 RW:=fun w I x cs=>∃vp ve vq cv,cs=ve::vq::vp::cv/\SliceOf 2 jc w I vp x.p/\SliceOf 4 xg w I ve x.b.jR/\SliceOf 3 rX w I vq x.b.jH/\jQ w I x.s cv
theorem NR(w:World)(I:Nat->Prop)(hI:∀f,I f->f<w.heap.size)(x:RW){cs:List Value}(h:rY w I x cs)(hh:x.s.heap.length<=12):Calls prog 24 #[.agg cs.toArray] w fun z w'=>(∃c aI,z=.returned (.pointer (some ⟨c,0,none⟩))/\w.heap.size<=c/\hV w' c 165 aI.toArray/\CO w' (fun f=>I f\/(w.heap.size<=f/\f≠c)) x aI)/\Ext w w':=by
 obtain⟨vp,ve,vq,cv,rfl,hp,he,hq,K⟩:=h;obtain⟨f1,d1,f2,d2,f3,d3,rfl,bD,bE,bF⟩:=K.form;obtain⟨aG,aH,rfl,-,bH⟩:=hp.form;obtain⟨a2,c2,rfl,-,bA⟩:=he.form;obtain⟨a3,c3,rfl,-,bC⟩:=hq.form;obtain⟨L,ae⟩:=Ry (w.alloc (.cells #[.slice aG x.p.length aH,.slice a2 x.b.jR.length c2,.slice a3 x.b.jH.length c3,x.s.status,.slice f1 x.s.frames.length d1,.slice f2 x.s.heap.length d2,.slice f3 x.s.outs.length d3,x.s.back.kind,x.s.back.n] 41));have au:Ext w L:=by rw[ae];exact kx
 have b1:hV L w 41 #[.slice aG x.p.length aH,.slice a2 x.b.jR.length c2,.slice a3 x.b.jH.length c3,x.s.status,.slice f1 x.s.frames.length d1,.slice f2 x.s.heap.length d2,.slice f3 x.s.outs.length d3,x.s.back.kind,x.s.back.n]:=by rw[ae];exact hV.new _ _ _
 obtain⟨-,e0,-⟩:=b1.ca;have⟨aD,S⟩:=je ae b1;have aO:=hp.ext jc.stays au;have⟨HP,HE,HQ,HS,aT,aA⟩:=nZ hp he hq K hI au;clear ae b1 au hp he hq K hI bD bE bF;go_enter func24,ntmps24;go_upto_region 1 with(fail);rw[<-aD.o];go_wp2_with fail;refine(EN I _ aO fun f C=>Nv (aT f C) aA.size).mono ?_;rintro z w2 ⟨⟨v2,rfl,az⟩,Y⟩;obtain⟨a5,c5,rfl,-,-⟩:=az.form;obtain⟨a,aP,Z,b3⟩:=nu w2 #[.slice a5 x.p.length c5] 25;have X:=(aA.trans Y).trans Z;obtain⟨aj,l2,r2,aJ⟩:=HE.cells One.QA Zn;obtain⟨ak,l3,r3,aK⟩:=HQ.cells One.Nj Zn;have⟨bg,bf⟩:=je aP (az.ext jc.stays Z);have aF:Zz (w.heap.size<L/\L.heap.size<=w2/\(w2:Nat)<a):=Zy ⟨S.lt,Y.size,b3.lt⟩;have bI:=aF.o;obtain⟨bq,bu,bB,u⟩:=kY a;have J:=S.ext (Y.trans Z);obtain⟨-,-,q1,q2,-⟩:=hV.lL fun F=>J.ext (u.jm F);have⟨j,aR,aB,S,aC,ai,aW,aX⟩:=xJ u b3 X J (aJ.ext X) (aK.ext X) r2 r3;clear aP Z b3 X r2 r3 aJ aK az Y e0 aO u J;go_upto_region 2 with(fail);rw[<-bg.o];refine qA j 10 (.two [0,1,2,4,5,6] 3 9 (.two [] 7 9 (.one [8] 9 (.fin [])) (.one [] 7 (.fin [8]))) (.one [] 3 (.one [] 7 (.fin [8])))) ?_ ?_
 . exact jf
 refine two [_,_,_,_,_,_] rfl rfl rfl fun Q A=>?_;(repeat (go_big_quiet_step (fail)));((refine Gf A (fun d b=>?_) fun d b=>?_)<;>clear A Q);focus
  refine jJ CW _ rfl _ _ rfl a _ 0 [] rfl (Rt _ _ _ _) _ _ _ _ rfl (aC.ext ((Kp.refl _ a).drew:Ext a _)) Zm (((Kp.refl _ a).drew:Ext a _)).size ?_
  intro v7 w7 q m
  have E:=xS (D:=fun _=>False) m
  clear m
  change d _ _
  obtain⟨v,y,rfl⟩:=jB q
  have i:=Kp.trans ((Kp.refl _ a).drew:Ext a _) E
  rw[RO,RF]at q
  rw[RO]
  refine kk j b i ?_;clear b d
  go_simp
  refine EG rfl rfl (fun d b=>?_) fun d b=>?_
  focus
   refine jJ yC _ rfl _ _ rfl a _ 0 [] rfl (Rt _ _ _ _) _ _ _ _ rfl (ai.ext i) Zm (i).size ?_
   intro v8 N k m
   have o:=xS (D:=fun _=>False) m
   clear m
   change d _ _
   obtain⟨s,t,rfl⟩:=jB k
   have n:=Kp.trans i o
   rw[RO,RF]at k
   rw[RO]
   refine kk j b n ?_;clear b d
   go_simp
   refine Cf ?_;intro d b
   go_wp2_with fail
   refine kk j b (n.alloc _) ?_;clear b d
   refine kM ?_
   obtain⟨e,g⟩:=Ry (N.alloc (.cells #[(),()] 33))
   obtain⟨c,l⟩:∃c,c=N.heap.size:=⟨_,rfl⟩
   have W:Zz (Ext a e):=Zy (by rw[g];exact n.alloc _)
   have O:Zz (e.ownsRow a 116 4 (.slice v x.b.jR.length y) x.b.jR.length aj.flatten):=Zy (by rw[g];exact iZ q (o.alloc _) fun _ _ _ x=>x)
   have P:Zz (e.ownsRow a 121 3 (.slice s x.b.jH.length t) x.b.jH.length ak.flatten):=Zy (by rw[g];exact iZ k (D:=fun _=>False) (jr _) fun _ _ _ x=>x)
   have B:hV e c 33 #[(),()]:=by rw[g,l];exact hV.new _ _ _
   have aQ:a.heap.size<=c:=by rw[l];exact n.size
   rw[<-l,<-g]
   clear g l
   clear q k i n E o
  rotate_left
  focus
   go_wp2_with fail
   refine kk j b (i.alloc _) ?_;clear b d
   refine jZ rfl fun d b=>?_
   refine jJ yC _ rfl _ _ rfl a _ 0 [] rfl (Rt _ _ _ _) _ _ _ _ rfl (ai.ext (i.alloc _)) Zm ((i.alloc _)).size ?_
   intro v8 N k m
   have o:=xS (D:=fun _=>False) m
   clear m
   change d _ _
   obtain⟨s,t,rfl⟩:=jB k
   have n:=Kp.trans (i.alloc _) o
   rw[RO,RF]at k
   rw[RO]
   refine kk j b n ?_;clear b d
   go_simp
   refine El [_] rfl fun Q A=>?_;(repeat (go_big_quiet_step (fail)));refine qn A ?_;clear A Q
   obtain⟨e,g⟩:∃e,e=N:=⟨_,rfl⟩
   obtain⟨c,l⟩:∃c,c=w7.heap.size:=⟨_,rfl⟩
   have W:Zz (Ext a e):=Zy (by rw[g];exact n)
   have O:Zz (e.ownsRow a 116 4 (.slice v x.b.jR.length y) x.b.jR.length aj.flatten):=Zy (by rw[g];exact iZ q (Kp.trans (jr _) o) fun _ _ _ x=>x)
   have P:Zz (e.ownsRow a 121 3 (.slice s x.b.jH.length t) x.b.jH.length ak.flatten):=Zy (by rw[g];exact k)
   have B:hV e c 33 #[(),()]:=by rw[g,l];exact(hV.new _ _ _).ext o
   have aQ:a.heap.size<=c:=by rw[l];exact i.size
   rw[<-l,<-g]
   clear g l
   clear q k i n E o
 rotate_left 2;focus
  go_wp2_with fail
  refine kk j b ((Kp.refl _ a).drew.alloc _) ?_;clear b d
  refine jZ rfl fun d b=>?_
  refine jJ CW _ rfl _ _ rfl a _ 0 [] rfl (Rt _ _ _ _) _ _ _ _ rfl (aC.ext ((Kp.refl _ a).drew.alloc _:Ext a _)) Zm (((Kp.refl _ a).drew.alloc _:Ext a _)).size ?_
  intro v7 w7 q m
  have E:=xS (D:=fun _=>False) m
  clear m
  change d _ _
  obtain⟨v,y,rfl⟩:=jB q
  have i:=Kp.trans ((Kp.refl _ a).drew.alloc _:Ext a _) E
  rw[RO,RF]at q
  rw[RO]
  refine kk j b i ?_;clear b d
  go_simp
  refine jZ rfl fun d b=>?_
  refine jJ yC _ rfl _ _ rfl a _ 0 [] rfl (Rt _ _ _ _) _ _ _ _ rfl (ai.ext i) Zm (i).size ?_
  intro v8 N k m
  have o:=xS (D:=fun _=>False) m
  clear m
  change d _ _
  obtain⟨s,t,rfl⟩:=jB k
  have n:=Kp.trans i o
  rw[RO,RF]at k
  rw[RO]
  refine kk j b n ?_;clear b d
  go_simp
  refine El [_] rfl fun Q A=>?_;(repeat (go_big_quiet_step (fail)));refine qn A ?_;clear A Q
  obtain⟨e,g⟩:∃e,e=N:=⟨_,rfl⟩
  obtain⟨c,l⟩:∃c,c=a.heap.size:=⟨_,rfl⟩
  have W:Zz (Ext a e):=Zy (by rw[g];exact n)
  have O:Zz (e.ownsRow a 116 4 (.slice v x.b.jR.length y) x.b.jR.length aj.flatten):=Zy (by rw[g];exact iZ q o fun _ _ _ x=>x)
  have P:Zz (e.ownsRow a 121 3 (.slice s x.b.jH.length t) x.b.jH.length ak.flatten):=Zy (by rw[g];exact k)
  have B:hV e c 33 #[(),()]:=by rw[g,l];exact((hV.new a.drew _ _).ext E).ext o
  have aQ:a.heap.size<=c:=by rw[l];exact R5 _
  rw[<-l,<-g]
  clear g l
  clear q k i n E o
 all_goals
  obtain⟨bz,-⟩:=B.ca;obtain⟨k0,k1,-⟩:=B.fz;obtain⟨-,m0,m1,-⟩:=B.ca;have T:=Zy B;clear B j q1 q2 aD;go_upto_region 3 with(fail);obtain⟨r,af⟩:=Ry ((e.setCell ⟨c,0,none⟩ (.slice v x.b.jR.length y)).setCell ⟨c,1,none⟩ (.slice s x.b.jH.length t));have aa:Kp (·=c) e r:=by rw[af];exact((Kp.refl (·=c) e).setCell (p:=⟨c,0,none⟩) (fun _=>rfl) _).setCell (p:=⟨c,1,none⟩) (fun _=>rfl) _
  have b5:hV r c 33 #[.slice v x.b.jR.length y,.slice s x.b.jH.length t]:=by rw[af];exact T.set2 _ _
  rw[<-af];have av:=W.own aa fun f z=>Zm
  have J:=S.ext av;have aM:=aR.ext av;have n7:∀p,(Value.slice v x.b.jR.length y).ownBlock=some p->¬p=c:=fun p D z=>by
   obtain⟨_,h⟩:=nN O D;subst z;exact absurd (hV.inj h T.o) Zn
  have n8:∀p,(Value.slice s x.b.jH.length t).ownBlock=some p->¬p=c:=fun p D z=>by
   obtain⟨_,h⟩:=nN P D;subst z;exact absurd (hV.inj h T.o) Zn
  have⟨aU,aV⟩:=je (iZ O aa fun p D _=>n7 p D) (iZ P aa fun p D _=>n8 p D);obtain⟨bq,bu,bB,u⟩:=kY r;obtain⟨-,-,-,-,r3,r4,r5,r6,r7,r8,-⟩:=hV.lL fun F=>J.ext (u.jm F);obtain⟨-,s0,s1,-⟩:=hV.lL fun F=>b5.ext (u.jm F);obtain⟨-,t0,-⟩:=hV.lL fun F=>aM.ext (u.jm F);have⟨j,U⟩:=je u av;clear u af aa b5 J aM T W O P n7 n8 bz k0 k1 m0 m1;refine kD j 7 [([0,1,2,3],4),([5],6)] [] ?_ ?_
  . exact jf
  refine lS ?_;intro d b;go_wp2_with fail;refine(IW I (jQ.stays _ _ _ _ _ _ (Ext.same (aB.trans (U.trans jf))) (fun _ h=>h) HS) hh).mono ?_;rintro z w6 ⟨⟨bG,rfl,ay⟩,aL⟩;obtain⟨G,e1,H,e2,h3,e3,rfl,-⟩:=ay.form;have⟨V,aY⟩:=je (((Kp.refl _ r).drew:Ext r _).trans aL) ay;clear aL ay;go_wp2_with fail;refine kk j b V ?_;clear b d;refine lS ?_;intro d b;go_wp2_with fail;refine kk j b (V.alloc _) ?_;clear b d;clear j r3 r4 r5 r6 r7 r8 s0 s1 t0;refine kC ?_;obtain⟨R,ag⟩:=Ry (w6.alloc (.cells #[.slice v x.b.jR.length y,.slice s x.b.jH.length t,.slice a5 x.p.length c5,x.s.status,.slice G x.s.frames.length e1,.slice H x.s.heap.length e2,.slice h3 x.s.outs.length e3,x.s.back.kind,x.s.back.n] 165));have aN:hV R w6 165 #[.slice v x.b.jR.length y,.slice s x.b.jH.length t,.slice a5 x.p.length c5,x.s.status,.slice G x.s.frames.length e1,.slice H x.s.heap.length e2,.slice h3 x.s.outs.length e3,x.s.back.kind,x.s.back.n]:=by rw[ag];exact hV.new _ _ _
  have ax:Ext w6 R:=by rw[ag];exact kx
  have⟨ah,aS,aZ⟩:=jy (V.trans ax) aN (jQ.stays _ _ _ _ _ _ (Ext.same ax) (fun _ h=>h) (jQ.zY aY));rw[<-ag];clear ag aN ax;go_wp2_with fail;go_ret;have z3:=aF.o;have z5:=U.size;have z6:=V.size;have K:∀{bn:Nat->Prop},Same bn r R:=Ext.same ah;refine⟨⟨w6,[_,_,_,_,_,_,_,_,_],rfl,Zm,aS.o,_,_,_,[_,_,_,_,_,_],rfl,?_,?_,?_,?_⟩,((aB.o.trans U.o).trans ah.o)⟩
  . exact(bf.inside (fun _ _ _ _ h=>jc.inside h) Zn).keep jc.stays (Ext.same (U.trans ah)) fun f C=>C.1.imp id fun h=>⟨Zm,Zm⟩
  . exact(SliceOf.owned (I:=fun f=>a.heap.size<=f/\f<r.heap.size) aU l2 Zn (aW.free fun _ _ _ _ _ _ h=>h) (fun f G H=>⟨G,H⟩) bA).keep xg.stays K fun f C=>.inr ⟨Zm,Zm⟩
  . exact(SliceOf.owned (I:=fun f=>a.heap.size<=f/\f<r.heap.size) aV l3 Zn (aX.free fun _ _ _ _ _ _ h=>h) (fun f G H=>⟨G,H⟩) bC).keep rX.stays K fun f C=>.inr ⟨Zm,Zm⟩
  . exact jQ.stays _ _ _ _ _ _ (fun _ _ _ _ h=>h) (fun f C=>.inr ⟨by have:=C.1;simp at this;omega,Zm⟩) aZ.o
theorem LW:ym 121 3:=⟨_,underlying121,by kernel_rfl⟩
theorem Hz{w:World}{k:Int}{n:ByteArray}{b:Int}{c:ByteArray}:Calls prog 44 #[.agg #[k,n,b,c]] w fun a d=>a=.returned (.agg #[k,n])/\Ext w d:=by
 go_enter func44,ntmps44;go_wp2_with fail;refine DV (jw Fz rfl (w+1) rfl [k,n] (hH.lV (hV.newAt _ _ Zl)) rfl) rfl ?_;exact⟨rfl,Zx⟩
theorem HU{w:World}{k a:Int}{n:ByteArray}:Calls prog 46 #[.agg #[k,a,n]] w fun b c=>b=.returned (.agg #[k,a,n])/\Ext w c:=by
 go_enter func46,ntmps46;go_wp2_with fail;refine DV (jw LW rfl (w+1) rfl [k,a,n] (hH.lV (hV.newAt _ _ Zl)) rfl) rfl ?_;exact⟨rfl,Zx⟩
theorem Hx{w:World}{r:Rc}{q s:Value}{b:Book}(f:kT w r q s b)(x:Gy):Calls prog 115 #[some r.OE,.agg #[x.keeper,x.name,x.ref.keeper,x.ref.name]] w fun h t=>h=.returned (.bool (Lv b x))/\Ext w t:=by
 obtain⟨F,i,j⟩:=f.me;obtain⟨u,k,e,g⟩:=nu w #[x.keeper,x.name,x.ref.keeper,x.ref.name] 116;obtain⟨y,D,E,a⟩:=kY u;obtain⟨-,-,G,H,-⟩:=hV.lL fun c=>(f.be.ext e).ext (a.jm c);obtain⟨-,z,A,B,C,-⟩:=hV.lL fun c=>g.ext (a.jm c);have o:=fun c=>oD ((i.kp e fun x=>x).kp (a.jm c) fun x=>x) x.keeper x.name;rw[GZ j]at o;have⟨d,m,l⟩:=jy a k e;clear f i j a k e g;go_enter func115,ntmps115;go_wp2_with fail;rw[<-m.o];refine Bl d ?_ ?_;rotate_left;(repeat (go_big_quiet_step (first|(go_at_call 44;refine(Hz).mono ?_;rintro h v ⟨rfl,n⟩;exact⟨rfl,d.o.o v ((d.jm _).trans n)⟩)|fail)));refine Sw ?_;(rintro _ ⟨p,rfl⟩);rotate_left
 . exact jf
 go_wp2_with fail;go_ret;exact⟨rfl,l.trans (d.jm p)⟩
theorem Hy{w:World}{r:Rc}{q s:Value}{b:Book}(f:kT w r q s b)(x:uj):Calls prog 116 #[some r.OP,.agg #[x.one,x.two,x.name]] w fun h t=>h=.returned (.bool (Lx b x))/\Ext w t:=by
 obtain⟨E,i,j⟩:=f.mp;obtain⟨u,k,e,g⟩:=nu w #[x.one,x.two,x.name] 121;obtain⟨y,C,D,a⟩:=kY u;obtain⟨-,-,F,G,-⟩:=hV.lL fun c=>(f.bp.ext e).ext (a.jm c);obtain⟨-,z,A,B,-⟩:=hV.lL fun c=>g.ext (a.jm c);have o:=fun c=>PM.oD ((i.kp e fun x=>x).kp (a.jm c) fun x=>x) x.one x.two x.name;rw[G5 j]at o;have⟨d,m,l⟩:=jy a k e;clear f i j a k e g;go_enter func116,ntmps116;go_wp2_with fail;rw[<-m.o];refine Bl d ?_ ?_;rotate_left;(repeat (go_big_quiet_step (first|(go_at_call 46;refine(HU).mono ?_;rintro h v ⟨rfl,n⟩;exact⟨rfl,d.o.o v ((d.jm _).trans n)⟩)|fail)));refine Sw ?_;(rintro _ ⟨p,rfl⟩);rotate_left
 . exact jf
 go_wp2_with fail;go_ret;exact⟨rfl,l.trans (d.jm p)⟩
theorem Aj(r:Rc)(a:Rs)(l:kT a.w r a.ve a.vp a.b)(x:Gy)(hx:ES r.p x):Calls prog 106 #[some r.OE,.agg #[x.keeper,x.name,x.ref.keeper,x.ref.name]] a.w fun b w'=>b=.returned (.tuple #[])/\xq r a (EA a.b x) w':=by
 obtain⟨w0,az,O,L⟩:=nu a.w #[x.keeper,x.name,x.ref.keeper,x.ref.name] 116;obtain⟨j,k,A⟩:=jB l.re;have HL:Zz ((r.OE<a.w)/\∀d,(Value.slice j a.b.jR.length k).ownBlock=some d->d<a.w.heap.size):=Zy ⟨l.be.lt,fun d b=>(l.re.lt d (by rw[A];exact b)).2⟩;have⟨S,aK,aC,X,HX,HB⟩:=nZ (l.ext O) az l O hx L;have bg:=l.ok.Mh;obtain⟨-,q,s,t,u,-⟩:=L.ca;clear l az O hx L;go_enter func106,ntmps106;go_wp2_with fail;rw[<-aK.o];go_wp2_with fail;refine(Hx S x).mono ?_;rintro b I ⟨rfl,w⟩;have⟨aD,B,T⟩:=jy w (S.ext w) (HB.ext w);have Y:Zz (Lv a.b x=true\/200<=a.b.jR.length->xq r a (EA a.b x) I):=Zy fun c=>by
  have b:EA a.b x=a.b:=RV c;rw[b];exact aC.same (X.trans w)
 clear q s t u w;cases z:Lv a.b x;rotate_left
 . have aG:=Zy z;clear z;go_wp2_with fail;refine RA ?_;exact⟨rfl,Y (.inl aG)⟩
 have Z:=Zy (Oo z);have aJ:Zz (200<=a.b.jR.length\/EA a.b x=⟨a.b.jR++[x],a.b.jH⟩):=Zy (by
  by_cases c:200<=a.b.jR.length
  . exact .inl c
  . exact .inr (RX (by simp[z];omega)))
 clear z;obtain⟨q0,q1,q2,q3,-⟩:=B.be.ca;rw[A]at q1;by_cases hl:200<=a.b.jR.length
 . have hd:decide ((200:Int)<=(a.b.jR.length:Int))=true:=R6 Zm;go_wp2_with fail;refine RA ?_;exact⟨rfl,Y (.inr hl)⟩
 have hd:decide ((200:Int)<=(a.b.jR.length:Int))=false:=R7 Zm;have aQ:a.b.jR.length<200:=Zm
 obtain⟨aU,hm,ax⟩:=B.me;obtain⟨aM,aN,aR,e⟩:=kY I;obtain⟨-,H,r1,r2,-⟩:=hV.lL fun m=>B.be.ext (e.jm m);rw[A]at H;obtain⟨-,q,s,t,u,-⟩:=hV.lL fun m=>T.ext (e.jm m);have⟨i,HM,aa,C⟩:=jV e hm ax A;clear e hm ax A;go_wp2_with fail;clear q0 q1 q2 q3;refine kD i 15 [([0,1,2,3,4,5,6,7,8,10,11,12,13,14],9)] [] ?_ ?_
 . exact jf
 refine lS ?_;intro n h;go_wp2_with fail;refine(Hz).mono ?_;rintro b w2 ⟨rfl,ag⟩;have p:=Zy (((Kp.refl _ I).drew:Ext I _).trans ag);clear ag;go_wp2_with fail;refine kk i h p ?_;clear h n;clear i H r1 r2 q s t u;refine kC ?_;refine lN rfl rfl r.ME aU x.keeper x.name a.b.jR.length rfl rfl rfl (HM.kp p fun x=>x) (by
  have:=GZ (x:=x) aa;have h0:Lv a.b x=false:=by
   unfold Lv;rw[Sg];intro bq hy aT;exact Z (by rw[Sq aT];exact hy)
  rw[h0]at this;simpa using this) ?_
 intro J av o aA;simp only[Act.put];have⟨K,aL⟩:=je av aA;clear aA;have⟨g,U⟩:=je (B.ext p) (T.ext p);have P:∀{d:Nat} {aW:TypeId} {cs:Array Value},hV w2 d aW cs->d≠r.ME:=fun hb b=>by
  subst b;obtain⟨_,f,_⟩:=g.me;exact f.tH hb
 obtain⟨aM,aN,aR,e⟩:=rA.ex (fun W'=>Kp (fun d=>(Value.slice j a.b.jR.length k).ownBlock=some d) J W') _ Kp.rr;have y:=g.be.kp o (P g.be);have ak:=U.kp o (P U);rw[C.o]at y;have G:=g.re;rw[C.o]at G;have R:=iZ G o (fun d Q _=>by
  obtain⟨_,f⟩:=nN G Q;exact P f)
 have aB:¬(Value.slice j a.b.jR.length k).ownBlock=some r.OE:=fun b=>by
  obtain⟨_,f⟩:=nN R b;exact absurd (hV.inj y f) Zn
 have aV:¬(Value.slice j a.b.jR.length k).ownBlock=some a.w.heap.size:=fun b=>by
  have:=(HL.2 a.w b);omega
 obtain⟨-,H,-⟩:=hV.lL fun m=>y.kp (e.jm m) aB;obtain⟨-,q,s,t,u,-⟩:=hV.lL fun m=>ak.kp (e.jm m) aV;have⟨i,af,W,aH⟩:=jV e R y o;have bf:r.B<=J:=Z5 g.be.lt g.low.2.1 o.size
 clear e av o y ak G R;go_wp2_with fail;refine kD i 8 [([0,1,2,3,4,5],6),([],7)] [] ?_ ?_
 . exact jf
 refine lS ?_;intro n h;go_wp2_with fail;refine kk i h Zx ?_;clear h n;refine lF rfl fun n h=>?_;refine jo CW rfl (.tmp 34) (.tmp 36) rfl r.B (.slice j a.b.jR.length k) a.b.jR.length _ rfl (iZ (D:=fun _=>False) af Zx fun _ _ _ x=>x) J 1 (yX x) rfl rfl (hH.Hn _ _ rfl) (by simp[yX,Value.oneCell']) Zm Zr ?_;intro v N w4 aj ai au;change n _ _;have F:=(Zx:Ext J _).any.trans ai;refine kk i h F ?_;clear h n;have E:=W.kp F aB;obtain⟨aZ,d0,-⟩:=E.ca;have aY:=E.frozen 0;have⟨ae,aI,aF,V⟩:=jV aj F au E;clear aj ai F au E H q s t u;refine kC ?_;go_wp2_with fail;refine RA ?_;have ay:=fun D hD aX=>(Kp.refl D w4).setCell (p:=⟨r.OE,0,none⟩) (fun _=>hD) aX;have aP:v≠r.OE:=fun b=>by
  subst b;obtain⟨_,f⟩:=nN ae rfl;exact absurd (hV.inj V.o f) Zn
 have ah:=(aI.weak (D':=fun d=>(Value.slice j a.b.jR.length k).ownBlock=some d\/d=r.OE) fun _ _ c=>.inl c).trans (ay _ (.inr rfl) (v,a.b.jR.length+1,N));have nM:¬((Value.slice j a.b.jR.length k).ownBlock=some r.ME\/r.ME=r.OE):=by
  rintro(b|b)
  . obtain⟨_,f⟩:=nN af b;exact K.tH f
  . have:=K.o;rw[b]at this;exact this.tH W
 have aS:=aJ.resolve_left hl;rw[aS];refine⟨rfl,(xq.later (g.EA (x:=x) (ve':=(v,a.b.jR.length+1,N)) ?_ ⟨_,K.kp ah nM,by rw[RI,aa.o,RI];rfl⟩ (V.jk 0 _) ?_ ?_ (g.ok.Rl aQ Z HX)) (X.trans (aD.trans p)))⟩
 . refine(aH.weak fun _ _ c=>.inl c).trans (ah.weak fun d _ c=>?_);rw[C.o];exact c.elim (fun c=>.inr (.inr c)) fun c=>.inr (.inl c)
 . have:=iZ ae (ay (·=r.OE) rfl (v,a.b.jR.length+1,N)) (fun bn hq _ b=>by cases hq;exact aP b);simpa [S9]using this
 . intro d Q;have aO:v=d:=by simpa [Value.ownBlock]using Q
   subst aO;rw[C.o];rcases aF.o with c|c
   . exact .inl c
   . right;have:=aL.o;simp at c;omega
theorem H5(r:Rc)(s:Rs){w:World}(a:kK r s w)(x:Gy)(e:ES r.p x):Calls prog 106 #[some r.OE,.agg #[x.keeper,x.name,x.ref.keeper,x.ref.name]] w fun b c=>b=.returned (.tuple #[])/\kK r s c:=by
 obtain⟨f,rfl,d,-,g⟩:=a.start;refine(Aj r f d x e).mono ?_;rintro b c ⟨rfl,a⟩;exact⟨rfl,g _ (a.is (JU))⟩
theorem Ak(r:Rc)(a:Rs)(l:kT a.w r a.ve a.vp a.b)(x:uj)(hx:x.one<x.two/\keeps r.p x):Calls prog 118 #[some r.OP,.agg #[x.one,x.two,x.name]] a.w fun b w'=>b=.returned (.tuple #[])/\xq r a (EB a.b x) w':=by
 obtain⟨w0,ay,N,K⟩:=nu a.w #[x.one,x.two,x.name] 121;obtain⟨j,k,z⟩:=jB l.rp;have HL:Zz ((r.OP<a.w)/\∀d,(Value.slice j a.b.jH.length k).ownBlock=some d->d<a.w.heap.size):=Zy ⟨l.bp.lt,fun d b=>(l.rp.lt d (by rw[z];exact b)).2⟩;have⟨R,aJ,aB,W,HX,HB⟩:=nZ (l.ext N) ay l N hx K;have bf:=l.ok.Np;obtain⟨-,q,s,t,-⟩:=K.ca;clear l ay N hx K;go_enter func118,ntmps118;go_wp2_with fail;rw[<-aJ.o];go_wp2_with fail;refine(Hy R x).mono ?_;rintro b H ⟨rfl,v⟩;have⟨aC,A,S⟩:=jy v (R.ext v) (HB.ext v);have X:Zz (Lx a.b x=true\/200<=a.b.jH.length->xq r a (EB a.b x) H):=Zy fun c=>by
  have b:EB a.b x=a.b:=RV c;rw[b];exact aB.same (W.trans v)
 clear q s t v;cases y:Lx a.b x;rotate_left
 . have aF:=Zy y;clear y;go_wp2_with fail;refine RA ?_;exact⟨rfl,X (.inl aF)⟩
 have Y:=Zy (Oq y);have aI:Zz (200<=a.b.jH.length\/EB a.b x=⟨a.b.jR,a.b.jH++[x]⟩):=Zy (by
  by_cases c:200<=a.b.jH.length
  . exact .inl c
  . exact .inr (RX (by simp[y];omega)))
 clear y;obtain⟨q0,q1,q2,q3,-⟩:=A.bp.ca;rw[z]at q1;by_cases hl:200<=a.b.jH.length
 . have hd:decide ((200:Int)<=(a.b.jH.length:Int))=true:=R6 Zm;go_wp2_with fail;refine RA ?_;exact⟨rfl,X (.inr hl)⟩
 have hd:decide ((200:Int)<=(a.b.jH.length:Int))=false:=R7 Zm;have aP:a.b.jH.length<200:=Zm
 obtain⟨aT,hm,av⟩:=A.mp;obtain⟨aL,aM,aQ,e⟩:=kY H;obtain⟨-,G,r1,r2,-⟩:=hV.lL fun m=>A.bp.ext (e.jm m);rw[z]at G;obtain⟨-,q,s,t,-⟩:=hV.lL fun m=>S.ext (e.jm m);have⟨i,HM,Z,B⟩:=jV e hm av z;clear e hm av z;go_wp2_with fail;clear q0 q1 q2 q3;refine kD i 15 [([0,1,2,3,4,5,6,7,8,10,11,12,13,14],9)] [] ?_ ?_
 . exact jf
 refine lS ?_;intro n h;go_wp2_with fail;refine(HU).mono ?_;rintro b w2 ⟨rfl,af⟩;have p:=Zy (((Kp.refl _ H).drew:Ext H _).trans af);clear af;go_wp2_with fail;refine kk i h p ?_;clear h n;clear i G r1 r2 q s t;refine kC ?_;refine PM.xx _ rfl _ _ _ rfl r.MP aT x.one x.two x.name a.b.jH.length rfl rfl rfl (HM.kp p fun x=>x) (by
  have:=G5 (x:=x) Z;have h0:Lx a.b x=false:=by
   unfold Lx;rw[Sg];intro bn hy aS;exact Y (by rw[Sq aS];exact hy)
  rw[h0]at this;simpa using this) ?_
 intro I au o az;simp only[Act.put];have⟨J,aK⟩:=je au az;clear az;have⟨g,T⟩:=je (A.ext p) (S.ext p);have O:∀{d:Nat} {aV:TypeId} {cs:Array Value},hV w2 d aV cs->d≠r.MP:=fun hb b=>by
  subst b;obtain⟨_,f,_⟩:=g.mp;exact f.tH hb
 obtain⟨aL,aM,aQ,e⟩:=rA.ex (fun W'=>Kp (fun d=>(Value.slice j a.b.jH.length k).ownBlock=some d) I W') _ Kp.rr;have w:=g.bp.kp o (O g.bp);have aj:=T.kp o (O T);rw[B.o]at w;have F:=g.rp;rw[B.o]at F;have Q:=iZ F o (fun d P _=>by
  obtain⟨_,f⟩:=nN F P;exact O f)
 have aA:¬(Value.slice j a.b.jH.length k).ownBlock=some r.OP:=fun b=>by
  obtain⟨_,f⟩:=nN Q b;exact absurd (hV.inj w f) Zn
 have aU:¬(Value.slice j a.b.jH.length k).ownBlock=some a.w.heap.size:=fun b=>by
  have:=(HL.2 a.w b);omega
 obtain⟨-,G,-⟩:=hV.lL fun m=>w.kp (e.jm m) aA;obtain⟨-,q,s,t,-⟩:=hV.lL fun m=>aj.kp (e.jm m) aU;have⟨i,ae,V,aG⟩:=jV e Q w o;have aZ:r.B<=I:=Z5 g.bp.lt g.low.2.2.1 o.size
 clear e au o w aj F Q;go_wp2_with fail;refine kD i 8 [([0,1,2,3,4,5],6),([],7)] [] ?_ ?_
 . exact jf
 refine lS ?_;intro n h;go_wp2_with fail;refine kk i h Zx ?_;clear h n;refine lF rfl fun n h=>?_;refine jo yC rfl (.tmp 34) (.tmp 36) rfl r.B (.slice j a.b.jH.length k) a.b.jH.length _ rfl (iZ (D:=fun _=>False) ae Zx fun _ _ _ x=>x) I 1 (uY x) rfl rfl (hH.Hn _ _ rfl) (by simp[uY,Value.oneCell']) Zm Zr ?_;intro u L w4 ai ah ak;change n _ _;have E:=(Zx:Ext I _).any.trans ah;refine kk i h E ?_;clear h n;have C:=V.kp E aA;obtain⟨aY,d0,-⟩:=C.ca;have aX:=C.frozen 0;have⟨aa,aH,aD,U⟩:=jV ai E ak C;clear ai ah E ak C G q s t;refine kC ?_;go_wp2_with fail;refine RA ?_;have ax:=fun D hD aW=>(Kp.refl D w4).setCell (p:=⟨r.OP,0,none⟩) (fun _=>hD) aW;have aO:u≠r.OP:=fun b=>by
  subst b;obtain⟨_,f⟩:=nN aa rfl;exact absurd (hV.inj U.o f) Zn
 have ag:=(aH.weak (D':=fun d=>(Value.slice j a.b.jH.length k).ownBlock=some d\/d=r.OP) fun _ _ c=>.inl c).trans (ax _ (.inr rfl) (u,a.b.jH.length+1,L));have nM:¬((Value.slice j a.b.jH.length k).ownBlock=some r.MP\/r.MP=r.OP):=by
  rintro(b|b)
  . obtain⟨_,f⟩:=nN ae b;exact J.tH f
  . have:=J.o;rw[b]at this;exact this.tH V
 have aR:=aI.resolve_left hl;rw[aR];refine⟨rfl,(xq.later (g.EB (x:=x) (vp':=(u,a.b.jH.length+1,L)) ?_ ⟨_,J.kp ag nM,by rw[RI,Z.o,RI];rfl⟩ (U.jk 0 _) ?_ ?_ (g.ok.Rm aP Y HX)) (W.trans (aC.trans p)))⟩
 . refine(aG.weak fun _ _ c=>.inl c).trans (ag.weak fun d _ c=>?_);rw[B.o];exact c.elim (fun c=>.inr (.inr c)) fun c=>.inr (.inl c)
 . have:=iZ aa (ax (·=r.OP) rfl (u,a.b.jH.length+1,L)) (fun bg hq _ b=>by cases hq;exact aO b);simpa [S9]using this
 . intro d P;have aN:u=d:=by simpa [Value.ownBlock]using P
   subst aN;rw[B.o];rcases aD.o with c|c
   . exact .inl c
   . right;have:=aK.o;simp at c;omega
theorem Ca(r:Rc)(s:Rs){w:World}(a:kK r s w)(x:uj)(e:x.one<x.two/\keeps r.p x):Calls prog 118 #[some r.OP,.agg #[x.one,x.two,x.name]] w fun b c=>b=.returned (.tuple #[])/\kK r s c:=by
 obtain⟨f,rfl,d,-,g⟩:=a.start;refine(Ak r f d x e).mono ?_;rintro b c ⟨rfl,a⟩;exact⟨rfl,g _ (a.is (JV))⟩
theorem BX(r:Rc)(s:Rs){w:World}(a:kK r s w)(k:Int)(n:ByteArray):Calls prog 49 #[some r.R,k,n] w fun g w'=>g=.returned (.tuple #[])/\kK r s w':=by
 obtain⟨-,X,Y,Z,-⟩:=a.xG.ca;have i:=Zy a;clear a;go_enter func49,ntmps49;go_wp2_with fail;refine(ng _ _ _ i.ku k n).mono ?_;rintro g w1 ⟨rfl,h⟩;by_cases d:(find r.p k n).2=1;rotate_left
 . have aj:=QC.2 d;have ak:((find r.p k n).2 !=1)=true:=by simp[d]
   have O:=Zy h;clear h;generalize (find r.p k n).2=code at*;go_wp2_with fail;refine RA ?_;exact⟨rfl,i.ext (O.trans Zx)⟩
 obtain⟨w2,F,A,x⟩:=nu w1 #[.int .i64 (find r.p k n).1.keeper,.string (find r.p k n).1.name] 63;have⟨R,e,N,K⟩:=jV F (i.ext (h.trans A)) d x;rw[d];obtain⟨-,d0,-⟩:=e.xG.ca;clear h F A d X Y Z x;go_upto_region 2 with(fail);rw[<-R.o];go_wp2_with fail;refine(Dp e.ku k n).mono ?_;rintro g w3 ⟨⟨az,rfl,o⟩,m⟩;obtain⟨af,ah,rfl,hn,au⟩:=o.form;obtain⟨t,rfl,D,z,G,sm⟩:=e.qi m;have⟨L,Q,J,I,V,U,P⟩:=qh (K.ext m) (o.keep (J:=fun y=>y<r.l.O\/w2<=y) oQ.stays (fun _ _ _ _ a=>a) fun _ a=>.inr a) D z G sm (KW e.ku.ok N);clear o D z G m d0 sm;generalize (path r.p k n).1=xs at*;generalize (path r.p k n).2=code at*;go_wp2_with fail;go_loopw [36] (fun q wr=>∃b:Nat,b<=xs.length/\q=.int .i64 b/\kK r t wr) (fun q _=>xs.length - (intOf q).toNat)
 case atStart=>exact⟨0,R4 _,rfl,I⟩
 case round=>
  obtain⟨b,hq,rfl,c⟩:=hrel;have j:=Zy c;by_cases aa:b<xs.length
  . obtain⟨H,p⟩:=get_some aa;obtain⟨ag,ay,cs,rfl,hI,rfl,-,E⟩:=(Q.keep oQ.stays (U _ c) fun _ a=>a).get p;have g0:=E.one;rw[SC]at g0;obtain⟨ae,ai,av,f⟩:=rA.ex (fun W=>kK r t W) _ c;obtain⟨-,-,r1,-⟩:=hV.lL fun u=>(f.jm u).xG;obtain⟨-,e0,e1,-⟩:=hV.lL fun u=>(f.jm u).blk J L;have⟨l,S⟩:=je f (P H (R3 p));clear c f E p hI;go_wp2_with fail;refine kD l 9 [([0,1,2,3,4,5,6,7],8)] [] ?_ ?_
    . exact j.ext jf
    refine lS ?_;intro T B;go_wp2_with fail;refine(H5 r t (j.ext jf) ⟨H,n,(find r.p k n).1⟩ S).mono ?_;rintro g w5 ⟨rfl,C⟩;have v:=Zy C;clear C;go_wp2_with fail;refine kk l B v ?_;clear B T;clear l r1 e0 e1;refine wG rfl ?_;go_wp2_with fail;exact⟨⟨b+1,Zm,by go_num,v.o⟩,by simp[intOf];omega⟩
  . have ax:b=xs.length:=Zm
    clear c;go_wp2_with fail;refine RA ?_;exact⟨rfl,V _ j⟩
theorem xU(r:Rc)(s:Rs){w:World}(E:kK r s w)(h i:Int)(k:Kind)(G:ql r.p h i k):Calls prog 109 #[some r.R,h,i,.agg #[k.kind,k.name]] w fun x S=>x=.returned (.tuple #[])/\kK r s S:=by
 obtain⟨W,I,F,l⟩:=nu w #[k.kind,k.name] 137;obtain⟨o,rfl,p,g,B,sm⟩:=E.qi F;obtain⟨-,U,V,-⟩:=l.ca;have⟨K,e,D,J⟩:=jV I g B G;have C:Zz (kK r s o.w):=Zy (B _ g);clear E B I F G sm;go_enter func109,ntmps109;go_upto_region 1 with(fail);rw[<-K.o];cases O:(k.kind==1);rotate_left
 . go_wp2_with fail;refine RA ?_;exact⟨rfl,C⟩
 cases H:(h==i);rotate_left
 . go_wp2_with fail;refine RA ?_;exact⟨rfl,C⟩
 have q:=J.keeps (by simpa using O) (by simpa using H);rcases Int.lt_or_gt_of_ne (show h≠i by simpa using H)with P|P
 . have Q:¬i<h:=Zm
   go_wp2_with fail;have t:=Zy q;clear q;obtain⟨L,N,R,d⟩:=rA.ex (fun v=>kK r o v) _ g;obtain⟨-,-,-,A,-⟩:=hV.lL fun f=>(d.jm f).xG;obtain⟨-,y,z,-⟩:=hV.lL fun f=>(d.jm f).blk p l;have c:=Zy d;clear d g p l;refine qA c 14 (.two [0,1,2,3,4,5,7,8,10,11] 6 9 (.one [] 9 (.one [12] 13 (.fin []))) (.one [] 6 (.one [12] 13 (.fin [])))) ?_ ?_
   . exact e.ext jf
   refine two [_,_,_,_,_,_,_,_,_,_] rfl rfl rfl fun u m=>?_;(repeat (go_big_quiet_step (fail)));((refine Gf m (fun b a=>?_) fun b a=>?_)<;>clear m u)
   all_goals
    go_wp2_with fail;refine kk c a (e.ext jf) ?_;clear a b;refine jZ rfl fun b a=>?_;go_wp2_with fail;refine kk c a (e.ext jf) ?_;clear a b;refine Cf ?_;intro b a;go_wp2_with fail;refine(Ca r o (e.ext jf) ⟨_,_,k.name⟩ t).mono ?_;rintro x T ⟨rfl,n⟩;have j:=Zy n;clear n;go_wp2_with fail;refine kk c a j ?_;clear a b;clear c A y z;refine NP rfl ?_;go_wp2_with fail;refine RA ?_;exact⟨rfl,D _ j⟩
 . have Q:¬h<i:=Zm
   go_wp2_with fail;have t:=Zy q;clear q;obtain⟨L,N,R,d⟩:=rA.ex (fun v=>kK r o v) _ g;obtain⟨-,-,-,A,-⟩:=hV.lL fun f=>(d.jm f).xG;obtain⟨-,y,z,-⟩:=hV.lL fun f=>(d.jm f).blk p l;have c:=Zy d;clear d g p l;refine qA c 14 (.two [0,1,2,3,4,5,7,8,10,11] 6 9 (.one [] 9 (.one [12] 13 (.fin []))) (.one [] 6 (.one [12] 13 (.fin [])))) ?_ ?_
   . exact e.ext jf
   refine two [_,_,_,_,_,_,_,_,_,_] rfl rfl rfl fun u m=>?_;(repeat (go_big_quiet_step (fail)));((refine Gf m (fun b a=>?_) fun b a=>?_)<;>clear m u)
   all_goals
    go_wp2_with fail;refine kk c a (e.ext jf) ?_;clear a b;refine jZ rfl fun b a=>?_;go_wp2_with fail;refine kk c a (e.ext jf) ?_;clear a b;refine Cf ?_;intro b a;go_wp2_with fail;refine(Ca r o (e.ext jf) ⟨_,_,k.name⟩ t).mono ?_;rintro x T ⟨rfl,n⟩;have j:=Zy n;clear n;go_wp2_with fail;refine kk c a j ?_;clear a b;clear c A y z;refine NP rfl ?_;go_wp2_with fail;refine RA ?_;exact⟨rfl,D _ j⟩
theorem Nt{D:Nat->Prop}{w:World}{b:Nat}(a:D b)(c d e f:Value):Kp D w ((((w.setCell b c).setCell (b,1) d).setCell (b,2) e).setCell (b,3) f):=
 (((((Kp.refl D w).setCell (p:=⟨b,0,none⟩) (fun _=>a) c).setCell (p:=⟨b,1,none⟩) (fun _=>a) d).setCell (p:=⟨b,2,none⟩) (fun _=>a) e).setCell (p:=⟨b,3,none⟩) (fun _=>a) f)
theorem Q0{w:World}{b:Nat}{t:TypeId}{u0 u1 u2 u3:Value}(f:hV w b t #[u0,u1,u2,u3]){a c d e:Value}:hV ((((w.setCell b a).setCell (b,1) c).setCell (b,2) d).setCell (b,3) e) b t #[a,c,d,e]:=by
 have g:hV (w.setCell b a) b t #[a,u1,u2,u3]:=f.jk 0 a;have h:hV ((w.setCell b a).setCell (b,1) c) b t #[a,c,u2,u3]:=g.jk 1 c;have i:hV (((w.setCell b a).setCell (b,1) c).setCell (b,2) d) b t #[a,c,d,u3]:=h.jk 2 d;exact i.jk 3 e
theorem Hv (r : Rc) (s : Rs) {w: World} (b : kK r s w) (h g : Ref) (c d : Class) (hc : cls? r.p h = some c) (hd : cls? r.p g = some d)(hf:∀a∈c.methods,(og d a.name).isSome=true->sG r.p h.keeper g.keeper a):Calls prog 53 #[some r.R,.agg #[h.keeper,h.name],.agg #[g.keeper,g.name]] w fun e w'=>e=.returned (.tuple #[])/\kK r s w':=by
 obtain⟨i,E⟩:=Ry ((w.alloc (.cells #[h.keeper,h.name] 63)).alloc (.cells #[g.keeper,g.name] 63));have C:Ext w i:=by rw[E];exact kx
 have b4:hV i w 63 #[h.keeper,h.name]:=by rw[E];exact(hV.new _ _ _).ext kx
 have Q:hV i (w+1) 63 #[g.keeper,g.name]:=by rw[E];exact hV.newAt _ _ Zl
 obtain⟨bR,x,aM⟩:=pK i r.l r.p (b.ext C).ku h.keeper h.name c hc;obtain⟨u1,v1,u2,v2,rfl⟩:=x.form;obtain⟨bS,W,aN⟩:=pK i r.l r.p (b.ext C).ku g.keeper g.name d hd;obtain⟨y1,z1,y2,z2,rfl⟩:=W.form;obtain⟨bI,aB,bN,j⟩:=kY i;obtain⟨-,r0,-⟩:=hV.lL fun z=>(b.xG.ext C).ext (j.jm z);obtain⟨-,v,B,-⟩:=hV.lL fun z=>Q.ext (j.jm z);have⟨f,bE,bu,aS,bn,bf,bg,aZ,HF⟩:=vL j E C b W aN x aM hf;have bU:∀F,(Instr.field 95 (.agg #[c.name,c.jl,.slice u1 c.fields.length v1,.slice u2 c.methods.length v2]) 3).run prog F=.ok (.slice u2 c.methods.length v2) F:=(fun F=>by kernel_rfl);have⟨aT,aU⟩:=je b4 Q;clear W aN x aM j E C b b4 Q hf hc hd;go_enter func53,ntmps53;go_upto_region 1 with(fail);rw[<-bE.o];refine qA f 7 (.two [0,1,2,3,4] 5 6 (.one [] 6 (.fin [])) (.one [] 5 (.fin []))) ?_ ?_
 . exact jf
 refine two [_,_,_,_,_] rfl rfl rfl fun bH hK=>?_;(repeat (go_big_quiet_step (fail)));refine Rh hK (Ra (e:=6) (d:=16) (n:=i.heap.size) (v:=fun _:Unit=>.agg #[d.name,d.jl,.slice y1 d.fields.length z1,.slice y2 d.methods.length z2]) (V:=fun _=>True) (z:=#["", "",(),()]) (t:=95) ⟨rfl,?_,?_,?_⟩ Zn (f.o.o _ jf) (R5 _) ?_ rfl rfl)<;>clear hK bH
 . rintro u _ ⟨N,rfl⟩ hn P p;simp (decide:=true)only[Act.put,Rx,RU,RN]at p |-;go_wp2_with fail;refine(bf _ (f.jm _).any).mono ?_;rintro e w8 ⟨rfl,D⟩;go_wp2_with fail;exact p () w8 trivial (f.o.o _ ((f.jm _).trans D)) (II.of D fun _ _ e=>e)
 . intro a' F P p;go_wp2_with fail;exact p
 . rintro _ ⟨N,rfl⟩;exact f.o.o _ ((f.jm _).alloc _)
 . rintro n - _ - ⟨N, rfl⟩ aK G; have aD := f.jm N; generalize aB N = w1 at *; obtain ⟨f0, f1, f2, f3,-⟩ := G.fz; obtain ⟨bJ, q0, q1, q2, q3,-⟩ := G.ca; have ⟨ak, ah, aY⟩ := jy aD G aK; clear f r0 v B aD G aK; go_simp; go_upto_region 2 with (fail); obtain ⟨K, I⟩ := Ry (((((w1.setCell n d.name).setCell (n, 1) d.jl).setCell (n, 2) (.slice y1 d.fields.length z1)).setCell (n, 3) (.slice y2 d.methods.length z2))); have aC : hV K n 95 #[d.name, d.jl, .slice y1 d.fields.length z1, .slice y2 d.methods.length z2] := by rw [I]; exact Q0 ah
   have o:Ext i K:=ak.own (D':=(·=n)) (by rw[I];exact Nt (D:=(·=n)) rfl _ _ _ _) fun bT e=>Z0 aY.o
   rw[<-I];obtain⟨J,rfl,ha,U,up,sm⟩:=aS.qi (bu.trans o);have ae:=Zy (aT.ext o);have aV:=Zy (aU.ext o);have aW:=Zy aC;have⟨y,H1,UP⟩:=jy ha U up;have aj:=Zy (by
    obtain⟨vf,vm,e,-,Z⟩:=bg.o;simp only[RG,SQ,SG]at e;obtain⟨rfl,rfl⟩:=e;exact Z.ext jd.stays o)
   have⟨bq,SM,bz⟩:=jy (jv.stays _ _ _ _ _ _ (Ext.same o) (fun _ b=>b) bn) sm o;obtain⟨bI,aB,bN,j⟩:=kY J.w;obtain⟨-,r0,-⟩:=hV.lL fun z=>U.xG.ext (j.jm z);obtain⟨-,v,B,-⟩:=hV.lL fun z=>ae.ext (j.jm z);have f:=Zy j;clear f0 f1 f2 f3 bJ q0 q1 q2 q3 I aC o ha U up sm j ah ak;refine kD f 9 [([0,1,2,3,4,8],5)] [6,7] ?_ ?_
   . exact jf
   refine lS ?_;intro P p;go_wp2_with fail;refine(aZ _ ((bz.trans jf).any)).mono ?_;rintro e w3 ⟨rfl,aF⟩;have au:=Zy (((Kp.refl _ J.w).drew:Ext J.w _).trans aF);clear aF;go_wp2_with fail;refine kk f p au ?_;clear p P;clear r0 v B f;refine sK ?_;go_wp2_with fail;have bW:c.methods.length<=4294967296:=by obtain⟨_,_,_,_,b⟩:=aj.form;exact b
   have bB:=Zy (H1.ext au);go_loopw [25] (fun q wr=>∃t:Nat,t<=c.methods.length/\q=.int .i64 t/\kK r J wr) (fun q _=>c.methods.length - (intOf q).toNat)
   case atStart=>exact⟨0,R4 _,rfl,bB⟩
   case round =>
    obtain⟨t,hq,rfl,k⟩:=hrel;have HR:=Zy k;by_cases bL:t<c.methods.length
    . obtain⟨a,X⟩:=get_some bL;obtain⟨bP,cu,cs,rfl,hI,Y,-,x⟩:=(aj.keep jd.stays (k.same y) fun _ b=>b).get X;obtain⟨a1,c1,a2,c2,a3,c3,rfl⟩:=Y.form;obtain⟨v,B,g2,g3,g4,g5,g6,g7⟩:=x.eight;have gz:=iY v;obtain⟨w5,aP,l,R⟩:=nu wr #[.string a.name,.slice a1 a.args.length c1,.int .i64 a.ret.kind,.string a.ret.name,.int .i64 a.locals,.int .i64 a.stack,.slice a2 a.code.length c2,.slice a3 a.maps.length c3] 141;obtain⟨s2,rfl,aJ,h2,aR,-⟩:=k.qi l;have⟨bF,m,H2,az,ai,af,ag,aX⟩:=xJ aP aJ h2 aR R ((k.blk y ae).ext l) ((k.blk y aV).ext l) ((k.blk y aW).ext l);have aa:=Zy (by
       obtain⟨va,vc,vm,e,Z,-,-⟩:=Y;simp only[RG,SQ,SG]at e;obtain⟨rfl,-,-⟩:=e;exact Z.ext l7.stays l)
      have⟨HD,av,bO⟩:=jy (jv.stays _ _ _ _ _ _ (Ext.same l) (fun _ b=>b) (jv.stays _ _ _ _ _ _ (k.same y) (fun _ b=>b) bq)) (HF a (R3 X)) l;obtain⟨-,e0,e1,e2,e3,-⟩:=aX.ca;obtain⟨-,k0,-⟩:=R.ca;clear k Y x hI X aP l aJ h2 aR R;go_upto_region 5 with(fail);rw[<-bF.o];clear v B g2 g3 g4 g5 g6 g7 gz;go_wp2_with fail;refine(yI d HD a.name).mono ?_;rintro e w6 ⟨rfl,aG⟩;have A:=Zy (H2.ext aG);clear aG e0 e1 e2 e3 k0;cases aO:og d a.name with
      |none=>
       simp only[LA,Option.elim];go_wp2_with fail;exact⟨⟨t+1,Zm,by go_num,az.o _ A.o⟩,by simp[intOf];omega⟩
      | some ix =>
       simp only[LA,Option.elim];have aH:=av.o (by rw[aO];rfl);have ax:=Zy aH;have bV:decide ((ix:Int)<0)=false:=R7 Zm;obtain⟨-,S,-⟩:=(A.blk m af).ca;obtain⟨-,T,-⟩:=(A.blk m ag).ca;obtain⟨-,-,k1,k2,k3,-⟩:=(A.blk m ai).ca;clear aH av aO;go_wp2_with fail;refine(xU r s2 A h.keeper g.keeper a.ret ax.1).mono ?_;rintro e w7 ⟨rfl,V⟩;have bC:=Zy V;obtain⟨-,-,k4,-⟩:=(V.blk m ai).ca;clear S T k1 k2 k3 V;go_wp2_with fail;obtain⟨wo,rfl⟩:∃wo:World,wo=wr:=⟨_,rfl⟩;have bX:a.args.length<=4294967296:=by obtain⟨_,_,_,_,b⟩:=aa.form;exact b
       go_loopw [45] (fun q wr=>∃u:Nat,u<=a.args.length/\q=.int .i64 u/\kK r s2 wr) (fun q _=>a.args.length - (intOf q).toNat)
       case atStart=>exact⟨0,R4 _,rfl,bC⟩
       case round=>
        obtain⟨u,hu,rfl,H⟩:=hrel;have ay:=Zy H;by_cases bM:u<a.args.length
        . obtain⟨L,hx⟩:=get_some bM;obtain⟨b9,cz,bQ,rfl,bK,rfl,-,aL⟩:=(aa.keep l7.stays (H.same m) fun _ b=>b).get hx;obtain⟨j0,j1⟩:=aL.two;have jz:=iY j0;obtain⟨w8,aQ,D,aA⟩:=nu wr #[L.kind,L.name] 137;have⟨bG,O,bA⟩:=jy aQ (ay.ext D) (ax.2 L (R3 hx));obtain⟨-,S,-⟩:=(O.blk m af).ca;obtain⟨-,T,-⟩:=(O.blk m ag).ca;obtain⟨-,k1,k2,-⟩:=aA.ca;clear H aL bK hx aQ D aA k4;go_upto_region 10 with(fail);rw[<-bG.o];clear j0 j1 jz;go_wp2_with fail;refine(xU r s2 O h.keeper g.keeper L bA).mono ?_;rintro e w9 ⟨rfl,aI⟩;have bD:=Zy aI;clear aI S T k1 k2;go_wp2_with fail;exact⟨⟨u+1,Zm,by go_num,bD.o⟩,by simp[intOf];omega⟩
        . have bZ:u=a.args.length:=Zm
          clear H k4;go_wp2_with fail;exact⟨⟨t+1,Zm,by go_num,az.o _ ay.o⟩,by simp[intOf];omega⟩
    . have bY:t=c.methods.length:=Zm
      clear k;go_wp2_with fail;refine RA ?_;exact⟨rfl,UP _ HR⟩
end Go.Proofs.YtlhlnddgfcmfkaaGreat
