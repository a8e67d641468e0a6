/- Walks. -/
import Derived.Test.YtlhlnddgfcmfkaaGreatRsCoreH
import Derived.Test.YtlhlnddgfcmfkaaGreatRsCoreLp
set_option maxRecDepth 100000
set_option maxHeartbeats 4000000
set_option linter.all false
namespace Go.Proofs.YtlhlnddgfcmfkaaGreat
open Go Go.RowKit Tryz M
theorem jD.oZ{w:World}{l:jh}{p:hZ}{e c:Nat}{k:Int}{m:M.Method}{t:tX}{f:Int}{s:oM}{d vs:Value}(a:jD w l p e c k m t f s d vs):¬qj l c d vs w.heap.size:=by
 have g:=a.blk.lt;have h:=a.ku.ord;have i:=a.hB;have j:=a.hk;rintro(b|b|b|b)
 . omega
 . omega
 . have:=(a.loc.lt _ b).2;omega
 . have:=(a.kI.lt _ b).2;omega
theorem MN{w:World}{l:jh}{p:hZ}{A v:Nat}{k:Int}{m:M.Method}{t:tX}{B:Int}{s:oM}{x vs:Value}(u:jD w l p A v k m t B s x vs)(i:Ins)(D:i.op=4):Calls prog 201 #[some v,.agg #[i.op,i.a,i.name,i.member]] w (jK w l p A v k m t B x vs (jM p k m i s)):=by
 have g:Zz (jM p k m i s=(oN p k nK s).bind fun G=>(oN p k nK G).bind (nP m nK)):=Zy (by unfold jM;rw[D];rfl);obtain⟨z,E,y,C⟩:=nu w #[i.op,i.a,i.name,i.member] 149;have⟨F,a⟩:=je E (u.ext y);have c:Zz (Kp (qj l v x vs) z z):=Zy Kp.rr;have⟨o,r,K⟩:=jy (jU.refl z x vs) y C;have L:=u.blk.lt;have N:=jD.oZ u;clear D u y C E;go_enter func201,ntmps201;go_wp2_with fail;rw[<-F.o];refine(yJ).mono ?_;rintro q U ⟨rfl,d⟩;replace a:=Zy (a.ext d);replace c:=Zy (c.trans d.any);clear d;go_wp2_with fail;refine(nA _ a nK).mono ?_;rintro q V e;replace e:=jK.after c o e;rcases e with⟨f,j,⟨b,rfl⟩|⟨H,b,rfl,O,R,h,n⟩⟩
 . exact⟨rfl,jK.behind r ⟨f,j,.inl ⟨by rw[g.o,b];try rfl,rfl⟩⟩⟩
 replace g:Zz (jM p k m i s=(oN p k nK H).bind (nP m nK)):=Zy (by rw[g.o,b];try rfl);replace a:=Zy h;replace c:=Zy f;replace o:=Zy n;clear h f n j b;go_wp2_with fail;refine(yJ).mono ?_;rintro q W ⟨rfl,d⟩;replace a:=Zy (a.ext d);replace c:=Zy (c.trans d.any);clear d;go_wp2_with fail;refine(nA _ a nK).mono ?_;rintro q X e;replace e:=jK.after c o e;rcases e with⟨f,j,⟨b,rfl⟩|⟨I,b,rfl,P,S,h,n⟩⟩
 . exact⟨rfl,jK.behind r ⟨f,j,.inl ⟨by rw[g.o,b];try rfl,rfl⟩⟩⟩
 replace g:Zz (jM p k m i s=nP m nK I):=Zy (by rw[g.o,b];try rfl);replace a:=Zy h;replace c:=Zy f;replace o:=Zy n;clear h f n j b;go_wp2_with fail;refine(yJ).mono ?_;rintro q Y ⟨rfl,d⟩;replace a:=Zy (a.ext d);replace c:=Zy (c.trans d.any);clear d;go_wp2_with fail;refine(qW _ a nK).mono ?_;rintro q Z e;replace e:=jK.after c o e;rcases e with⟨f,j,⟨b,rfl⟩|⟨J,b,rfl,Q,T,h,n⟩⟩
 . exact⟨rfl,jK.behind r ⟨f,j,.inl ⟨by rw[g.o,b];try rfl,rfl⟩⟩⟩
 replace g:Zz (jM p k m i s=some J):=Zy (by rw[g.o,b];try rfl);replace a:=Zy h;replace c:=Zy f;replace o:=Zy n;clear h f n j b;go_wp2_with fail;refine RA ?_;exact jK.behind r ⟨c,a.ku,.inr ⟨_,g,rfl,_,_,a,o⟩⟩
theorem KG{w:World}{l:jh}{p:hZ}{r e:Nat}{k:Int}{m:M.Method}{t:tX}{v:Int}{s:oM}{f vs:Value}(c:jD w l p r e k m t v s f vs)(i:Ins)(B:i.op=5):Calls prog 202 #[some e,.agg #[i.op,i.a,i.name,i.member]] w (jK w l p r e k m t v f vs (jM p k m i s)):=by
 have b:Zz (jM p k m i s=nP m Gb s):=Zy (by unfold jM;rw[B];rfl);obtain⟨q,C,j,x⟩:=nu w #[i.op,i.a,i.name,i.member] 149;have⟨D,a⟩:=je C (c.ext j);have g:Zz (Kp (qj l e f vs) q q):=Zy Kp.rr;have⟨h,u,F⟩:=jy (jU.refl q f vs) j x;have H:=c.blk.lt;have I:=jD.oZ c;clear B c j x C;go_enter func202,ntmps202;go_wp2_with fail;rw[<-D.o];refine(qW _ a Gb).mono ?_;rintro G L n;replace n:=jK.after g h n;rcases n with⟨o,z,⟨d,rfl⟩|⟨E,d,rfl,J,K,y,A⟩⟩
 . exact⟨rfl,jK.behind u ⟨o,z,.inl ⟨by rw[b.o,d];try rfl,rfl⟩⟩⟩
 replace b:Zz (jM p k m i s=some E):=Zy (by rw[b.o,d];try rfl);replace a:=Zy y;replace g:=Zy o;replace h:=Zy A;clear y o A z d;go_wp2_with fail;refine RA ?_;exact jK.behind u ⟨g,a.ku,.inr ⟨_,b,rfl,_,_,a,h⟩⟩
theorem MS{w:World}{l:jh}{p:hZ}{v f:Nat}{k:Int}{m:M.Method}{t:tX}{y:Int}{s:oM}{g vs:Value}(d:jD w l p v f k m t y s g vs)(i:Ins)(C:i.op=6):Calls prog 203 #[some f,.agg #[i.op,i.a,i.name,i.member]] w (jK w l p v f k m t y g vs (jM p k m i s)):=by
 have c:Zz (jM p k m i s=nP m (lH i.name) s):=Zy (by unfold jM;rw[C];rfl);obtain⟨u,D,o,j⟩:=nu w #[i.op,i.a,i.name,i.member] 149;have⟨E,a⟩:=je D (d.ext o);have b:Zz (Kp (qj l f g vs) u u):=Zy Kp.rr;have⟨h,x,H⟩:=jy (jU.refl u g vs) o j;have I:=d.blk.lt;have J:=jD.oZ d;have P:=j.c 2 i.name rfl;clear C d o j D;go_enter func203,ntmps203;go_wp2_with fail;rw[<-E.o];refine(yx _ i.name).mono ?_;rintro F N ⟨rfl,n⟩;replace a:=Zy (a.ext n);replace b:=Zy (b.trans n.any);clear n;go_wp2_with fail;refine(qW _ a (lH i.name)).mono ?_;rintro F O q;replace q:=jK.after b h q;rcases q with⟨r,A,⟨e,rfl⟩|⟨G,e,rfl,K,L,z,B⟩⟩
 . exact⟨rfl,jK.behind x ⟨r,A,.inl ⟨by rw[c.o,e];try rfl,rfl⟩⟩⟩
 replace c:Zz (jM p k m i s=some G):=Zy (by rw[c.o,e];try rfl);replace a:=Zy z;replace b:=Zy r;replace h:=Zy B;clear z r B A e;go_wp2_with fail;refine RA ?_;exact jK.behind x ⟨b,a.ku,.inr ⟨_,c,rfl,_,_,a,h⟩⟩
theorem MV{w:World}{l:jh}{p:hZ}{u f:Nat}{k:Int}{m:M.Method}{t:tX}{x:Int}{s:oM}{g vs:Value}(d:jD w l p u f k m t x s g vs)(i:Ins)(C:i.op=14):Calls prog 211 #[some f,.agg #[i.op,i.a,i.name,i.member]] w (jK w l p u f k m t x g vs (jM p k m i s)):=by
 have c:Zz (jM p k m i s=oN p k nK s):=Zy (by unfold jM;rw[C];rfl);obtain⟨r,D,n,y⟩:=nu w #[i.op,i.a,i.name,i.member] 149;have⟨E,a⟩:=je D (d.ext n);have b:Zz (Kp (qj l f g vs) r r):=Zy Kp.rr;have⟨h,v,H⟩:=jy (jU.refl r g vs) n y;have I:=d.blk.lt;have J:=jD.oZ d;clear C d n y D;go_enter func211,ntmps211;go_wp2_with fail;rw[<-E.o];refine(yJ).mono ?_;rintro F N ⟨rfl,j⟩;replace a:=Zy (a.ext j);replace b:=Zy (b.trans j.any);clear j;go_wp2_with fail;refine(nA _ a nK).mono ?_;rintro F O o;replace o:=jK.after b h o;rcases o with⟨q,A,⟨e,rfl⟩|⟨G,e,rfl,K,L,z,B⟩⟩
 . exact⟨rfl,jK.behind v ⟨q,A,.inl ⟨by rw[c.o,e];try rfl,rfl⟩⟩⟩
 replace c:Zz (jM p k m i s=some G):=Zy (by rw[c.o,e];try rfl);replace a:=Zy z;replace b:=Zy q;replace h:=Zy B;clear z q B A e;go_wp2_with fail;refine RA ?_;exact jK.behind v ⟨b,a.ku,.inr ⟨_,c,rfl,_,_,a,h⟩⟩
theorem Oz{w:World}{l:jh}{p:hZ}{u e:Nat}{k:Int}{m:M.Method}{t:tX}{x:Int}{s:oM}{f vs:Value}(c:jD w l p u e k m t x s f vs)(i:Ins)(B:i.op=13):Calls prog 210 #[some e,.agg #[i.op,i.a,i.name,i.member]] w (jK w l p u e k m t x f vs (jM p k m i s)):=by
 have b:Zz (jM p k m i s=nG p k m i.a s):=Zy (by unfold jM;rw[B];rfl);obtain⟨r,C,n,j⟩:=nu w #[i.op,i.a,i.name,i.member] 149;have⟨D,a⟩:=je C (c.ext n);have g:Zz (Kp (qj l e f vs) r r):=Zy Kp.rr;have⟨h,v,F⟩:=jy (jU.refl r f vs) n j;have I:=c.blk.lt;have J:=jD.oZ c;obtain⟨H,-,O,-⟩:=j.ca;clear B c n j C;go_enter func210,ntmps210;go_wp2_with fail;rw[<-D.o];refine(xN a i.a).mono ?_;rintro G N o;replace o:=jK.after g h o;rcases o with⟨q,z,⟨d,rfl⟩|⟨E,d,rfl,K,L,y,A⟩⟩
 . exact⟨rfl,jK.behind v ⟨q,z,.inl ⟨by rw[b.o,d];try rfl,rfl⟩⟩⟩
 replace b:Zz (jM p k m i s=some E):=Zy (by rw[b.o,d];try rfl);replace a:=Zy y;replace g:=Zy q;replace h:=Zy A;clear y q A z d;go_wp2_with fail;refine RA ?_;exact jK.behind v ⟨g,a.ku,.inr ⟨_,b,rfl,_,_,a,h⟩⟩
theorem KH{w:World}{l:jh}{p:hZ}{z q:Nat}{k:Int}{m:M.Method}{t:tX}{A:Int}{s:oM}{r vs:Value}(o:jD w l p z q k m t A s r vs)(i:Ins)(D:i.op=11):Calls prog 208 #[some q,.agg #[i.op,i.a,i.name,i.member]] w (jK w l p z q k m t A r vs (jM p k m i s)):=by
 have d:Zz (jM p k m i s=(oN p k nK s).bind (nG p k m i.a)):=Zy (by unfold jM;rw[D];rfl);obtain⟨y,E,x,B⟩:=nu w #[i.op,i.a,i.name,i.member] 149;have⟨G,b⟩:=je E (o.ext x);have c:Zz (Kp (qj l q r vs) y y):=Zy Kp.rr;have⟨g,u,F⟩:=jy (jU.refl y r vs) x B;have K:=o.blk.lt;have H:=jD.oZ o;clear D o x B E;go_enter func208,ntmps208;go_wp2_with fail;rw[<-G.o];refine(yJ).mono ?_;rintro C Q ⟨rfl,v⟩;replace b:=Zy (b.ext v);replace c:=Zy (c.trans v.any);clear v;go_wp2_with fail;refine(nA _ b nK).mono ?_;rintro C R e;replace e:=jK.after c g e;rcases e with⟨f,j,⟨a,rfl⟩|⟨I,a,rfl,L,O,h,n⟩⟩
 . exact⟨rfl,jK.behind u ⟨f,j,.inl ⟨by rw[d.o,a];try rfl,rfl⟩⟩⟩
 replace d:Zz (jM p k m i s=nG p k m i.a I):=Zy (by rw[d.o,a];try rfl);replace b:=Zy h;replace c:=Zy f;replace g:=Zy n;clear h f n j a;have T:=(F.kp c H).c 1 i.a rfl;go_wp2_with fail;refine(xN b i.a).mono ?_;rintro C S e;replace e:=jK.after c g e;rcases e with⟨f,j,⟨a,rfl⟩|⟨J,a,rfl,N,P,h,n⟩⟩
 . exact⟨rfl,jK.behind u ⟨f,j,.inl ⟨by rw[d.o,a];try rfl,rfl⟩⟩⟩
 replace d:Zz (jM p k m i s=some J):=Zy (by rw[d.o,a];try rfl);replace b:=Zy h;replace c:=Zy f;replace g:=Zy n;clear h f n j a;go_wp2_with fail;refine RA ?_;exact jK.behind u ⟨c,b.ku,.inr ⟨_,d,rfl,_,_,b,g⟩⟩
theorem Jb{w:World}{l:jh}{p:hZ}{y q:Nat}{k:Int}{m:M.Method}{t:tX}{z:Int}{s:oM}{r vs:Value}(o:jD w l p y q k m t z s r vs)(i:Ins)(B:i.op=12):Calls prog 209 #[some q,.agg #[i.op,i.a,i.name,i.member]] w (jK w l p y q k m t z r vs (jM p k m i s)):=by
 have b:Zz (jM p k m i s=(xL s).bind (nG p k m i.a)):=Zy (by unfold jM;rw[B];rfl);obtain⟨x,C,v,A⟩:=nu w #[i.op,i.a,i.name,i.member] 149;have⟨E,e⟩:=je C (o.ext v);have f:Zz (Kp (qj l q r vs) x x):=Zy Kp.rr;have⟨g,u,D⟩:=jy (jU.refl x r vs) v A;have J:=o.blk.lt;have G:=jD.oZ o;clear B o v A C;go_enter func209,ntmps209;go_wp2_with fail;rw[<-E.o];refine(wY e).mono ?_;rintro F P c;replace c:=jK.after f g c;rcases c with⟨d,j,⟨a,rfl⟩|⟨H,a,rfl,K,N,h,n⟩⟩
 . exact⟨rfl,jK.behind u ⟨d,j,.inl ⟨by rw[b.o,a];try rfl,rfl⟩⟩⟩
 replace b:Zz (jM p k m i s=nG p k m i.a H):=Zy (by rw[b.o,a];try rfl);replace e:=Zy h;replace f:=Zy d;replace g:=Zy n;clear h d n j a;have R:=(D.kp f G).c 1 i.a rfl;go_wp2_with fail;refine(xN e i.a).mono ?_;rintro F Q c;replace c:=jK.after f g c;rcases c with⟨d,j,⟨a,rfl⟩|⟨I,a,rfl,L,O,h,n⟩⟩
 . exact⟨rfl,jK.behind u ⟨d,j,.inl ⟨by rw[b.o,a];try rfl,rfl⟩⟩⟩
 replace b:Zz (jM p k m i s=some I):=Zy (by rw[b.o,a];try rfl);replace e:=Zy h;replace f:=Zy d;replace g:=Zy n;clear h d n j a;go_wp2_with fail;refine RA ?_;exact jK.behind u ⟨f,e.ku,.inr ⟨_,b,rfl,_,_,e,g⟩⟩
theorem KD{w:World}{l:jh}{p:hZ}{z q:Nat}{k:Int}{m:M.Method}{t:tX}{A:Int}{s:oM}{r vs:Value}(o:jD w l p z q k m t A s r vs)(i:Ins)(D:i.op=15):Calls prog 212 #[some q,.agg #[i.op,i.a,i.name,i.member]] w (jK w l p z q k m t A r vs (jM p k m i s)):=by
 have d:Zz (jM p k m i s=(xL s).bind (nP m (lH i.name))):=Zy (by unfold jM;rw[D];rfl);obtain⟨y,E,x,B⟩:=nu w #[i.op,i.a,i.name,i.member] 149;have⟨G,b⟩:=je E (o.ext x);have c:Zz (Kp (qj l q r vs) y y):=Zy Kp.rr;have⟨g,u,F⟩:=jy (jU.refl y r vs) x B;have K:=o.blk.lt;have H:=jD.oZ o;clear D o x B E;go_enter func212,ntmps212;go_wp2_with fail;rw[<-G.o];refine(wY b).mono ?_;rintro C Q e;replace e:=jK.after c g e;rcases e with⟨f,j,⟨a,rfl⟩|⟨I,a,rfl,L,O,h,n⟩⟩
 . exact⟨rfl,jK.behind u ⟨f,j,.inl ⟨by rw[d.o,a];try rfl,rfl⟩⟩⟩
 replace d:Zz (jM p k m i s=nP m (lH i.name) I):=Zy (by rw[d.o,a];try rfl);replace b:=Zy h;replace c:=Zy f;replace g:=Zy n;clear h f n j a;have T:=(F.kp c H).c 2 i.name rfl;go_wp2_with fail;refine(yx _ i.name).mono ?_;rintro C R ⟨rfl,v⟩;replace b:=Zy (b.ext v);replace c:=Zy (c.trans v.any);clear v;go_wp2_with fail;refine(qW _ b (lH i.name)).mono ?_;rintro C S e;replace e:=jK.after c g e;rcases e with⟨f,j,⟨a,rfl⟩|⟨J,a,rfl,N,P,h,n⟩⟩
 . exact⟨rfl,jK.behind u ⟨f,j,.inl ⟨by rw[d.o,a];try rfl,rfl⟩⟩⟩
 replace d:Zz (jM p k m i s=some J):=Zy (by rw[d.o,a];try rfl);replace b:=Zy h;replace c:=Zy f;replace g:=Zy n;clear h f n j a;go_wp2_with fail;refine RA ?_;exact jK.behind u ⟨c,b.ku,.inr ⟨_,d,rfl,_,_,b,g⟩⟩
theorem MX{w:World}{l:jh}{p:hZ}{u f:Nat}{k:Int}{m:M.Method}{t:tX}{x:Int}{s:oM}{g vs:Value}(c:jD w l p u f k m t x s g vs)(i:Ins)(C:i.op=10):Calls prog 207 #[some f,.agg #[i.op,i.a,i.name,i.member]] w (jK w l p u f k m t x g vs (jM p k m i s)):=by
 have d:Zz (jM p k m i s=oN p k (l8 m.ret) s):=Zy (by unfold jM;rw[C];rfl);obtain⟨r,D,n,y⟩:=nu w #[i.op,i.a,i.name,i.member] 149;have⟨E,a⟩:=je D (c.ext n);have b:Zz (Kp (qj l f g vs) r r):=Zy Kp.rr;have⟨h,v,H⟩:=jy (jU.refl r g vs) n y;have I:=c.blk.lt;have J:=jD.oZ c;obtain⟨-,-,-,-,-,P,Q,-⟩:=c.blk.ca;clear C c n y D;go_enter func207,ntmps207;go_wp2_with fail;rw[<-E.o];refine(Bq _ m.ret).mono ?_;rintro F N ⟨rfl,j⟩;replace a:=Zy (a.ext j);replace b:=Zy (b.trans j.any);clear j;go_wp2_with fail;refine(nA _ a (l8 m.ret)).mono ?_;rintro F O o;replace o:=jK.after b h o;rcases o with⟨q,A,⟨e,rfl⟩|⟨G,e,rfl,K,L,z,B⟩⟩
 . exact⟨rfl,jK.behind v ⟨q,A,.inl ⟨by rw[d.o,e];try rfl,rfl⟩⟩⟩
 replace d:Zz (jM p k m i s=some G):=Zy (by rw[d.o,e];try rfl);replace a:=Zy z;replace b:=Zy q;replace h:=Zy B;clear z q B A e;go_wp2_with fail;refine RA ?_;exact jK.behind v ⟨b,a.ku,.inr ⟨_,d,rfl,_,_,a,h⟩⟩
theorem M0{w:World}{l:jh}{p:hZ}{B n:Nat}{k:Int}{m:M.Method}{t:tX}{u:Int}{s:oM}{T vs:Value}(h:jD w l p B n k m t u s T vs)(i:Ins)(y:i.op=2)(Q:0<=i.a/\i.a<m.locals):Calls prog 199 #[some n,.agg #[i.op,i.a,i.name,i.member]] w (jK w l p B n k m t u T vs (jM p k m i s)):=by
 have c:Zz (jM p k m i s=(s.locals[i.a.toNat]?).bind fun t=>if t.kind=0 then none else nP m t s):=Zy (by unfold jM;rw[y];rfl);obtain⟨r,H,q,o⟩:=i;dsimp only at y Q c;obtain⟨b,rfl⟩:∃b:Nat,H=b:=⟨H.toNat,Zm⟩;have ae:b<s.locals.length:=Z0 h.M5
 obtain⟨a,z⟩:=nW s.locals b ae;replace c:Zz (jM p k m ⟨r,b,q,o⟩ s=if a.kind=0 then none else nP m a s):=Zy (by rw[c.o,SS,z];rfl);obtain⟨d,S,v,I⟩:=nu w #[r,b,q,o] 149;have j:=h.ext v;have x:=j.loc;obtain⟨lg,af,aa,ai,aj,ak⟩:=jS x Zm;subst aa;obtain⟨U,V⟩:=(lK (enc:=lY) (k:=2) (fun _=>rfl) x z).two;obtain⟨ag,ah,au,f⟩:=kY d;have K:=fun e=>(j.blk.ext (f.jm e)).c 11 (lg,s.locals.length,af) rfl;have J:=fun e=>(I.ext (f.jm e)).c 1 b rfl;have L:=fun e=>(f.jm e).jb U;have N:=fun e=>(f.jm e).jb V;have av:(b:Int)<s.locals.length:=Zm
 have Z:=h.I6;have hz:=h.blk.lt;have⟨F,W,D,C⟩:=jV f S v j;clear h y z S v I j x f U V Q;have R:(a.kind==0)=true\/(a.kind==0)=false:=by cases (a.kind==0)<;>simp
 go_enter func199,ntmps199;go_wp2_with fail;rw[<-W.o];refine kD F 9 [([0,1,2,3,4,5,6,7],8)] [] ?_ ?_
 . exact jf
 refine lS ?_;intro X P;go_wp2_with fail;refine kk F P kx ?_;clear P X;refine kC ?_;go_wp2_with fail
 . clear R K J L N;have A:(a.kind==0)=true:=by assumption
   replace c:Zz (jM p k m ⟨r,b,q,o⟩ s=none):=Zy (by rw[c.o,RV (by simpa using A)]);have O:=C.ext (kx:Ext d ((d.alloc (.cells #[a.kind,a.name] 211)).drew));refine(mD n u (O.blk.c 10 _ rfl) Z.1 Zm).mono ?_;rintro Y w3 ⟨rfl,rfl⟩;exact⟨rfl,jK.behind D ⟨(kx:Ext d ((d.alloc (.cells #[a.kind,a.name] 211)).drew)).any,O.ku,.inl ⟨c,rfl⟩⟩⟩
 . clear R K J L N;have A:(a.kind==0)=false:=by assumption
   replace c:Zz (jM p k m ⟨r,b,q,o⟩ s=nP m a s):=Zy (by rw[c.o,RX (by simpa using A)]);have E:Zz (Ext d ((d.alloc (.cells #[a.kind,a.name] 211)).drew)):=Zy kx;refine(qW _ (C.ext E) a).mono ?_;rintro Y w2 g;replace g:=jK.behind (D.trans E) g;rw[<-c.o]at g;have G:=Zy g;rcases g.2.2 with⟨-,rfl⟩|⟨s',-,rfl,-⟩
   . exact⟨rfl,G⟩
   . clear g;go_wp2_with fail;refine RA ?_;exact G
theorem Kh:∀(a:List Tag) (q:Nat) (x:Tag),((a.flatMap lY).set (q*2) x.kind).set (q*2+1) x.name=(a.set q x).flatMap lY:=by
 intro a;induction a with
 |nil=>intro q x;rfl
 | cons d c b =>
  intro q x;cases q with
  |zero=>simp[lY]
  |succ q=>
   have:=b q x;rw[show(q+1)*2=q*2+2 from by omega];simp[lY,Tn,RU]at this |-;exact this
theorem jD.xX{w:World}{l:jh}{p:hZ}{g e:Nat}{k:Int}{m:M.Method}{t:tX}{h:Int}{s:oM}{b f:Nat}{vs:Value}(a:jD w l p g e k m t h s (b,s.locals.length,f) vs)(q:Nat)(x:Tag):jD ((w.setCell (b,q*2) x.kind).setCell (b,q*2+1) x.name) l p g e k m t h ⟨s.locals.set q x,s.stack⟩ (b,s.locals.length,f) vs/\Kp (qj l e (b,s.locals.length,f) vs) w ((w.setCell (b,q*2) x.kind).setCell (b,q*2+1) x.name):=by
 have d:Kp (·=b) w ((w.setCell (b,q*2) x.kind).setCell (b,q*2+1) x.name):=
  ((Kp.refl (·=b) w).setCell (p:=⟨b,q*2,none⟩) (fun _=>rfl) _).setCell (p:=⟨b,q*2+1,none⟩) (fun _=>rfl) _
 have n:=(a.loc.lt b rfl).1;have y:=a.ku.ord;have v:=a.hB;have r:=a.Pg.1;have j:=(a.loc.stored (q*2) x.kind).1.stored (q*2+1) x.name;rw[Kh]at j;refine⟨⟨a.ku.kp d (fun i o c=>Zm),a.hB,a.hk,jL.kp jd.stays d (fun i o c=>Zm) a.ml,a.mi,a.blk.kp d (fun c=>r (by rw[c];rfl)),by simpa using j.1,iZ a.kI d (fun u n _ c=>a.ne b rfl (by rw[<-c];exact n)),a.ne,a.I6,a.Pk,by simpa using a.M5⟩,d.weak fun i _ c=>.inr (.inr (.inl (by rw[c];rfl)))⟩
theorem OA{w:World}{l:jh}{p:hZ}{r g:Nat}{k:Int}{m:M.Method}{t:tX}{x:Int}{s:oM}{vl vs:Value}(f:jD w l p r g k m t x s vl vs)(i:Ins)(A:i.op=3)(U:0<=i.a/\i.a<m.locals):Calls prog 200 #[some g,.agg #[i.op,i.a,i.name,i.member]] w (jK w l p r g k m t x vl vs (jM p k m i s)):=by
 have c:Zz (jM p k m i s=(uU s).map fun d=>⟨d.2.locals.set i.a.toNat d.1,d.2.stack⟩):=Zy (by unfold jM;rw[A];rfl);obtain⟨E,N,D,C⟩:=i;dsimp only at A U c;obtain⟨a,rfl⟩:∃a:Nat,N=a:=⟨N.toNat,Zm⟩;have aj:a<s.locals.length:=Z0 f.M5
 obtain⟨F,W,y,O⟩:=nu w #[E,a,D,C] 149;have o:=f.ext y;have V:=f.oZ;obtain⟨q,B,ai,av,ax,ay⟩:=jS o.loc Zm;subst ai;obtain⟨ak,ag,aA,n⟩:=rA.ex (fun L=>Kp (qj l g (q,s.locals.length,B) vs) F L/\∃Z aa,jD L l p r g k m t x Z (q,s.locals.length,B) aa) F ⟨Kp.rr,_,_,o⟩;have af:∀j,(ag j).cell? (g,11)=some (.slice (some ⟨q,0,none⟩) s.locals.length B):=fun j=>by
  obtain⟨_,Z,aa,Y⟩:=n.jm j;exact Y.blk.c 11 _ rfl
 have e1:=fun j=>(O.kp (n.jm j).1 V).c 1 a rfl;have aB:(a:Int)<s.locals.length:=Zm
 have au:=f.I6;have Y:=f.blk.lt;have⟨v,J,G,h⟩:=jV n W y o;clear f A W y O o n U V;rcases R8 s.stack with b|⟨st,d,b⟩
 . replace c:Zz (jM p k m ⟨E,a,D,C⟩ s=none):=Zy (by rw[c.o];unfold uU;rw[b];rfl);have u:=Zy b;clear b;go_enter func200,ntmps200;go_wp2_with fail;rw[<-J.o];refine kD v 8 [([0,1,2,3,4,5,6],7)] [] ?_ ?_
   . exact⟨jf,_,_,h.ext jf⟩
   refine lS ?_;intro K z;go_wp2_with fail;refine(wF (h.ext jf) u).mono ?_;rintro ae w1 ⟨rfl,R⟩;have hE:=(G.trans jf).trans R;exact⟨rfl,hE.any,((h.ext jf).ext R).ku,.inl ⟨c,rfl⟩⟩
 . rw[R9]at b;replace c:Zz (jM p k m ⟨E,a,D,C⟩ s=some ⟨s.locals.set a d,st⟩):=Zy (by rw[c.o];unfold uU;rw[b];simp);have u:=Zy b;clear b;go_enter func200,ntmps200;go_wp2_with fail;rw[<-J.o];refine kD v 8 [([0,1,2,3,4,5,6],7)] [] ?_ ?_
   . exact⟨jf,_,_,h.ext jf⟩
   refine lS ?_;intro K z;go_wp2_with fail;refine(yH (h.ext jf) st d u).mono ?_;rintro ae w1 ⟨rfl,⟨aC,P,T⟩,S⟩;have⟨H,I,e⟩:=jy (((Kp.refl _ F).drew).trans S) T P;clear P T S;go_wp2_with fail;refine kk v z ⟨H,_,_,e⟩ ?_;clear z K;obtain⟨aD,X⟩:=nW s.locals a aj;obtain⟨x0,x1⟩:=(lK (enc:=lY) (k:=2) (fun _=>rfl) e.loc X).two;have f0:=e.loc.frozenAt (a*2);have f1:=e.loc.frozenAt (a*2+1);have az:=(e.loc.lt q rfl).2;clear af e1 X;refine kC ?_;go_wp2_with fail;refine RA ?_;obtain⟨Q,ah⟩:=e.xX a d;exact jK.behind G ⟨H.look ah I,Q.ku,.inr ⟨_,c,rfl,_,_,Q,I⟩⟩
theorem ET{w d a:World}{l:jh}{p:hZ}{b:Nat}(f:Ext w d)(g:Kp (·=l.D) d a)(h:jg a l p)(j:l.L<b)(m:w<=b)(u0 u1 u2 u3 u4:Value):Kp (·=l.D) w (((((a.setCell b u0).setCell (b,1) u1).setCell (b,2) u2).setCell (b,3) u3).setCell (b,4) u4)/\jg (((((a.setCell b u0).setCell (b,1) u1).setCell (b,2) u2).setCell (b,3) u3).setCell (b,4) u4) l p:=by
 have c:=Kp.uH (D:=(·=b)) (w:=a) rfl u0 u1 u2 u3 u4;generalize (((((a.setCell b u0).setCell (b,1) u1).setCell (b,2) u2).setCell (b,3) u3).setCell (b,4) u4)=w8 at*;exact⟨(f.any.trans g).own c (fun i e=>Zm),h.kp c (fun i k e=>Zm)⟩
theorem Dt{w:World}{l:jh}{p:hZ}{af L:Nat}{k:Int}{m:M.Method}{t:tX}{P:Int}{s:oM}{vl vs:Value}(o:jD w l p af L k m t P s vl vs)(i:Ins):Calls prog 224 #[some L,.agg #[i.op,i.a,i.name,i.member]] w fun g w'=>Kp (·=l.D) w w'/\jg w' l p/\(((M.get p k i.name i.member).2≠1/\g=.panicked (zH (P+1)))\/((M.get p k i.name i.member).2=1/\g=.returned (.agg (oI (M.get p k i.name i.member).1).toArray))):=by
 obtain⟨a,K⟩:=Ry ((w.alloc (.cells #[i.op,i.a,i.name,i.member] 149)).alloc (.cells #[.int .i64 0, "",.int .i64 0,.int .i64 0, ""] 213));have U:Ext w a:=by rw[K];exact kx
 have b3:hV a w 149 #[i.op,i.a,i.name,i.member]:=by rw[K];exact(hV.new _ _ _).ext kx
 have d:hV a (w+1) 213 #[.int .i64 0, "",.int .i64 0,.int .i64 0, ""]:=by rw[K];exact hV.newAt _ _ Zl
 have T:=o.ext U;have hD:=o.ku.Ev;have aG:=o.ku.ord;have hB:=o.hB;have hk:=o.hk;have hz:=o.blk.lt;have aa:=o.I6;have X:¬L=l.D:=Zm
 have ay:¬w=l.D:=Zm
 have ae:¬w+1=l.D:=Zm
 obtain⟨aB,aC,aF,O⟩:=rA.ex (fun W'=>Kp (·=l.D) a W') _ Kp.rr;obtain⟨-,r0,r1,-⟩:=hV.lL fun Z=>(T.blk.kp (O.jm Z) X);obtain⟨-,-,-,r2,r3,-⟩:=hV.lL fun Z=>(b3.kp (O.jm Z) ay);have⟨n,ah,F,D,N⟩:=mr O K U T d;obtain⟨q,r,u,v,x,Y⟩:∃aj b ak au g,(oI (M.get p k i.name i.member).1).toArray=#[.int .i64 aj,.string b,.int .i64 ak,.int .i64 au,.string g]:=⟨_,_,_,_,_,rfl⟩;have HV:=Zy Y;rw[Y];clear Y;clear o K U b3 d T O;go_enter func224,ntmps224;go_wp2_with fail;rw[<-ah.o];refine qA n 18 (.two [0,1,2,3,4,5,6,7,8,9,10,11] 12 16 (.one [13,14,15] 16 (.one [] 17 (.fin []))) (.one [] 12 (.one [13,14,15] 17 (.fin [])))) ?_ ?_
 . exact jf
 refine two [_,_,_,_,_,_,_,_,_,_,_,_] rfl rfl rfl fun ai hK=>?_;(repeat (go_big_quiet_step (fail)));((refine Gf hK (fun f c=>?_) fun f c=>?_)<;>clear hK ai)
 . go_wp2_with fail;refine(vO _ _ _ (D.ku.ext jf) k i.name i.member).mono ?_;rintro g A ⟨⟨ev,I,W⟩,H,C⟩;rw[HV.o]at I;subst I;have⟨y,ag⟩:=je ((jf).trans C) H;clear H C;obtain⟨j,h⟩:=Ry (A.alloc (.cells #[q,r,u,v,x] 213));have e:Zz (Kp (·=l.D) a j):=Zy (by rw[h];exact y.alloc _);have G:Zz (jg j l p):=Zy (by rw[h];exact ag.ext kx);have B:hV j A 213 #[q,r,u,v,x]:=by rw[h];exact hV.new _ _ _
   have S:=Zy h;obtain⟨-,u0,u1,u2,u3,u4,-⟩:=B.ca;have av:¬(w:Nat)+1=(A:Nat):=Z4 N.lt y.size
   have ax:¬(A:Nat)=w+1:=Zm
   clear B h;rcases W with⟨z,rfl⟩|⟨z,b,rfl,-⟩
   all_goals
    have E:=Zy z;clear z;go_wp2_with fail;refine kk n c y ?_;clear c f;refine Cf ?_;intro f c;go_wp2_with fail;refine kk n c (y.alloc _) ?_;clear c f;refine jZ rfl fun f c=>?_;go_wp2_with fail;rw[<-S.o];refine kk n c e ?_;clear c f;clear n r0 r1 r2 r3;have d:=N.kp e ae;obtain⟨z4,x0,x1,x2,x3,x4,-⟩:=d.ca;obtain⟨f0,f1,f2,f3,f4,-⟩:=d.fz;have R:=Zy d;clear d;refine kM ?_;go_wp2_with fail
   . refine DV (jw vG rfl (w+1) rfl [q,r,u,v,x] (hH.lV (R.uH _ _ _ _ _)) rfl) rfl ?_;have J:=ET (b:=w.heap.size+1) F e G Zm Zm q r u v x;exact⟨J.1,J.2,.inr ⟨E,rfl⟩⟩
   . refine(mD L P ((D.blk.kp e X).c 10 _ rfl) aa.1 Zm).mono ?_;rintro g w9 ⟨rfl,rfl⟩;exact⟨rfl,F.any.trans e,G,.inl ⟨E,rfl⟩⟩
 . go_wp2_with fail;refine kk n c ((jf).alloc _) ?_;clear c f;refine jZ rfl fun f c=>?_;go_wp2_with fail;have b5:hV (a.alloc (.cells #[.int .i64 0, "",.int .i64 0,.int .i64 0, ""] 213)).drew a 213 #[.int .i64 0, "",.int .i64 0,.int .i64 0, ""]:=(hV.new _ _ _).ext jf;have aD:=D.ku.Ev;have az:¬a.heap.size=l.D:=Zm
   refine(vO _ _ _ (D.ku.ext (jr _).drew) k i.name i.member).mono ?_;rintro g A ⟨⟨ev,I,W⟩,H,C⟩;rw[HV.o]at I;subst I;have y:=Zy ((((Kp.refl _ a).alloc _).drew).trans C);have Q:=b5.kp C az;have aH:=F.size;have av:¬w.heap.size+1=(a:Nat):=Z0 N.lt
   have ax:¬a.heap.size=w+1:=Zm
   obtain⟨z5,y0,y1,y2,y3,y4,-⟩:=Q.ca;obtain⟨g0,g1,g2,g3,g4,-⟩:=Q.fz;obtain⟨j,h⟩:=Ry ((((((A.setCell ⟨a,0,none⟩ q).setCell ⟨a,1,none⟩ r).setCell ⟨a,2,none⟩ u).setCell ⟨a,3,none⟩ v).setCell ⟨a,4,none⟩ x));have V:Kp (·=a) A j:=by rw[h];exact Kp.uH (D:=(·=a)) rfl _ _ _ _ _
   have B:hV j a 213 #[q,r,u,v,x]:=by rw[h];exact Q.uH _ _ _ _ _
   have⟨e,G,aA,S⟩:=jV (y.own V (fun k g=>Zm)) (H.kp V (fun b hb g=>Zm)) B h;obtain⟨-,u0,u1,u2,u3,u4,-⟩:=B.ca;clear b5 Q H C V B h;rcases W with⟨z,rfl⟩|⟨z,b,rfl,-⟩
   all_goals
    have E:=Zy z;clear z;go_wp2_with fail;refine kk n c y ?_;clear c f;refine Cf ?_;intro f c;go_wp2_with fail;rw[<-S.o];refine kk n c e ?_;clear c f;clear n r0 r1 r2 r3 y0 y1 y2 y3 y4 g0 g1 g2 g3 g4;have d:=N.kp e ae;obtain⟨z4,x0,x1,x2,x3,x4,-⟩:=d.ca;obtain⟨f0,f1,f2,f3,f4,-⟩:=d.fz;have R:=Zy d;clear d;refine kM ?_;go_wp2_with fail
   . refine DV (jw vG rfl (w+1) rfl [q,r,u,v,x] (hH.lV (R.uH _ _ _ _ _)) rfl) rfl ?_;have J:=ET (b:=w.heap.size+1) F e G Zm Zm q r u v x;exact⟨J.1,J.2,.inr ⟨E,rfl⟩⟩
   . refine(mD L P ((D.blk.kp e X).c 10 _ rfl) aa.1 Zm).mono ?_;rintro g w9 ⟨rfl,rfl⟩;exact⟨rfl,F.any.trans e,G,.inl ⟨E,rfl⟩⟩
theorem MQ{w:World}{l:jh}{p:hZ}{N n:Nat}{k:Int}{m:M.Method}{t:tX}{Q:Int}{s:oM}{f vs:Value}(y:jD w l p N n k m t Q s f vs)(i:Ins)(T:i.op=7):Calls prog 204 #[some n,.agg #[i.op,i.a,i.name,i.member]] w (jK w l p N n k m t Q f vs (jM p k m i s)):=by
 have b:Zz (jM p k m i s=if(M.get p k i.name i.member).2=1 then(oN p k (lH i.name) s).bind (nP m (l8 (M.get p k i.name i.member).1.kind))else none):=Zy (by unfold jM;rw[T];rfl);obtain⟨K,U,E,R⟩:=nu w #[i.op,i.a,i.name,i.member] 149;have⟨X,a⟩:=je U (y.ext E);have c:Zz (Kp (qj l n f vs) K K):=Zy Kp.rr;have⟨o,P,O⟩:=jy (jU.refl K f vs) E R;have ag:=y.blk.lt;have aa:=jD.oZ y;clear T y E R U;go_enter func204,ntmps204;go_wp2_with fail;rw[<-X.o];obtain⟨G,A⟩:∃G,M.get p k i.name i.member=G:=⟨_,rfl⟩;have J:=Dt a i;rw[A]at J;replace b:Zz (jM p k m i s=if G.2=1 then((oN p k (lH i.name) s).bind (nP m (l8 G.1.kind)))else none):=Zy (by rw[b.o,A]);have ai:=a.ku.ord;have af:=a.hB;have ah:=a.hk;refine J.mono ?_;rintro d L ⟨r,F,⟨B,rfl⟩|⟨B,I⟩⟩
 . exact⟨rfl,jK.behind P ⟨r.weak (fun Z _ d=>.inl d),F,.inl ⟨by rw[b.o,RX B],rfl⟩⟩⟩
 replace b:Zz (jM p k m i s=((oN p k (lH i.name) s).bind (nP m (l8 G.1.kind)))):=Zy (by rw[b.o,RV B]);replace I:d=.returned (.agg #[.int .i64 G.1.of.keeper,.string G.1.of.name,.int .i64 G.1.at_,.int .i64 G.1.kind.kind,.string G.1.kind.name]):=I;subst I;have D:=a.oJ r F;obtain⟨x,V,z,S⟩:=nu L #[.int .i64 G.1.of.keeper,.string G.1.of.name,.int .i64 G.1.at_,.int .i64 G.1.kind.kind,.string G.1.kind.name] 213;have H:=O.kp r (fun d=>aa (.inl d));obtain⟨aj,-,-,y2,-⟩:=H.ca;have ae:¬qj l n f vs L.heap.size:=D.oZ;have C:Zz (Kp (qj l n f vs) w x):=Zy ((P.any.trans (r.weak (fun Z _ d=>.inl d))).trans z.any);have W:=Zy S;replace O:=Zy (H.ext z);replace a:=Zy (D.ext z);replace c:Zz (Kp (qj l n f vs) x x):=Zy Kp.rr;replace o:=Zy (jU.refl x f vs);have⟨Y,HG⟩:=je V A;clear J r F B V z S H D A;go_wp2_with fail;rw[<-Y.o];clear y2;refine(yx _ i.name).mono ?_;rintro d L ⟨rfl,g⟩;replace a:=Zy (a.ext g);replace c:=Zy (c.trans g.any);clear g;go_wp2_with fail;refine(nA _ a (lH i.name)).mono ?_;rintro d x h;replace h:=jK.after c o h;rcases h with⟨j,u,⟨e,rfl⟩|⟨s2,e,rfl,ak,av,q,v⟩⟩
 . exact⟨rfl,jK.after C (jU.refl _ _ _) ⟨j,u,.inl ⟨by rw[b.o,e];try rfl,rfl⟩⟩⟩
 replace b:Zz (jM p k m i s=nP m (l8 G.1.kind) s2):=Zy (by rw[b.o,e];try rfl);replace a:=Zy q;replace c:=Zy j;replace o:=Zy v;clear q j v u e;obtain⟨-,-,-,-,y3,y4,-⟩:=(W.kp c ae).ca;go_wp2_with fail;refine(Bq _ G.1.kind).mono ?_;rintro d w3 ⟨rfl,g⟩;replace a:=Zy (a.ext g);replace c:=Zy (c.trans g.any);clear g;go_wp2_with fail;refine(qW _ a (l8 G.1.kind)).mono ?_;rintro d w4 h;replace h:=jK.after c o h;rcases h with⟨j,u,⟨e,rfl⟩|⟨s4,e,rfl,au,ax,q,v⟩⟩
 . exact⟨rfl,jK.after C (jU.refl _ _ _) ⟨j,u,.inl ⟨by rw[b.o,e];try rfl,rfl⟩⟩⟩
 replace b:Zz (jM p k m i s=some s4):=Zy (by rw[b.o,e];try rfl);replace a:=Zy q;replace c:=Zy j;replace o:=Zy v;clear q j v u e;go_wp2_with fail;refine RA ?_;exact jK.after C (jU.refl _ _ _) ⟨c,a.ku,.inr ⟨_,b,rfl,_,_,a,o⟩⟩
theorem MZ{w:World}{l:jh}{p:hZ}{O n:Nat}{k:Int}{m:M.Method}{t:tX}{Q:Int}{s:oM}{f vs:Value}(y:jD w l p O n k m t Q s f vs)(i:Ins)(U:i.op=8):Calls prog 205 #[some n,.agg #[i.op,i.a,i.name,i.member]] w (jK w l p O n k m t Q f vs (jM p k m i s)):=by
 have b:Zz (jM p k m i s=if(M.get p k i.name i.member).2=1 then(oN p k (l8 (M.get p k i.name i.member).1.kind) s).bind (oN p k (lH i.name))else none):=Zy (by unfold jM;rw[U];rfl);obtain⟨L,V,F,R⟩:=nu w #[i.op,i.a,i.name,i.member] 149;have⟨Y,a⟩:=je V (y.ext F);have c:Zz (Kp (qj l n f vs) L L):=Zy Kp.rr;have⟨o,P,C⟩:=jy (jU.refl L f vs) F R;have ag:=y.blk.lt;have T:=jD.oZ y;clear U y F R V;go_enter func205,ntmps205;go_wp2_with fail;rw[<-Y.o];obtain⟨G,A⟩:∃G,M.get p k i.name i.member=G:=⟨_,rfl⟩;have K:=Dt a i;rw[A]at K;replace b:Zz (jM p k m i s=if G.2=1 then((oN p k (l8 G.1.kind) s).bind (oN p k (lH i.name)))else none):=Zy (by rw[b.o,A]);have aj:=a.ku.ord;have af:=a.hB;have ah:=a.hk;refine K.mono ?_;rintro d N ⟨r,H,⟨B,rfl⟩|⟨B,J⟩⟩
 . exact⟨rfl,jK.behind P ⟨r.weak (fun aa _ d=>.inl d),H,.inl ⟨by rw[b.o,RX B],rfl⟩⟩⟩
 replace b:Zz (jM p k m i s=((oN p k (l8 G.1.kind) s).bind (oN p k (lH i.name)))):=Zy (by rw[b.o,RV B]);replace J:d=.returned (.agg #[.int .i64 G.1.of.keeper,.string G.1.of.name,.int .i64 G.1.at_,.int .i64 G.1.kind.kind,.string G.1.kind.name]):=J;subst J;have E:=a.oJ r H;obtain⟨x,W,z,S⟩:=nu N #[.int .i64 G.1.of.keeper,.string G.1.of.name,.int .i64 G.1.at_,.int .i64 G.1.kind.kind,.string G.1.kind.name] 213;have I:=C.kp r (fun d=>T (.inl d));obtain⟨ak,-,-,X,-⟩:=I.ca;have ai:¬qj l n f vs N.heap.size:=E.oZ;have D:Zz (Kp (qj l n f vs) w x):=Zy ((P.any.trans (r.weak (fun aa _ d=>.inl d))).trans z.any);have ae:=Zy S;replace C:=Zy (I.ext z);replace a:=Zy (E.ext z);replace c:Zz (Kp (qj l n f vs) x x):=Zy Kp.rr;replace o:=Zy (jU.refl x f vs);have⟨Z,HG⟩:=je W A;clear K r H B W z S I E A;go_wp2_with fail;rw[<-Z.o];clear X;refine(Bq _ G.1.kind).mono ?_;rintro d N ⟨rfl,g⟩;replace a:=Zy (a.ext g);replace c:=Zy (c.trans g.any);clear g;go_wp2_with fail;refine(nA _ a (l8 G.1.kind)).mono ?_;rintro d x h;replace h:=jK.after c o h;rcases h with⟨j,u,⟨e,rfl⟩|⟨s2,e,rfl,au,ax,q,v⟩⟩
 . exact⟨rfl,jK.after D (jU.refl _ _ _) ⟨j,u,.inl ⟨by rw[b.o,e];try rfl,rfl⟩⟩⟩
 replace b:Zz (jM p k m i s=oN p k (lH i.name) s2):=Zy (by rw[b.o,e];try rfl);replace a:=Zy q;replace c:=Zy j;replace o:=Zy v;clear q j v u e;have X:=(C.kp c T).c 2 i.name rfl;go_wp2_with fail;refine(yx _ i.name).mono ?_;rintro d w3 ⟨rfl,g⟩;replace a:=Zy (a.ext g);replace c:=Zy (c.trans g.any);clear g;go_wp2_with fail;refine(nA _ a (lH i.name)).mono ?_;rintro d w4 h;replace h:=jK.after c o h;rcases h with⟨j,u,⟨e,rfl⟩|⟨s4,e,rfl,av,ay,q,v⟩⟩
 . exact⟨rfl,jK.after D (jU.refl _ _ _) ⟨j,u,.inl ⟨by rw[b.o,e];try rfl,rfl⟩⟩⟩
 replace b:Zz (jM p k m i s=some s4):=Zy (by rw[b.o,e];try rfl);replace a:=Zy q;replace c:=Zy j;replace o:=Zy v;clear q j v u e;go_wp2_with fail;refine RA ?_;exact jK.after D (jU.refl _ _ _) ⟨c,a.ku,.inr ⟨_,b,rfl,_,_,a,o⟩⟩
attribute [local go_sem] Oper.semAt_some
theorem FC{w:World}{a:Option Addr}{n c:Nat}:Calls prog 225 #[.slice a n c] w fun b d=>b=.returned (.func (.func 233) #[] #[some w])/\w.alloc (.cells #[.slice a n c] 135)=d:=by
 go_enter func225,ntmps225;go_wp2;go_ret;exact⟨rfl,rfl⟩
def JM(x:Int×Kind):Array Value:=#[.int .i64 x.1,.agg #[.int .i64 x.2.kind,.string x.2.name]]
theorem CU(a:List Kind)(h:Nat)(v:Value)(I w:Nat->Prop)(hBd:∀b,w b->b≠h/\¬I b):O8 prog 233 #[some h] JM (fun _=>False) w (fun xs=>xs=backTo a a.length) (fun c=>∃u,backTo a a.length=c++u) (fun _=>True) (fun k=>hV k h 135 #[v]/\SliceOf 2 l7 k I v a) (fun c e=>∃u,backTo a a.length=c++e::u):=by
 intro lp N Jx Jp k ⟨p,s⟩ z A U V o T;obtain⟨l,i,rfl,hn,ai⟩:=s.form;refine callsIn_of_wp func233 rfl trivial ?_ rfl;simp only[ntmps233,Tk,List.length_cons,Ti,Nat.reduceAdd,Nat.reduceSub,SN,SL,SA,SH,RF,Sm];have c0:=p.c 0 (.slice l a.length i) rfl;have G:IntKind.i64.wrap ((a.length:Int) - 1)=(a.length:Int) - 1:=RQ _ Zm;gi_wp2;clear G;gi_loopg [3] a.length (fun j J wr=>∃c:List (Int×Kind),((j=0/\J=.int .i64 (-1))\/∃b:Nat,j=b+1/\J=.int .i64 b)/\j<=a.length/\Zz (backTo a a.length=c++backTo a j)/\Zz (N c wr/\hV wr h 135 #[.slice l a.length i]/\SliceOf 2 l7 wr I (.slice l a.length i) a))
 case atStart=>
  refine⟨[],?_,R5 _,Zy Zl,Zy ⟨T,p,s⟩⟩;rcases Nat.eq_zero_or_pos a.length with m|m
  . left;exact⟨m,by rw[m];rfl⟩
  . right;exact⟨a.length - 1,Zm,by congr 1;omega⟩
 case round =>
  obtain⟨c,hm,ak,x,y⟩:=hrel;rcases hm with⟨rfl,rfl⟩|⟨b,rfl,rfl⟩
  . have L:Zz (backTo a a.length=c):=Zy (by rw[x.o];simp[backTo]);gi_wp2;refine RA ?_;exact .inl ⟨⟨_,rfl⟩,.inl ⟨c,L.symm,y.1⟩⟩
  . obtain⟨e,t⟩:=get_some (show b<a.length by omega);obtain⟨D,d,r⟩:=y.o;obtain⟨O,aa,cs,rfl,hI,rfl,-,C⟩:=r.get t;obtain⟨Q,R⟩:=C.two;have P:=d.c 0 (.slice (some ⟨O,aa,none⟩) a.length i) rfl;have Z:(0:Int)<=(b:Int):=Zm
    have aj:(b:Int)<a.length:=Zm
    have W:=R6 Z;have f:Zz (backTo a a.length=(c++[((b:Int),e)])++backTo a b):=Zy (by rw[x.o,xE t,List.append_assoc];rfl);obtain⟨fn,av,af,ag,H,n⟩:=o c ((b:Int),e) wr ⟨backTo a b,by rw[f.o,List.append_assoc];rfl⟩ D;simp only[JM]at H n;have⟨HY,ae,g⟩:=jy o (RJ z A) (RJ hBd (RJ d r));have G:IntKind.i64.wrap ((b:Int) - 1)=(b:Int) - 1:=RQ _ Zm;clear o z A U V hBd d r s t C D p;gi_wp2_with fail;refine n.mono ?_;rintro ah W1 ⟨q,(⟨rfl,E⟩|⟨rfl,Y⟩|⟨ch,rfl,X⟩)⟩
    . have B:=g.2.1.kp q (fun d=>(g.1 _ d).1 rfl);have F:=g.2.2.keep l7.stays (Kp.same q fun au hq d=>(g.1 _ d).2 hq) (fun _ S=>S);have K:=Zy (RJ E (RJ B F));clear E B F q Q R P H n W;gi_wp2_with fail;gi_roundg b
      case measure=>omega
      case rel=>
       refine⟨c++[((b:Int),e)],?_,Zm,f,K⟩;cases b with
       |zero=>left;exact⟨rfl,rfl⟩
       |succ b=>right;exact⟨b,rfl,by congr 1;omega⟩
    . gi_wp2_with fail;refine RA ?_;exact .inl ⟨⟨_,rfl⟩,.inr ⟨_,⟨_,f⟩,Y⟩⟩
    . exact⟨rfl,.inr ⟨_,_,rfl,⟨_,f⟩,X⟩⟩
end Go.Proofs.YtlhlnddgfcmfkaaGreat
