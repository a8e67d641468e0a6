/- Walks. -/
import Derived.Test.YtenhnldnpdlniaaGreatOtCoreLe
set_option maxRecDepth 100000
set_option maxHeartbeats 4000000
set_option linter.all false
namespace Go.Proofs.YtenhnldnpdlniaaGreat
open Go Go.RowKit Tryz M
theorem Oe:Elem 35 154 3:=nM (z:=.agg #["",SS, ""]) (bytes:=40) underlying35 Zo rfl Zn Zn
theorem Au:Elem 36 113 8:=nM (z:=.agg #["",(),SS, "",SS,SS,(),()]) (bytes:=128) underlying36 Zo rfl Zn Zn
structure rZ(n:Nat)(c:Class):Prop where
 fields:c.fields.length<=n
 methods:c.methods.length<=n
 inner:∀m∈c.methods,m.code.length<=n/\m.maps.length<=n
theorem rZ.more{n:Nat}{c:Class}(a:rZ n c):rZ (n+1) c:=
 ⟨Un a.fields,Un a.methods,fun d b=>⟨Un (a.inner d b).1,Un (a.inner d b).2⟩⟩
theorem vC:Bj 38 4:=⟨_,underlying38,by kernel_rfl⟩
theorem Oi:Elem 111 198 3:=nM (z:=.agg #[SS,(),()]) (bytes:=56) underlying111 Zo rfl Zn Zn
theorem Mk:Elem 110 134 4:=nM (z:=.agg #[SS,SS, "", ""]) (bytes:=48) underlying110 Zo rfl Zn Zn
def NN(I:Nat->Prop)(B:Nat)(v:Value)(b:Nat):Prop:=(I b\/B+3<=b)/\v.ownBlock≠some b
theorem FO{α:Type}{k:Nat}{R:mH α}(hR:jK R)(C:0<k){w W:World}{J K:Nat->Prop}{css:List (List Value)}{h:List Value}{xs:List α}{y:α}{b o g m c j:Nat}{t:TypeId}{cells:Array Value}(x:W.ownsRow j o k (.slice (some ⟨g,0,none⟩) (m+1) c) (m+1) (css.flatten++h)) (A:∀c∈css,c.length=k) (B:jR R w J xs css) (E:R w J y h) (F:h.length=k) {D:Nat->Prop} (v:Kp D w W)(e:(∀a,J a->K a/\a≠b/\¬D a)/\((∀a,j<=a->K a)/\b<j)/\xs.length+1<=4294967296) (z:h9 W b t cells) (d:Nat):SliceOf k R (W.setCell (b,d) (.slice (some ⟨g,0,none⟩) (m+1) c)) K (.slice (some ⟨g,0,none⟩) (m+1) c) (xs++[y])/\h9 (W.setCell (b,d) (.slice (some ⟨g,0,none⟩) (m+1) c)) b t (cells.setIfInBounds d (.slice (some ⟨g,0,none⟩) (m+1) c))/\Kp (·=b) W (W.setCell (b,d) (.slice (some ⟨g,0,none⟩) (m+1) c)):=by
 have l:Kp (·=b) W (W.setCell (b,d) (.slice (some ⟨g,0,none⟩) (m+1) c)):=qA;have H:=e.2.1.2;refine⟨?_,z.jE d _,l⟩;have q:=iY x l (fun M I f o=>Zm);have s:css.flatten++h=(css++[h]).flatten:=by simp
 rw[s]at q;have r:Same J w (W.setCell (b,d) (.slice (some ⟨g,0,none⟩) (m+1) c)):=fun a L N f n=>l.nQ (v.nQ n (e.1 a f).2.2) (e.1 a f).2.1;have p:=fun a f=>(e.1 a f).1;refine SliceOf.owned q (fun c n=>?_) C ((B.keep hR r p).snoc (hR _ _ _ _ _ _ r p E)) (fun a u G=>e.2.1.1 a u) (by simpa using e.2.2);rcases Ty.1 n with i|i
 . exact A c i
 . simp at i;subst i;exact F
end Go.Proofs.YtenhnldnpdlniaaGreat
