/- Walks. -/
import Derived.Test.YtohpiobncgafeaaGreatDoorLnkp
import Derived.LaidEql
import Derived.Stop.Asserts
import Derived.RowKitTokens
set_option maxRecDepth 100000
set_option maxHeartbeats 4000000
set_option linter.unusedSimpArgs false
set_option linter.unusedVariables false
namespace Go.Proofs.YtohpiobncgafeaaGreatDoor
open Go Go.RowKit
abbrev In(w:World)(I:Nat→Prop):Nat→Prop:=fun b=>I b∧b<w.heap.size
theorem eZ.inside(w:World)(I:Nat→Prop)(x:M.Kind)(cs:List Value)(h:eZ w I x cs):eZ w (In w I) x cs:=h
theorem eU.inside(w:World)(I:Nat→Prop)(x:M.Tag)(cs:List Value)(h:eU w I x cs):eU w (In w I) x cs:=h
theorem iB.inside(w:World)(I:Nat→Prop)(x:M.SMap)(cs:List Value)(h:iB w I x cs):iB w (In w I) x cs:=by
 obtain⟨vl,vs,e,h1,h2⟩:=h;exact⟨vl,vs,e,h1.inside eU.inside (by omega),h2.inside eU.inside (by omega)⟩
theorem aC.inside(w:World)(I:Nat→Prop)(x:M.Method)(cs:List Value)(h:aC w I x cs):aC w (In w I) x cs:=by
 obtain⟨va,vc,vm,e,h1,h2,h3⟩:=h;exact⟨va,vc,vm,e,h1.inside eZ.inside (by omega),h2.inside (fun _ _ _ _ h=>h) (by omega),h3.inside iB.inside (by omega)⟩
theorem aL.inside(w:World)(I:Nat→Prop)(x:M.Class)(cs:List Value)(h:aL w I x cs):aL w (In w I) x cs:=by
 obtain⟨vf,vm,e,h1,h2⟩:=h;exact⟨vf,vm,e,h1.inside (fun _ _ _ _ h=>h) (by omega),h2.inside aC.inside (by omega)⟩
theorem aH.inside(w:World)(I:Nat→Prop)(x:M.jc)(cs:List Value)(h:aH w I x cs):aH w (In w I) x cs:=by
 obtain⟨vo,va,e,h1,h2⟩:=h;exact⟨vo,va,e,h1.inside aL.inside (by omega),h2.inside (fun _ _ _ _ h=>h) (by omega)⟩
theorem Ie.inside{w:World}{I:Nat→Prop}{v:Value}{p:M.ai}(h:SliceOf 2 aH w I v p):SliceOf 2 aH w (In w I) v p:=SliceOf.inside aH.inside (by omega) h
end Go.Proofs.YtohpiobncgafeaaGreatDoor
namespace Go.Proofs.YtohpiobncgafeaaGreatDoor
open Go Go.RowKit
namespace M
def nN:ByteArray:=⟨#[116,111,112]⟩
def sS:ByteArray:=⟨#[99,101,108,108]⟩
def vN:ByteArray:=⟨#[118]⟩
def abW:ByteArray:=⟨#[103,101,116]⟩
def acZ:ByteArray:=⟨#[112,117,116]⟩
def takeN:ByteArray:=⟨#[116,97,107,101]⟩
def De:Kind:=⟨1,none_⟩
def Gv(more:Int):List Ins:=[⟨2,0,none_,none_⟩,⟨7,0,nN,vN⟩,⟨1,more,none_,none_⟩,⟨4,0,none_,none_⟩,⟨10,0,none_,none_⟩]
def NZ:List Ins:=[⟨2,0,none_,none_⟩,⟨2,1,none_,none_⟩,⟨8,0,nN,vN⟩,⟨1,0,none_,none_⟩,⟨10,0,none_,none_⟩]
def getM(more:Int):Method:=⟨abW,[],De,1,2,Gv more,[]⟩
def QU:Method:=⟨acZ,[De],De,2,2,NZ,[]⟩
def iE(name:ByteArray)(more:Int):Class:=⟨name,none_,[⟨vN,De⟩],[getM more,QU]⟩
end M
theorem Ji:FN 38 4:=⟨_,Tryz.underlying38,by kernel_rfl⟩
theorem Ec:Elem 35 34 8:=iJ (z:=.agg #[.string ⟨#[]⟩,.slice none 0 0,.int .i64 0,.string ⟨#[]⟩,.int .i64 0,.int .i64 0,.slice none 0 0,.slice none 0 0]) (bytes:=128) Tryz.underlying35 (by kernel_rfl) rfl (by decide) (by decide)
theorem Kp.VG{D:Nat→Prop}{w:World}{b:Nat}(hD:D b)(v0 v1 v2 v3:Value):Kp D w ((((w.setCell ⟨b,0,none⟩ v0).setCell ⟨b,1,none⟩ v1).setCell ⟨b,2,none⟩ v2).setCell ⟨b,3,none⟩ v3):=
 (Kp.lq hD v0 v1 v2).trans ((Kp.refl D _).setCell (p:=⟨b,3,none⟩) (fun _=>hD) v3)
theorem az.VG{w:World}{b:Nat}{t:TypeId}{u0 u1 u2 u3:Value}(h:az w b t #[u0,u1,u2,u3])(v0 v1 v2 v3:Value):az ((((w.setCell ⟨b,0,none⟩ v0).setCell ⟨b,1,none⟩ v1).setCell ⟨b,2,none⟩ v2).setCell ⟨b,3,none⟩ v3) b t #[v0,v1,v2,v3]:=
 (((h.bA 0 v0).bA 1 v1).bA 2 v2).bA 3 v3
theorem CU(w:World)(name:ByteArray)(more:Int):
    Calls Tryz.prog 8 #[.string name,.string ⟨#[]⟩,.int .i64 more] w fun e w'=>(∃vf vm,e=.returned (.agg #[.string name,.string ⟨#[]⟩,vf,vm])∧aL w' (fun b=>w.heap.size≤b) (M.iE name more) [.string name,.string ⟨#[]⟩,vf,vm])∧Ext w w':=by
 obtain⟨w1,jl,aZ,b6⟩:=nu w #[.string ⟨#[]⟩,.string ⟨#[]⟩,.slice none 0 0,.slice none 0 0] 38;have eP:=Ys aZ;have bV:=Ys b6;have xW:=Ys jl;have AL:w1.heap.size=w.heap.size+1:=by rw[jl];simp
 have HZ1:=Ys AL;clear aZ b6 jl AL;go_enter Tryz.func8,Tryz.ntmps8;go_wp2_with fail;rw[←xW.o];refine(oJ w1).mono ?_;rintro e w2 ⟨rfl,bY⟩;have HZ2:=Ys bY.size;obtain⟨w3,hZ⟩:∃w3,w3=(w2.alloc (.cells #[.int .i64 2,.int .i64 0,.string ⟨#[]⟩,.string ⟨#[]⟩,.int .i64 7,.int .i64 0,.string ⟨#[116,111,112]⟩,.string ⟨#[118]⟩,.int .i64 1,.int .i64 more,.string ⟨#[]⟩,.string ⟨#[]⟩,.int .i64 4,.int .i64 0,.string ⟨#[]⟩,.string ⟨#[]⟩,.int .i64 10,.int .i64 0,.string ⟨#[]⟩,.string ⟨#[]⟩] 30)).alloc (.cells #[.string ⟨#[103,101,116]⟩,.slice none 0 0,.int .i64 1,.string ⟨#[]⟩,.int .i64 1,.int .i64 2,.slice (some ⟨w2.heap.size,0,none⟩) 5 5,.slice none 0 0] 34):=⟨_,rfl⟩;have dA:Ext w2 w3:=by rw[hZ];exact kx
 have bi1:az w3 w2.heap.size 30 #[.int .i64 2,.int .i64 0,.string ⟨#[]⟩,.string ⟨#[]⟩,.int .i64 7,.int .i64 0,.string ⟨#[116,111,112]⟩,.string ⟨#[118]⟩,.int .i64 1,.int .i64 more,.string ⟨#[]⟩,.string ⟨#[]⟩,.int .i64 4,.int .i64 0,.string ⟨#[]⟩,.string ⟨#[]⟩,.int .i64 10,.int .i64 0,.string ⟨#[]⟩,.string ⟨#[]⟩]:=by rw[hZ];exact(az.new _ _ _).ext ((Kp.refl _ _).alloc _)
 have b7:az w3 (w2.heap.size+1) 34 #[.string ⟨#[103,101,116]⟩,.slice none 0 0,.int .i64 1,.string ⟨#[]⟩,.int .i64 1,.int .i64 2,.slice (some ⟨w2.heap.size,0,none⟩) 5 5,.slice none 0 0]:=by rw[hZ];exact az.newAt _ _ (by simp)
 have HI1:=Ys bi1;have FQ:=Ys b7;have kK:=Ys hZ;have Xp:=Ys (bY.trans dA);have AO:w3.heap.size=w2.heap.size+2:=by rw[hZ];simp
 have XM:=Ys AO;clear bY dA bi1 b7 hZ AO;go_wp2_with fail;rw[←kK.o];refine(oJ w3).mono ?_;rintro e w4 ⟨rfl,dN⟩;have HZ4:=Ys dN.size;obtain⟨w5,uW,ed,bk⟩:=nu w4 #[.int .i64 1,.string ⟨#[]⟩] 25;have HK:=Ys bk;have OE:=Ys uW;have Pb:=Ys (dN.trans ed);have G6:w5.heap.size=w4.heap.size+1:=by rw[uW];simp
 have HZ5:=Ys G6;clear dN ed bk uW G6;go_wp2_with fail;rw[←OE.o];refine(oJ w5).mono ?_;rintro e w6 ⟨rfl,iZ⟩;have HZ6:=Ys iZ.size;have Xq:=Ys (Xp.o.trans (Pb.o.trans iZ));have OG:=FQ.o.ext (Pb.o.trans iZ);have b66:=bV.o.ext Xq.o;have aaX:=Ys b66;have abv:=Ys (HI1.o.ext (Pb.o.trans iZ));have Oz:=Ys (HK.o.ext iZ);have z1:=HZ1.o;have z2:=HZ2.o;have z3:=XM.o;have z4:=HZ4.o;have z5:=HZ5.o;have z6:=HZ6.o;have HZZ:Zs (w.heap.size+1≤w2.heap.size∧w2.heap.size+2≤w4.heap.size∧w4.heap.size+1≤w6.heap.size):=Ys (by omega);have g0:=OG.c 0 (.string ⟨#[103,101,116]⟩) rfl;have g1:=OG.c 1 (.slice none 0 0) rfl;have g2:=OG.c 2 (.int .i64 1) rfl;have g3:=OG.c 3 (.string ⟨#[]⟩) rfl;have g4:=OG.c 4 (.int .i64 1) rfl;have g5:=OG.c 5 (.int .i64 2) rfl;have g6:=OG.c 6 (.slice (some ⟨w2.heap.size,0,none⟩) 5 5) rfl;have g7:=OG.c 7 (.slice none 0 0) rfl;have gz:=OG.lt;have gz2:w2.heap.size<w6.heap.size:=by omega
 clear iZ OG z1 z2 z3 z4 z5 z6 FQ bV HI1 HK Pb Xp;have HS6:Zs (w6.heap.size=w6.heap.size):=Ys rfl;obtain⟨w8,wu⟩:∃w8,w8=((((w6.alloc (.cells #[.int .i64 2,.int .i64 0,.string ⟨#[]⟩,.string ⟨#[]⟩,.int .i64 2,.int .i64 1,.string ⟨#[]⟩,.string ⟨#[]⟩,.int .i64 8,.int .i64 0,.string ⟨#[116,111,112]⟩,.string ⟨#[118]⟩,.int .i64 1,.int .i64 0,.string ⟨#[]⟩,.string ⟨#[]⟩,.int .i64 10,.int .i64 0,.string ⟨#[]⟩,.string ⟨#[]⟩] 30)).alloc (.cells #[.string ⟨#[112,117,116]⟩,.slice (some ⟨w4.heap.size,0,none⟩) 1 1,.int .i64 1,.string ⟨#[]⟩,.int .i64 2,.int .i64 2,.slice (some ⟨w6.heap.size,0,none⟩) 5 5,.slice none 0 0] 34)).alloc (.cells #[.string ⟨#[103,101,116]⟩,.slice none 0 0,.int .i64 1,.string ⟨#[]⟩,.int .i64 1,.int .i64 2,.slice (some ⟨w2.heap.size,0,none⟩) 5 5,.slice none 0 0] 34)).alloc (.cells #[.string name,.string ⟨#[]⟩,.slice none 0 0,.slice (some ⟨w6.heap.size+1+1,0,none⟩) 1 1] 38)):=⟨_,rfl⟩;have lC:Ext w6 w8:=by rw[wu];exact kx
 have bi2:az w8 w6.heap.size 30 #[.int .i64 2,.int .i64 0,.string ⟨#[]⟩,.string ⟨#[]⟩,.int .i64 2,.int .i64 1,.string ⟨#[]⟩,.string ⟨#[]⟩,.int .i64 8,.int .i64 0,.string ⟨#[116,111,112]⟩,.string ⟨#[118]⟩,.int .i64 1,.int .i64 0,.string ⟨#[]⟩,.string ⟨#[]⟩,.int .i64 10,.int .i64 0,.string ⟨#[]⟩,.string ⟨#[]⟩]:=by rw[wu];exact(az.newAt _ _ (HS6.o)).ext kx
 have b8:az w8 (w6.heap.size+1) 34 #[.string ⟨#[112,117,116]⟩,.slice (some ⟨w4.heap.size,0,none⟩) 1 1,.int .i64 1,.string ⟨#[]⟩,.int .i64 2,.int .i64 2,.slice (some ⟨w6.heap.size,0,none⟩) 5 5,.slice none 0 0]:=by rw[wu];exact az.ext (w:=((w6.alloc (.cells #[.int .i64 2,.int .i64 0,.string ⟨#[]⟩,.string ⟨#[]⟩,.int .i64 2,.int .i64 1,.string ⟨#[]⟩,.string ⟨#[]⟩,.int .i64 8,.int .i64 0,.string ⟨#[116,111,112]⟩,.string ⟨#[118]⟩,.int .i64 1,.int .i64 0,.string ⟨#[]⟩,.string ⟨#[]⟩,.int .i64 10,.int .i64 0,.string ⟨#[]⟩,.string ⟨#[]⟩] 30)).alloc (.cells #[.string ⟨#[112,117,116]⟩,.slice (some ⟨w4.heap.size,0,none⟩) 1 1,.int .i64 1,.string ⟨#[]⟩,.int .i64 2,.int .i64 2,.slice (some ⟨w6.heap.size,0,none⟩) 5 5,.slice none 0 0] 34))) (az.newAt _ _ (by simp[HS6.o])) kx
 have bg:az w8 (w6.heap.size+1+1) 34 #[.string ⟨#[103,101,116]⟩,.slice none 0 0,.int .i64 1,.string ⟨#[]⟩,.int .i64 1,.int .i64 2,.slice (some ⟨w2.heap.size,0,none⟩) 5 5,.slice none 0 0]:=by rw[wu];exact az.ext (w:=(((w6.alloc (.cells #[.int .i64 2,.int .i64 0,.string ⟨#[]⟩,.string ⟨#[]⟩,.int .i64 2,.int .i64 1,.string ⟨#[]⟩,.string ⟨#[]⟩,.int .i64 8,.int .i64 0,.string ⟨#[116,111,112]⟩,.string ⟨#[118]⟩,.int .i64 1,.int .i64 0,.string ⟨#[]⟩,.string ⟨#[]⟩,.int .i64 10,.int .i64 0,.string ⟨#[]⟩,.string ⟨#[]⟩] 30)).alloc (.cells #[.string ⟨#[112,117,116]⟩,.slice (some ⟨w4.heap.size,0,none⟩) 1 1,.int .i64 1,.string ⟨#[]⟩,.int .i64 2,.int .i64 2,.slice (some ⟨w6.heap.size,0,none⟩) 5 5,.slice none 0 0] 34))).alloc (.cells #[.string ⟨#[103,101,116]⟩,.slice none 0 0,.int .i64 1,.string ⟨#[]⟩,.int .i64 1,.int .i64 2,.slice (some ⟨w2.heap.size,0,none⟩) 5 5,.slice none 0 0] 34)) (az.newAt _ _ (by simp[HS6.o])) kx
 have b9:az w8 (w6.heap.size+1+1+1) 38 #[.string name,.string ⟨#[]⟩,.slice none 0 0,.slice (some ⟨w6.heap.size+1+1,0,none⟩) 1 1]:=by rw[wu];exact az.newAt _ _ (by simp[HS6.o])
 have Vr:w8.heap.size=w6.heap.size+4:=by rw[wu];simp
 have qw:w8.ownsRow (w6.heap.size+1+1) 34 8 (.slice (some ⟨w6.heap.size+1+1,0,none⟩) 1 1) 1 [.string ⟨#[103,101,116]⟩,.slice none 0 0,.int .i64 1,.string ⟨#[]⟩,.int .i64 1,.int .i64 2,.slice (some ⟨w2.heap.size,0,none⟩) 5 5,.slice none 0 0]:=by
  rw[wu];have h0:(((w6.alloc (.cells #[.int .i64 2,.int .i64 0,.string ⟨#[]⟩,.string ⟨#[]⟩,.int .i64 2,.int .i64 1,.string ⟨#[]⟩,.string ⟨#[]⟩,.int .i64 8,.int .i64 0,.string ⟨#[116,111,112]⟩,.string ⟨#[118]⟩,.int .i64 1,.int .i64 0,.string ⟨#[]⟩,.string ⟨#[]⟩,.int .i64 10,.int .i64 0,.string ⟨#[]⟩,.string ⟨#[]⟩] 30)).alloc (.cells #[.string ⟨#[112,117,116]⟩,.slice (some ⟨w4.heap.size,0,none⟩) 1 1,.int .i64 1,.string ⟨#[]⟩,.int .i64 2,.int .i64 2,.slice (some ⟨w6.heap.size,0,none⟩) 5 5,.slice none 0 0] 34))).heap.size=w6.heap.size+1+1:=by simp
  have h1:=World.ownsRow_lit (size:=8) (e:=34) (((w6.alloc (.cells #[.int .i64 2,.int .i64 0,.string ⟨#[]⟩,.string ⟨#[]⟩,.int .i64 2,.int .i64 1,.string ⟨#[]⟩,.string ⟨#[]⟩,.int .i64 8,.int .i64 0,.string ⟨#[116,111,112]⟩,.string ⟨#[118]⟩,.int .i64 1,.int .i64 0,.string ⟨#[]⟩,.string ⟨#[]⟩,.int .i64 10,.int .i64 0,.string ⟨#[]⟩,.string ⟨#[]⟩] 30)).alloc (.cells #[.string ⟨#[112,117,116]⟩,.slice (some ⟨w4.heap.size,0,none⟩) 1 1,.int .i64 1,.string ⟨#[]⟩,.int .i64 2,.int .i64 2,.slice (some ⟨w6.heap.size,0,none⟩) 5 5,.slice none 0 0] 34))) #[.string ⟨#[103,101,116]⟩,.slice none 0 0,.int .i64 1,.string ⟨#[]⟩,.int .i64 1,.int .i64 2,.slice (some ⟨w2.heap.size,0,none⟩) 5 5,.slice none 0 0] 1 (Nat.le_refl _) (by unfold maxLen;omega) rfl;rw[h0]at h1;exact aA (D:=fun _=>False) h1 ((Kp.refl _ _).alloc _) fun _ _ _ x=>x
 have jQ:=Ys lC;have Xz:=Ys bi2;have Xh:=Ys b8;have Xj:=Ys b9;have pU:=Ys qw;have V3:=Ys Vr;have TL:=Ys wu;clear lC bi2 b8 bg b9 Vr qw wu b66;go_wp2_with fail;rw[←TL.o];refine(oJ w8).mono ?_;rintro e w9 ⟨rfl,jV⟩;clear g0 g1 g2 g3 g4 g5 g6 g7 gz gz2;have HZ9:=Ys jV.size;have V6:=Xj.o.ext jV;have PI:=Xh.o.ext jV;have b69:=(aaX.o.ext jQ.o).ext jV;obtain⟨wX,Vp⟩:∃wX,wX=((w9.setCell ⟨w6.heap.size+1+1+1,2,none⟩ (.slice (some ⟨w9.heap.size,0,none⟩) 1 1)).alloc (.cells #[.string ⟨#[118]⟩,.int .i64 1,.string ⟨#[]⟩] 72)).alloc (.cells #[.string ⟨#[112,117,116]⟩,.slice (some ⟨w4.heap.size,0,none⟩) 1 1,.int .i64 1,.string ⟨#[]⟩,.int .i64 2,.int .i64 2,.slice (some ⟨w6.heap.size,0,none⟩) 5 5,.slice none 0 0] 34):=⟨_,rfl⟩;have hKX:Kp (·=w6.heap.size+1+1+1) w9 wX:=by
  rw[Vp];exact(((Kp.refl (·=w6.heap.size+1+1+1) w9).setCell (p:=⟨w6.heap.size+1+1+1,2,none⟩) (fun _=>rfl) _).alloc _).alloc _
 have qx:(w9.setCell ⟨w6.heap.size+1+1+1,2,none⟩ (.slice (some ⟨w9.heap.size,0,none⟩) 1 1)).heap.size=w9.heap.size:=by simp[World.setCell]
 have b9X:az wX (w6.heap.size+1+1+1) 38 #[.string name,.string ⟨#[]⟩,.slice (some ⟨w9.heap.size,0,none⟩) 1 1,.slice (some ⟨w6.heap.size+1+1,0,none⟩) 1 1]:=by rw[Vp];exact(V6.bA 2 _).ext kx
 have bF:az wX w9.heap.size 72 #[.string ⟨#[118]⟩,.int .i64 1,.string ⟨#[]⟩]:=by rw[Vp];exact(az.newAt _ _ qx).ext ((Kp.refl _ _).alloc _)
 have cPX:af wX (w9.heap.size+1) 0 [.string ⟨#[112,117,116]⟩,.slice (some ⟨w4.heap.size,0,none⟩) 1 1,.int .i64 1,.string ⟨#[]⟩,.int .i64 2,.int .i64 2,.slice (some ⟨w6.heap.size,0,none⟩) 5 5,.slice none 0 0]:=by rw[Vp];exact af.zk _ _ (by simp[qx])
 have hzX:wX.heap.size=w9.heap.size+2:=by rw[Vp];simp[qx]
 have zz:=HZZ.o;have z8:=V3.o;have z9:=HZ9.o;have Ew:=aA (D:=fun _=>False) pU.o jV fun _ _ _ x=>x;have Sb:wX.ownsRow (w6.heap.size+1+1) 34 8 (.slice (some ⟨w6.heap.size+1+1,0,none⟩) 1 1) 1 [.string ⟨#[103,101,116]⟩,.slice none 0 0,.int .i64 1,.string ⟨#[]⟩,.int .i64 1,.int .i64 2,.slice (some ⟨w2.heap.size,0,none⟩) 5 5,.slice none 0 0]:=aA Ew hKX (fun b hb _ e=>by
  have iA:b=w6.heap.size+1+1:=by cases hb;rfl
  omega)
 have HKX:=Ys hKX;have o7:=Ys (jQ.o.trans jV);have aa1:=Ys b9X;have DK:=Ys bF;have Ow:=Ys cPX;have HRX:=Ys Sb;have HZX:=Ys hzX;have HWX:=Ys Vp;have abw:=Ys (Xz.o.ext jV);have Tj:=Ys b69;have x2:=V6.c 2 (.slice none 0 0) rfl;have x3:=V6.c 3 (.slice (some ⟨w6.heap.size+1+1,0,none⟩) 1 1) rfl;have xf:=V6.frozen 2;have xz:=V6.lt;have xz2:w6.heap.size+1<w9.heap.size:=by omega
 have xz3:w6.heap.size<w9.heap.size:=by omega
 have xz4:w6.heap.size+1+1<w9.heap.size:=by omega
 have p0:=PI.c 0 (.string ⟨#[112,117,116]⟩) rfl;have p1:=PI.c 1 (.slice (some ⟨w4.heap.size,0,none⟩) 1 1) rfl;have p2:=PI.c 2 (.int .i64 1) rfl;have p3:=PI.c 3 (.string ⟨#[]⟩) rfl;have p4:=PI.c 4 (.int .i64 2) rfl;have p5:=PI.c 5 (.int .i64 2) rfl;have p6:=PI.c 6 (.slice (some ⟨w6.heap.size,0,none⟩) 5 5) rfl;have p7:=PI.c 7 (.slice none 0 0) rfl;have Vf:¬w6.heap.size+1+1+1=w6.heap.size+1:=by omega
 have Vg:¬w6.heap.size+1=w6.heap.size+1+1+1:=by omega
 clear jV hKX b9X bF cPX Sb hzX Vp V6 PI b69 qx zz z8 z9 pU Xj Xh Xz;go_wp2_with (at_builtin;refine aV Ec rfl _ _ rfl (w6.heap.size+1+1) _ 1 _ rfl (by rw[←HWX.o];exact HRX.o) (w9.heap.size+1) 1 [.string ⟨#[112,117,116]⟩,.slice (some ⟨w4.heap.size,0,none⟩) 1 1,.int .i64 1,.string ⟨#[]⟩,.int .i64 2,.int .i64 2,.slice (some ⟨w6.heap.size,0,none⟩) 5 5,.slice none 0 0] rfl rfl (by rw[←HWX.o];exact Ow.o) (by simp[Value.oneCell']) (by omega) (by rw[←HWX.o];have:=HZX.o;have:=V3.o;have:=HZ9.o;omega) ?_);intro g9 c9 wY hOY hKY nS;rw[←HWX.o]at hKY;have zz:=HZZ.o;have z8:=V3.o;have z9:=HZ9.o;have zX:=HZX.o;have sY:=hKY.size;have Mw:Kp (·=w6.heap.size+1+1) wX wY:=hKY.weak fun b _ e=>by cases e;rfl
 have TW:=aa1.o.kp Mw (by omega);have LH:=(Tj.o.kp HKX.o (by omega)).kp Mw (by omega);obtain⟨wZ,hwZ⟩:∃wZ,wZ=((((wY.setCell ⟨w6.heap.size+1+1+1,3,none⟩ (.slice (some ⟨g9,0,none⟩) (1+1) c9)).setCell ⟨w.heap.size,0,none⟩ (.string name)).setCell ⟨w.heap.size,1,none⟩ (.string ⟨#[]⟩)).setCell ⟨w.heap.size,2,none⟩ (.slice (some ⟨w9.heap.size,0,none⟩) 1 1)).setCell ⟨w.heap.size,3,none⟩ (.slice (some ⟨g9,0,none⟩) (1+1) c9):=⟨_,rfl⟩;have hKZ:Kp (fun b=>b=w6.heap.size+1+1+1∨b=w.heap.size) wY wZ:=by
  rw[hwZ];exact((Kp.refl _ wY).setCell (p:=⟨w6.heap.size+1+1+1,3,none⟩) (fun _=>.inl rfl) _).trans (Kp.VG (D:=fun b=>b=w6.heap.size+1+1+1∨b=w.heap.size) (.inr rfl) _ _ _ _)
 have hKs:Kp (·=w6.heap.size+1+1+1) wY (wY.setCell ⟨w6.heap.size+1+1+1,3,none⟩ (.slice (some ⟨g9,0,none⟩) (1+1) c9)):=(Kp.refl (·=w6.heap.size+1+1+1) wY).setCell (p:=⟨w6.heap.size+1+1+1,3,none⟩) (fun _=>rfl) _;have b6Z:az wZ w.heap.size 38 #[.string name,.string ⟨#[]⟩,.slice (some ⟨w9.heap.size,0,none⟩) 1 1,.slice (some ⟨g9,0,none⟩) (1+1) c9]:=by rw[hwZ];exact(LH.kp hKs (by omega)).VG _ _ _ _
 have U3:g9≠w6.heap.size+1+1+1∧g9≠w.heap.size:=by
  rcases nS with e|e
  · have:g9=w6.heap.size+1+1:=by cases e;rfl
    omega
  · omega
 have hOZ:=aA hOY hKZ (fun b hb _ e=>by cases hb;exact e.elim U3.1 U3.2);have XN:Kp (fun b=>b=w6.heap.size+1+1+1∨b=w6.heap.size+1+1∨b=w.heap.size) w9 wZ:=((HKX.o.weak fun b _ e=>.inl e).trans (Mw.weak fun b _ e=>.inr (.inl e))).trans (hKZ.weak fun b _ e=>e.elim .inl fun e=>.inr (.inr e));have BI1:=(abv.o.ext o7.o).kp XN (by omega);have BK:=(Oz.o.ext o7.o).kp XN (by omega);have BI2:=abw.o.kp XN (by omega);have BFZ:=(DK.o.kp Mw (by omega)).kp hKZ (by omega);have MH:SliceOf 4 lD wZ (fun b=>w.heap.size≤b) (.slice (some ⟨w2.heap.size,0,none⟩) 5 5) (M.Gv more):=SliceOf.row (R:=lD) (xs:=M.Gv more) [[.int .i64 2,.int .i64 0,.string ⟨#[]⟩,.string ⟨#[]⟩],[.int .i64 7,.int .i64 0,.string ⟨#[116,111,112]⟩,.string ⟨#[118]⟩],[.int .i64 1,.int .i64 more,.string ⟨#[]⟩,.string ⟨#[]⟩],[.int .i64 4,.int .i64 0,.string ⟨#[]⟩,.string ⟨#[]⟩],[.int .i64 10,.int .i64 0,.string ⟨#[]⟩,.string ⟨#[]⟩]] (af.iV BI1) rfl (by simp) ⟨rfl,rfl,rfl,rfl,rfl,trivial⟩ (by show w.heap.size≤_;omega) (by simp[M.Gv]) (by simp[M.Gv]);have tN:aC wZ (fun b=>w.heap.size≤b) (M.getM more) [.string ⟨#[103,101,116]⟩,.slice none 0 0,.int .i64 1,.string ⟨#[]⟩,.int .i64 1,.int .i64 2,.slice (some ⟨w2.heap.size,0,none⟩) 5 5,.slice none 0 0]:=⟨_,_,_,rfl,SliceOf.nil _ _ _ _,MH,SliceOf.nil _ _ _ _⟩;have MM:SliceOf 2 eZ wZ (fun b=>w.heap.size≤b) (.slice (some ⟨w4.heap.size,0,none⟩) 1 1) [M.De]:=SliceOf.row (R:=eZ) (xs:=[M.De]) [[.int .i64 1,.string ⟨#[]⟩]] (af.iV BK) rfl (by simp) ⟨rfl,trivial⟩ (by show w.heap.size≤_;omega) (by simp) (by simp);have MI:SliceOf 4 lD wZ (fun b=>w.heap.size≤b) (.slice (some ⟨w6.heap.size,0,none⟩) 5 5) M.NZ:=SliceOf.row (R:=lD) (xs:=M.NZ) [[.int .i64 2,.int .i64 0,.string ⟨#[]⟩,.string ⟨#[]⟩],[.int .i64 2,.int .i64 1,.string ⟨#[]⟩,.string ⟨#[]⟩],[.int .i64 8,.int .i64 0,.string ⟨#[116,111,112]⟩,.string ⟨#[118]⟩],[.int .i64 1,.int .i64 0,.string ⟨#[]⟩,.string ⟨#[]⟩],[.int .i64 10,.int .i64 0,.string ⟨#[]⟩,.string ⟨#[]⟩]] (af.iV BI2) rfl (by simp) ⟨rfl,rfl,rfl,rfl,rfl,trivial⟩ (by show w.heap.size≤_;omega) (by simp[M.NZ]) (by simp[M.NZ])
 have ZW:aC wZ (fun b=>w.heap.size≤b) M.QU [.string ⟨#[112,117,116]⟩,.slice (some ⟨w4.heap.size,0,none⟩) 1 1,.int .i64 1,.string ⟨#[]⟩,.int .i64 2,.int .i64 2,.slice (some ⟨w6.heap.size,0,none⟩) 5 5,.slice none 0 0]:=⟨_,_,_,rfl,MM,MI,SliceOf.nil _ _ _ _⟩;have aU:af wZ g9 0 ([.string ⟨#[103,101,116]⟩,.slice none 0 0,.int .i64 1,.string ⟨#[]⟩,.int .i64 1,.int .i64 2,.slice (some ⟨w2.heap.size,0,none⟩) 5 5,.slice none 0 0]++[.string ⟨#[112,117,116]⟩,.slice (some ⟨w4.heap.size,0,none⟩) 1 1,.int .i64 1,.string ⟨#[]⟩,.int .i64 2,.int .i64 2,.slice (some ⟨w6.heap.size,0,none⟩) 5 5,.slice none 0 0]):=fun j u hj=>by
  have:=hOZ.cells (g:=g9) rfl j u hj;unfold Addr.add at this;split at this
  · rename_i h0;subst h0;exact this
  · simpa using this
 have MQ:SliceOf 8 aC wZ (fun b=>w.heap.size≤b) (.slice (some ⟨g9,0,none⟩) (1+1) c9) [M.getM more,M.QU]:=SliceOf.row (R:=aC) (xs:=[M.getM more,M.QU]) [[.string ⟨#[103,101,116]⟩,.slice none 0 0,.int .i64 1,.string ⟨#[]⟩,.int .i64 1,.int .i64 2,.slice (some ⟨w2.heap.size,0,none⟩) 5 5,.slice none 0 0],[.string ⟨#[112,117,116]⟩,.slice (some ⟨w4.heap.size,0,none⟩) 1 1,.int .i64 1,.string ⟨#[]⟩,.int .i64 2,.int .i64 2,.slice (some ⟨w6.heap.size,0,none⟩) 5 5,.slice none 0 0]] aU rfl (by simp) ⟨tN,ZW,trivial⟩ (by show w.heap.size≤_;have:=(hOY.lt g9 rfl).1;omega) (by obtain⟨_,_,e,_,_,hc⟩:=aX hOZ (by omega);cases e;simpa using hc) (by simp);have KY:SliceOf 3 lN wZ (fun b=>w.heap.size≤b) (.slice (some ⟨w9.heap.size,0,none⟩) 1 1) [⟨M.vN,M.De⟩]:=SliceOf.row (R:=lN) (xs:=[⟨M.vN,M.De⟩]) [[.string ⟨#[118]⟩,.int .i64 1,.string ⟨#[]⟩]] (af.iV BFZ) rfl (by simp) ⟨rfl,trivial⟩ (by show w.heap.size≤_;omega) (by simp) (by simp);have Uz:Ext w wZ:=((eP.o.trans Xq.o).trans o7.o).own XN (fun b e=>by omega);have Xr:=Ys Uz;have HMS:=Ys MQ;have VV:=Ys KY;have Ov:=Ys b6Z;have XL:=Ys hwZ;have q0:=TW.c 0 (.string name) rfl;have q1:=TW.c 1 (.string ⟨#[]⟩) rfl;have q2:=TW.c 2 (.slice (some ⟨w9.heap.size,0,none⟩) 1 1) rfl;have q3:=TW.c 3 (.slice (some ⟨w6.heap.size+1+1,0,none⟩) 1 1) rfl;have qf:=TW.frozen 3;have qz:=TW.lt;have y0:=LH.c 0 (.string ⟨#[]⟩) rfl;have f0:=LH.frozen 0;have y1:=LH.c 1 (.string ⟨#[]⟩) rfl;have f1:=LH.frozen 1;have y2:=LH.c 2 (.slice none 0 0) rfl;have f2:=LH.frozen 2;have y3:=LH.c 3 (.slice none 0 0) rfl;have f3:=LH.frozen 3;have yz:=LH.lt;have kP:¬w.heap.size=w6.heap.size+1+1+1:=by omega
 have uV:¬w6.heap.size+1+1+1=w.heap.size:=by omega
 clear hOY hKY Mw zz z8 z9 zX sY TW LH hKZ hKs b6Z U3 hOZ XN BI1 BK BI2 BFZ MH tN MM MI ZW aU MQ KY Uz hwZ x2 x3 xf xz xz2 xz3 xz4 p0 p1 p2 p3 p4 p5 p6 p7 Vf Vg;go_wp2_with fail;rw[←XL.o];refine bodyPost_ret (aP Ji rfl _ _ w.heap.size rfl [.string name,.string ⟨#[]⟩,.slice (some ⟨w9.heap.size,0,none⟩) 1 1,.slice (some ⟨g9,0,none⟩) (1+1) c9] (af.iV Ov.o) rfl) rfl ?_;exact⟨⟨_,_,rfl,_,_,rfl,VV.o,HMS.o⟩,Xr.o⟩
end Go.Proofs.YtohpiobncgafeaaGreatDoor
namespace Go.Proofs.YtohpiobncgafeaaGreatDoor.M
theorem IY:dw 0=true:=by decide
end Go.Proofs.YtohpiobncgafeaaGreatDoor.M
namespace Go.Proofs.YtohpiobncgafeaaGreatDoor.M
def CS:List Ins:=[⟨6,0,sS,none_⟩,⟨6,0,nN,none_⟩,⟨9,0,sS,takeN⟩,⟨10,0,none_,none_⟩]
def Hc(a:Int):List Ins:=[⟨1,a,none_,none_⟩,⟨10,0,none_,none_⟩]
def Nr(a:Int):Method:=⟨takeN,[⟨2,nN⟩],De,2,1,Hc a,[]⟩
def yR(a:Int):Class:=⟨sS,none_,[],[Nr a]⟩
def uZ(a:Int):ai:=ui [iE nN 1,yR a] CS []
def jg(a:Int):ai:=[⟨[iE nN 1]++[kI CS []],[⟨sS,1⟩]⟩,⟨[iE nN 1,yR a],[]⟩]
theorem Hd{a:Int}(h:dw a=true):dM (uZ a)=true:=by
 simp only[uZ,dM,ui,kI,iE,yR,Nr,Hc,getM,Gv,List.cons_append,List.nil_append,List.all_cons,List.all_nil,cB,bT,jU,mP,codeOk,Bu h,Bool.and_true,Bool.true_and];kernel_rfl
theorem ko{a:Int}(h:dw a=true):dM (jg a)=true:=by
 simp only[jg,dM,kI,iE,yR,Nr,Hc,getM,Gv,List.cons_append,List.nil_append,List.all_cons,List.all_nil,cB,bT,jU,mP,codeOk,Bu h,Bool.and_true,Bool.true_and];kernel_rfl
theorem ED{a:Int}(h:dw a=true):Hf (uZ a) 0=⟨2,[],[⟨⟨0,iT⟩,[]⟩,⟨⟨0,sS⟩,[]⟩,⟨⟨0,nN⟩,[⟨1,0⟩]⟩],[],⟨1,a⟩⟩:=by
 rw[IW (Hd h) IY];kernel_rfl
theorem yS(a:Int):call (jg a) 0 sS takeN=(iw,4):=by kernel_rfl
theorem QK(a:Int):bM (jg a) ⟨⟨0,iT⟩,0⟩=true:=by kernel_rfl
theorem Ns(a:Int):(look (jg a) ⟨⟨0,iT⟩,0⟩).2=3:=by kernel_rfl
theorem He{a:Int}(h:dw a=true):Hf (jg a) 0=⟨5,[],[⟨⟨0,iT⟩,[]⟩],[],dE⟩:=by
 rw[IW (ko h) IY];kernel_rfl
theorem EE{a:Int}(h:dw a=true):jO (jg a) false 0 iT runN [0]=start (jg a) false 0 iT runN [0]:=
 Fg (ko h) (by kernel_rfl) zi BF (by decide)
theorem mH{a:Int}(h:dw a=true):mR (jg a) false (jO (jg a) false 0 iT runN [0]) 400=⟨4,[],[⟨⟨0,iT⟩,[]⟩,⟨⟨1,sS⟩,[]⟩,⟨⟨0,nN⟩,[⟨1,0⟩]⟩],[],dE⟩:=by
 rw[EE h];have e:mR (jg a) false (start (jg a) false 0 iT runN [0]) ((400:Nat):Int)=_:=Fh (ko h) (zt (ko h) (by decide)) (Nat.le_refl _);refine Eq.trans e ?_;kernel_rfl
end Go.Proofs.YtohpiobncgafeaaGreatDoor.M
namespace Go.Proofs.YtohpiobncgafeaaGreatDoor
open Go Go.RowKit
theorem Vv(w:World)(name:ByteArray):Calls Tryz.prog 5 #[.string name] w fun e w'=>e=.returned (.agg #[.int .i64 2,.string name])∧Ext w w':=by
 go_enter Tryz.func5,Tryz.ntmps5;go_wp2_with fail;refine bodyPost_ret (v:=.agg #[.int .i64 2,.string name]) (by simp[results,Tryz.results5,go_sem]) rfl ?_;exact⟨rfl,(by repeat (first|with_reducible exact Kp.refl _ _|with_reducible assumption|with_reducible refine Kp.alloc ?_ _|with_reducible refine Kp.drew ?_|with_reducible refine Kp.drewN ?_ _|with_reducible refine Kp.setCell ?_ (fun h=>absurd h (by simp<;>omega)) _|with_reducible refine Kp.trans ?_ (by with_reducible assumption)|exact Kp.refl _ _|assumption|refine Kp.alloc ?_ _|refine Kp.drew ?_|refine Kp.drewN ?_ _|(refine Kp.setCell ?_ (fun h=>absurd h (by simp;done)) _)|(refine Kp.setCell ?_ (fun h=>absurd h (by simp;omega)) _)|refine Kp.trans ?_ (by assumption)))⟩
theorem Ea:Elem 39 49 2:=iJ (z:=.agg #[.slice none 0 0,.slice none 0 0]) (bytes:=48) Tryz.underlying39 (by kernel_rfl) rfl (by decide) (by decide)
theorem E8{w:World}{kb B:Nat}{t:TypeId}{x y:Value}(h:az w kb t #[x,y])(hB:B≤kb):w.ownsRow B t 2 (.slice (some ⟨kb,0,none⟩) 1 1) 1 [x,y]:=by
 exact⟨rfl,.inr ⟨_,1,#[x,y],rfl,hB,h,Nat.le_refl _,by decide,rfl,rfl⟩⟩
end Go.Proofs.YtohpiobncgafeaaGreatDoor
namespace Go.Proofs.YtohpiobncgafeaaGreatDoor
open Go.RowKit Go.Extern.Stop Go.Stop Go.Extern
theorem TS(t:Value)(w:World):
    Calls Tryz.prog 33 #[.nilIface,t] w fun e w'=>e=.returned (.bool false)∧w'=w:=by
 go_enter Tryz.func33,Tryz.ntmps33;go_wp2;go_ret;exact⟨rfl,rfl⟩
theorem Ci(t:Addr)(w:World):(ReflectliteValue.unpack (.iface 105 (.pointer (some t)))).run Tryz.prog w
    =.ok (.agg #[.pointer (some ⟨1,105,none⟩),.pointer (some ⟨w.heap.size,0,none⟩),.int .u64 150]) (w.alloc (.cells #[.pointer (some t)] 105)):=by kernel_rfl
theorem Jo(a:Addr)(w:World):(ReflectliteValue.methodAny (ReflectliteValue.valueError "reflectlite.Value.Type" 0) (fun t _ _ _=>ReflectliteType.toType t) #[.agg #[.pointer (some ⟨1,105,none⟩),.pointer (some a),.int .u64 150]]).run Tryz.prog w
    =.ok (.iface 199 (.agg #[.pointer (some ⟨1,105,none⟩)])) w:=by kernel_rfl
theorem Ap(h:Value)(w:World):(Go.method 396 199 (.agg #[h]) "Kind").run Tryz.prog w=.ok (170,h) w:=by kernel_rfl
theorem Jn(w:World):((ReflectliteType.abiMethod fun t=>(fun a:Nat=>Value.int IntKind.u8 (a:Int))<$>Rtype.kind t) #[.pointer (some ⟨1,105,none⟩)]).run Tryz.prog w=.ok (.int .u8 22) w:=by kernel_rfl
theorem Jm(w:World):((ReflectliteType.abiMethod fun t=>(fun a:Nat=>Value.int IntKind.u8 (a:Int))<$>Rtype.kind t) #[.pointer (some ⟨1,99,none⟩)]).run Tryz.prog w=.ok (.int .u8 22) w:=by kernel_rfl
theorem LQ(z:Sem Value)(f:TypeId→Addr→Nat→Nat→Sem Value)(v:Value):
    ReflectliteValue.method z f #[v]=(do match←ReflectliteValue.parts v with|none=>z|some (t,a,fl)=>f t a fl (fl % 32)):=rfl
theorem yj(a:Addr)(w:World):(ReflectliteValue.parts (.agg #[.pointer (some ⟨1,105,none⟩),.pointer (some a),.int .u64 150])).run Tryz.prog w=.ok (some (105,a,150)) w:=by kernel_rfl
theorem Gm(a p:Addr)(W:World)(ha:W.cell? a=some (.pointer (some p))):
    (ReflectliteValue.method (ReflectliteValue.valueError "reflectlite.Value.IsNil" 0) ReflectliteValue.isNil #[.agg #[.pointer (some ⟨1,105,none⟩),.pointer (some a),.int .u64 150]]).run Tryz.prog W=.ok (.bool false) W:=by
 rw[LQ];simp only[Sem.run_bind,yj,Result.andThen];simp[ReflectliteValue.isNil,loadVar,isAgg,underlying,Tryz.underlying105,ha,Result.andThen]
theorem Ao(h:Value)(w:World):(Go.method 396 199 (.agg #[h]) "Elem").run Tryz.prog w=.ok (180,.agg #[h]) w:=by kernel_rfl
theorem ry(h:Value)(w:World):(Go.method 396 199 (.agg #[h]) "Implements").run Tryz.prog w=.ok (181,.agg #[h]) w:=by kernel_rfl
theorem pX(h:Value)(w:World):(Go.method 396 199 (.agg #[h]) "AssignableTo").run Tryz.prog w=.ok (178,.agg #[h]) w:=by kernel_rfl
theorem Jl(w:World):(ReflectliteType.method ReflectliteType.elem #[.agg #[.pointer (some ⟨1,105,none⟩)]]).run Tryz.prog w=.ok (.iface 199 (.agg #[.pointer (some ⟨1,99,none⟩)])) w:=by kernel_rfl
theorem wU(w:World):(ReflectliteType.relation "Implements" ReflectliteType.implements_ #[.agg #[.pointer (some ⟨1,99,none⟩)],.iface 199 (.agg #[.pointer (some ⟨1,76,none⟩)])]).run Tryz.prog w=.ok (.bool true) w:=by kernel_rfl
theorem D9(v:Value)(w:World):(ReflectliteType.typeOf #[.iface 99 v]).run Tryz.prog w=.ok (.iface 199 (.agg #[.pointer (some ⟨1,99,none⟩)])) w:=by kernel_rfl
theorem wT(w:World):(ReflectliteType.relation "AssignableTo" ReflectliteType.assignableTo #[.agg #[.pointer (some ⟨1,99,none⟩)],.iface 199 (.agg #[.pointer (some ⟨1,99,none⟩)])]).run Tryz.prog w=.ok (.bool true) w:=by kernel_rfl
theorem Ch(e:Addr)(w:World):(ReflectliteValue.unpack (.iface 99 (.pointer (some e)))).run Tryz.prog w
    =.ok (.agg #[.pointer (some ⟨1,99,none⟩),.pointer (some ⟨w.heap.size,0,none⟩),.int .u64 150]) (w.alloc (.cells #[.pointer (some e)] 99)):=by kernel_rfl
theorem D7(w:World):(Rtype.elem? 105).run Tryz.prog w=.ok (some 99) w:=by kernel_rfl
theorem PT(p:Addr)(w:World):(ReflectliteValue.mk 99 p ReflectliteValue.flagAddr).run Tryz.prog w=.ok (.agg #[.pointer (some ⟨1,99,none⟩),.pointer (some p),.int .u64 406]) w:=by kernel_rfl
theorem Gl(a p:Addr)(W:World)(ha:W.cell? a=some (.pointer (some p))):
    (ReflectliteValue.method (ReflectliteValue.valueError "reflectlite.Value.Elem" 0) ReflectliteValue.elem #[.agg #[.pointer (some ⟨1,105,none⟩),.pointer (some a),.int .u64 150]]).run Tryz.prog W
     =.ok (.agg #[.pointer (some ⟨1,99,none⟩),.pointer (some p),.int .u64 406]) W:=by
 rw[LQ];simp only[Sem.run_bind,yj,Result.andThen];simp[ReflectliteValue.elem,loadVar,isAgg,underlying,Tryz.underlying105,ha,Result.andThen,D7,PT]
theorem Uh(v x:Value):ReflectliteValue.set #[v,x]=(do
    let (some (dst,a,fl),some (src,b,_)):=(←ReflectliteValue.parts v,←ReflectliteValue.parts x)
     |unsupported (.noEntry "extern/(internal/reflectlite.Value).Set.zeroValue")
    if fl / ReflectliteValue.flagAddr % 2==0 then unsupported (.noEntry "extern/(internal/reflectlite.Value).Set.unaddressable")
    let val ←loadVar src b
    if←Rtype.directlyAssignable dst src then storeVar dst a val
    else if←Rtype.implements dst src then
     if(←Rtype.kind src)==20 then
      match val with
      | .nilIface=>unsupported (.noEntry "extern/reflectlite: a nil value of one interface type handed on as a value of another")
      |_=>storeVar dst a val
     else storeVar dst a (.iface src val)
    else panicString ("reflectlite.Set: value of type " ++(←Rtype.spelt src)++ " is not assignable to type " ++(←Rtype.spelt dst))
    pure (.tuple #[])):=rfl
theorem D8(a:Addr)(w:World):(ReflectliteValue.parts (.agg #[.pointer (some ⟨1,99,none⟩),.pointer (some a),.int .u64 406])).run Tryz.prog w=.ok (some (99,a,406)) w:=by kernel_rfl
theorem Gn(a:Addr)(w:World):(ReflectliteValue.parts (.agg #[.pointer (some ⟨1,99,none⟩),.pointer (some a),.int .u64 150])).run Tryz.prog w=.ok (some (99,a,150)) w:=by kernel_rfl
theorem D6(w:World):(Rtype.directlyAssignable 99 99).run Tryz.prog w=.ok true w:=by kernel_rfl
theorem LU(ta b e:Addr)(old:Value)(W:World)(hb:W.cell? b=some (.pointer (some e)))(ht:W.cell? ta=some old)(hf:W.frozen? ta=false):
    (ReflectliteValue.set #[.agg #[.pointer (some ⟨1,99,none⟩),.pointer (some ta),.int .u64 406],.agg #[.pointer (some ⟨1,99,none⟩),.pointer (some b),.int .u64 150]]).run Tryz.prog W
     =.ok (.tuple #[]) (W.setCell ta (.pointer (some e))):=by
 rw[Uh];simp only[Sem.run_bind,D8,Gn,Result.andThen];simp[ReflectliteValue.flagAddr,loadVar,isAgg,underlying,Tryz.underlying99,hb,Result.andThen,D6,storeVar,Value.cells,storeCells,Addr.add];rw[run_store Tryz.prog W ta _ _ (by rfl)];simp[ht,hf]
theorem TR(e t:Addr)(old:Value)(w:World)(hg:w.cell? ⟨0,0,none⟩=some (.iface 199 (.agg #[.pointer (some ⟨1,76,none⟩)])))(ht0:w.cell? t=some old)(hf0:w.frozen? t=false):
    Calls Tryz.prog 33 #[.iface 99 (.pointer (some e)),.iface 105 (.pointer (some t))] w fun ev w'=>ev=.returned (.bool true)∧w'=((((w.alloc (.cells #[.pointer (some t)] 105)).alloc (.cells #[.pointer (some ⟨1,105,none⟩),.pointer (some ⟨w.heap.size,0,none⟩),.int .u64 150] 154)).alloc (.cells #[.pointer (some ⟨1,105,none⟩),.pointer (some ⟨w.heap.size,0,none⟩),.int .u64 150] 154)).alloc (.cells #[.pointer (some e)] 99)).setCell t (.pointer (some e)):=by
 have h6:=@run_callFunc_extern Tryz.prog 73 _ (fun args=>ReflectliteValue.unpack (args.getD 0 (.tuple #[]))) Tryz.func73 (by kernel_rfl) (by kernel_rfl) (by kernel_rfl) (by kernel_rfl);have h7:=@run_callFunc_extern Tryz.prog 74 _ (ReflectliteValue.methodAny (ReflectliteValue.valueError "reflectlite.Value.Type" 0) (fun t _ _ _=>ReflectliteType.toType t)) Tryz.func74 (by kernel_rfl) (by kernel_rfl) (by kernel_rfl) (by kernel_rfl);have h8:=@run_callFunc_extern Tryz.prog 75 _ (ReflectliteValue.method (ReflectliteValue.valueError "reflectlite.Value.IsNil" 0) ReflectliteValue.isNil) Tryz.func75 (by kernel_rfl) (by kernel_rfl) (by kernel_rfl) (by kernel_rfl);have h27:=@run_callFunc_extern Tryz.prog 170 _ (ReflectliteType.abiMethod fun t=>do pure (.int .u8 (←Rtype.kind t))) Tryz.func170 (by kernel_rfl) (by kernel_rfl) (by kernel_rfl) (by kernel_rfl);have h37:=@run_callFunc_extern Tryz.prog 180 _ (ReflectliteType.method ReflectliteType.elem) Tryz.func180 (by kernel_rfl) (by kernel_rfl) (by kernel_rfl) (by kernel_rfl);have h38:=@run_callFunc_extern Tryz.prog 181 _ (ReflectliteType.relation "Implements" ReflectliteType.implements_) Tryz.func181 (by kernel_rfl) (by kernel_rfl) (by kernel_rfl) (by kernel_rfl);have Uo:=@run_callFunc_extern Tryz.prog 118 _ ReflectliteType.typeOf Tryz.func118 (by kernel_rfl) (by kernel_rfl) (by kernel_rfl) (by kernel_rfl);have h35:=@run_callFunc_extern Tryz.prog 178 _ (ReflectliteType.relation "AssignableTo" ReflectliteType.assignableTo) Tryz.func178 (by kernel_rfl) (by kernel_rfl) (by kernel_rfl) (by kernel_rfl);have h11:=@run_callFunc_extern Tryz.prog 119 _ (ReflectliteValue.method (ReflectliteValue.valueError "reflectlite.Value.Elem" 0) ReflectliteValue.elem) Tryz.func119 (by kernel_rfl) (by kernel_rfl) (by kernel_rfl) (by kernel_rfl);have Rv:=@run_callFunc_extern Tryz.prog 120 _ ReflectliteValue.set Tryz.func120 (by kernel_rfl) (by kernel_rfl) (by kernel_rfl) (by kernel_rfl);have tO:=D9;have mA:=pX;have a25:=wT;have v25:=Ch;have f6:=Ci;have f7:=Jo;have mK:=Ap;have mE:=Ao;have mI:=ry;have k27:=Jn;have k25:=Jm;have e27:=Jl;have i25:=wU;have n8:=Gm ⟨w.heap.size,0,none⟩ t ((w.alloc (.cells #[.pointer (some t)] 105)).alloc (.cells #[.pointer (some ⟨1,105,none⟩),.pointer (some ⟨w.heap.size,0,none⟩),.int .u64 150] 154)) (by simp);have cK:0<w.heap.size:=by
  rcases Nat.eq_zero_or_pos w.heap.size with h0|h
  · simp[World.cell?,h0]at hg
  · exact h
 have JH:((w.alloc (.cells #[.pointer (some t)] 105)).alloc (.cells #[.pointer (some ⟨1,105,none⟩),.pointer (some ⟨w.heap.size,0,none⟩),.int .u64 150] 154)).cell? ⟨0,0,none⟩=some (.iface 199 (.agg #[.pointer (some ⟨1,76,none⟩)])):=by
  rw[World.cell?_alloc_lt _ _ ⟨0,0,none⟩ (by simp),World.cell?_alloc_lt _ _ ⟨0,0,none⟩ cK];exact hg
 have htl:t.block<w.heap.size:=by
  rcases Nat.lt_or_ge t.block w.heap.size with h|h
  · exact h
  · simp[World.cell?,Array.getElem?_eq_none h]at ht0
 have el:=Gl ⟨w.heap.size,0,none⟩ t (((w.alloc (.cells #[.pointer (some t)] 105)).alloc (.cells #[.pointer (some ⟨1,105,none⟩),.pointer (some ⟨w.heap.size,0,none⟩),.int .u64 150] 154)).alloc (.cells #[.pointer (some ⟨1,105,none⟩),.pointer (some ⟨w.heap.size,0,none⟩),.int .u64 150] 154)) (by rw[World.cell?_alloc_lt _ _ ⟨w.heap.size,0,none⟩ (by simp;omega)];simp);have st:=LU t ⟨w.heap.size+1+1+1,0,none⟩ e old ((((w.alloc (.cells #[.pointer (some t)] 105)).alloc (.cells #[.pointer (some ⟨1,105,none⟩),.pointer (some ⟨w.heap.size,0,none⟩),.int .u64 150] 154)).alloc (.cells #[.pointer (some ⟨1,105,none⟩),.pointer (some ⟨w.heap.size,0,none⟩),.int .u64 150] 154)).alloc (.cells #[.pointer (some e)] 99))
  (by rw[World.cell?_alloc_at _ _ _ _ (by simp)];rfl)
  (by rw[World.cell?_alloc_lt _ _ t (by simp;omega),World.cell?_alloc_lt _ _ t (by simp;omega),World.cell?_alloc_lt _ _ t (by simp;omega),World.cell?_alloc_lt _ _ t htl];exact ht0)
  (by rw[World.frozen?_alloc_old _ _ t (by simp;omega),World.frozen?_alloc_old _ _ t (by simp;omega),World.frozen?_alloc_old _ _ t (by simp;omega),World.frozen?_alloc_old _ _ t (Nat.ne_of_lt htl)];exact hf0)
 go_enter Tryz.func33,Tryz.ntmps33;go_wp2;refine wp_loop_rounds 1 ?_;rw[rounds_succ];go_wp2;go_ret;exact⟨rfl,rfl⟩
end Go.Proofs.YtohpiobncgafeaaGreatDoor
namespace Go.Proofs.YtohpiobncgafeaaGreatDoor
open Go Go.RowKit
def Af(w:World):Prop:=w.cell? ⟨0,0,none⟩=some (.iface 199 (.agg #[.pointer (some ⟨1,76,none⟩)]))
theorem J3(w:World)(ev:Value)(code:Int)(h:uJ w ev code)(hg:Af w):
    Calls Tryz.prog 17 #[ev] w fun e w'=>e=.returned (.int .i64 code)∧Ext w w':=by
 obtain⟨w1,jl,aZ,b1⟩:=nu w #[.pointer none] 99;rcases h with⟨rfl,rfl⟩|⟨hc,b,rfl,hb⟩
 · have xW:=Ys jl;have eP:=Ys aZ;clear jl aZ b1 hg;go_enter Tryz.func17,Tryz.ntmps17;go_upto_region 2 with(fail);rw[←xW.o];go_wp2_with fail;refine(TS _ _).mono ?_;rintro e w2 ⟨rfl,rfl⟩;go_wp2_with fail;go_ret;exact⟨rfl,eP.o⟩
 · have IL:w1.cell? ⟨0,0,none⟩=some (.iface 199 (.agg #[.pointer (some ⟨1,76,none⟩)])):=aZ.aJ hg;have HAS:=Ys (TR ⟨b,0,none⟩ ⟨w.heap.size,0,none⟩ (.pointer none) w1 IL (b1.c 0 (.pointer none) rfl) (b1.frozen 0));obtain⟨w9,fT⟩:∃w9,w9=((((w1.alloc (.cells #[.pointer (some ⟨w.heap.size,0,none⟩)] 105)).alloc (.cells #[.pointer (some ⟨1,105,none⟩),.pointer (some ⟨w1.heap.size,0,none⟩),.int .u64 150] 154)).alloc (.cells #[.pointer (some ⟨1,105,none⟩),.pointer (some ⟨w1.heap.size,0,none⟩),.int .u64 150] 154)).alloc (.cells #[.pointer (some ⟨b,0,none⟩)] 99)).setCell ⟨w.heap.size,0,none⟩ (.pointer (some ⟨b,0,none⟩)):=⟨_,rfl⟩;have kE:Ext w1 ((((w1.alloc (.cells #[.pointer (some ⟨w.heap.size,0,none⟩)] 105)).alloc (.cells #[.pointer (some ⟨1,105,none⟩),.pointer (some ⟨w1.heap.size,0,none⟩),.int .u64 150] 154)).alloc (.cells #[.pointer (some ⟨1,105,none⟩),.pointer (some ⟨w1.heap.size,0,none⟩),.int .u64 150] 154)).alloc (.cells #[.pointer (some ⟨b,0,none⟩)] 99)):=((((Kp.refl _ _).alloc _).alloc _).alloc _).alloc _;have hb9:az w9 w.heap.size 99 #[.pointer (some ⟨b,0,none⟩)]:=by rw[fT];exact(b1.ext kE).bA 0 _
   have k9:Kp (·=w.heap.size) w1 w9:=by rw[fT];exact(kE.any).trans ((Kp.refl (·=w.heap.size) _).setCell (p:=⟨w.heap.size,0,none⟩) (fun _=>rfl) _)
   have jV:Ext w w9:=aZ.own k9 fun b e=>by omega
   have GH:=hb.ext jV;have y0:=hb9.c 0 (.pointer (some ⟨b,0,none⟩)) rfl;have yz:=hb9.lt;have c0:=GH.c 0 (.int .i64 code) rfl;have cz:=GH.lt;have xW:=Ys jl;have F5:=Ys fT;have o7:=Ys jV;clear jl aZ b1 hg IL fT kE hb9 k9 jV GH hb hc;go_enter Tryz.func17,Tryz.ntmps17;go_upto_region 2 with(fail);rw[←xW.o];go_wp2_with fail;refine HAS.o.mono ?_;rintro e w2 ⟨rfl,jS⟩;rw[←F5.o]at jS;subst jS;go_wp2_with fail;go_ret;exact⟨rfl,o7.o⟩
theorem Af.ext{w w':World}(h:Af w)(hE:Ext w w'):Af w':=hE.aJ h
theorem yS(w:World)(I:Nat→Prop)(v:Value)(p:M.ai)(hp:SliceOf 2 aH w I v p)(hI:∀b,I b→b<w.heap.size)(kX:M.dM p=true)(hg:Af w)(k:Int)(n m:ByteArray):
    Calls Tryz.prog 9 #[.agg #[v],.int .i64 k,.string n,.string m] w fun e w'=>e=.returned (.tuple #[.agg (mX (M.call p k n m).1).toArray,.int .i64 (M.call p k n m).2])∧Ext w w':=by
 obtain⟨a,cap,rfl,hn,dx⟩:=hp.form;obtain⟨w1,jl⟩:∃w1,w1=(w.alloc (.cells #[.slice a p.length cap] 41)).alloc (.cells #[.int .i64 0,.string ⟨#[]⟩,.int .i64 0] 53):=⟨_,rfl⟩;have aZ:Ext w w1:=by rw[jl];exact(by repeat (first|with_reducible exact Kp.refl _ _|with_reducible assumption|with_reducible refine Kp.alloc ?_ _|with_reducible refine Kp.drew ?_|with_reducible refine Kp.drewN ?_ _|with_reducible refine Kp.setCell ?_ (fun h=>absurd h (by simp<;>omega)) _|with_reducible refine Kp.trans ?_ (by with_reducible assumption)|exact Kp.refl _ _|assumption|refine Kp.alloc ?_ _|refine Kp.drew ?_|refine Kp.drewN ?_ _|(refine Kp.setCell ?_ (fun h=>absurd h (by simp;done)) _)|(refine Kp.setCell ?_ (fun h=>absurd h (by simp;omega)) _)|refine Kp.trans ?_ (by assumption)))
 have AL:w1.heap.size=w.heap.size+2:=by rw[jl];simp
 have b8:az w1 (w.heap.size+1) 53 #[.int .i64 0,.string ⟨#[]⟩,.int .i64 0]:=by rw[jl];exact az.newAt _ _ (by simp)
 have Lr:=Ys (qY w1 I (.slice a p.length cap) p (hp.ext aH.stays aZ) (fun b hb=>by have:=hI b hb;omega));have eP:=Ys aZ;have zQ:=Ys b8;have xW:=Ys jl;have Xv:=Ys (hg.ext aZ);have Fv:=Ys kX;clear aZ jl b8 hp hI hg kX;go_enter Tryz.func9,Tryz.ntmps9;go_wp2_with fail;rw[←xW.o];refine Lr.o.mono ?_;rintro e w2 ⟨bY,bE⟩;rcases bE with⟨rC, -⟩|⟨-,l,rfl,hL,hlO⟩
 · rw[Fv.o]at rC;cases rC
 have rX:=hL.ord;have HL:=Ys hL;have Xe:=Ys (zQ.o.ext bY);have jC:=Ys (eP.o.trans bY);have Rf:=Ys (Xv.o.ext bY);have hg0:(0:Nat)<w1.heap.size:=by have:=aS Xv.o;exact this
 clear hL bY Lr;go_wp2_with fail;refine(lZ w2 l p HL.o k n m).mono ?_;rintro e w3 ⟨⟨ev,rfl,ji⟩,zV,mg⟩;have dA:Ext w w3:=jC.o.own mg fun b e=>by omega
 obtain⟨x,hx⟩:∃x,M.call p k n m=x:=⟨_,rfl⟩;rw[hx]at ji;obtain⟨⟨⟨xk,xn⟩,xa⟩,xc⟩:=x;obtain⟨w4,qR,dN,b4⟩:=nu w3 #[.int .i64 xk,.string xn,.int .i64 xa] 53;have HG4:Zs (Af w4):=Ys (Af.ext ((World.cell?_of_block (mg.block 0 (aS Rf.o) (by omega))).trans Rf.o) dN);have xR:Zs (uJ w4 ev xc):=Ys (ji.imp id fun⟨h1,b,h2,h3⟩=>⟨h1,b,h2,h3.ext dN⟩);have Tk:=Ys ((Xe.o.kp mg (by omega)).ext dN);have iM:=Ys (dA.trans dN);have BX:=Ys qR;have HX:=Ys hx;have nQ:=Ys b4;have jy:Zs (w3.heap.size≠w.heap.size+1):=Ys (by have:=jC.o.size;have:=mg.size;have:=Xe.o.lt;omega);obtain⟨T,f,dm,HT⟩:=gy.ex (fun W'=>Kp (·=w.heap.size+1) w4 W') w4 (Kp.refl _ _);have x0:=fun z=>(b4.kp (HT.aK z) jy.o).c 0 (.int .i64 xk) rfl;have x1:=fun z=>(b4.kp (HT.aK z) jy.o).c 1 (.string xn) rfl;have x2:=fun z=>(b4.kp (HT.aK z) jy.o).c 2 (.int .i64 xa) rfl;have ax:=Ys HT;clear HT ji zV mg dA dN qR b4;simp only[hx,mX];clear hx;go_upto_region 5 with(fail);rw[←BX.o];(refine dQ ax 4 [([0,1],2),([],3)] [] ?_ ?_)
 · exact(Kp.refl _ _).drew
 have qi:Ext w4 w4.drew:=(Kp.refl _ _).drew;generalize w4.drew=wd at qi ⊢;(refine dn [_,_] rfl rfl fun K hK=>?_);(repeat (go_big_quiet_step (fail)));(refine qn hK fun K2 ag=>?_);clear hK K;go_wp2_with fail;refine(J3 wd ev xc (xR.o.imp id fun⟨h1,b,h2,h3⟩=>⟨h1,b,h2,h3.ext qi⟩) (HG4.o.ext qi)).mono ?_;rintro e w5 ⟨rfl,ed⟩;have e5:=qi.trans ed;have PH:=Tk.o.ext e5;have aa0:=Ys PH;have iG:=Ys e5;have c0:=PH.c 0 (.int .i64 0) rfl;have c1:=PH.c 1 (.string ⟨#[]⟩) rfl;have c2:=PH.c 2 (.int .i64 0) rfl;have f0:=PH.frozen 0;have f1:=PH.frozen 1;have f2:=PH.frozen 2;have cz:=PH.lt;clear ed qi e5 PH;go_wp2_with fail;(refine kk ax ag iG.o.any ?_);clear ag K2;(refine fG rfl fun K2 ag=>?_);go_wp2_with fail;have hP:=Kp.lq (D:=(·=w.heap.size+1)) (w:=w5) rfl (.int .i64 xk) (.string xn) (.int .i64 xa);(refine kk ax ag (iG.o.any.trans hP) ?_);clear ag K2;(refine dD ?_);go_wp2_with fail;refine bodyPost_ret (bP qg rfl _ _ (w.heap.size+1) rfl [.int .i64 xk,.string xn,.int .i64 xa] (af.iV (aa0.o.lq _ _ _)) rfl) rfl ?_;rw[HX.o];exact⟨rfl,(iM.o.trans iG.o).own hP fun b e=>by omega⟩
theorem EM(w:World)(I:Nat→Prop)(v:Value)(p:M.ai)(hp:SliceOf 2 aH w I v p)(hI:∀b,I b→b<w.heap.size)(kX:M.dM p=true)(x:M.jR)(hx:M.bM p x=true):
    Calls Tryz.prog 10 #[.agg #[v],.agg #[.int .i64 x.of.keeper,.string x.of.name],.int .i64 x.at_] w fun e w'=>(∃vl,e=.returned (.tuple #[vl,.int .i64 (M.look p x).2]))∧Ext w w':=by
 obtain⟨⟨xk,xn⟩,xa⟩:=x;obtain⟨a,cap,rfl,hn,dx⟩:=hp.form;obtain⟨w1,jl⟩:∃w1,w1=(w.alloc (.cells #[.slice a p.length cap] 41)).alloc (.cells #[.int .i64 xk,.string xn] 51):=⟨_,rfl⟩;have aZ:Ext w w1:=by rw[jl];exact(by repeat (first|with_reducible exact Kp.refl _ _|with_reducible assumption|with_reducible refine Kp.alloc ?_ _|with_reducible refine Kp.drew ?_|with_reducible refine Kp.drewN ?_ _|with_reducible refine Kp.setCell ?_ (fun h=>absurd h (by simp<;>omega)) _|with_reducible refine Kp.trans ?_ (by with_reducible assumption)|exact Kp.refl _ _|assumption|refine Kp.alloc ?_ _|refine Kp.drew ?_|refine Kp.drewN ?_ _|(refine Kp.setCell ?_ (fun h=>absurd h (by simp;done)) _)|(refine Kp.setCell ?_ (fun h=>absurd h (by simp;omega)) _)|refine Kp.trans ?_ (by assumption)))
 have AL:w1.heap.size=w.heap.size+2:=by rw[jl];simp
 have b4:az w1 (w.heap.size+1) 51 #[.int .i64 xk,.string xn]:=by rw[jl];exact az.newAt _ _ (by simp)
 have Lr:=Ys (qY w1 I (.slice a p.length cap) p (hp.ext aH.stays aZ) (fun b hb=>by have:=hI b hb;omega));have eP:=Ys aZ;have nQ:=Ys b4;have xW:=Ys jl;have Fv:=Ys kX;have HX:=Ys hx;clear aZ jl b4 hp hI kX hx;go_enter Tryz.func10,Tryz.ntmps10;go_wp2_with fail;rw[←xW.o];refine Lr.o.mono ?_;rintro e w2 ⟨bY,bE⟩;rcases bE with⟨rC, -⟩|⟨-,l,rfl,hL,hlO⟩
 · rw[Fv.o]at rC;cases rC
 have rX:=hL.ord;obtain⟨w3,hZ,dA,b3⟩:=nu w2 #[.int .i64 xk,.string xn,.int .i64 xa] 53;have y0:=(nQ.o.ext bY).c 0 (.int .i64 xk) rfl;have y1:=(nQ.o.ext bY).c 1 (.string xn) rfl;have yz:=(nQ.o.ext bY).lt;have KL:=Ys (hL.ext dA);have gW:=Ys b3;have iL:=Ys ((eP.o.trans bY).trans dA);have XM:=Ys hL.lt;have kK:=Ys hZ;clear hL bY Lr hZ dA b3;go_upto_region 3 with(fail);rw[←kK.o];have m0:=gW.o.c 0 (.int .i64 xk) rfl;have m1:=gW.o.c 1 (.string xn) rfl;have m2:=gW.o.c 2 (.int .i64 xa) rfl;have mz:=gW.o.lt;clear y0 y1 yz;go_wp2_with fail;refine(pG w3 l p KL.o ⟨⟨xk,xn⟩,xa⟩).mono ?_;rintro e w4 ⟨rfl,YP,ni⟩;rw[HX.o];have V5:=gW.o.kp ni (by have:=XM.o;omega);have adl:=Ys V5;have Ph:=Ys YP;have iM:Zs (Ext w w4):=Ys (iL.o.own ni fun b e=>by omega);clear m0 m1 m2 mz YP ni;have m0:=V5.c 0 (.int .i64 xk) rfl;have m1:=V5.c 1 (.string xn) rfl;have m2:=V5.c 2 (.int .i64 xa) rfl;have mz:=V5.lt;clear V5;go_wp2_with fail;refine(yV w4 l p Ph.o ⟨⟨xk,xn⟩,xa⟩ HX.o).mono ?_;rintro e w5 ⟨ql, -,vv,vl,vs,rfl, -⟩;have iG:Zs (Ext w w5):=Ys (iM.o.own ql fun b e=>by omega);clear ql;go_wp2_with fail;refine bodyPost_ret (results_tmp2 rfl _ _ _) rfl ?_;exact⟨⟨_,rfl⟩,iG.o⟩
end Go.Proofs.YtohpiobncgafeaaGreatDoor
