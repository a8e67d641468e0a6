/- Walks. -/
import Derived.Test.YtmcmhalhieejaaaGreatDoorChgTextf
set_option maxRecDepth 100000
set_option maxHeartbeats 4000000
set_option linter.unusedSimpArgs false
set_option linter.unusedVariables false
namespace Go.Proofs.YtmcmhalhieejaaaGreatDoor
open Go Go.RowKit
def M.fK(keeper:Int)(name:ByteArray)(dst:Int)(x:M.Class):Bool:=
 (decide (0≤keeper)&&decide (keeper≤2))&&(M.aB name&&((dst==0)&&(M.eY x&&(x.name.toList==name.toList))))
theorem ai.up{w w':World}{I:Nat→Prop}{x:M.Class}{cs:List Value}(h:ai w I x cs)(hE:Ext w w'):ai w' I x cs:=ai.stays _ _ _ _ _ _ (Ext.same hE) (fun _ h=>h) h
theorem sK(keeper:Int)(name:ByteArray)(dst:Int)(x:M.Class)(I:Nat→Prop)(cs:List Value)(w:World)(hx:ai w I x cs):
    Calls Tryz.prog 25 #[.agg (#[.int .i64 1,.int .i64 keeper,.string name,.int .i64 dst]++cs.toArray)] w fun e w'=>r9 (M.fK keeper name dst x) e∧Ext w w':=by
 obtain⟨a1,m1,a2,m2,rfl⟩:=hx.form;simp only[List.append_toArray,List.cons_append,List.nil_append];obtain⟨w0,bB,bH,hb⟩:=nu w #[.int .i64 1,.int .i64 keeper,.string name,.int .i64 dst,.string x.name,.string x.av,.slice a1 x.fields.length m1,.slice a2 x.methods.length m2] 28;have aZ:=Zy bH;have HB:=Zy hb;have bZ:=Zy bB;have HX:=Zy (hx.up bH);clear bH hb bB hx;have c0:=HB.o.c 0 (.int .i64 1) rfl;have c1':=HB.o.c 1 (.int .i64 keeper) rfl;have c2':=HB.o.c 2 (.string name) rfl;have c3:=HB.o.c 3 (.int .i64 dst) rfl;have c4:=HB.o.c 4 (.string x.name) rfl;have c5:=HB.o.c 5 (.string x.av) rfl;have c6:=HB.o.c 6 (.slice a1 x.fields.length m1) rfl;have c7:=HB.o.c 7 (.slice a2 x.methods.length m2) rfl;have cz:=HB.o.lt;obtain⟨B,hB⟩:∃B,M.fK keeper name dst x=B:=⟨_,rfl⟩;unfold M.fK at hB ⊢;have HR:=Zy hB;clear hB;have ik:=fun W=>Zy (dS name W);have yG:=Zy (Dq w0 I _ x HX.o);by_cases h1:keeper<0
 · rw[show decide (0≤keeper)=false from decide_eq_false (by omega)];go_enter Tryz.func25,Tryz.ntmps25;go_wp2_with fail;rw[←bZ.o];go_ret;exact⟨.inr ⟨rfl,rfl⟩,aZ.o⟩
 by_cases h2:3≤keeper
 · rw[show decide (keeper≤2)=false from decide_eq_false (by omega),Bool.and_false];go_enter Tryz.func25,Tryz.ntmps25;go_wp2_with fail;rw[←bZ.o];go_ret;exact⟨.inr ⟨rfl,rfl⟩,aZ.o⟩
 rw[show decide (0≤keeper)=true from decide_eq_true (by omega),show decide (keeper≤2)=true from decide_eq_true (by omega)];cases h3:M.aB name
 · simp only[h3]at ik;go_enter Tryz.func25,Tryz.ntmps25;go_wp2_with fail;rw[←bZ.o];refine(ik w0).o.mono ?_;rintro e w1 ⟨rfl,rfl⟩;go_wp2_with fail;go_ret;exact⟨.inr ⟨rfl,rfl⟩,aZ.o⟩
 simp only[h3]at ik;cases h4:(dst==0)
 · have NA:(dst !=0)=true:=by simp only[bne,h4];rfl
   go_enter Tryz.func25,Tryz.ntmps25;go_wp2_with fail;rw[←bZ.o];refine(ik w0).o.mono ?_;rintro e w1 ⟨rfl,rfl⟩;go_wp2_with fail;go_ret;exact⟨.inr ⟨rfl,rfl⟩,aZ.o⟩
 have NA:(dst !=0)=false:=by simp only[bne,h4];rfl
 cases h5:M.eY x
 · simp only[h5]at yG;go_enter Tryz.func25,Tryz.ntmps25;go_wp2_with fail;rw[←bZ.o];refine(ik w0).o.mono ?_;rintro e w1 ⟨rfl,rfl⟩;go_wp2_with fail;refine yG.o.mono ?_;rintro e w1 ⟨rfl,aQ⟩;go_wp2_with fail;go_ret;exact⟨.inr ⟨rfl,rfl⟩,aZ.o.trans aQ⟩
 simp only[h5]at yG;cases h6:(x.name.toList==name.toList)
 · have NC:(x.name.toList !=name.toList)=true:=by simp only[bne,h6];rfl
   go_enter Tryz.func25,Tryz.ntmps25;go_wp2_with fail;rw[←bZ.o];refine(ik w0).o.mono ?_;rintro e w1 ⟨rfl,rfl⟩;go_wp2_with fail;refine yG.o.mono ?_;rintro e w1 ⟨rfl,aQ⟩;have bf:=HB.o.ext aQ;have d2:=bf.c 2 (.string name) rfl;have d4:=bf.c 4 (.string x.name) rfl;have dz:=bf.lt;have bM:=Zy (aZ.o.trans aQ);clear bf aQ;go_wp2_with fail;go_ret;exact⟨.inr ⟨rfl,rfl⟩,bM.o⟩
 · have NC:(x.name.toList !=name.toList)=false:=by simp only[bne,h6];rfl
   go_enter Tryz.func25,Tryz.ntmps25;go_wp2_with fail;rw[←bZ.o];refine(ik w0).o.mono ?_;rintro e w1 ⟨rfl,rfl⟩;go_wp2_with fail;refine yG.o.mono ?_;rintro e w1 ⟨rfl,aQ⟩;have bf:=HB.o.ext aQ;have d2:=bf.c 2 (.string name) rfl;have d4:=bf.c 4 (.string x.name) rfl;have d5:=bf.c 5 (.string x.av) rfl;have d6:=bf.c 6 (.slice a1 x.fields.length m1) rfl;have d7:=bf.c 7 (.slice a2 x.methods.length m2) rfl;have dz:=bf.lt;have bM:=Zy (aZ.o.trans aQ);clear bf aQ;go_wp2_with fail;go_ret;exact⟨.inl ⟨rfl,_,_,rfl⟩,(by first|exact bM.o|exact bM.o.alloc _)⟩
theorem wy(keeper:Int)(name:ByteArray)(dst:Int)(x:M.Class)(I:Nat→Prop)(cs:List Value)(w:World)(hx:ai w I x cs):
    Calls Tryz.prog 11 #[.agg (#[.int .i64 1,.int .i64 keeper,.string name,.int .i64 dst]++cs.toArray)] w fun e w'=>e=.returned (.bool (M.fK keeper name dst x))∧Ext w w':=by
 obtain⟨w0,bB⟩:∃w0,w0=w.alloc (.cells (#[.int .i64 1,.int .i64 keeper,.string name,.int .i64 dst]++cs.toArray) 28):=⟨_,rfl⟩;have bH:Ext w w0:=by rw[bB];exact(by repeat (first|with_reducible exact Kp.refl _ _|with_reducible assumption|with_reducible refine Kp.alloc ?_ _|with_reducible refine Kp.drew ?_|with_reducible refine Kp.drewN ?_ _|with_reducible refine Kp.setCell ?_ (fun h=>absurd h (by simp<;>omega)) _|with_reducible refine Kp.trans ?_ (by with_reducible assumption)|exact Kp.refl _ _|assumption|refine Kp.alloc ?_ _|refine Kp.drew ?_|refine Kp.drewN ?_ _|(refine Kp.setCell ?_ (fun h=>absurd h (by simp;done)) _)|(refine Kp.setCell ?_ (fun h=>absurd h (by simp;omega)) _)|refine Kp.trans ?_ (by assumption)))
 have HC:=Zy (sK keeper name dst x I cs w0 (hx.up bH));have aZ:=Zy bH;have bZ:=Zy bB;obtain⟨B,hB⟩:∃B,M.fK keeper name dst x=B:=⟨_,rfl⟩;rw[hB]at HC ⊢;clear hB bH bB;obtain⟨a1,m1,a2,m2,rfl⟩:=hx.form;clear hx;simp only[List.append_toArray,List.cons_append,List.nil_append]at HC bZ ⊢;go_enter Tryz.func11,Tryz.ntmps11;go_wp2_with fail;rw[←bZ.o];refine HC.o.mono ?_;rintro e w1 ⟨⟨rfl,t,x,rfl⟩|⟨rfl,rfl⟩,hE⟩
 · have HE:=Zy (aZ.o.trans hE);clear hE;go_wp2_with fail;go_ret;exact⟨rfl,HE.o⟩
 · have HE:=Zy (aZ.o.trans hE);clear hE;go_wp2_with fail;go_ret;exact⟨rfl,HE.o⟩
theorem xq(keeper:Int)(name:ByteArray)(dst:Int)(x:M.Class)(I:Nat→Prop)(cs:List Value)(w:World)(hx:ai w I x cs)(hv:dK w):
    Calls Tryz.prog 8 #[.agg (#[.int .i64 1,.int .i64 keeper,.string name,.int .i64 dst]++cs.toArray)] w fun e w'=>e=.returned (.string (M.bs []))∧Ext w w':=by
 obtain⟨w0,bB⟩:∃w0,w0=w.alloc (.cells (#[.int .i64 1,.int .i64 keeper,.string name,.int .i64 dst]++cs.toArray) 28):=⟨_,rfl⟩;have bH:Ext w w0:=by rw[bB];exact(by repeat (first|with_reducible exact Kp.refl _ _|with_reducible assumption|with_reducible refine Kp.alloc ?_ _|with_reducible refine Kp.drew ?_|with_reducible refine Kp.drewN ?_ _|with_reducible refine Kp.setCell ?_ (fun h=>absurd h (by simp<;>omega)) _|with_reducible refine Kp.trans ?_ (by with_reducible assumption)|exact Kp.refl _ _|assumption|refine Kp.alloc ?_ _|refine Kp.drew ?_|refine Kp.drewN ?_ _|(refine Kp.setCell ?_ (fun h=>absurd h (by simp;done)) _)|(refine Kp.setCell ?_ (fun h=>absurd h (by simp;omega)) _)|refine Kp.trans ?_ (by assumption)))
 have HC:=Zy (wy keeper name dst x I cs w0 (hx.up bH));have aZ:=Zy bH;have bZ:=Zy bB;obtain⟨B,hB⟩:∃B,M.fK keeper name dst x=B:=⟨_,rfl⟩;rw[hB]at HC;have HK:Zz (B=true→0≤keeper∧keeper≤2∧M.aB name=true):=Zy (fun e=>by
  rw[e]at hB;unfold M.fK at hB;simp only[Bool.and_eq_true,decide_eq_true_eq]at hB;exact⟨hB.1.1,hB.1.2,hB.2.1⟩)
 clear hB bH bB;obtain⟨a1,m1,a2,m2,rfl⟩:=hx.form;clear hx;simp only[List.append_toArray,List.cons_append,List.nil_append]at HC bZ ⊢;have HB:Zz (az w0 w.heap.size 28 #[.int .i64 1,.int .i64 keeper,.string name,.int .i64 dst,.string x.name,.string x.av,.slice a1 x.fields.length m1,.slice a2 x.methods.length m2]):=Zy (by rw[bZ.o];exact az.new _ _ _);have HV:=Zy (hv.ext aZ.o);clear hv;go_enter Tryz.func8,Tryz.ntmps8;go_wp2_with fail;rw[←bZ.o];refine HC.o.mono ?_;rintro e w1 ⟨rfl,aQ⟩;have gJ:=Zy (HB.o.ext aQ);have bM:=Zy (aZ.o.trans aQ);have IX:=Zy (HV.o.ext aQ);clear aQ;cases B
 · go_wp2_with fail;go_ret;exact⟨rfl,bM.o⟩
 obtain⟨g0,g2,gn⟩:=HK.o rfl;have JR:=iH gn;clear gn;have Au:=fun W (h:dK W)=>Zy (ry keeper g0 g2 W h);obtain⟨T,f,fZ,HT⟩:=jS.ex (fun W'=>Ext w1 W') w1 (Kp.refl _ _);have r1:=fun z=>(gJ.o.ext (HT.aK z)).c 1 (.int .i64 keeper) rfl;have r2:=fun z=>(gJ.o.ext (HT.aK z)).c 2 (.string name) rfl;have ay:=Zy HT;clear HT;go_wp2_with fail;(refine ji ay 7 [([0,1,4,5],2)] [3,6] ?_ ?_)
 · exact(Kp.refl _ _).drew
 (refine dR [_,_,_,_] rfl rfl fun K hK=>?_);(repeat (go_big_quiet_step (fail)));(refine qn hK fun K2 au=>?_);clear hK K;go_wp2_with fail;refine(Au _ (IX.o.ext ((Kp.refl _ _).drew))).o.mono ?_;rintro e w2 ⟨rfl,dm⟩;have bX:Zz (Ext w1 w2):=Zy (((Kp.refl _ _).drew:Ext w1 w1.drew).trans dm);clear dm;have yD:=fI keeper;go_wp2_with fail;(refine kk ay au bX.o ?_);clear au K2;(refine qC [_,_] rfl fun K hK=>?_);(repeat (go_big_quiet_step (fail)));(refine qn hK ?_);clear hK K;have c0:=(gJ.o.ext bX.o).c 0 (.int .i64 1) rfl;have cz:=(gJ.o.ext bX.o).lt;have mi:=Zy (bM.o.trans bX.o);clear r1 r2 ay;go_wp2_with fail;go_ret;exact⟨rfl,mi.o⟩
theorem oI(keeper:Int)(name:ByteArray)(dst:Int)(x:M.Class)(I:Nat→Prop)(cs:List Value)(w:World)(hx:ai w I x cs):
    Calls Tryz.prog 12 #[.agg (#[.int .i64 1,.int .i64 keeper,.string name,.int .i64 dst]++cs.toArray)] w fun e w'=>e=.returned (.bool (M.fK keeper name dst x))∧Ext w w':=by
 obtain⟨a1,m1,a2,m2,rfl⟩:=hx.form;simp only[List.append_toArray,List.cons_append,List.nil_append];obtain⟨w0,bB,bH,hb⟩:=nu w #[.int .i64 1,.int .i64 keeper,.string name,.int .i64 dst,.string x.name,.string x.av,.slice a1 x.fields.length m1,.slice a2 x.methods.length m2] 28;have aZ:=Zy bH;have HB:=Zy hb;have bZ:=Zy bB;have HX:=Zy (hx.up bH);clear bH hb bB hx;have c0:=HB.o.c 0 (.int .i64 1) rfl;have c1':=HB.o.c 1 (.int .i64 keeper) rfl;have c2':=HB.o.c 2 (.string name) rfl;have c3:=HB.o.c 3 (.int .i64 dst) rfl;have c4:=HB.o.c 4 (.string x.name) rfl;have c5:=HB.o.c 5 (.string x.av) rfl;have c6:=HB.o.c 6 (.slice a1 x.fields.length m1) rfl;have c7:=HB.o.c 7 (.slice a2 x.methods.length m2) rfl;have cz:=HB.o.lt;obtain⟨B,hB⟩:∃B,M.fK keeper name dst x=B:=⟨_,rfl⟩;unfold M.fK at hB ⊢;have HR:=Zy hB;clear hB;have mI:=fun W=>Zy (dO keeper 0 2 W);have ik:=fun W=>Zy (aJ name W);have yG:=Zy (tX w0 I _ x HX.o);cases h1:(decide (0≤keeper)&&decide (keeper≤2))
 · simp only[h1]at mI;go_enter Tryz.func12,Tryz.ntmps12;go_wp2_with fail;rw[←bZ.o];refine(mI w0).o.mono ?_;rintro e w1 ⟨rfl,rfl⟩;go_wp2_with fail;go_ret;exact⟨rfl,aZ.o⟩
 simp only[h1]at mI;cases h3:M.aB name
 · simp only[h3]at ik;go_enter Tryz.func12,Tryz.ntmps12;go_wp2_with fail;rw[←bZ.o];refine(mI w0).o.mono ?_;rintro e w1 ⟨rfl,rfl⟩;go_wp2_with fail;refine(ik w0).o.mono ?_;rintro e w1 ⟨rfl,rfl⟩;go_wp2_with fail;go_ret;exact⟨rfl,aZ.o⟩
 simp only[h3]at ik;cases h4:(dst==0)
 · go_enter Tryz.func12,Tryz.ntmps12;go_wp2_with fail;rw[←bZ.o];refine(mI w0).o.mono ?_;rintro e w1 ⟨rfl,rfl⟩;go_wp2_with fail;refine(ik w0).o.mono ?_;rintro e w1 ⟨rfl,rfl⟩;go_wp2_with fail;go_ret;exact⟨rfl,aZ.o⟩
 cases h5:M.eY x
 · simp only[h5]at yG;go_enter Tryz.func12,Tryz.ntmps12;go_wp2_with fail;rw[←bZ.o];refine(mI w0).o.mono ?_;rintro e w1 ⟨rfl,rfl⟩;go_wp2_with fail;refine(ik w0).o.mono ?_;rintro e w1 ⟨rfl,rfl⟩;go_wp2_with fail;refine yG.o.mono ?_;rintro e w1 ⟨rfl,aQ⟩;go_wp2_with fail;go_ret;exact⟨rfl,aZ.o.trans aQ⟩
 simp only[h5]at yG;cases h6:(x.name.toList==name.toList)
 · go_enter Tryz.func12,Tryz.ntmps12;go_wp2_with fail;rw[←bZ.o];refine(mI w0).o.mono ?_;rintro e w1 ⟨rfl,rfl⟩;go_wp2_with fail;refine(ik w0).o.mono ?_;rintro e w1 ⟨rfl,rfl⟩;go_wp2_with fail;refine yG.o.mono ?_;rintro e w1 ⟨rfl,aQ⟩;have bf:=HB.o.ext aQ;have d2:=bf.c 2 (.string name) rfl;have d4:=bf.c 4 (.string x.name) rfl;have dz:=bf.lt;have bM:=Zy (aZ.o.trans aQ);clear bf aQ;go_wp2_with fail;go_ret;exact⟨rfl,bM.o⟩
 · go_enter Tryz.func12,Tryz.ntmps12;go_wp2_with fail;rw[←bZ.o];refine(mI w0).o.mono ?_;rintro e w1 ⟨rfl,rfl⟩;go_wp2_with fail;refine(ik w0).o.mono ?_;rintro e w1 ⟨rfl,rfl⟩;go_wp2_with fail;refine yG.o.mono ?_;rintro e w1 ⟨rfl,aQ⟩;have bf:=HB.o.ext aQ;have d2:=bf.c 2 (.string name) rfl;have d4:=bf.c 4 (.string x.name) rfl;have dz:=bf.lt;have bM:=Zy (aZ.o.trans aQ);clear bf aQ;go_wp2_with fail;go_ret;exact⟨rfl,bM.o⟩
theorem kS(keeper:Int)(name:ByteArray)(dst:Int)(x:M.Class)(I:Nat→Prop)(cs:List Value)(w:World)(hx:ai w I x cs):
    Calls Tryz.prog 9 #[.agg (#[.int .i64 1,.int .i64 keeper,.string name,.int .i64 dst]++cs.toArray)] w fun e w'=>e=.returned (.string (M.bs []))∧Ext w w':=by
 obtain⟨w0,bB⟩:∃w0,w0=w.alloc (.cells (#[.int .i64 1,.int .i64 keeper,.string name,.int .i64 dst]++cs.toArray) 28):=⟨_,rfl⟩;have bH:Ext w w0:=by rw[bB];exact(by repeat (first|with_reducible exact Kp.refl _ _|with_reducible assumption|with_reducible refine Kp.alloc ?_ _|with_reducible refine Kp.drew ?_|with_reducible refine Kp.drewN ?_ _|with_reducible refine Kp.setCell ?_ (fun h=>absurd h (by simp<;>omega)) _|with_reducible refine Kp.trans ?_ (by with_reducible assumption)|exact Kp.refl _ _|assumption|refine Kp.alloc ?_ _|refine Kp.drew ?_|refine Kp.drewN ?_ _|(refine Kp.setCell ?_ (fun h=>absurd h (by simp;done)) _)|(refine Kp.setCell ?_ (fun h=>absurd h (by simp;omega)) _)|refine Kp.trans ?_ (by assumption)))
 have HC:=Zy (oI keeper name dst x I cs w0 (hx.up bH));have aZ:=Zy bH;have bZ:=Zy bB;obtain⟨B,hB⟩:∃B,M.fK keeper name dst x=B:=⟨_,rfl⟩;rw[hB]at HC;have HK:Zz (B=true→0≤keeper∧keeper≤2∧M.aB name=true):=Zy (fun e=>by
  rw[e]at hB;unfold M.fK at hB;simp only[Bool.and_eq_true,decide_eq_true_eq]at hB;exact⟨hB.1.1,hB.1.2,hB.2.1⟩)
 clear hB bH bB;obtain⟨a1,m1,a2,m2,rfl⟩:=hx.form;clear hx;simp only[List.append_toArray,List.cons_append,List.nil_append]at HC bZ ⊢;have HB:Zz (az w0 w.heap.size 28 #[.int .i64 1,.int .i64 keeper,.string name,.int .i64 dst,.string x.name,.string x.av,.slice a1 x.fields.length m1,.slice a2 x.methods.length m2]):=Zy (by rw[bZ.o];exact az.new _ _ _);go_enter Tryz.func9,Tryz.ntmps9;go_wp2_with fail;rw[←bZ.o];refine HC.o.mono ?_;rintro e w1 ⟨rfl,aQ⟩;have gJ:=Zy (HB.o.ext aQ);have bM:=Zy (aZ.o.trans aQ);clear aQ;cases B
 · go_wp2_with fail;go_ret;exact⟨rfl,bM.o⟩
 obtain⟨g0,g2,gn⟩:=HK.o rfl;have JR:=iH gn;clear gn;have Au:=fun W=>Zy (jI keeper W (by omega) (by omega));obtain⟨T,f,fZ,HT⟩:=jS.ex (fun W'=>Ext w1 W') w1 (Kp.refl _ _);have r1:=fun z=>(gJ.o.ext (HT.aK z)).c 1 (.int .i64 keeper) rfl;have r2:=fun z=>(gJ.o.ext (HT.aK z)).c 2 (.string name) rfl;have ay:=Zy HT;clear HT;go_wp2_with fail;(refine ji ay 8 [([0,1,5,6],2)] [3,4,7] ?_ ?_)
 · exact(Kp.refl _ _).drew
 (refine dR [_,_,_,_] rfl rfl fun K hK=>?_);(repeat (go_big_quiet_step (fail)));(refine qn hK fun K2 au=>?_);clear hK K;go_wp2_with fail;refine(Au _).o.mono ?_;rintro e w2 ⟨⟨t,rfl,ht, -⟩,dm⟩;obtain rfl:=ht g0 g2;have bX:Zz (Ext w1 w2):=Zy (((Kp.refl _ _).drew:Ext w1 w1.drew).trans dm);clear dm ht;have yD:=fI keeper;go_wp2_with fail;(refine kk ay au bX.o ?_);clear au K2;(refine qC [_,_,_] rfl fun K hK=>?_);(repeat (go_big_quiet_step (fail)));(refine qn hK ?_);clear hK K;have c0:=(gJ.o.ext bX.o).c 0 (.int .i64 1) rfl;have cz:=(gJ.o.ext bX.o).lt;have mi:=Zy (bM.o.trans bX.o);clear r1 r2 ay;go_wp2_with fail;go_ret;exact⟨rfl,mi.o⟩
def aV{α:Type}(R:dD α)(w:World)(I:Nat→Prop):List α→List (List Value)→Prop
 |[],[]=>True
 |x::xs,c::cs=>R w I x c∧aV R w I xs cs
 |_,_=>False
theorem aV.get{α:Type}{R:dD α}{w:World}{I:Nat→Prop}:∀{xs:List α} {css:List (List Value)},aV R w I xs css→∀(i:Nat) (x:α),xs[i]?=some x→∃c,css[i]?=some c∧R w I x c
 |[],[],_,i,x,h=>by simp at h
 |y::xs,c::cs,h,0,x,hx=>by
  simp at hx;subst hx;exact⟨c,rfl,h.1⟩
 |y::xs,c::cs,h,i+1,x,hx=>by
  obtain⟨c',h1,h2⟩:=aV.get h.2 i x (by simpa using hx);exact⟨c',by simpa using h1,h2⟩
 |[],_::_,h,_,_,_=>h.elim
 |_::_,[],h,_,_,_=>h.elim
theorem nH{k:Nat}:∀{css:List (List Value)},(∀c∈css,c.length=k)→∀(i:Nat) (c:List Value),css[i]?=some c→∀(j:Nat) (u:Value),c[j]?=some u→css.flatten[i*k+j]?=some u
 |[],_,i,c,h,_,_,_=>by simp at h
 |d::r,hk,0,c,h,j,u,hu=>by
  simp at h;subst h;rw[List.flatten_cons,List.getElem?_append_left (by have:=(List.getElem?_eq_some_iff.1 hu).1;omega)];simpa using hu
 |d::r,hk,i+1,c,h,j,u,hu=>by
  have hd:=hk d (by simp);rw[List.flatten_cons,List.getElem?_append_right (by rw[hd,Nat.succ_mul];omega)];have:=nH (fun c hc=>hk c (List.mem_cons_of_mem _ hc)) i c (by simpa using h) j u hu;rw[hd,show(i+1)*k+j - k=i*k+j by rw[Nat.succ_mul];omega];exact this
theorem SliceOf.row{α:Type}{k:Nat}{R:dD α}{w:World}{I:Nat→Prop}{g:Nat}{xs:List α}(css:List (List Value)){cells:List Value}(hc:af w g 0 cells)(he:cells=css.flatten)(hk:∀c∈css,c.length=k)
    (hR:aV R w I xs css) (hI:I g) {cap:Nat} (bK:xs.length≤cap) (hn:xs.length≤4294967296):SliceOf k R w I (.slice (some ⟨g,0,none⟩) xs.length cap) xs:=
 ⟨_,cap,rfl,bK,hn,fun i x hx=>by
  obtain⟨c,LC,hr⟩:=hR.get i x hx;refine⟨g,0,c,rfl,hI,hr,hk c (List.mem_of_getElem? LC),fun j u hj=>?_⟩;have:=hc _ _ (by rw[he];exact nH hk i c LC j u hj);simpa [Nat.add_assoc]using this⟩
theorem SliceOf.css{α:Type}{k:Nat}{R:dD α}{w:World}{I:Nat→Prop}{v:Value}:∀{xs:List α},SliceOf k R w I v xs→∃css:List (List Value),css.length=xs.length∧(∀c∈css,c.length=k)∧aV R w I xs css∧
    ∀(ad:Addr) (n c:Nat),v=.slice (some ad) n c→∀(i:Nat) (c:List Value),css[i]?=some c→∃b off,ad=⟨b,off,none⟩∧I b∧af w b (off+i*k) c:=by
 intro xs h;obtain⟨a,cap,rfl,h1,h2,h3⟩:=h;have main:∀(ys:List α) (s:Nat),(∀(i:Nat) (x:α),ys[i]?=some x→∃b off cs,a=some ⟨b,off,none⟩∧I b∧R w I x cs∧cs.length=k∧af w b (off+(s+i)*k) cs)→
     ∃css:List (List Value),css.length=ys.length∧(∀c∈css,c.length=k)∧aV R w I ys css∧∀(i:Nat) (c:List Value),css[i]?=some c→∃b off,a=some ⟨b,off,none⟩∧I b∧af w b (off+(s+i)*k) c:=by
  intro ys;induction ys with
  |nil=>exact fun s _=>⟨[],rfl,by simp,trivial,fun i c h=>by simp at h⟩
  | cons y r ih =>
   intro s h;obtain⟨css,e1,e2,e3,e4⟩:=ih (s+1) (fun i x hx=>by
    obtain⟨b,off,cs,ea,hI,hr,hl,hc⟩:=h (i+1) x (by simpa using hx);exact⟨b,off,cs,ea,hI,hr,hl,by rw[show s+1+i=s+(i+1) by omega];exact hc⟩)
   obtain⟨b,off,cs,ea,hI,hr,hl,hc⟩:=h 0 y rfl;refine⟨cs::css,by simp[e1],fun c Jz=>(List.mem_cons.1 Jz).elim (fun e=>by rw[e];exact hl) (e2 c),⟨hr,e3⟩,fun i c hi=>?_⟩;cases i with
   |zero=>simp at hi;subst hi;exact⟨b,off,ea,hI,hc⟩
   |succ i=>
    obtain⟨b',off',Ny,NH,Jz⟩:=e4 i c (by simpa using hi);exact⟨b',off',Ny,NH,by rw[show s+(i+1)=s+1+i by omega];exact Jz⟩
 obtain⟨css,e1,e2,e3,e4⟩:=main xs 0 (fun i x hx=>by simpa using h3 i x hx);refine⟨css,e1,e2,e3,fun ad n c hv i d hd=>?_⟩;cases hv;obtain⟨b,off,ea,hI,hc⟩:=e4 i d hd;cases ea;exact⟨b,off,rfl,hI,by simpa using hc⟩
theorem aV.snoc{α:Type}{R:dD α}{w:World}{I:Nat→Prop}{x:α}{c:List Value}:∀{xs:List α} {css:List (List Value)},aV R w I xs css→R w I x c→aV R w I (xs++[x]) (css++[c])
 |[],[],_,h=>⟨h,trivial⟩
 |_::_,_::_,h,hx=>⟨h.1,aV.snoc h.2 hx⟩
 |[],_::_,h,_=>h.elim
 |_::_,[],h,_=>h.elim
theorem aV.keep{α:Type}{R:dD α}(hR:eU R){w w':World}{I J:Nat→Prop}(hs:Same I w w')(AB:∀b,I b→J b):∀{xs:List α} {css:List (List Value)},aV R w I xs css→aV R w' J xs css
 |[],[],_=>trivial
 |_::_,_::_,h=>⟨hR _ _ _ _ _ _ hs AB h.1,aV.keep hR hs AB h.2⟩
 |[],_::_,h=>h.elim
 |_::_,[],h=>h.elim
theorem SliceOf.inside{α:Type}{k:Nat}{R:dD α}(hR:∀w I x cs,R w I x cs→R w (fun b=>I b∧b<w.heap.size) x cs)(hk:0<k){w:World}{I:Nat→Prop}{v:Value}{xs:List α}(h:SliceOf k R w I v xs):SliceOf k R w (fun b=>I b∧b<w.heap.size) v xs:=by
 obtain⟨a,cap,e,h1,h2,h3⟩:=h;refine⟨a,cap,e,h1,h2,fun i x hx=>?_⟩;obtain⟨b,off,cs,ea,hI,hr,hl,hc⟩:=h3 i x hx;have dI:b<w.heap.size:=by
  cases cs with
  |nil=>simp at hl;omega
  |cons u r=>exact ax (hc 0 u rfl)
 exact⟨b,off,cs,ea,⟨hI,dI⟩,hR _ _ _ _ hr,hl,hc⟩
theorem nD{k:Nat}:∀{css:List (List Value)},(∀c∈css,c.length=k)→css.flatten.length=css.length*k
 |[],_=>by simp
 |c::r,h=>by
  rw[List.flatten_cons,List.length_append,nD (fun c hc=>h c (List.mem_cons_of_mem _ hc)),h c (by simp),List.length_cons,Nat.succ_mul];omega
theorem qh{k:Nat}(hk:0<k):∀{css:List (List Value)},(∀c∈css,c.length=k)→∀j u,css.flatten[j]?=some u→∃i r c,css[i]?=some c∧c[r]?=some u∧j=i*k+r
 |[],_,j,u,h=>by simp at h
 |c::t,h,j,u,hu=>by
  have hc:=h c (by simp);rw[List.flatten_cons]at hu;rcases Nat.lt_or_ge j c.length with hj|hj
  · rw[List.getElem?_append_left hj]at hu;exact⟨0,j,c,rfl,hu,by omega⟩
  · rw[List.getElem?_append_right hj]at hu;obtain⟨i,r,d,h1,h2,h3⟩:=qh hk (fun c hc=>h c (List.mem_cons_of_mem _ hc)) _ _ hu;exact⟨i+1,r,d,by simpa using h1,h2,by rw[Nat.succ_mul];omega⟩
def One{α:Type}(R:dD α):Prop:=∀w I x cs,R w I x cs→∀u∈cs,u.oneCell'=true
theorem One.ins:One jf:=fun _ _ _ _ h u hu=>by subst h;simp at hu;rcases hu with rfl|rfl|rfl|rfl<;>rfl
theorem One.ask:One eH:=fun _ _ _ _ h u hu=>by subst h;simp at hu;rcases hu with rfl|rfl<;>rfl
theorem One.field:One bD:=fun _ _ _ _ h u hu=>by subst h;simp at hu;rcases hu with rfl|rfl|rfl<;>rfl
theorem One.smap:One dE:=fun _ _ _ _ h u hu=>by obtain⟨_,_,_,_,rfl⟩:=h.form;simp at hu;rcases hu with rfl|rfl|rfl<;>rfl
theorem One.Gt:One aC:=fun _ _ _ _ h u hu=>by obtain⟨_,_,_,_,_,_,rfl⟩:=h.form;simp at hu;rcases hu with rfl|rfl|rfl|rfl|rfl|rfl|rfl|rfl<;>rfl
theorem One.cls:One ai:=fun _ _ _ _ h u hu=>by obtain⟨_,_,_,_,rfl⟩:=h.form;simp at hu;rcases hu with rfl|rfl|rfl|rfl<;>rfl
theorem One.keep:One aA:=fun _ _ _ _ h u hu=>by obtain⟨_,_,_,_,rfl⟩:=h.form;simp at hu;rcases hu with rfl|rfl<;>rfl
theorem aV.one{α:Type}{R:dD α}(o:One R){w:World}{I:Nat→Prop}:∀{xs:List α} {css:List (List Value)},aV R w I xs css→∀u∈css.flatten,u.oneCell'=true
 |[],[],_=>by simp
 |_::_,c::css,h=>by
  intro u hu;rw[List.flatten_cons,List.mem_append]at hu;rcases hu with hu|hu
  · exact o _ _ _ _ h.1 u hu
  · exact aV.one o h.2 u hu
 |[],_::_,h=>h.elim
 |_::_,[],h=>h.elim
theorem aV.len{α:Type}{R:dD α}{w:World}{I:Nat→Prop}:∀{xs:List α} {css:List (List Value)},aV R w I xs css→css.length=xs.length
 |[],[],_=>rfl
 |_::_,_::_,h=>by rw[List.length_cons,List.length_cons,aV.len h.2]
 |[],_::_,h=>h.elim
 |_::_,[],h=>h.elim
theorem SliceOf.cells{α:Type}{k:Nat}{R:dD α}(o:One R)(hk:0<k){w:World}{I:Nat→Prop}{a:Option Addr}{n c:Nat}{xs:List α}(h:SliceOf k R w I (.slice a n c) xs):
    ∃css,(∀c∈css,c.length=k)∧aV R w I xs css∧Flat w k (.slice a n c) n css.flatten:=by
 obtain⟨css,h1,h2,h3,h4⟩:=h.css;have hh:=h;obtain⟨a',cap,e, -, -,h5⟩:=hh;cases e;refine⟨css,h2,h3,by rw[nD h2,h1],⟨_,_,rfl,fun e=>?_,fun Ns e j u hu=>?_⟩,h3.one o⟩
 · cases xs with
   |nil=>rfl
   |cons x r=>obtain⟨_,_,_,e2,_⟩:=h5 0 x rfl;rw[e]at e2;cases e2
 · subst e;obtain⟨i,r,d,e1,e2,rfl⟩:=qh hk h2 j u hu;obtain⟨b,off,rfl, -,hc⟩:=h4 Ns _ _ rfl i d e1;have:=hc r u e2;unfold Addr.add;split
   · rename_i h0;have e3:i*k=0:=by omega
     have e4:r=0:=by omega
     rw[e3,e4]at this;exact this
   · simpa [Nat.add_assoc]using this
theorem aV.at_{α:Type}{R:dD α}{w:World}{I:Nat→Prop}{xs:List α}{css:List (List Value)}(h:aV R w I xs css){J:Nat→Prop}{w':World}(hR:eU R)(hs:Same I w w')(AB:∀b,I b→J b):aV R w' J xs css:=h.keep hR hs AB
theorem SliceOf.owned{α:Type}{k:Nat}{R:dD α}{w:World}{I:Nat→Prop}{base e n:Nat}{v:Value}{css:List (List Value)}{xs:List α}(jg:w.ownsRow base e k v n css.flatten)(hk:∀c∈css,c.length=k)(En:0<k)
    (hR:aV R w I xs css) (hI:∀b,base≤b→b<w.heap.size→I b) (hlen:xs.length≤4294967296):SliceOf k R w I v xs:=by
 have hn:n=xs.length:=by
  have:=jg.1;rw[nD hk,hR.len]at this;exact(Nat.eq_of_mul_eq_mul_right En this).symm
 subst hn;rcases jg.2 with⟨rfl,h0⟩|⟨g,cap,cur,rfl,hg,hb,hle,_,gL,J3⟩
 · have:xs=[]:=List.length_eq_zero_iff.1 h0;subst this;exact SliceOf.nil _ _ _ _
 · refine SliceOf.row css (g:=g) (cells:=css.flatten) (fun j u hj=>?_) rfl hk hR (hI g hg (Array.getElem?_eq_some_iff.1 hb).1) hle hlen;rw[←J3,List.getElem?_take]at hj;split at hj
   · simp only[World.cell?,hb];simpa [Nat.zero_add]using hj
   · cases hj
theorem kU{t e k:Nat}(E:Elem t e k)(w:World){ops:Array Oper}{rest:List Oper}{o:Oper}{a:Act}{Q:Exit→Act→World→Prop}(Cu:o.guard=none)(s x:Operand)
    (ho:o.op=.call {callee:=.builtin .append,args:=#[s,x],argTypes:=#[t,t]}) {base n c:Nat} {v:Value} {xs:List Value} (hs:a.eval s=v) (jg:w.ownsRow base e k v n xs) (hx:a.eval x=.slice none 0 c)
    (h:wpList Tryz.prog ops Q rest (a.put o.dst v) w):wpList Tryz.prog ops Q (o::rest) a w:=by
 obtain⟨i,z,bytes,ht,hi,hz,gL,Hj,Hu,hk,hb⟩:=E;refine wpList_plain Cu fun K hK=>?_;have hr:(Builtin.append_ #[t,t] o.type #[v,.slice none 0 c]).run Tryz.prog w=.ok v w:=by
  rcases jg.2 with⟨rfl,rfl⟩|⟨g,cap,cur,rfl,hg,Hh,hle,_⟩
  · simp[Builtin.append_,underlying,ht,sizeOf,typeInfo,hi,Sem.run_bind,Builtin.lenOf,Builtin.firstCells]
  · simp[Builtin.append_,underlying,ht,sizeOf,typeInfo,hi,Sem.run_bind,Builtin.lenOf,Builtin.firstCells,hle,storeCells]
 unfold Oper.wp execOp;simp only[ho,resolve,invoke,builtin,Sem.run_bind,Sem.run_pure,Result.andThen_ok,List.map_toArray,List.map_cons,List.map_nil,hs,hx,hr];exact hK _ _ h
theorem ak{t e k:Nat}(E:Elem t e k)(w:World){ops:Array Oper}{rest:List Oper}{o:Oper}{a:Act}{Q:Exit→Act→World→Prop}(Cu:o.guard=none)(s x:Operand)
    (ho:o.op=.call {callee:=.builtin .append,args:=#[s,x],argTypes:=#[t,t]}) (base:Nat) (v:Value) (n:Nat) (xs:List Value) (hs:a.eval s=v) (jg:w.ownsRow base e k v n xs)
    (ad:Option Addr) (m c:Nat) (news:List Value) (hx:a.eval x=.slice ad m c) (hf:Flat w k (.slice ad m c) m news)
    (hn:n+m≤8589934592) (iC:base≤w.heap.size)
    (h:∀v' w',w'.ownsRow base e k v' (n+m) (xs++news)→Kp (fun b=>v.ownBlock=some b) w w'→wpList Tryz.prog ops Q rest (a.put o.dst v') w'):
    wpList Tryz.prog ops Q (o::rest) a w:=by
 cases ad with
 |some ad=>exact kD E w Cu s x ho base v n xs hs jg ad m c news hx hf hn iC h
 |none=>
  obtain⟨f1,⟨a1,c1,e1,f2, -⟩, -⟩:=hf;cases e1;have hm:=f2 rfl;subst hm;have JP:news=[]:=List.length_eq_zero_iff.1 (by rw[f1,Nat.zero_mul]);subst JP;refine kU E w Cu s x ho hs jg hx (h v w (by simpa using jg) (Kp.refl _ _))
end Go.Proofs.YtmcmhalhieejaaaGreatDoor
namespace Go.Proofs.YtmcmhalhieejaaaGreatDoor
open Go Go.RowKit
inductive MT where
 |fin (q:List Nat)
 |one (q:List Nat) (i:Nat) (t:MT)
 |two (q:List Nat) (i j:Nat) (ti tj:MT)
def MT.cost:MT→Nat
 | .fin q=>q.length
 | .one q _ t=>q.length+1+t.cost
 | .two q _ _ ti _=>q.length+1+ti.cost
def MT.ok(md:Region.Mode)(ops:Array Oper)(n:Nat):MT→Array Bool→Bool
 | .fin q,listed=>match BF md ops n q listed with
  |some L=>Region.seqB md ops (ops.size - n) n L
  |none=>false
 | .one q i t,listed=>match BF md ops n q listed with
  |some L=>decide (Region.ready md ops L=[i])&&decide (i<n)&&t.ok md ops n (L.setIfInBounds i true)
  |none=>false
 | .two q i j ti tj,listed=>match BF md ops n q listed with
  |some L=>decide (Region.ready md ops L=[i,j])&&decide (i<n)&&decide (j<n)&&decide (tj.cost=ti.cost)&&ti.ok md ops n (L.setIfInBounds i true)&&tj.ok md ops n (L.setIfInBounds j true)
  |none=>false
def zk(ops:Array Oper)(n:Nat)(t:MT):Bool:=
 Region.noSelect ops&&l9 .any ops n&&decide (t.cost=n)&&decide (n≤ops.size)&&t.ok .any ops n (Array.replicate ops.size false)
def mU(P:Program)(l:List Oper)(C:World→Prop)(Q:Exit→Act→World→Prop)(fin:Act→World→Prop):MT→Act→World→Prop
 | .fin q,a,w=>wpQuiet P l.toArray C (fun a'=>fin a' w) (q.filterMap (l[·]?)) a
 | .one q i t,a,w=>wpQuiet P l.toArray C (fun a'=>wpList P l.toArray (Exit.then (fun a'' w'=>C w'∧mU P l C Q fin t a'' w') Q) (l[i]?).toList a' w) (q.filterMap (l[·]?)) a
 | .two q i j ti tj,a,w=>wpQuiet P l.toArray C (fun a'=>wpList P l.toArray (Exit.then (fun a'' w'=>C w'∧mU P l C Q fin ti a'' w') Q) (l[i]?).toList a' w∧wpList P l.toArray (Exit.then (fun a'' w'=>C w'∧mU P l C Q fin tj a'' w') Q) (l[j]?).toList a' w) (q.filterMap (l[·]?)) a
section
variable {P:Program} {ops:Array Oper} {md:Region.Mode} {Q:Exit→Act→World→Prop} {C:World→Prop} {n:Nat}
theorem jQ{l:List Oper}{L:Array Bool}{j:Nat}{a:Act}{w:World}{K K':Act→World→Prop}(hr:j∈Region.ready md l.toArray L)
    (hk:wpList P l.toArray (Exit.then K Q) (l[j]?).toList a w) (step:∀a'' w',K a'' w'→K' a'' w'):wpOp P l.toArray Q j K' a w:=by
 cases uX:l[j]? with
 |none=>
  exfalso;obtain⟨_,o,ho,_⟩:=mem_ready.1 hr;simp[uX]at ho
 |some o=>
  rw[uX]at hk;simp only[Option.toList,wpList]at hk;unfold wpOp;have xA:l.toArray[j]?=some o:=by simpa using uX
  simp only[xA];split
  · rename_i hw;rw[if_pos hw]at hk;rcases hk with hk|hk
    · left;exact Oper.wp_mono (fun a'' w' h'=>step a'' w' h') (wR hk)
    · right;exact hk
  · rename_i hw;rw[if_neg hw]at hk;exact step _ _ hk
theorem iY{l:List Oper}(hs:Region.noSelect l.toArray=true)(ht:l9 md l.toArray n=true)(hQ:∀c a d v w,Q (.panic c) (a.put d v) w→Q (.panic c) a w)(hn:n≤l.length):∀(t:MT) (listed:Array Bool) (a:Act) (w:World),C w→
    t.ok md l.toArray n listed=true→mU P l C Q (fun a' w'=>wpList P l.toArray Q (l.drop n) a' w') t a w→gZ P md l.toArray n C Q ((l.length - n)+t.cost) listed a w
 | .fin q',listed,a,w,hC,hB,h=>by
  unfold MT.ok at hB;split at hB
  · rename_i L hL;refine fq hs ht hQ hC _ L (fun a' hk=>?_) q' listed a hL h;have:=iX (md:=md) (C:=C) (l:=l) (l.drop n) n L a' w (Nat.le_refl _) (fun j=>by simp[List.getElem?_drop]) (by simpa using hB) hk;simpa using this
  · cases hB
 | .one q i t,listed,a,w,hC,hB,h=>by
  unfold MT.ok at hB;split at hB
  · rename_i L hL;simp only[Bool.and_eq_true,decide_eq_true_eq]at hB;obtain⟨⟨hr,xx⟩,hB⟩:=hB;have e:l.length - n+(MT.one q i t).cost=((l.length - n+t.cost)+1)+q.length:=by simp[MT.cost];omega
    rw[e];refine fq hs ht hQ hC _ L (fun a' hk=>?_) q listed a hL h;refine⟨fun h1=>(by rw[hr]at h1;cases h1),fun j hj=>?_⟩;have yB:j=i:=by rw[hr]at hj;simpa using hj
    subst yB;exact jQ hj hk fun a'' w' h3=>⟨fun _=>h3.1,iY hs ht hQ hn t _ a'' w' h3.1 hB h3.2⟩
  · cases hB
 | .two q i j ti tj,listed,a,w,hC,hB,h=>by
  unfold MT.ok at hB;split at hB
  · rename_i L hL;simp only[Bool.and_eq_true,decide_eq_true_eq]at hB;obtain⟨⟨⟨⟨⟨hr,xx⟩,DR⟩,hc⟩,NF⟩,fe⟩:=hB;have e:l.length - n+(MT.two q i j ti tj).cost=((l.length - n+ti.cost)+1)+q.length:=by simp[MT.cost];omega
    rw[e];refine fq hs ht hQ hC _ L (fun a' hk=>?_) q listed a hL h;refine⟨fun h1=>(by rw[hr]at h1;cases h1),fun x hx=>?_⟩;have Oo:x=i∨x=j:=by rw[hr]at hx;simpa using hx
    rcases Oo with rfl|rfl
    · exact jQ hx hk.1 fun a'' w' h3=>⟨fun _=>h3.1,iY hs ht hQ hn ti _ a'' w' h3.1 NF h3.2⟩
    · rw[←hc];exact jQ hx hk.2 fun a'' w' h3=>⟨fun _=>h3.1,iY hs ht hQ hn tj _ a'' w' h3.1 fe h3.2⟩
  · cases hB
end
section
variable {P:Program} {l:List Oper} {C:World→Prop} {Q:Exit→Act→World→Prop} {fin:Act→World→Prop} {q:List Nat} {i j:Nat} {t ti tj:MT} {a:Act} {w:World} {qs os oj:List Oper}
theorem BP(he:q.filterMap (l[·]?)=qs)(h:∀K:Act→Prop,(∀a',fin a' w→K a')→wpQuiet P l.toArray C K qs a):mU P l C Q fin (.fin q) a w:=by
 subst he;exact h _ fun _ h=>h
theorem BQ(he:q.filterMap (l[·]?)=qs)(ho:(l[i]?).toList=os)
    (h:∀K:Act→Prop,(∀a',(∀K2:Act→World→Prop,(∀a'' w',C w'→mU P l C Q fin t a'' w'→K2 a'' w')→wpList P l.toArray (Exit.then K2 Q) os a' w)→K a')→wpQuiet P l.toArray C K qs a):mU P l C Q fin (.one q i t) a w:=by
 subst he ho;refine h _ fun a' h2=>?_;exact h2 _ fun _ _ h3 h4=>⟨h3,h4⟩
theorem BR(he:q.filterMap (l[·]?)=qs)(ho:(l[i]?).toList=os)(hj:(l[j]?).toList=oj)
    (h:∀K:Act→Prop,(∀a',(∀K2:Act→World→Prop,(∀a'' w',C w'→mU P l C Q fin ti a'' w'→K2 a'' w')→wpList P l.toArray (Exit.then K2 Q) os a' w)→(∀K2:Act→World→Prop,(∀a'' w',C w'→mU P l C Q fin tj a'' w'→K2 a'' w')→wpList P l.toArray (Exit.then K2 Q) oj a' w)→K a')→wpQuiet P l.toArray C K qs a):mU P l C Q fin (.two q i j ti tj) a w:=by
 subst he ho hj;refine h _ fun a' h2 h5=>?_;exact⟨h2 _ fun _ _ h3 h4=>⟨h3,h4⟩,h5 _ fun _ _ h3 h4=>⟨h3,h4⟩⟩
end
theorem tQ{P:Program}{id:Nat}{Q:Exit→Act→World→Prop}{a:Act}{w:World}{l:List Oper}{T:Type}(f:T→World)(n:Nat)(t:MT)(h0:∃s,w.drew=f s)(hm:P.follows .mixedOrders=true)(hB:zk l.toArray n t=true)
    (hQ:∀c a d v w,Q (.panic c) (a.put d v) w→Q (.panic c) a w)
    (h:mU P l (fun w'=>∃s,w'=f s) Q (fun a' w'=>wpList P l.toArray Q (l.drop n) a' w') t a w.drew):(Code.region id l.toArray true).wp P Q a w:=by
 unfold zk at hB;simp only[Bool.and_eq_true,decide_eq_true_eq]at hB;obtain⟨⟨⟨⟨h1,h2⟩,h3⟩,h4⟩,h5⟩:=hB;refine wp_region_any hm (ja (C:=fun w'=>∃s,w'=f s) (n:=n) _ _ _ _ ?_);have:=iY (C:=fun w'=>∃s,w'=f s) (md:=.any) h1 h2 hQ (by simpa using h4) t _ a w.drew h0 h5 h;have e:l.length - n+t.cost=l.toArray.size:=by
  have:n≤l.length:=by simpa using h4
  simp;omega
 rw[e]at this;exact this
section
variable {P:Program} {l:List Oper} {C:World→Prop} {Q:Exit→Act→World→Prop} {fin:Act→World→Prop} {q:List Nat} {i j:Nat} {t ti tj:MT} {a:Act} {w:World} {o o2:Oper}
theorem D9(qs:List Oper)(he:q.filterMap (l[·]?)=qs)(ho:(l[i]?).toList=[o])(h:∀K:Act→Prop,(∀a',(∀K2:Act→World→Prop,(∀a'' w',C w'→mU P l C Q fin t a'' w'→K2 a'' w')→wpList P l.toArray (Exit.then K2 Q) [o] a' w)→K a')→wpQuiet P l.toArray C K qs a):mU P l C Q fin (.one q i t) a w:=BQ he ho h
theorem aN(ho:(l[i]?).toList=[o])(h:∀K2:Act→World→Prop,(∀a'' w',C w'→mU P l C Q fin t a'' w'→K2 a'' w')→wpList P l.toArray (Exit.then K2 Q) [o] a w):mU P l C Q fin (.one [] i t) a w:=D9 [] rfl ho fun _ hK=>qn hK h
theorem Gw(qs:List Oper)(he:q.filterMap (l[·]?)=qs)(h:∀K:Act→Prop,(∀a',fin a' w→K a')→wpQuiet P l.toArray C K qs a):mU P l C Q fin (.fin q) a w:=BP he h
theorem bL(h:fin a w):mU P l C Q fin (.fin []) a w:=Gw [] rfl fun _ hK=>qn hK h
theorem two(qs:List Oper)(he:q.filterMap (l[·]?)=qs)(ho:(l[i]?).toList=[o])(hj:(l[j]?).toList=[o2])(h:∀K:Act→Prop,(∀a',(∀K2:Act→World→Prop,(∀a'' w',C w'→mU P l C Q fin ti a'' w'→K2 a'' w')→wpList P l.toArray (Exit.then K2 Q) [o] a' w)→(∀K2:Act→World→Prop,(∀a'' w',C w'→mU P l C Q fin tj a'' w'→K2 a'' w')→wpList P l.toArray (Exit.then K2 Q) [o2] a' w)→K a')→wpQuiet P l.toArray C K qs a):mU P l C Q fin (.two q i j ti tj) a w:=BR he ho hj h
theorem uo(ho:(l[i]?).toList=[o])(hj:(l[j]?).toList=[o2])(h:(∀K2:Act→World→Prop,(∀a'' w',C w'→mU P l C Q fin ti a'' w'→K2 a'' w')→wpList P l.toArray (Exit.then K2 Q) [o] a w))(h2:(∀K2:Act→World→Prop,(∀a'' w',C w'→mU P l C Q fin tj a'' w'→K2 a'' w')→wpList P l.toArray (Exit.then K2 Q) [o2] a w)):mU P l C Q fin (.two [] i j ti tj) a w:=two [] rfl ho hj fun _ hK=>AQ hK h h2
end
theorem kQ{P:Program}{id:Nat}{Q:Exit→Act→World→Prop}{a:Act}{w:World}{l:List Oper}{C:World→Prop}{T:Type}{f:T→World}(H:Zz (jS C T f))(n:Nat)(t:MT)(h0:C w.drew)
    (h:mU P l (fun w'=>∃s,w'=f s) Q (fun a' w'=>wpList P l.toArray Q (l.drop n) a' w') t a w.drew) (hm:P.follows .mixedOrders=true:=by kernel_rfl) (hB:zk l.toArray n t=true:=by kernel_rfl)
    (hQ:∀c a d v w,Q (.panic c) (a.put d v) w→Q (.panic c) a w:=by exact fun _ _ d _ _ h=>by cases d<;>exact h):(Code.region id l.toArray true).wp P Q a w:=tQ f n t (H.o.o _ h0) hm hB hQ h
end Go.Proofs.YtmcmhalhieejaaaGreatDoor
namespace Go.Proofs.YtmcmhalhieejaaaGreatDoor
open Go Go.RowKit
theorem dH:Elem 64 26 4:=fT (z:=.agg #[.string ⟨#[]⟩,.string ⟨#[]⟩,.slice none 0 0,.slice none 0 0]) (bytes:=80) Tryz.underlying64 (by kernel_rfl) rfl (by decide) (by decide)
theorem uG:rZ 67 2:=⟨_,Tryz.underlying67,by kernel_rfl⟩
theorem az.lJ{W:World}{g:Nat}(t:TypeId)(cs:Array Value)(h:W.heap.size=g):az (W.alloc (.cells cs t)) g t cs:=by
 subst h;exact az.new W t cs
def lS{α:Type}(k:Nat)(R:dD α)(w wx:World)(J:Nat→Prop)(bx:Nat)(t:TypeId)(cells:Array Value)(fi:Nat)(zs:List α):Prop:=
 ∃v',SliceOf k R wx (fun b=>J b∨w.heap.size≤b) v' zs∧az wx bx t (cells.setIfInBounds fi v')∧Kp (·=bx) w wx
theorem aS{α:Type}{k:Nat}{R:dD α}(hR:eU R)(hk:0<k){w W:World}{J:Nat→Prop}{css:List (List Value)}{ys:List Value}{xs:List α}{y:α}{bx e g m c:Nat}{t:TypeId}{cells:Array Value}
    (hO:W.ownsRow w.heap.size e k (.slice (some ⟨g,0,none⟩) (m+1) c) (m+1) (css.flatten++ys)) (mP:∀c∈css,c.length=k) (o7:aV R w J xs css) (hy:R w J y ys) (J9:ys.length=k) (hE:Ext w W)
    (hJ:(∀b,J b→b≠bx)∧xs.length+1≤4294967296) (hX:az w bx t cells) (fi:Nat):lS k R w (W.setCell ⟨bx,fi,none⟩ (.slice (some ⟨g,0,none⟩) (m+1) c)) J bx t cells fi (xs++[y]):=by
 have hK:Kp (·=bx) W (W.setCell ⟨bx,fi,none⟩ (.slice (some ⟨g,0,none⟩) (m+1) c)):=(Kp.refl (·=bx) W).setCell (p:=⟨bx,fi,none⟩) (fun _=>rfl) _;have NP:=hX.ext hE;have hz:=hX.lt;refine⟨_,?_,NP.bn fi _,hE.any.trans hK⟩;have FD:=aD hO hK (fun q hq hb e=>by omega);have e1:css.flatten++ys=(css++[ys]).flatten:=by simp
 rw[e1]at FD;have hs:Same J w (W.setCell ⟨bx,fi,none⟩ (.slice (some ⟨g,0,none⟩) (m+1) c)):=fun b o v hb hc=>hK.gH (hE.aj hc) (hJ.1 b hb);refine SliceOf.owned FD (fun c hc=>?_) hk ((o7.keep hR hs (fun _ h=>.inl h)).snoc (hR _ _ _ _ _ _ hs (fun _ h=>.inl h) hy)) (fun b h1 h2=>.inr h1) (by simpa using hJ.2);rcases List.mem_append.1 hc with h|h
 · exact mP c h
 · simp at h;subst h;exact J9
theorem xY(w:World)(I:Nat→Prop)(hI:∀b,I b→b<w.heap.size)(q:M.eO)(ks:List Value)(hk:aA w I q ks)(x:M.Class)(cs:List Value)(hx:ai w I x cs)(iU:q.owns≠[])(hl:q.owns.length≤1000):
    Calls Tryz.prog 65 #[.agg ks.toArray,.agg cs.toArray] w fun e w'=>(∃ks',e=.returned (.agg ks'.toArray)∧aA w' (fun b=>I b∨w.heap.size≤b) ⟨q.owns.dropLast++[x],q.asks⟩ ks')∧Ext w w':=by
 obtain⟨vo,va,rfl,hO,hA⟩:=hk;obtain⟨f1,q1,f2,q2,rfl⟩:=hx.form;obtain⟨a1,m1,rfl,JL,Hp⟩:=hO.form;obtain⟨a3,m3,rfl, -, -⟩:=hA.form;have JV:0<q.owns.length:=List.length_pos_iff.2 iU;obtain⟨n,hn⟩:∃n,q.owns.length=n+1:=⟨q.owns.length - 1,by omega⟩;have uw:q.owns.take n=q.owns.dropLast:=by rw[List.dropLast_eq_take,hn];rfl
 have Jv:=hO.take (i:=n) (by omega);rw[uw]at Jv;have LJ:q.owns.dropLast.length=n:=by rw[List.length_dropLast,hn];rfl
 obtain⟨w5,dA⟩:∃w5,w5=((w.alloc (.cells #[.slice a1 q.owns.length m1,.slice a3 q.asks.length m3] 67)).alloc (.cells #[.string x.name,.string x.av,.slice f1 x.fields.length q1,.slice f2 x.methods.length q2] 26)).alloc (.cells #[.slice none 0 0,.slice none 0 0] 67):=⟨_,rfl⟩;have bg:Ext w w5:=by rw[dA];exact kx
 have b2:az w5 w.heap.size 67 #[.slice a1 q.owns.length m1,.slice a3 q.asks.length m3]:=by rw[dA];exact(az.new _ _ _).ext kx
 have b3:az w5 (w.heap.size+1) 26 #[.string x.name,.string x.av,.slice f1 x.fields.length q1,.slice f2 x.methods.length q2]:=by rw[dA];exact(az.lJ (W:=w.alloc (.cells #[.slice a1 q.owns.length m1,.slice a3 q.asks.length m3] 67)) _ _ (by simp)).ext kx
 have b4:az w5 (w.heap.size+2) 67 #[.slice none 0 0,.slice none 0 0]:=by rw[dA];exact az.lJ _ _ (by simp)
 obtain⟨css,mP,o7,tq⟩:=SliceOf.cells One.cls (by decide) (Jv.ext ai.stays bg);have HY:=Zy (ai.stays _ _ _ _ _ _ (Ext.same bg) (fun _ h=>h) hx);have Mx:=Zy (hA.ext eH.stays bg);have jU:=Zy mP;have jm:=Zy o7;have jV:=Zy tq;have fH:=Zy b2;have iq:=Zy b4;have dh:=Zy bg;have Mr:w5.heap.size=w.heap.size+3:=by rw[dA];simp
 have HJ:Zz ((∀b,I b→b≠w.heap.size)∧q.owns.dropLast.length+1≤4294967296):=Zy ⟨fun b hb=>by have:=hI b hb;omega,by omega⟩;have kZ:=Zy Mr;obtain⟨T,f,fZ,HT⟩:=jS.ex (fun W'=>Ext w5 W') w5 (Kp.refl _ _);have r0:=fun z=>(b2.ext (HT.aK z)).c 0 (.slice a1 q.owns.length m1) rfl;have r1:=fun z=>(b3.ext (HT.aK z)).c 0 (.string x.name) rfl;have r2:=fun z=>(b3.ext (HT.aK z)).c 1 (.string x.av) rfl;have r3:=fun z=>(b3.ext (HT.aK z)).c 2 (.slice f1 x.fields.length q1) rfl;have r4:=fun z=>(b3.ext (HT.aK z)).c 3 (.slice f2 x.methods.length q2) rfl;have ay:=Zy HT;have DX:((q.owns.length:Nat):Int) - 1=(n:Int):=by omega
 have zH:IntKind.i64.wrap (((q.owns.length:Nat):Int) - 1)=(n:Int):=by rw[IntWalk.i64_in _ (by omega)];omega
 have L6:(0:Int)≤(n:Int):=by omega
 have PH:n≤4000:=by omega
 have HI:=Zy hI;have HN:=Zy hn;have O3:=Zy LJ;have kV:=Zy dA;clear Mr bg b2 b3 b4 dA HT mP o7 tq hO Jv hA hx uw iU hn LJ JV Hp hI;go_enter Tryz.func65,Tryz.ntmps65;go_upto_region 1 with(fail);rw[←kV.o];go_cut [] (fun wx=>lS 4 ai w5 wx I w.heap.size 67 #[.slice a1 q.owns.length m1,.slice a3 q.asks.length m3] 0 (q.owns.dropLast++[x]))
 case first =>
  (refine kQ ay 12 (.two [1,2,3,4,5,6,7,9] 0 10 (.two [] 8 10 (.one [] 10 (.one [] 11 (.fin []))) (.one [] 8 (.one [] 11 (.fin [])))) (.one [] 0 (.one [] 8 (.one [] 11 (.fin []))))) ?_ ?_)
  · exact(Kp.refl _ _).drew
  (refine two [_,_,_,_,_,_,_,_] rfl rfl rfl fun K hK=>?_);(repeat (go_big_quiet_step (fail)));((refine AQ hK (fun K2 au=>?_) fun K2 au=>?_)<;>clear hK K)
  · have fJ:Ext w5 w5.drew:=(Kp.refl _ _).drew;generalize w5.drew=wd at fJ ⊢;go_wp2_with fail;obtain⟨wa,bU⟩:∃ww,ww=wd.alloc (.cells #[] 26):=⟨_,rfl⟩;have dG:Ext w5 wa:=fJ.trans (by rw[bU];exact(Kp.refl _ _).alloc _);have oE:wa.ownsRow w5.heap.size 26 4 (.slice (some ⟨wd.heap.size,0,none⟩) 0 0) 0 []:=by rw[bU];exact aR wd _ _ _ fJ.size _ rfl
    have kE:Zz (wa.heap.size=wd.heap.size+1):=Zy (by rw[bU];simp);rw[←bU];clear bU;(refine kk ay au dG ?_);clear au K2;(refine uo rfl rfl (fun K2 au=>?_) fun K2 au=>?_)
    · skip;refine ak dH _ rfl (.tmp 5) (.tmp 12) rfl w5.heap.size (.slice (some ⟨wd.heap.size,0,none⟩) 0 0) 0 [] rfl oE a1 n m1 css.flatten rfl (jV.o.ext dG) (by omega) dG.size ?_;intro v9 wb oA vg;rw[Nat.zero_add,List.nil_append]at oA;have bT:Ext w5 wb:=dG.own vg (fun b hb=>(oE.lt b hb).1);change K2 _ _;(refine kk ay au bT ?_);clear au K2;(refine aN rfl fun K2 au=>?_);go_wp2_with fail;obtain⟨wc,ek⟩:∃ww,ww=wb.alloc (.cells #[.string x.name,.string x.av,.slice f1 x.fields.length q1,.slice f2 x.methods.length q2] 26):=⟨_,rfl⟩;have cB:Ext w5 wc:=bT.trans (by rw[ek];exact(Kp.refl _ _).alloc _);have uP:Ext wb wc:=by rw[ek];exact(Kp.refl _ _).alloc _
      have cY:af wc wb.heap.size 0 [.string x.name,.string x.av,.slice f1 x.fields.length q1,.slice f2 x.methods.length q2]:=by rw[ek];exact af.bN _ _ rfl
      have Ea:Zz (wc.heap.size=wb.heap.size+1):=Zy (by rw[ek];simp);rw[←ek];clear ek;(refine kk ay au cB ?_);clear au K2;have oA:=aD (D:=fun _=>False) oA uP fun _ _ _ x=>x;(refine aN rfl fun K2 au=>?_);refine ah dH rfl (.tmp 13) (.tmp 15) rfl w5.heap.size v9 n css.flatten rfl oA wb.heap.size 1 [.string x.name,.string x.av,.slice f1 x.fields.length q1,.slice f2 x.methods.length q2] rfl rfl cY (by simp[Value.oneCell']) (by omega) cB.size ?_;intro g9 c9 wf oR gX _;have cK:Ext w5 wf:=cB.own gX (fun b hb=>(oA.lt b hb).1);change K2 _ _;(refine kk ay au cK ?_);clear au K2;(refine bL ?_);have hX:=fH.o.ext cK;have fX:=hX.frozen 0;have vX:=hX.c 0 _ rfl;have zX:=hX.lt;have hA:=aS (R:=ai) ai.stays (by omega) oR jU.o jm.o HY.o rfl cK HJ.o fH.o 0;clear cY oE oA oR ay hX;go_wp2_with fail;go_meet;exact hA
    · skip;go_wp2_with fail;obtain⟨wb,bV⟩:∃ww,ww=wa.alloc (.cells #[.string x.name,.string x.av,.slice f1 x.fields.length q1,.slice f2 x.methods.length q2] 26):=⟨_,rfl⟩;have bT:Ext w5 wb:=dG.trans (by rw[bV];exact(Kp.refl _ _).alloc _);have iR:Ext wa wb:=by rw[bV];exact(Kp.refl _ _).alloc _
      have cY:af wb wa.heap.size 0 [.string x.name,.string x.av,.slice f1 x.fields.length q1,.slice f2 x.methods.length q2]:=by rw[bV];exact af.bN _ _ rfl
      have vQ:Zz (wb.heap.size=wa.heap.size+1):=Zy (by rw[bV];simp);rw[←bV];clear bV;(refine kk ay au bT ?_);clear au K2;have oE:=aD (D:=fun _=>False) oE iR fun _ _ _ x=>x;(refine aN rfl fun K2 au=>?_);refine ak dH _ rfl (.tmp 5) (.tmp 12) rfl w5.heap.size (.slice (some ⟨wd.heap.size,0,none⟩) 0 0) 0 [] rfl oE a1 n m1 css.flatten rfl (jV.o.ext bT) (by omega) bT.size ?_;intro v9 wc oA gW;rw[Nat.zero_add,List.nil_append]at oA;have cB:Ext w5 wc:=bT.own gW (fun b hb=>(oE.lt b hb).1);have cY:=cY.kp gW (fun e=>by simp[Value.ownBlock]at e;have:=kE.o;omega);change K2 _ _;(refine kk ay au cB ?_);clear au K2;(refine aN rfl fun K2 au=>?_);refine ah dH rfl (.tmp 13) (.tmp 15) rfl w5.heap.size v9 n css.flatten rfl oA wa.heap.size 1 [.string x.name,.string x.av,.slice f1 x.fields.length q1,.slice f2 x.methods.length q2] rfl rfl cY (by simp[Value.oneCell']) (by omega) cB.size ?_;intro g9 c9 wf oR gX _;have cK:Ext w5 wf:=cB.own gX (fun b hb=>(oA.lt b hb).1);change K2 _ _;(refine kk ay au cK ?_);clear au K2;(refine bL ?_);have hX:=fH.o.ext cK;have fX:=hX.frozen 0;have vX:=hX.c 0 _ rfl;have zX:=hX.lt;have hA:=aS (R:=ai) ai.stays (by omega) oR jU.o jm.o HY.o rfl cK HJ.o fH.o 0;clear cY oE oA oR ay hX;go_wp2_with fail;go_meet;exact hA
  · have fJ:Ext w5 w5.drew:=(Kp.refl _ _).drew;generalize w5.drew=wd at fJ ⊢;go_wp2_with fail;obtain⟨wa,bU⟩:∃ww,ww=wd.alloc (.cells #[.string x.name,.string x.av,.slice f1 x.fields.length q1,.slice f2 x.methods.length q2] 26):=⟨_,rfl⟩;have dG:Ext w5 wa:=fJ.trans (by rw[bU];exact(Kp.refl _ _).alloc _);have Dr:Ext wd wa:=by rw[bU];exact(Kp.refl _ _).alloc _
    have cY:af wa wd.heap.size 0 [.string x.name,.string x.av,.slice f1 x.fields.length q1,.slice f2 x.methods.length q2]:=by rw[bU];exact af.bN _ _ rfl
    have kE:Zz (wa.heap.size=wd.heap.size+1):=Zy (by rw[bU];simp);rw[←bU];clear bU;(refine kk ay au dG ?_);clear au K2;(refine aN rfl fun K2 au=>?_);go_wp2_with fail;obtain⟨wb,bV⟩:∃ww,ww=wa.alloc (.cells #[] 26):=⟨_,rfl⟩;have iR:Ext wa wb:=by rw[bV];exact(Kp.refl _ _).alloc _
    have bT:Ext w5 wb:=dG.trans iR;have oE:wb.ownsRow w5.heap.size 26 4 (.slice (some ⟨wa.heap.size,0,none⟩) 0 0) 0 []:=by rw[bV];exact aR wa _ _ _ dG.size _ rfl
    have vQ:Zz (wb.heap.size=wa.heap.size+1):=Zy (by rw[bV];simp);rw[←bV];clear bV;(refine kk ay au bT ?_);clear au K2;have cY:=cY.ext iR;(refine aN rfl fun K2 au=>?_);refine ak dH _ rfl (.tmp 5) (.tmp 12) rfl w5.heap.size (.slice (some ⟨wa.heap.size,0,none⟩) 0 0) 0 [] rfl oE a1 n m1 css.flatten rfl (jV.o.ext bT) (by omega) bT.size ?_;intro v9 wc oA gW;rw[Nat.zero_add,List.nil_append]at oA;have cB:Ext w5 wc:=bT.own gW (fun b hb=>(oE.lt b hb).1);have cY:=cY.kp gW (fun e=>by simp[Value.ownBlock]at e;have:=kE.o;omega);change K2 _ _;(refine kk ay au cB ?_);clear au K2;(refine aN rfl fun K2 au=>?_);refine ah dH rfl (.tmp 13) (.tmp 15) rfl w5.heap.size v9 n css.flatten rfl oA wd.heap.size 1 [.string x.name,.string x.av,.slice f1 x.fields.length q1,.slice f2 x.methods.length q2] rfl rfl cY (by simp[Value.oneCell']) (by omega) cB.size ?_;intro g9 c9 wf oR gX _;have cK:Ext w5 wf:=cB.own gX (fun b hb=>(oA.lt b hb).1);change K2 _ _;(refine kk ay au cK ?_);clear au K2;(refine bL ?_);have hX:=fH.o.ext cK;have fX:=hX.frozen 0;have vX:=hX.c 0 _ rfl;have zX:=hX.lt;have hA:=aS (R:=ai) ai.stays (by omega) oR jU.o jm.o HY.o rfl cK HJ.o fH.o 0;clear cY oE oA oR ay hX;go_wp2_with fail;go_meet;exact hA
 obtain⟨v',hs,hb,hK⟩:=hcut;obtain⟨a6,m6,rfl, -, -⟩:=hs.form;obtain⟨ln,mG⟩:∃ln,(q.owns.dropLast++[x]).length=ln:=⟨_,rfl⟩;rw[mG]at hs hb;clear mG;have hb:az wc w.heap.size 67 #[.slice a6 ln m6,.slice a3 q.asks.length m3]:=hb;have uU:=iq.o.kp hK (by omega);have e0:=hb.c 0 (.slice a6 ln m6) rfl;have e1:=hb.c 1 (.slice a3 q.asks.length m3) rfl;have ez:=hb.lt;have g0:=uU.c 0 (.slice none 0 0) rfl;have g1:=uU.c 1 (.slice none 0 0) rfl;have k0:=uU.frozen 0;have k1:=uU.frozen 1;have gz:=uU.lt;have iq:=Zy uU;have HS:=Zy hs;have HK:=Zy hK;have H5:Zz (SliceOf 2 eH wc I (.slice a3 q.asks.length m3) q.asks):=Zy (Mx.o.keep eH.stays (hK.same (fun b hb=>by have:=HI.o b hb;omega)) (fun _ h=>h));clear hb uU hs hK r0 r1 r2 r3 r4 ay DX zH;go_wp2_with fail;refine bodyPost_ret (jE uG rfl _ _ (w.heap.size+2) rfl [.slice a6 ln m6,.slice a3 q.asks.length m3] (af.cO (az.og iq.o _ _)) rfl) rfl ?_;have hP:Kp (·=w.heap.size+2) wc ((wc.setCell ⟨w.heap.size+2,0,none⟩ (.slice a6 ln m6)).setCell ⟨w.heap.size+2,1,none⟩ (.slice a3 q.asks.length m3)):=Kp.og (D:=(·=w.heap.size+2)) rfl _ _;exact⟨⟨_,rfl,_,_,rfl,HS.o.keep ai.stays (hP.same (fun b hb e=>hb.elim (fun h=>by have:=HI.o b h;omega) (fun h=>by have:=kZ.o;omega))) (fun b hb=>hb.imp id (fun h=>by have:=kZ.o;omega)),H5.o.keep eH.stays (hP.same (fun b hb e=>by have:=HI.o b hb;omega)) (fun b hb=>.inl hb)⟩,(dh.o.own HK.o (fun b e=>by omega)).own hP (fun b e=>by omega)⟩
end Go.Proofs.YtmcmhalhieejaaaGreatDoor
