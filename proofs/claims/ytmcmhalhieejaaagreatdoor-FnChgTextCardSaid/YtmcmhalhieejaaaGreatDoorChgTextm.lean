/- FnChgText: for every input the program returns true, and the input reads as it did; the tied card. The listed variables of Go's library hold what their initialisers lay. No other condition. -/
import Derived.Test.YtmcmhalhieejaaaGreatDoorCards
import Derived.Test.YtmcmhalhieejaaaGreatDoorTie
import Derived.Test.YtmcmhalhieejaaaGreatDoorChgTextl
import Derived.HandedShaped
import Derived.Lay
import Derived.LaidOnce
import Derived.SevenTiedAt
import Derived.Stop.LaidErr
import Derived.Lib.LaidTab
import Derived.Shelf.Vars
set_option maxRecDepth 100000
set_option maxHeartbeats 4000000
set_option linter.unusedSimpArgs false
set_option linter.unusedVariables false
namespace Go.Proofs.YtmcmhalhieejaaaGreatDoor
open Go Go.ChangeShapes Go.WideShapes Go.ChangeAt Go.RowKit
open Go.ChangeMaps (open_string shut_string)
theorem jF{H:Type}{enc:TypeId×Value→H}{a:Assume}{C:Checked}{os:Os}{f:FuncId}{fn:Func}{s:ChangeSpec}{conds:List PathCond}{apart fresh handsOn again:Bool}{X:World→Array Value→Prop}
    (hX:∀(w w':World) (args:Array Value),w.heap=w'.heap→X w args→X w' args)
    (own:ownKnob C.prog.godebug=none) (started:os.Started) (noInit:C.prog.inits.idxOf? f=none) (JA:C.prog.funcs[f]?=some fn)
    (witness:∃(w:World) (tape:Tape) (i:Input),w.os=os∧(w.forCall tape i).Shaped C.prog∧i.vars=[]∧Input.okWide C.prog (w.forCall tape i) .any w.heap.size f i∧
     ((s.pre enc C.prog fn conds apart (w.forCall tape i).memory i.args∧X (w.forCall tape i).memory i.args)∧sizedMet enc C.prog fn (OpenSpec.ofChange s) apart (w.forCall tape i).memory i.args)∧a.holds C.prog (lone (Frame.enter C.prog f i.args .normal) [] (w.forCall tape i)))
    (contract:∀(W:World) (base:Nat) (args:Array Value) (ds gs:List (DataW H)) (before:List MemPlace),
     (∀(j:Nat) t v,fn.params[j]?=some t→args[j]?=some v→Value.okWide C.prog W .any base t v)→
     DataW.Whole enc C.prog fn.params.toList s.vars apart W args.toList ds gs before→X W args→W.ShapedOpen C.prog→
     Calls C.prog f args W fun e W'=>∃v,e=.returned v∧s.post enc C.prog fn apart fresh handsOn again W args v W'):
    ReturnsInHanded a C os f .any (fun w args=>(s.pre enc C.prog fn conds apart w args∧X w args)∧sizedMet enc C.prog fn (OpenSpec.ofChange s) apart w args) (s.post enc C.prog fn apart fresh handsOn again):=by
 refine returnsInHanded_of_calls own started noInit witness ?_;intro w tape i _ Gl _ uY JW _;obtain⟨_,_,_,fn',JB,_,_,_,_,zI⟩:=uY;have e:fn'=fn:=Option.some.inj (JB.symm.trans JA);subst e;obtain⟨⟨⟨ds,gs,before,hw,_⟩,hx⟩,_⟩:=JW;have hw':=DataW.Whole.of_heap (w':=w.forCall tape i) (by rfl) hw;refine(contract (w.forCall tape i) w.heap.size i.args ds gs before zI hw' (hX _ _ _ (by rfl) hx) Gl).mono fun e W' ⟨v,he,hp⟩=>?_;subst he;exact ChangeSpec.post_blind hp
theorem xP{H:Type}{enc:TypeId×Value→H}{fn:Func}{s:ChangeSpec}{W W':World}{v v':Value}{d d':DataW H}{p p':List MemPlace}(hp:fn.params=#[22,22])(hr:fn.resultTypes=#[4])(hv:s.vars=[])
    (hs:s.fn H ([d,d']++[])={results:=[.lit (.bool true)],args:=[d,d']}) (hW:DataW.Whole enc Tryz.prog fn.params.toList s.vars false W [v,v'] [d,d'] [] (p++p'))
    (h0:DataW.Trod enc Tryz.prog W 0 (fun _=>true) true 22 v d p) (h1:DataW.Trod enc Tryz.prog W 0 (fun _=>true) true 22 v' d' p') (hE:Ext W W'):s.post enc Tryz.prog fn false true false false W #[v,v'] (.bool true) W':=by
 have dI:∀x∈p++p',x.block<W.heap.size:=fun x hx=>by simpa using hW.lt x hx
 have Jg:=Ext.um hE;refine⟨[d,d'],[],p++p',[],p++p',[],hW,?_,?_,?_,Jg.frame _,fun h=>by cases h⟩
 · rw[hs,hr];exact trodAll_mk1 (shut_bool Tryz.underlying4 true)
 · rw[hs,hp];exact trodAll_mk2 (Below.trod Tryz.laidOut (by kernel_rfl) (of_decide_eq_true (by kernel_rfl)) h0 Jg fun x hx=>dI x (List.mem_append_left _ hx)) (Below.trod Tryz.laidOut (by kernel_rfl) (of_decide_eq_true (by kernel_rfl)) h1 Jg fun x hx=>dI x (List.mem_append_right _ hx))
 · rw[hs,hv];exact(rfl:([]:List MemPlace)=[])
theorem uj: "*errors.errorString" = "*" ++ "errors.errorString" :=by decide+kernel
theorem BH(u:TypeId)(h:Tryz.prog.typeName? 3 u=some "*errors.errorString"):u=191:=
 typeName_ptr_named (nm:= "errors.errorString") (by rw[←uj];kernel_rfl) (by kernel_rfl) (by decide) u (by rw[←uj];exact h)
theorem BK:(Rows.laid_internal_strconv_uint64pow10:DataW Unit)=Lib.tabData .u64 Lib.pow10Tab:=by kernel_rfl
theorem BN{W:World}(hL:laidMet Tryz.prog Rows.fnChgTextRow.laid W)(Gl:W.ShapedOpen Tryz.prog):dK W:=by
 have h3:=laidMet.tail (laidMet.tail hL);have h6:=laidMet.tail (laidMet.tail (laidMet.tail h3));rw[BK]at h3;have hT:=Lib.tabIs_of_head uk (by kernel_rfl) Tryz.underlying159 Tryz.underlying128 (by kernel_rfl) (by kernel_rfl) h3;obtain⟨a,s,hv, -, -, -⟩:=laid_sentinel h6 (g:=4) (by kernel_rfl) (by kernel_rfl) Tryz.underlying102 BH Tryz.underlying191 Tryz.underlying193 rfl rfl Tryz.underlying9 (by kernel_rfl) (by kernel_rfl);have hc:W.cell? ⟨4,0,none⟩=some (.iface 191 (.pointer (some a))):=by
  have h0:=World.var?_cell (g:=4) (by kernel_rfl) hv 0;simpa using h0
 exact⟨hT,⟨_,hc,.inr ⟨_,_,rfl⟩⟩,cell_of_shapedOpen_int Gl (g:=0) (t:=3) (zero:=#[.int .i64 0]) (of_decide_eq_true (by kernel_rfl)) (by kernel_rfl) rfl (by kernel_rfl) (by kernel_rfl) Tryz.underlying3,by have:=ax hc;omega⟩
theorem nR{w:World}:laidMetH Tryz.prog Rows.fnChgTextRow.laid w=laidMet Tryz.prog Rows.fnChgTextRow.laid w:=MakeChecks.laidMetH_plain _ _ _ (by kernel_rfl)
theorem lv(os:Os)(started:os.Started)(H:Type)(enc:TypeId×Value→H):
    ReturnsInHanded {} Tryz.checked os 3 .any (fun w args=>(Rows.fnChgTextSpec.pre enc Tryz.prog Tryz.f3 [] false w args∧laidMetH Tryz.prog Rows.fnChgTextRow.laid w)∧sizedMet enc Tryz.prog Tryz.f3 (OpenSpec.ofChange Rows.fnChgTextSpec) false w args)
     (Rows.fnChgTextSpec.post enc Tryz.prog Tryz.f3 false true false false):=by
 refine jF (C:=Tryz.checked) (X:=fun w _=>laidMetH Tryz.prog Rows.fnChgTextRow.laid w) (fun _ _ _ hh h=>h.of_heap hh) Tryz.own started (by kernel_rfl) Tryz.func3
  (ChangeSpec.witness_shaped (enc:=enc) (C:=Tryz.checked) (os:=os) (X:=fun w _=>laidMetH Tryz.prog Rows.fnChgTextRow.laid w) false (World.laidAll Tryz.prog os Rows.fnChgTextRow.laid) #[.slice none 0 0,.slice none 0 0] 8 (World.laidAll_os _ _ _)
   (World.shaped_of_ZipB (by kernel_rfl) (by kernel_rfl)) (by kernel_rfl) (by kernel_rfl) (by kernel_rfl)
   (by rw[nR];exact laidMet_laidAll _ (by kernel_rfl) (by kernel_rfl))) ?_
 intro W base args ds gs before Gn hW hL Gl;have zI:∀(j:Nat) t v,Tryz.f3.params[j]?=some t→args[j]?=some v→Value.okWide Tryz.prog W .any base t v:=Gn;have Lr:=hW;obtain⟨p,q,ND,hV,rfl,_,_⟩:=hW;have hA:DataW.TrodAll enc Tryz.prog W 0 (fun _=>true) true Tryz.f3.params.toList args.toList ds p:=ND;rw[Tryz.params3]at hA zI;obtain⟨v0,v1,d0,d1,p0,p1,rfl,rfl,rfl,h0,h1⟩:=trodAll_two hA;obtain⟨rfl,rfl⟩:=trodVars_none hV;simp only[List.append_nil]at Lr;rw[nR]at hL;obtain⟨Gz,bf⟩:=bytes_at (okWide_slice Tryz.underlying22 (zI 0 22 v0 rfl rfl)) h0;obtain⟨GA,eu⟩:=bytes_at (okWide_slice Tryz.underlying22 (zI 1 22 v1 rfl rfl)) h1;refine(rC W v0 v1 Gz GA bf eu (BN hL Gl)).mono fun e W' ⟨he,hE⟩=>?_;subst he;exact⟨_,rfl,xP (fn:=Tryz.f3) Tryz.params3 rfl rfl rfl Lr h0 h1 hE⟩
theorem pI:Rows.FnChgTextSaid:=
 OpenClaim.holds_of_wide 3 Tryz.f3 rfl rfl rfl rfl rfl rfl rfl ⟨rfl,rfl,rfl,rfl,rfl⟩ rfl rfl rfl rfl rfl (by kernel_rfl) Tryz.func3 (by kernel_rfl)
  (of_decide_eq_true (by kernel_rfl)) (by unfold Func.isWrapper;rw[if_neg (by decide+kernel)];exact⟨rfl,rfl⟩)
  (fun os started H enc _=>lv os started H enc)
theorem fnChgText_holds:Rows.FnChgTextCardSaid:=
 Claim7.holds_tied_plain_at .later [] [.data,.data,.data,.data,.sentinel,.sentinel,.pinned] true (true, "334d38619e9f860c5ac6582348c87205df3b093a815563cb1bde53db0f503d50") true
  pI (fun _ h=>by cases h) (by kernel_rfl) (fun _ h=>by cases h) fnChgText_row_tie rfl ⟨rfl,rfl⟩ (by kernel_rfl) rfl
  (fun f fn hf JA=>by
   obtain rfl:f=3:=Option.some.inj ((show Tryz.prog.funcNamed "loop.example/lodgekeeper/laws.FnChgText" =some 3 by kernel_rfl).symm.trans hf)|>.symm;obtain rfl:fn=Tryz.f3:=(Option.some.inj (Tryz.func3.symm.trans JA)).symm;exact⟨by kernel_rfl,fun j t ht=>by
    rw[Tryz.params3]at ht;have hm:t∈[22,22]:=by simpa using Array.mem_of_getElem? ht
    have gF:([22,22].all fun u=> !Tryz.prog.wantsStandIn u)=true:=by kernel_rfl
    exact(show Tryz.prog.wantsStandIn t=false by simpa using List.all_eq_true.1 gF t hm)⟩)
  (by kernel_rfl)
#print axioms fnChgText_holds
end Go.Proofs.YtmcmhalhieejaaaGreatDoor
