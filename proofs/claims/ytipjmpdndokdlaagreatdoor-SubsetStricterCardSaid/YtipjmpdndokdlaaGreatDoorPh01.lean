/- SubsetStricter: for any draft of a query and any described subset, if the subset fits with Strict, it fits with Proper and with Constant; if it fits with Even, it fits with Strict; if it fits at all, it fits without Must. (The walk, lifted.) SubsetStricter: the row holds. SubsetStricter: for any draft of a query and any described subset, if the subset fits with Strict, it fits with Proper and with Constant; if it fits with Even, it fits with Strict; if it fits at all, it fits without Must. The tied card, without conditions. -/
import Derived.Test.YtipjmpdndokdlaaGreatDoorPh00
import Derived.Test.YtipjmpdndokdlaaGreatDoorPc45
set_option maxRecDepth 100000
namespace Go.Proofs.YtipjmpdndokdlaaGreatDoor
open Go.ChangeShapes Go.WideShapes Go.ChangeAt Go.WideMaps Go.WideElems Go.RowKit
theorem strict38_lifted (os:Os)(started:os.Started)(H:Type)(enc:TypeId × Value→H) :
  ReturnsInHanded {} Tryz.checked os 5 .any (fun w args=>(Rows.subsetStricterSpec.pre enc Tryz.prog Tryz.f5 [] false w args∧laidMetH Tryz.prog Rows.subsetStricterRow.laid w)∧sizedMet enc Tryz.prog Tryz.f5 (OpenSpec.ofChange Rows.subsetStricterSpec) false w args)
   (Rows.subsetStricterSpec.post enc Tryz.prog Tryz.f5 false true false false):=by
 refine returnsInHanded_of_change_and (C:=Tryz.checked) (X:=fun w _=>laidMetH Tryz.prog Rows.subsetStricterRow.laid w) (fun _ _ _ hh h=>h.of_heap hh) ownKnob_none started (by kernel_rfl) Tryz.func5
  (ChangeSpec.witness_shaped (enc:=enc) (C:=Tryz.checked) (os:=os) (X:=fun w _=>laidMetH Tryz.prog Rows.subsetStricterRow.laid w) false (World.laidAll Tryz.prog os rowLaid) #[.agg #[.bool false,.int .u8 0,.int .u8 0,.int .i8 0,.int .i8 0,.int .i8 0,.int .i8 0,.int .i8 0,.int .i8 0,.int .i8 0,.int .i8 0,.int .i8 0,.int .i8 0,.int .i8 0,.int .i8 0,.int .i8 0,.int .i8 0,.int .i8 0,.int .i8 0,.int .i8 0,.int .i8 0,.int .i8 0,.int .i8 0,.int .i8 0,.int .i8 0,.int .i8 0,.int .i8 0,.int .u8 0,.int .u8 0,.int .u16 0,.bool false],.int .u16 0] 8 (World.laidAll_os _ _ _)
   (rows_shaped os _) (by kernel_rfl) (by kernel_rfl) (by kernel_rfl)
   (rows_met os _)) ?_
 intro W base args ds gs before hval0 hW _ _ hL _
 have hval:∀ (j:Nat) t v,Tryz.f5.params[j]?=some t→args[j]?=some v→Value.okWide Tryz.prog W .any base t v:=hval0
 have hW':=hW
 obtain ⟨p,q,hA0,hV,rfl,_,_⟩:=hW
 have hA:DataW.TrodAll enc Tryz.prog W 0 (fun _=>true) true Tryz.f5.params.toList args.toList ds p:=hA0
 rw [Tryz.params5] at hA hval
 obtain ⟨v0,v1,d0,d1,p0,p1,rfl,rfl,rfl,h0,h1⟩:=trodAll_two hA
 obtain ⟨rfl,rfl⟩:=trodVars_none hV
 have hE:=env_of_laid hL
 obtain ⟨a,rfl,ha⟩:=open_draft (hval 0 49 v0 rfl rfl) h0
 obtain ⟨x,rfl,rfl,rfl,wx⟩:=open_int Tryz.underlying22 (hval 1 22 v1 rfl rfl) h1
 obtain ⟨x',rfl,hx⟩:=wf_u16 wx
 refine (strictL_c a x' W hE ha hx).mono fun e' W' ⟨he',hb⟩=>?_
 subst he'
 exact ⟨_,rfl,law_post rfl (by rw [Tryz.params5];decide +kernel) rfl rfl hW' hb⟩
end Go.Proofs.YtipjmpdndokdlaaGreatDoor

namespace Go.Proofs.YtipjmpdndokdlaaGreatDoor
open Go.ChangeShapes Go.WideShapes Go.ChangeAt Go.WideMaps Go.WideElems Go.RowKit
theorem strict38_k0 : (Rows.subsetStricterRow.wf (OpenSpec.ofChange Rows.subsetStricterSpec))=true:=by kernel_rfl
theorem strict38_k3 : (Tryz.f5.params.all (Tryz.prog.readableRec ·))=true:=by kernel_rfl
theorem strict38_k4 : (namedTie Tryz.prog Rows.subsetStricterRow.named Rows.subsetStricterSpec.vars)=true:=by kernel_rfl
theorem strict38_k5 : ((Rows.subsetStricterRow.stops == []))=true:=by kernel_rfl
theorem strict38_k7 : ((Rows.subsetStricterRow.knobs == []))=true:=by kernel_rfl
theorem strict38_k9 : ((Rows.subsetStricterRow.inPlace == Tryz.prog.inPlace 5))=true:=by kernel_rfl
theorem strict38_k10 : ((Rows.subsetStricterRow.unfollowed == Tryz.prog.unfollowed 5))=true:=by kernel_rfl
theorem strict38_k11 : ((Rows.subsetStricterRow.recurses == Tryz.prog.recurses 5))=true:=by kernel_rfl
theorem strict38_k12 : ((Rows.subsetStricterRow.named == Tryz.prog.varsNamed 5))=true:=by kernel_rfl
theorem strict38_k13 : ((Rows.subsetStricterRow.maps == (Tryz.f5.params.toList++Rows.subsetStricterSpec.plain.varTypes Tryz.prog).any (Tryz.prog.mapsRec ·)))=true:=by kernel_rfl
theorem strict38_k14 : ((Rows.subsetStricterRow.ifaces == (Tryz.f5.params.toList++Rows.subsetStricterSpec.plain.varTypes Tryz.prog).any (Tryz.prog.ifacesRec ·)))=true:=by kernel_rfl
theorem strict38_k15 : ((Rows.subsetStricterRow.mapsOut == Tryz.prog.mapsAmong Tryz.f5.resultTypes.toList))=true:=by kernel_rfl
theorem strict38_k16 : ((Rows.subsetStricterRow.loops == (Tryz.f5.params.toList++Rows.subsetStricterSpec.plain.varTypes Tryz.prog).any (Tryz.prog.loopsFrom ·)))=true:=by kernel_rfl
theorem strict38_k17 : ((Rows.subsetStricterRow.wideKeys == (Tryz.f5.params.toList++Rows.subsetStricterSpec.plain.varTypes Tryz.prog++Tryz.f5.resultTypes.toList).any (Tryz.prog.wideKeysFrom ·)))=true:=by kernel_rfl
theorem strict38_k18 : (Rows.subsetStricterSpec.vars.all (Tryz.prog.varReadable ·))=true:=by kernel_rfl
theorem strict38_k19 : (Tryz.f5.resultTypes.all (fun t=>Tryz.prog.readableRec t && decide (t<Tryz.prog.types.size)))=true:=by kernel_rfl
theorem strict38_k20 : ((Rows.subsetStricterRow.ifacesOut == Tryz.f5.resultTypes.toList.any (Tryz.prog.ifacesRec ·)))=true:=by kernel_rfl
theorem strict38_k21 : ((Rows.subsetStricterRow.loopsOut == Tryz.f5.resultTypes.toList.any (Tryz.prog.loopsFrom ·)))=true:=by kernel_rfl
theorem strict38_k23 : (Rows.subsetStricterRow.shortTexts.isNone)=true:=by kernel_rfl
theorem strict38_k28 : ((Rows.subsetStricterRow.kinds == (if Rows.subsetStricterRow.domain.isEmpty then [] else Tryz.f5.params.toList.map fun t=>match Tryz.prog.underlying t with | some (.int k)=>some k | _=>none)))=true:=by kernel_rfl
theorem strict38_k29 : ((Rows.subsetStricterRow.pinned == Rows.subsetStricterRow.pinnedBy))=true:=by kernel_rfl
theorem strict38_k30 : ((Rows.subsetStricterRow.veiled == (Tryz.f5.params.toList++Rows.subsetStricterSpec.plain.varTypes Tryz.prog++Tryz.f5.resultTypes.toList).any (Tryz.prog.veiledRec ·)))=true:=by kernel_rfl
theorem strict38_k31 : (Rows.subsetStricterRow.veiledFits Tryz.prog Tryz.f5.params.toList (Tryz.f5.params.toList++Rows.subsetStricterSpec.plain.varTypes Tryz.prog++Tryz.f5.resultTypes.toList))=true:=by kernel_rfl
theorem strict38_closed : joinedFacts Tryz.prog 5 Tryz.f5 Rows.subsetStricterSpec Rows.subsetStricterRow=true:=(and_t (and_t (and_t (and_t (and_t (and_t (and_t (and_t (and_t (and_t (and_t (and_t (and_t (and_t (and_t (and_t (and_t (and_t (and_t (and_t (and_t (and_t (and_t (and_t (and_t (and_t (and_t (and_t (and_t (and_t (and_t strict38_k0 laidOut_yes) fct_maps) strict38_k3) strict38_k4) strict38_k5) fct_stops) strict38_k7) fct_knobs) strict38_k9) strict38_k10) strict38_k11) strict38_k12) strict38_k13) strict38_k14) strict38_k15) strict38_k16) strict38_k17) strict38_k18) strict38_k19) strict38_k20) strict38_k21) fct_keys) strict38_k23) fct_heard) fct_enter) fct_lifts) fct_make) strict38_k28) strict38_k29) strict38_k30) strict38_k31)
theorem strict38_inst : Tryz.f5.isInstance Tryz.prog Rows.subsetStricterRow.origin Rows.subsetStricterRow.targs:=of_decide_eq_true (by kernel_rfl)
theorem strict38_wrap : Tryz.f5.isWrapper Tryz.prog Rows.subsetStricterRow.wrapper Rows.subsetStricterRow.mainSum:=by unfold Func.isWrapper;first | (rw [if_pos (by decide +kernel)];kernel_rfl) | (rw [if_neg (by decide +kernel)];exact ⟨rfl,rfl⟩)
theorem strict38_named : Tryz.prog.funcNamed Rows.subsetStricterRow.func=some 5:=by kernel_rfl
theorem strict38_holds : Rows.SubsetStricterSaid :=
 OpenClaim.holds_of_wide 5 Tryz.f5 rfl rfl rfl rfl rfl rfl rfl ⟨rfl,rfl,rfl,rfl,rfl⟩ rfl rfl rfl rfl rfl strict38_named Tryz.func5 strict38_closed strict38_inst strict38_wrap
  (fun os started H enc _=>strict38_lifted os started H enc)
end Go.Proofs.YtipjmpdndokdlaaGreatDoor

namespace Go.Proofs.YtipjmpdndokdlaaGreatDoor
open Go.ChangeShapes Go.WideShapes Go.ChangeAt Go.WideMaps Go.WideElems Go.RowKit
theorem strict38_card : Rows.SubsetStricterCardSaid :=
 Claim7.holds_tied_plain_at .later [] [.data, .data, .data, .sentinel, .sentinel] true (true, "13e1029adf651137bc5089b5cf3a78d1a267e460e95d8fe8bd9443154de8043b") true
  strict38_holds (fun _ h=>by cases h) (by as_aux_lemma=>kernel_rfl) (fun _ h=>by cases h) subsetStricter_row_tie rfl ⟨rfl,rfl⟩ (by as_aux_lemma=>kernel_rfl) rfl
  (fun f fn hf hfn=>by
   obtain rfl : f = 5 := Option.some.inj ((show Tryz.prog.funcNamed "schisma/schismalaw38.SubsetStricter" = some 5 by kernel_rfl).symm.trans hf) |>.symm
   obtain rfl:fn=Tryz.f5:=(Option.some.inj (Tryz.func5.symm.trans hfn)).symm
   exact ⟨by kernel_rfl,fun j t ht=>by
    rw [Tryz.params5] at ht
    have hm:t∈[49,22]:=by simpa using Array.mem_of_getElem? ht
    have hall:([49,22].all fun u=>!Tryz.prog.wantsStandIn u)=true:=by kernel_rfl
    exact (show Tryz.prog.wantsStandIn t=false by simpa using List.all_eq_true.1 hall t hm)⟩)
  (by as_aux_lemma=>kernel_rfl)
#print axioms strict38_card
end Go.Proofs.YtipjmpdndokdlaaGreatDoor
