/- SubsetModes: for any draft of a query without Modes, with Modes set there are no more subsets, no two of their scales are modes of each other, and the scale of each subset is a mode of one of them. (The walk, lifted.) SubsetModes: the row holds. SubsetModes: for any draft of a query without Modes, with Modes set there are no more subsets, no two of their scales are modes of each other, and the scale of each subset is a mode of one of them. The tied card, without conditions. -/
import Derived.Test.YtipjmpdndokdlaaGreatDoorPi00
import Derived.Test.YtipjmpdndokdlaaGreatDoorPc45
set_option maxRecDepth 100000
namespace Go.Proofs.YtipjmpdndokdlaaGreatDoor
open Go.ChangeShapes Go.WideShapes Go.ChangeAt Go.WideMaps Go.WideElems Go.RowKit
theorem modes38_lifted (os:Os)(started:os.Started)(H:Type)(enc:TypeId × Value→H) :
  ReturnsInHanded {} Tryz.checked os 6 .any (fun w args=>(Rows.subsetModesSpec.pre enc Tryz.prog Tryz.f6 [] false w args∧laidMetH Tryz.prog Rows.subsetModesRow.laid w)∧sizedMet enc Tryz.prog Tryz.f6 (OpenSpec.ofChange Rows.subsetModesSpec) false w args)
   (Rows.subsetModesSpec.post enc Tryz.prog Tryz.f6 false true false false):=by
 refine returnsInHanded_of_change_and (C:=Tryz.checked) (X:=fun w _=>laidMetH Tryz.prog Rows.subsetModesRow.laid w) (fun _ _ _ hh h=>h.of_heap hh) ownKnob_none started (by kernel_rfl) Tryz.func6
  (ChangeSpec.witness_shaped (enc:=enc) (C:=Tryz.checked) (os:=os) (X:=fun w _=>laidMetH Tryz.prog Rows.subsetModesRow.laid w) false (World.laidAll Tryz.prog os rowLaid) #[.agg #[.bool false,.int .u8 0,.int .u8 0,.int .i8 0,.int .i8 0,.int .i8 0,.int .i8 0,.int .i8 0,.int .i8 0,.int .i8 0,.int .i8 0,.int .i8 0,.int .i8 0,.int .i8 0,.int .i8 0,.int .i8 0,.int .i8 0,.int .i8 0,.int .i8 0,.int .i8 0,.int .i8 0,.int .i8 0,.int .i8 0,.int .i8 0,.int .i8 0,.int .i8 0,.int .i8 0,.int .u8 0,.int .u8 0,.int .u16 0,.bool false]] 8 (World.laidAll_os _ _ _)
   (rows_shaped os _) (by kernel_rfl) (by kernel_rfl) (by kernel_rfl)
   (rows_met os _)) ?_
 intro W base args ds gs before hval0 hW _ _ hL _
 have hval:∀ (j:Nat) t v,Tryz.f6.params[j]?=some t→args[j]?=some v→Value.okWide Tryz.prog W .any base t v:=hval0
 have hW':=hW
 obtain ⟨p,q,hA0,hV,rfl,_,_⟩:=hW
 have hA:DataW.TrodAll enc Tryz.prog W 0 (fun _=>true) true Tryz.f6.params.toList args.toList ds p:=hA0
 rw [Tryz.params6] at hA hval
 obtain ⟨v0,d0,rfl,rfl,h0⟩:=trodAll_one hA
 obtain ⟨rfl,rfl⟩:=trodVars_none hV
 have hE:=env_of_laid hL
 obtain ⟨a,rfl,ha⟩:=open_draft (hval 0 49 v0 rfl rfl) h0
 refine (modesL_c a W hE ha).mono fun e' W' ⟨he',hb⟩=>?_
 subst he'
 exact ⟨_,rfl,law_post rfl (by rw [Tryz.params6];decide +kernel) rfl rfl hW' hb⟩
end Go.Proofs.YtipjmpdndokdlaaGreatDoor

namespace Go.Proofs.YtipjmpdndokdlaaGreatDoor
open Go.ChangeShapes Go.WideShapes Go.ChangeAt Go.WideMaps Go.WideElems Go.RowKit
theorem modes38_k0 : (Rows.subsetModesRow.wf (OpenSpec.ofChange Rows.subsetModesSpec))=true:=by kernel_rfl
theorem modes38_k3 : (Tryz.f6.params.all (Tryz.prog.readableRec ·))=true:=by kernel_rfl
theorem modes38_k4 : (namedTie Tryz.prog Rows.subsetModesRow.named Rows.subsetModesSpec.vars)=true:=by kernel_rfl
theorem modes38_k5 : ((Rows.subsetModesRow.stops == []))=true:=by kernel_rfl
theorem modes38_k7 : ((Rows.subsetModesRow.knobs == []))=true:=by kernel_rfl
theorem modes38_k9 : ((Rows.subsetModesRow.inPlace == Tryz.prog.inPlace 6))=true:=by kernel_rfl
theorem modes38_k10 : ((Rows.subsetModesRow.unfollowed == Tryz.prog.unfollowed 6))=true:=by kernel_rfl
theorem modes38_k11 : ((Rows.subsetModesRow.recurses == Tryz.prog.recurses 6))=true:=by kernel_rfl
theorem modes38_k12 : ((Rows.subsetModesRow.named == Tryz.prog.varsNamed 6))=true:=by kernel_rfl
theorem modes38_k13 : ((Rows.subsetModesRow.maps == (Tryz.f6.params.toList++Rows.subsetModesSpec.plain.varTypes Tryz.prog).any (Tryz.prog.mapsRec ·)))=true:=by kernel_rfl
theorem modes38_k14 : ((Rows.subsetModesRow.ifaces == (Tryz.f6.params.toList++Rows.subsetModesSpec.plain.varTypes Tryz.prog).any (Tryz.prog.ifacesRec ·)))=true:=by kernel_rfl
theorem modes38_k15 : ((Rows.subsetModesRow.mapsOut == Tryz.prog.mapsAmong Tryz.f6.resultTypes.toList))=true:=by kernel_rfl
theorem modes38_k16 : ((Rows.subsetModesRow.loops == (Tryz.f6.params.toList++Rows.subsetModesSpec.plain.varTypes Tryz.prog).any (Tryz.prog.loopsFrom ·)))=true:=by kernel_rfl
theorem modes38_k17 : ((Rows.subsetModesRow.wideKeys == (Tryz.f6.params.toList++Rows.subsetModesSpec.plain.varTypes Tryz.prog++Tryz.f6.resultTypes.toList).any (Tryz.prog.wideKeysFrom ·)))=true:=by kernel_rfl
theorem modes38_k18 : (Rows.subsetModesSpec.vars.all (Tryz.prog.varReadable ·))=true:=by kernel_rfl
theorem modes38_k19 : (Tryz.f6.resultTypes.all (fun t=>Tryz.prog.readableRec t && decide (t<Tryz.prog.types.size)))=true:=by kernel_rfl
theorem modes38_k20 : ((Rows.subsetModesRow.ifacesOut == Tryz.f6.resultTypes.toList.any (Tryz.prog.ifacesRec ·)))=true:=by kernel_rfl
theorem modes38_k21 : ((Rows.subsetModesRow.loopsOut == Tryz.f6.resultTypes.toList.any (Tryz.prog.loopsFrom ·)))=true:=by kernel_rfl
theorem modes38_k23 : (Rows.subsetModesRow.shortTexts.isNone)=true:=by kernel_rfl
theorem modes38_k28 : ((Rows.subsetModesRow.kinds == (if Rows.subsetModesRow.domain.isEmpty then [] else Tryz.f6.params.toList.map fun t=>match Tryz.prog.underlying t with | some (.int k)=>some k | _=>none)))=true:=by kernel_rfl
theorem modes38_k29 : ((Rows.subsetModesRow.pinned == Rows.subsetModesRow.pinnedBy))=true:=by kernel_rfl
theorem modes38_k30 : ((Rows.subsetModesRow.veiled == (Tryz.f6.params.toList++Rows.subsetModesSpec.plain.varTypes Tryz.prog++Tryz.f6.resultTypes.toList).any (Tryz.prog.veiledRec ·)))=true:=by kernel_rfl
theorem modes38_k31 : (Rows.subsetModesRow.veiledFits Tryz.prog Tryz.f6.params.toList (Tryz.f6.params.toList++Rows.subsetModesSpec.plain.varTypes Tryz.prog++Tryz.f6.resultTypes.toList))=true:=by kernel_rfl
theorem modes38_closed : joinedFacts Tryz.prog 6 Tryz.f6 Rows.subsetModesSpec Rows.subsetModesRow=true:=(and_t (and_t (and_t (and_t (and_t (and_t (and_t (and_t (and_t (and_t (and_t (and_t (and_t (and_t (and_t (and_t (and_t (and_t (and_t (and_t (and_t (and_t (and_t (and_t (and_t (and_t (and_t (and_t (and_t (and_t (and_t modes38_k0 laidOut_yes) fct_maps) modes38_k3) modes38_k4) modes38_k5) fct_stops) modes38_k7) fct_knobs) modes38_k9) modes38_k10) modes38_k11) modes38_k12) modes38_k13) modes38_k14) modes38_k15) modes38_k16) modes38_k17) modes38_k18) modes38_k19) modes38_k20) modes38_k21) fct_keys) modes38_k23) fct_heard) fct_enter) fct_lifts) fct_make) modes38_k28) modes38_k29) modes38_k30) modes38_k31)
theorem modes38_inst : Tryz.f6.isInstance Tryz.prog Rows.subsetModesRow.origin Rows.subsetModesRow.targs:=of_decide_eq_true (by kernel_rfl)
theorem modes38_wrap : Tryz.f6.isWrapper Tryz.prog Rows.subsetModesRow.wrapper Rows.subsetModesRow.mainSum:=by unfold Func.isWrapper;first | (rw [if_pos (by decide +kernel)];kernel_rfl) | (rw [if_neg (by decide +kernel)];exact ⟨rfl,rfl⟩)
theorem modes38_named : Tryz.prog.funcNamed Rows.subsetModesRow.func=some 6:=by kernel_rfl
theorem modes38_holds : Rows.SubsetModesSaid :=
 OpenClaim.holds_of_wide 6 Tryz.f6 rfl rfl rfl rfl rfl rfl rfl ⟨rfl,rfl,rfl,rfl,rfl⟩ rfl rfl rfl rfl rfl modes38_named Tryz.func6 modes38_closed modes38_inst modes38_wrap
  (fun os started H enc _=>modes38_lifted os started H enc)
end Go.Proofs.YtipjmpdndokdlaaGreatDoor

namespace Go.Proofs.YtipjmpdndokdlaaGreatDoor
open Go.ChangeShapes Go.WideShapes Go.ChangeAt Go.WideMaps Go.WideElems Go.RowKit
theorem modes38_card : Rows.SubsetModesCardSaid :=
 Claim7.holds_tied_plain_at .later [] [.data, .data, .data, .sentinel, .sentinel] true (true, "13e1029adf651137bc5089b5cf3a78d1a267e460e95d8fe8bd9443154de8043b") true
  modes38_holds (fun _ h=>by cases h) (by as_aux_lemma=>kernel_rfl) (fun _ h=>by cases h) subsetModes_row_tie rfl ⟨rfl,rfl⟩ (by as_aux_lemma=>kernel_rfl) rfl
  (fun f fn hf hfn=>by
   obtain rfl : f = 6 := Option.some.inj ((show Tryz.prog.funcNamed "schisma/schismalaw38.SubsetModes" = some 6 by kernel_rfl).symm.trans hf) |>.symm
   obtain rfl:fn=Tryz.f6:=(Option.some.inj (Tryz.func6.symm.trans hfn)).symm
   exact ⟨by kernel_rfl,fun j t ht=>by
    rw [Tryz.params6] at ht
    have hm:t∈[49]:=by simpa using Array.mem_of_getElem? ht
    have hall:([49].all fun u=>!Tryz.prog.wantsStandIn u)=true:=by kernel_rfl
    exact (show Tryz.prog.wantsStandIn t=false by simpa using List.all_eq_true.1 hall t hm)⟩)
  (by as_aux_lemma=>kernel_rfl)
#print axioms modes38_card
end Go.Proofs.YtipjmpdndokdlaaGreatDoor
