/- SubsetFits: for any draft of a query and any at most 9 ints, Fits says whether they are a subset that it asks for, or returns the first error. (The walk, lifted.) SubsetFits: the row holds. SubsetFits: for any draft of a query and any at most 9 ints, Fits says whether they are a subset that it asks for, or returns the first error. The tied card, without conditions. -/
import Derived.Test.YtipjmpdndokdlaaGreatDoorPg00
import Derived.Test.YtipjmpdndokdlaaGreatDoorPc45
set_option maxRecDepth 100000
namespace Go.Proofs.YtipjmpdndokdlaaGreatDoor
open Go.ChangeShapes Go.WideShapes Go.ChangeAt Go.WideMaps Go.WideElems Go.RowKit
theorem fits38_lifted (os:Os)(started:os.Started)(H:Type)(enc:TypeId × Value→H) :
  ReturnsInHanded {} Tryz.checked os 4 .any (fun w args=>(Rows.subsetFitsSpec.pre enc Tryz.prog Tryz.f4 [] false w args∧laidMetH Tryz.prog Rows.subsetFitsRow.laid w)∧sizedMet enc Tryz.prog Tryz.f4 (OpenSpec.ofChange Rows.subsetFitsSpec) false w args)
   (Rows.subsetFitsSpec.post enc Tryz.prog Tryz.f4 false true false false):=by
 refine returnsInHanded_of_change_and (C:=Tryz.checked) (X:=fun w _=>laidMetH Tryz.prog Rows.subsetFitsRow.laid w) (fun _ _ _ hh h=>h.of_heap hh) ownKnob_none started (by kernel_rfl) Tryz.func4
  (ChangeSpec.witness_shaped (enc:=enc) (C:=Tryz.checked) (os:=os) (X:=fun w _=>laidMetH Tryz.prog Rows.subsetFitsRow.laid w) false (World.laidAll Tryz.prog os rowLaid) #[.agg #[.bool false,.int .u8 0,.int .u8 0,.int .i8 0,.int .i8 0,.int .i8 0,.int .i8 0,.int .i8 0,.int .i8 0,.int .i8 0,.int .i8 0,.int .i8 0,.int .i8 0,.int .i8 0,.int .i8 0,.int .i8 0,.int .i8 0,.int .i8 0,.int .i8 0,.int .i8 0,.int .i8 0,.int .i8 0,.int .i8 0,.int .i8 0,.int .i8 0,.int .i8 0,.int .i8 0,.int .u8 0,.int .u8 0,.int .u16 0,.bool false],.slice none 0 0] 8 (World.laidAll_os _ _ _)
   (rows_shaped os _) (by kernel_rfl) (by kernel_rfl) (by kernel_rfl)
   (rows_met os _)) ?_
 intro W base args ds gs before hval0 hW _ _ hL _
 have hval:∀ (j:Nat) t v,Tryz.f4.params[j]?=some t→args[j]?=some v→Value.okWide Tryz.prog W .any base t v:=hval0
 have hW':=hW
 obtain ⟨p,q,hA0,hV,rfl,_,_⟩:=hW
 have hA:DataW.TrodAll enc Tryz.prog W 0 (fun _=>true) true Tryz.f4.params.toList args.toList ds p:=hA0
 rw [Tryz.params4] at hA hval
 obtain ⟨v0,v1,d0,d1,p0,p1,rfl,rfl,rfl,h0,h1⟩:=trodAll_two hA
 obtain ⟨rfl,rfl⟩:=trodVars_none hV
 have hE:=env_of_laid hL
 obtain ⟨a,rfl,ha⟩:=open_draft (hval 0 49 v0 rfl rfl) h0
 obtain ⟨l,hl,_⟩:=sl_in Tryz.underlying28 (hval 1 28 v1 rfl rfl) h1
 refine (fitsL_c a v1 l W hE ha hl).mono fun e' W' ⟨he',hb⟩=>?_
 subst he'
 exact ⟨_,rfl,law_post rfl (by rw [Tryz.params4];decide +kernel) rfl rfl hW' hb⟩
end Go.Proofs.YtipjmpdndokdlaaGreatDoor

namespace Go.Proofs.YtipjmpdndokdlaaGreatDoor
open Go.ChangeShapes Go.WideShapes Go.ChangeAt Go.WideMaps Go.WideElems Go.RowKit
theorem fits38_k0 : (Rows.subsetFitsRow.wf (OpenSpec.ofChange Rows.subsetFitsSpec))=true:=by kernel_rfl
theorem fits38_k3 : (Tryz.f4.params.all (Tryz.prog.readableRec ·))=true:=by kernel_rfl
theorem fits38_k4 : (namedTie Tryz.prog Rows.subsetFitsRow.named Rows.subsetFitsSpec.vars)=true:=by kernel_rfl
theorem fits38_k5 : ((Rows.subsetFitsRow.stops == []))=true:=by kernel_rfl
theorem fits38_k7 : ((Rows.subsetFitsRow.knobs == []))=true:=by kernel_rfl
theorem fits38_k9 : ((Rows.subsetFitsRow.inPlace == Tryz.prog.inPlace 4))=true:=by kernel_rfl
theorem fits38_k10 : ((Rows.subsetFitsRow.unfollowed == Tryz.prog.unfollowed 4))=true:=by kernel_rfl
theorem fits38_k11 : ((Rows.subsetFitsRow.recurses == Tryz.prog.recurses 4))=true:=by kernel_rfl
theorem fits38_k12 : ((Rows.subsetFitsRow.named == Tryz.prog.varsNamed 4))=true:=by kernel_rfl
theorem fits38_k13 : ((Rows.subsetFitsRow.maps == (Tryz.f4.params.toList++Rows.subsetFitsSpec.plain.varTypes Tryz.prog).any (Tryz.prog.mapsRec ·)))=true:=by kernel_rfl
theorem fits38_k14 : ((Rows.subsetFitsRow.ifaces == (Tryz.f4.params.toList++Rows.subsetFitsSpec.plain.varTypes Tryz.prog).any (Tryz.prog.ifacesRec ·)))=true:=by kernel_rfl
theorem fits38_k15 : ((Rows.subsetFitsRow.mapsOut == Tryz.prog.mapsAmong Tryz.f4.resultTypes.toList))=true:=by kernel_rfl
theorem fits38_k16 : ((Rows.subsetFitsRow.loops == (Tryz.f4.params.toList++Rows.subsetFitsSpec.plain.varTypes Tryz.prog).any (Tryz.prog.loopsFrom ·)))=true:=by kernel_rfl
theorem fits38_k17 : ((Rows.subsetFitsRow.wideKeys == (Tryz.f4.params.toList++Rows.subsetFitsSpec.plain.varTypes Tryz.prog++Tryz.f4.resultTypes.toList).any (Tryz.prog.wideKeysFrom ·)))=true:=by kernel_rfl
theorem fits38_k18 : (Rows.subsetFitsSpec.vars.all (Tryz.prog.varReadable ·))=true:=by kernel_rfl
theorem fits38_k19 : (Tryz.f4.resultTypes.all (fun t=>Tryz.prog.readableRec t && decide (t<Tryz.prog.types.size)))=true:=by kernel_rfl
theorem fits38_k20 : ((Rows.subsetFitsRow.ifacesOut == Tryz.f4.resultTypes.toList.any (Tryz.prog.ifacesRec ·)))=true:=by kernel_rfl
theorem fits38_k21 : ((Rows.subsetFitsRow.loopsOut == Tryz.f4.resultTypes.toList.any (Tryz.prog.loopsFrom ·)))=true:=by kernel_rfl
theorem fits38_k23 : (Rows.subsetFitsRow.shortTexts.isNone)=true:=by kernel_rfl
theorem fits38_k28 : ((Rows.subsetFitsRow.kinds == (if Rows.subsetFitsRow.domain.isEmpty then [] else Tryz.f4.params.toList.map fun t=>match Tryz.prog.underlying t with | some (.int k)=>some k | _=>none)))=true:=by kernel_rfl
theorem fits38_k29 : ((Rows.subsetFitsRow.pinned == Rows.subsetFitsRow.pinnedBy))=true:=by kernel_rfl
theorem fits38_k30 : ((Rows.subsetFitsRow.veiled == (Tryz.f4.params.toList++Rows.subsetFitsSpec.plain.varTypes Tryz.prog++Tryz.f4.resultTypes.toList).any (Tryz.prog.veiledRec ·)))=true:=by kernel_rfl
theorem fits38_k31 : (Rows.subsetFitsRow.veiledFits Tryz.prog Tryz.f4.params.toList (Tryz.f4.params.toList++Rows.subsetFitsSpec.plain.varTypes Tryz.prog++Tryz.f4.resultTypes.toList))=true:=by kernel_rfl
theorem fits38_closed : joinedFacts Tryz.prog 4 Tryz.f4 Rows.subsetFitsSpec Rows.subsetFitsRow=true:=(and_t (and_t (and_t (and_t (and_t (and_t (and_t (and_t (and_t (and_t (and_t (and_t (and_t (and_t (and_t (and_t (and_t (and_t (and_t (and_t (and_t (and_t (and_t (and_t (and_t (and_t (and_t (and_t (and_t (and_t (and_t fits38_k0 laidOut_yes) fct_maps) fits38_k3) fits38_k4) fits38_k5) fct_stops) fits38_k7) fct_knobs) fits38_k9) fits38_k10) fits38_k11) fits38_k12) fits38_k13) fits38_k14) fits38_k15) fits38_k16) fits38_k17) fits38_k18) fits38_k19) fits38_k20) fits38_k21) fct_keys) fits38_k23) fct_heard) fct_enter) fct_lifts) fct_make) fits38_k28) fits38_k29) fits38_k30) fits38_k31)
theorem fits38_inst : Tryz.f4.isInstance Tryz.prog Rows.subsetFitsRow.origin Rows.subsetFitsRow.targs:=of_decide_eq_true (by kernel_rfl)
theorem fits38_wrap : Tryz.f4.isWrapper Tryz.prog Rows.subsetFitsRow.wrapper Rows.subsetFitsRow.mainSum:=by unfold Func.isWrapper;first | (rw [if_pos (by decide +kernel)];kernel_rfl) | (rw [if_neg (by decide +kernel)];exact ⟨rfl,rfl⟩)
theorem fits38_named : Tryz.prog.funcNamed Rows.subsetFitsRow.func=some 4:=by kernel_rfl
theorem fits38_holds : Rows.SubsetFitsSaid :=
 OpenClaim.holds_of_wide 4 Tryz.f4 rfl rfl rfl rfl rfl rfl rfl ⟨rfl,rfl,rfl,rfl,rfl⟩ rfl rfl rfl rfl rfl fits38_named Tryz.func4 fits38_closed fits38_inst fits38_wrap
  (fun os started H enc _=>fits38_lifted os started H enc)
end Go.Proofs.YtipjmpdndokdlaaGreatDoor

namespace Go.Proofs.YtipjmpdndokdlaaGreatDoor
open Go.ChangeShapes Go.WideShapes Go.ChangeAt Go.WideMaps Go.WideElems Go.RowKit
theorem fits38_card : Rows.SubsetFitsCardSaid :=
 Claim7.holds_tied_plain_at .later [] [.data, .data, .data, .sentinel, .sentinel] true (true, "13e1029adf651137bc5089b5cf3a78d1a267e460e95d8fe8bd9443154de8043b") true
  fits38_holds (fun _ h=>by cases h) (by as_aux_lemma=>kernel_rfl) (fun _ h=>by cases h) subsetFits_row_tie rfl ⟨rfl,rfl⟩ (by as_aux_lemma=>kernel_rfl) rfl
  (fun f fn hf hfn=>by
   obtain rfl : f = 4 := Option.some.inj ((show Tryz.prog.funcNamed "schisma/schismalaw38.SubsetFits" = some 4 by kernel_rfl).symm.trans hf) |>.symm
   obtain rfl:fn=Tryz.f4:=(Option.some.inj (Tryz.func4.symm.trans hfn)).symm
   exact ⟨by kernel_rfl,fun j t ht=>by
    rw [Tryz.params4] at ht
    have hm:t∈[49,28]:=by simpa using Array.mem_of_getElem? ht
    have hall:([49,28].all fun u=>!Tryz.prog.wantsStandIn u)=true:=by kernel_rfl
    exact (show Tryz.prog.wantsStandIn t=false by simpa using List.all_eq_true.1 hall t hm)⟩)
  (by as_aux_lemma=>kernel_rfl)
#print axioms fits38_card
end Go.Proofs.YtipjmpdndokdlaaGreatDoor
