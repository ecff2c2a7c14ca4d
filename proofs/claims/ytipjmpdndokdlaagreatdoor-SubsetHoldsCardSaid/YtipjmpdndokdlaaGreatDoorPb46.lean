/- SubsetHolds: for any described scale and any number, Holds says whether it has the property, or returns the first error. (The walk, lifted.) What the rows ask of the program as a whole (once a seat). SubsetHolds: the row holds. SubsetHolds: for any described scale and any number, Holds says whether it has the property, or returns the first error. The tied card, without conditions. -/
import Derived.Test.YtipjmpdndokdlaaGreatDoorPb44
import Derived.Test.YtipjmpdndokdlaaGreatDoorPb45
set_option maxRecDepth 100000
namespace Go.Proofs.YtipjmpdndokdlaaGreatDoor
open Go.ChangeShapes Go.WideShapes Go.ChangeAt Go.WideMaps Go.WideElems Go.RowKit
theorem holds38_lifted (os : Os) (started : os.Started) (H : Type) (enc : TypeId × Value → H) :
  ReturnsInHanded {} Tryz.checked os 7 .any (fun w args=>(Rows.subsetHoldsSpec.pre enc Tryz.prog Tryz.f7 [] false w args∧laidMetH Tryz.prog Rows.subsetHoldsRow.laid w)∧sizedMet enc Tryz.prog Tryz.f7 (OpenSpec.ofChange Rows.subsetHoldsSpec) false w args)
   (Rows.subsetHoldsSpec.post enc Tryz.prog Tryz.f7 false true false false):=by
 refine returnsInHanded_of_change_and (C:=Tryz.checked) (X:=fun w _=>laidMetH Tryz.prog Rows.subsetHoldsRow.laid w) (fun _ _ _ hh h=>h.of_heap hh) ownKnob_none started (by kernel_rfl) Tryz.func7
  (ChangeSpec.witness_shaped (enc:=enc) (C:=Tryz.checked) (os:=os) (X:=fun w _=>laidMetH Tryz.prog Rows.subsetHoldsRow.laid w) false (World.laidAll Tryz.prog os rowLaid) #[.agg #[.bool false,.int .u8 0,.int .u8 0,.int .i8 0,.int .i8 0,.int .i8 0,.int .i8 0,.int .i8 0,.int .i8 0,.int .i8 0,.int .i8 0,.int .i8 0,.int .i8 0,.int .i8 0,.int .i8 0,.int .i8 0,.int .i8 0,.int .i8 0,.int .i8 0,.int .i8 0,.int .i8 0,.int .i8 0,.int .i8 0,.int .i8 0,.int .i8 0,.int .i8 0,.int .i8 0],.int .i64 0] 8 (World.laidAll_os _ _ _)
   (rows_shaped os _) (by kernel_rfl) (by kernel_rfl) (by kernel_rfl)
   (rows_met os _)) ?_
 intro W base args ds gs before hval0 hW _ _ hL _
 have hval:∀ (j:Nat) t v,Tryz.f7.params[j]?=some t→args[j]?=some v→Value.okWide Tryz.prog W .any base t v:=hval0
 have hW':=hW
 obtain ⟨p,q,hA0,hV,rfl,_,_⟩:=hW
 have hA:DataW.TrodAll enc Tryz.prog W 0 (fun _=>true) true Tryz.f7.params.toList args.toList ds p:=hA0
 rw [Tryz.params7] at hA hval
 obtain ⟨v0,v1,d0,d1,p0,p1,rfl,rfl,rfl,h0,h1⟩:=trodAll_two hA
 obtain ⟨rfl,rfl⟩:=trodVars_none hV
 have hE:=env_of_laid hL
 obtain ⟨a,rfl,ha⟩:=open_world (hval 0 47 v0 rfl rfl) h0
 obtain ⟨m,rfl,rfl,rfl,wm⟩:=open_int Tryz.underlying3 (hval 1 3 v1 rfl rfl) h1
 refine (holdsL_c a m W hE ha).mono fun e' W' ⟨he',hb⟩=>?_
 subst he'
 exact ⟨_,rfl,law_post rfl (by rw [Tryz.params7];decide +kernel) rfl rfl hW' hb⟩
end Go.Proofs.YtipjmpdndokdlaaGreatDoor

namespace Go.Proofs.YtipjmpdndokdlaaGreatDoor
open Go.ChangeShapes Go.WideShapes Go.ChangeAt Go.WideMaps Go.WideElems Go.RowKit
theorem and_t {a b : Bool} (ha : a=true) (hb : b=true) : (a && b)=true:=by rw [ha,hb];rfl
theorem fct_maps : mapsRowed Tryz.prog=true:=by kernel_rfl
theorem fct_stops : (Tryz.prog.stops == [])=true:=by kernel_rfl
theorem fct_knobs : (Tryz.prog.stopKnobs == [])=true:=by kernel_rfl
theorem fct_keys : (Rows.subsetTurnsRow.plainKeys == Tryz.prog.plainKeys)=true:=by kernel_rfl
theorem fct_heard : Tryz.prog.stopsHeard=true:=by kernel_rfl
theorem fct_enter : Tryz.prog.mayEnter=true:=by kernel_rfl
theorem fct_lifts : (Rows.subsetTurnsRow.lifted == Tryz.prog.liftsFinal)=true:=by kernel_rfl
theorem fct_make : (Tryz.prog.make == some Rows.subsetTurnsRow.make)=true:=by kernel_rfl
end Go.Proofs.YtipjmpdndokdlaaGreatDoor

namespace Go.Proofs.YtipjmpdndokdlaaGreatDoor
open Go.ChangeShapes Go.WideShapes Go.ChangeAt Go.WideMaps Go.WideElems Go.RowKit
theorem holds38_k0 : (Rows.subsetHoldsRow.wf (OpenSpec.ofChange Rows.subsetHoldsSpec))=true:=by kernel_rfl
theorem holds38_k3 : (Tryz.f7.params.all (Tryz.prog.readableRec ·))=true:=by kernel_rfl
theorem holds38_k4 : (namedTie Tryz.prog Rows.subsetHoldsRow.named Rows.subsetHoldsSpec.vars)=true:=by kernel_rfl
theorem holds38_k5 : ((Rows.subsetHoldsRow.stops == []))=true:=by kernel_rfl
theorem holds38_k7 : ((Rows.subsetHoldsRow.knobs == []))=true:=by kernel_rfl
theorem holds38_k9 : ((Rows.subsetHoldsRow.inPlace == Tryz.prog.inPlace 7))=true:=by kernel_rfl
theorem holds38_k10 : ((Rows.subsetHoldsRow.unfollowed == Tryz.prog.unfollowed 7))=true:=by kernel_rfl
theorem holds38_k11 : ((Rows.subsetHoldsRow.recurses == Tryz.prog.recurses 7))=true:=by kernel_rfl
theorem holds38_k12 : ((Rows.subsetHoldsRow.named == Tryz.prog.varsNamed 7))=true:=by kernel_rfl
theorem holds38_k13 : ((Rows.subsetHoldsRow.maps == (Tryz.f7.params.toList ++ Rows.subsetHoldsSpec.plain.varTypes Tryz.prog).any (Tryz.prog.mapsRec ·)))=true:=by kernel_rfl
theorem holds38_k14 : ((Rows.subsetHoldsRow.ifaces == (Tryz.f7.params.toList ++ Rows.subsetHoldsSpec.plain.varTypes Tryz.prog).any (Tryz.prog.ifacesRec ·)))=true:=by kernel_rfl
theorem holds38_k15 : ((Rows.subsetHoldsRow.mapsOut == Tryz.prog.mapsAmong Tryz.f7.resultTypes.toList))=true:=by kernel_rfl
theorem holds38_k16 : ((Rows.subsetHoldsRow.loops == (Tryz.f7.params.toList ++ Rows.subsetHoldsSpec.plain.varTypes Tryz.prog).any (Tryz.prog.loopsFrom ·)))=true:=by kernel_rfl
theorem holds38_k17 : ((Rows.subsetHoldsRow.wideKeys == (Tryz.f7.params.toList ++ Rows.subsetHoldsSpec.plain.varTypes Tryz.prog ++ Tryz.f7.resultTypes.toList).any (Tryz.prog.wideKeysFrom ·)))=true:=by kernel_rfl
theorem holds38_k18 : (Rows.subsetHoldsSpec.vars.all (Tryz.prog.varReadable ·))=true:=by kernel_rfl
theorem holds38_k19 : (Tryz.f7.resultTypes.all (fun t => Tryz.prog.readableRec t && decide (t < Tryz.prog.types.size)))=true:=by kernel_rfl
theorem holds38_k20 : ((Rows.subsetHoldsRow.ifacesOut == Tryz.f7.resultTypes.toList.any (Tryz.prog.ifacesRec ·)))=true:=by kernel_rfl
theorem holds38_k21 : ((Rows.subsetHoldsRow.loopsOut == Tryz.f7.resultTypes.toList.any (Tryz.prog.loopsFrom ·)))=true:=by kernel_rfl
theorem holds38_k23 : (Rows.subsetHoldsRow.shortTexts.isNone)=true:=by kernel_rfl
theorem holds38_k28 : ((Rows.subsetHoldsRow.kinds == (if Rows.subsetHoldsRow.domain.isEmpty then [] else Tryz.f7.params.toList.map fun t => match Tryz.prog.underlying t with | some (.int k) => some k | _ => none)))=true:=by kernel_rfl
theorem holds38_k29 : ((Rows.subsetHoldsRow.pinned == Rows.subsetHoldsRow.pinnedBy))=true:=by kernel_rfl
theorem holds38_k30 : ((Rows.subsetHoldsRow.veiled == (Tryz.f7.params.toList ++ Rows.subsetHoldsSpec.plain.varTypes Tryz.prog ++ Tryz.f7.resultTypes.toList).any (Tryz.prog.veiledRec ·)))=true:=by kernel_rfl
theorem holds38_k31 : (Rows.subsetHoldsRow.veiledFits Tryz.prog Tryz.f7.params.toList (Tryz.f7.params.toList ++ Rows.subsetHoldsSpec.plain.varTypes Tryz.prog ++ Tryz.f7.resultTypes.toList))=true:=by kernel_rfl
theorem holds38_closed : joinedFacts Tryz.prog 7 Tryz.f7 Rows.subsetHoldsSpec Rows.subsetHoldsRow=true:=(and_t (and_t (and_t (and_t (and_t (and_t (and_t (and_t (and_t (and_t (and_t (and_t (and_t (and_t (and_t (and_t (and_t (and_t (and_t (and_t (and_t (and_t (and_t (and_t (and_t (and_t (and_t (and_t (and_t (and_t (and_t holds38_k0 laidOut_yes) fct_maps) holds38_k3) holds38_k4) holds38_k5) fct_stops) holds38_k7) fct_knobs) holds38_k9) holds38_k10) holds38_k11) holds38_k12) holds38_k13) holds38_k14) holds38_k15) holds38_k16) holds38_k17) holds38_k18) holds38_k19) holds38_k20) holds38_k21) fct_keys) holds38_k23) fct_heard) fct_enter) fct_lifts) fct_make) holds38_k28) holds38_k29) holds38_k30) holds38_k31)
theorem holds38_inst : Tryz.f7.isInstance Tryz.prog Rows.subsetHoldsRow.origin Rows.subsetHoldsRow.targs:=of_decide_eq_true (by kernel_rfl)
theorem holds38_wrap : Tryz.f7.isWrapper Tryz.prog Rows.subsetHoldsRow.wrapper Rows.subsetHoldsRow.mainSum:=by unfold Func.isWrapper;first | (rw [if_pos (by decide +kernel)];kernel_rfl) | (rw [if_neg (by decide +kernel)];exact ⟨rfl,rfl⟩)
theorem holds38_named : Tryz.prog.funcNamed Rows.subsetHoldsRow.func=some 7:=by kernel_rfl
theorem holds38_holds : Rows.SubsetHoldsSaid :=
 OpenClaim.holds_of_wide 7 Tryz.f7 rfl rfl rfl rfl rfl rfl rfl ⟨rfl,rfl,rfl,rfl,rfl⟩ rfl rfl rfl rfl rfl holds38_named Tryz.func7 holds38_closed holds38_inst holds38_wrap
  (fun os started H enc _=>holds38_lifted os started H enc)
end Go.Proofs.YtipjmpdndokdlaaGreatDoor

namespace Go.Proofs.YtipjmpdndokdlaaGreatDoor
open Go.ChangeShapes Go.WideShapes Go.ChangeAt Go.WideMaps Go.WideElems Go.RowKit
theorem holds38_card : Rows.SubsetHoldsCardSaid :=
 Claim7.holds_tied_plain_at .later [] [.data, .data, .data, .sentinel, .sentinel] true (true, "13e1029adf651137bc5089b5cf3a78d1a267e460e95d8fe8bd9443154de8043b") true
  holds38_holds (fun _ h=>by cases h) (by as_aux_lemma=>kernel_rfl) (fun _ h=>by cases h) subsetHolds_row_tie rfl ⟨rfl,rfl⟩ (by as_aux_lemma=>kernel_rfl) rfl
  (fun f fn hf hfn=>by
   obtain rfl : f = 7 := Option.some.inj ((show Tryz.prog.funcNamed "schisma/schismalaw38.SubsetHolds" = some 7 by kernel_rfl).symm.trans hf) |>.symm
   obtain rfl:fn=Tryz.f7:=(Option.some.inj (Tryz.func7.symm.trans hfn)).symm
   exact ⟨by kernel_rfl,fun j t ht=>by
    rw [Tryz.params7] at ht
    have hm:t ∈ [47,3]:=by simpa using Array.mem_of_getElem? ht
    have hall:([47,3].all fun u=>!Tryz.prog.wantsStandIn u)=true:=by kernel_rfl
    exact (show Tryz.prog.wantsStandIn t=false by simpa using List.all_eq_true.1 hall t hm)⟩)
  (by as_aux_lemma=>kernel_rfl)
#print axioms holds38_card
end Go.Proofs.YtipjmpdndokdlaaGreatDoor
