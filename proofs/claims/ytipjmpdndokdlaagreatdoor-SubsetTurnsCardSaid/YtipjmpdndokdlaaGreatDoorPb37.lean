/- SubsetTurns: for any equal scale of k notes, from 2 to 12, any described subset, any property, and any number, moving all indices by the number modulo k changes nothing. (The walk, lifted.) What the rows ask of the program as a whole (once a seat). SubsetTurns: the row holds. SubsetTurns: for any equal scale of k notes, from 2 to 12, any described subset, any property, and any number, moving all indices by the number modulo k changes nothing. The tied card, without conditions. -/
import Derived.Test.YtipjmpdndokdlaaGreatDoorPb36
set_option maxRecDepth 100000
namespace Go.Proofs.YtipjmpdndokdlaaGreatDoor
open Go.ChangeShapes Go.WideShapes Go.ChangeAt Go.WideMaps Go.WideElems Go.RowKit
theorem turns38_lifted (os : Os) (started : os.Started) (H : Type) (enc : TypeId × Value → H) :
  ReturnsInHanded {} Tryz.checked os 3 .any (fun w args=>(Rows.subsetTurnsSpec.pre enc Tryz.prog Tryz.f3 [] false w args∧laidMetH Tryz.prog Rows.subsetTurnsRow.laid w)∧sizedMet enc Tryz.prog Tryz.f3 (OpenSpec.ofChange Rows.subsetTurnsSpec) false w args)
   (Rows.subsetTurnsSpec.post enc Tryz.prog Tryz.f3 false true false false):=by
 refine returnsInHanded_of_change_and (C:=Tryz.checked) (X:=fun w _=>laidMetH Tryz.prog Rows.subsetTurnsRow.laid w) (fun _ _ _ hh h=>h.of_heap hh) ownKnob_none started (by kernel_rfl) Tryz.func3
  (ChangeSpec.witness_shaped (enc:=enc) (C:=Tryz.checked) (os:=os) (X:=fun w _=>laidMetH Tryz.prog Rows.subsetTurnsRow.laid w) false (World.laidAll Tryz.prog os rowLaid) #[.int .u8 0,.int .u16 0,.agg #[.int .u8 0,.int .u8 0]] 8 (World.laidAll_os _ _ _)
   (rows_shaped os _) (by kernel_rfl) (by kernel_rfl) (by kernel_rfl)
   (rows_met os _)) ?_
 intro W base args ds gs before hval0 hW _ _ hL _
 have hval:∀ (j:Nat) t v,Tryz.f3.params[j]?=some t→args[j]?=some v→Value.okWide Tryz.prog W .any base t v:=hval0
 have hW':=hW
 obtain ⟨p,q,hA0,hV,rfl,_,_⟩:=hW
 have hA:DataW.TrodAll enc Tryz.prog W 0 (fun _=>true) true Tryz.f3.params.toList args.toList ds p:=hA0
 rw [Tryz.params3] at hA hval
 obtain ⟨v0,v1,v2,d0,d1,d2,p0,p1,p2,rfl,rfl,rfl,h0,h1,h2⟩:=trodAll_three hA
 obtain ⟨rfl,rfl⟩:=trodVars_none hV
 have hE:=env_of_laid hL
 obtain ⟨x,rfl,rfl,rfl,wx⟩:=open_int Tryz.underlying5 (hval 0 5 v0 rfl rfl) h0
 obtain ⟨y,rfl,rfl,rfl,wy⟩:=open_int Tryz.underlying22 (hval 1 22 v1 rfl rfl) h1
 obtain ⟨x0,x1,rfl,hx0,hx1⟩:=open_u82 (hval 2 23 v2 rfl rfl) h2
 obtain ⟨x',rfl,hx⟩:=wf_u8 wx
 obtain ⟨y',rfl,hy⟩:=wf_u16 wy
 refine (turnsL_c x' y' x0 x1 W hE hx hy hx0 hx1).mono fun e' W' ⟨he',hb⟩=>?_
 subst he'
 exact ⟨_,rfl,law_post rfl (by rw [Tryz.params3];decide +kernel) rfl rfl hW' hb⟩
end Go.Proofs.YtipjmpdndokdlaaGreatDoor

namespace Go.Proofs.YtipjmpdndokdlaaGreatDoor
open Go.ChangeShapes Go.WideShapes Go.ChangeAt Go.WideMaps Go.WideElems Go.RowKit
theorem and_t {a b : Bool} (ha : a=true) (hb : b=true) : (a && b)=true:=by rw [ha,hb];rfl
theorem fct_maps : mapsRowed Tryz.prog=true:=by kernel_rfl
theorem fct_stops : (Tryz.prog.stops == [])=true:=by kernel_rfl
theorem fct_knobs : (Tryz.prog.stopKnobs == [])=true:=by kernel_rfl
theorem fct_keys : (Rows.subsetTurnsRow.plainKeys == Tryz.prog.plainKeys)=true:=by kernel_rfl
theorem fct_heard : Tryz.prog.stopsHeard=true:=by kernel_rfl
theorem fct_enter : Tryz.prog.mayEnter=true:=by kernel_rfl
theorem fct_lifts : (Rows.subsetTurnsRow.lifted == Tryz.prog.liftsFinal)=true:=by kernel_rfl
theorem fct_make : (Tryz.prog.make == some Rows.subsetTurnsRow.make)=true:=by kernel_rfl
end Go.Proofs.YtipjmpdndokdlaaGreatDoor

namespace Go.Proofs.YtipjmpdndokdlaaGreatDoor
open Go.ChangeShapes Go.WideShapes Go.ChangeAt Go.WideMaps Go.WideElems Go.RowKit
theorem turns38_k0 : (Rows.subsetTurnsRow.wf (OpenSpec.ofChange Rows.subsetTurnsSpec))=true:=by kernel_rfl
theorem turns38_k3 : (Tryz.f3.params.all (Tryz.prog.readableRec ·))=true:=by kernel_rfl
theorem turns38_k4 : (namedTie Tryz.prog Rows.subsetTurnsRow.named Rows.subsetTurnsSpec.vars)=true:=by kernel_rfl
theorem turns38_k5 : ((Rows.subsetTurnsRow.stops == []))=true:=by kernel_rfl
theorem turns38_k7 : ((Rows.subsetTurnsRow.knobs == []))=true:=by kernel_rfl
theorem turns38_k9 : ((Rows.subsetTurnsRow.inPlace == Tryz.prog.inPlace 3))=true:=by kernel_rfl
theorem turns38_k10 : ((Rows.subsetTurnsRow.unfollowed == Tryz.prog.unfollowed 3))=true:=by kernel_rfl
theorem turns38_k11 : ((Rows.subsetTurnsRow.recurses == Tryz.prog.recurses 3))=true:=by kernel_rfl
theorem turns38_k12 : ((Rows.subsetTurnsRow.named == Tryz.prog.varsNamed 3))=true:=by kernel_rfl
theorem turns38_k13 : ((Rows.subsetTurnsRow.maps == (Tryz.f3.params.toList ++ Rows.subsetTurnsSpec.plain.varTypes Tryz.prog).any (Tryz.prog.mapsRec ·)))=true:=by kernel_rfl
theorem turns38_k14 : ((Rows.subsetTurnsRow.ifaces == (Tryz.f3.params.toList ++ Rows.subsetTurnsSpec.plain.varTypes Tryz.prog).any (Tryz.prog.ifacesRec ·)))=true:=by kernel_rfl
theorem turns38_k15 : ((Rows.subsetTurnsRow.mapsOut == Tryz.prog.mapsAmong Tryz.f3.resultTypes.toList))=true:=by kernel_rfl
theorem turns38_k16 : ((Rows.subsetTurnsRow.loops == (Tryz.f3.params.toList ++ Rows.subsetTurnsSpec.plain.varTypes Tryz.prog).any (Tryz.prog.loopsFrom ·)))=true:=by kernel_rfl
theorem turns38_k17 : ((Rows.subsetTurnsRow.wideKeys == (Tryz.f3.params.toList ++ Rows.subsetTurnsSpec.plain.varTypes Tryz.prog ++ Tryz.f3.resultTypes.toList).any (Tryz.prog.wideKeysFrom ·)))=true:=by kernel_rfl
theorem turns38_k18 : (Rows.subsetTurnsSpec.vars.all (Tryz.prog.varReadable ·))=true:=by kernel_rfl
theorem turns38_k19 : (Tryz.f3.resultTypes.all (fun t => Tryz.prog.readableRec t && decide (t < Tryz.prog.types.size)))=true:=by kernel_rfl
theorem turns38_k20 : ((Rows.subsetTurnsRow.ifacesOut == Tryz.f3.resultTypes.toList.any (Tryz.prog.ifacesRec ·)))=true:=by kernel_rfl
theorem turns38_k21 : ((Rows.subsetTurnsRow.loopsOut == Tryz.f3.resultTypes.toList.any (Tryz.prog.loopsFrom ·)))=true:=by kernel_rfl
theorem turns38_k23 : (Rows.subsetTurnsRow.shortTexts.isNone)=true:=by kernel_rfl
theorem turns38_k28 : ((Rows.subsetTurnsRow.kinds == (if Rows.subsetTurnsRow.domain.isEmpty then [] else Tryz.f3.params.toList.map fun t => match Tryz.prog.underlying t with | some (.int k) => some k | _ => none)))=true:=by kernel_rfl
theorem turns38_k29 : ((Rows.subsetTurnsRow.pinned == Rows.subsetTurnsRow.pinnedBy))=true:=by kernel_rfl
theorem turns38_k30 : ((Rows.subsetTurnsRow.veiled == (Tryz.f3.params.toList ++ Rows.subsetTurnsSpec.plain.varTypes Tryz.prog ++ Tryz.f3.resultTypes.toList).any (Tryz.prog.veiledRec ·)))=true:=by kernel_rfl
theorem turns38_k31 : (Rows.subsetTurnsRow.veiledFits Tryz.prog Tryz.f3.params.toList (Tryz.f3.params.toList ++ Rows.subsetTurnsSpec.plain.varTypes Tryz.prog ++ Tryz.f3.resultTypes.toList))=true:=by kernel_rfl
theorem turns38_closed : joinedFacts Tryz.prog 3 Tryz.f3 Rows.subsetTurnsSpec Rows.subsetTurnsRow=true:=(and_t (and_t (and_t (and_t (and_t (and_t (and_t (and_t (and_t (and_t (and_t (and_t (and_t (and_t (and_t (and_t (and_t (and_t (and_t (and_t (and_t (and_t (and_t (and_t (and_t (and_t (and_t (and_t (and_t (and_t (and_t turns38_k0 laidOut_yes) fct_maps) turns38_k3) turns38_k4) turns38_k5) fct_stops) turns38_k7) fct_knobs) turns38_k9) turns38_k10) turns38_k11) turns38_k12) turns38_k13) turns38_k14) turns38_k15) turns38_k16) turns38_k17) turns38_k18) turns38_k19) turns38_k20) turns38_k21) fct_keys) turns38_k23) fct_heard) fct_enter) fct_lifts) fct_make) turns38_k28) turns38_k29) turns38_k30) turns38_k31)
theorem turns38_inst : Tryz.f3.isInstance Tryz.prog Rows.subsetTurnsRow.origin Rows.subsetTurnsRow.targs:=of_decide_eq_true (by kernel_rfl)
theorem turns38_wrap : Tryz.f3.isWrapper Tryz.prog Rows.subsetTurnsRow.wrapper Rows.subsetTurnsRow.mainSum:=by unfold Func.isWrapper;first | (rw [if_pos (by decide +kernel)];kernel_rfl) | (rw [if_neg (by decide +kernel)];exact ⟨rfl,rfl⟩)
theorem turns38_named : Tryz.prog.funcNamed Rows.subsetTurnsRow.func=some 3:=by kernel_rfl
theorem turns38_holds : Rows.SubsetTurnsSaid :=
 OpenClaim.holds_of_wide 3 Tryz.f3 rfl rfl rfl rfl rfl rfl rfl ⟨rfl,rfl,rfl,rfl,rfl⟩ rfl rfl rfl rfl rfl turns38_named Tryz.func3 turns38_closed turns38_inst turns38_wrap
  (fun os started H enc _=>turns38_lifted os started H enc)
end Go.Proofs.YtipjmpdndokdlaaGreatDoor

namespace Go.Proofs.YtipjmpdndokdlaaGreatDoor
open Go.ChangeShapes Go.WideShapes Go.ChangeAt Go.WideMaps Go.WideElems Go.RowKit
theorem turns38_card : Rows.SubsetTurnsCardSaid :=
 Claim7.holds_tied_plain_at .later [] [.data, .data, .data, .sentinel, .sentinel] true (true, "13e1029adf651137bc5089b5cf3a78d1a267e460e95d8fe8bd9443154de8043b") true
  turns38_holds (fun _ h=>by cases h) (by as_aux_lemma=>kernel_rfl) (fun _ h=>by cases h) subsetTurns_row_tie rfl ⟨rfl,rfl⟩ (by as_aux_lemma=>kernel_rfl) rfl
  (fun f fn hf hfn=>by
   obtain rfl : f = 3 := Option.some.inj ((show Tryz.prog.funcNamed "schisma/schismalaw38.SubsetTurns" = some 3 by kernel_rfl).symm.trans hf) |>.symm
   obtain rfl:fn=Tryz.f3:=(Option.some.inj (Tryz.func3.symm.trans hfn)).symm
   exact ⟨by kernel_rfl,fun j t ht=>by
    rw [Tryz.params3] at ht
    have hm:t ∈ [5,22,23]:=by simpa using Array.mem_of_getElem? ht
    have hall:([5,22,23].all fun u=>!Tryz.prog.wantsStandIn u)=true:=by kernel_rfl
    exact (show Tryz.prog.wantsStandIn t=false by simpa using List.all_eq_true.1 hall t hm)⟩)
  (by as_aux_lemma=>kernel_rfl)
#print axioms turns38_card
end Go.Proofs.YtipjmpdndokdlaaGreatDoor
