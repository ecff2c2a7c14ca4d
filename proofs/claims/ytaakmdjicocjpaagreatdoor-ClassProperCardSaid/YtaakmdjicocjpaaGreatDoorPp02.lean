/- ClassProper: the row holds. -/
import Derived.Test.YtaakmdjicocjpaaGreatDoorPp01
import Derived.Test.YtaakmdjicocjpaaGreatDoorPb37
set_option maxRecDepth 100000
namespace Go.Proofs.YtaakmdjicocjpaaGreatDoor
open Go.ChangeShapes Go.WideShapes Go.ChangeAt Go.WideMaps Go.WideElems Go.RowKit
theorem propers_k0 : (Rows.classProperRow.wf (OpenSpec.ofChange Rows.classProperSpec)) = true := by kernel_rfl
theorem propers_k3 : (Tryz.f5.params.all (Tryz.prog.readableRec ·)) = true := by kernel_rfl
theorem propers_k4 : (namedTie Tryz.prog Rows.classProperRow.named Rows.classProperSpec.vars) = true := by kernel_rfl
theorem propers_k5 : ((Rows.classProperRow.stops == [])) = true := by kernel_rfl
theorem propers_k7 : ((Rows.classProperRow.knobs == [])) = true := by kernel_rfl
theorem propers_k9 : ((Rows.classProperRow.inPlace == Tryz.prog.inPlace 5)) = true := by kernel_rfl
theorem propers_k10 : ((Rows.classProperRow.unfollowed == Tryz.prog.unfollowed 5)) = true := by kernel_rfl
theorem propers_k11 : ((Rows.classProperRow.recurses == Tryz.prog.recurses 5)) = true := by kernel_rfl
theorem propers_k12 : ((Rows.classProperRow.named == Tryz.prog.varsNamed 5)) = true := by kernel_rfl
theorem propers_k13 : ((Rows.classProperRow.maps == (Tryz.f5.params.toList ++ Rows.classProperSpec.plain.varTypes Tryz.prog).any (Tryz.prog.mapsRec ·))) = true := by kernel_rfl
theorem propers_k14 : ((Rows.classProperRow.ifaces == (Tryz.f5.params.toList ++ Rows.classProperSpec.plain.varTypes Tryz.prog).any (Tryz.prog.ifacesRec ·))) = true := by kernel_rfl
theorem propers_k15 : ((Rows.classProperRow.mapsOut == Tryz.prog.mapsAmong Tryz.f5.resultTypes.toList)) = true := by kernel_rfl
theorem propers_k16 : ((Rows.classProperRow.loops == (Tryz.f5.params.toList ++ Rows.classProperSpec.plain.varTypes Tryz.prog).any (Tryz.prog.loopsFrom ·))) = true := by kernel_rfl
theorem propers_k17 : ((Rows.classProperRow.wideKeys == (Tryz.f5.params.toList ++ Rows.classProperSpec.plain.varTypes Tryz.prog ++ Tryz.f5.resultTypes.toList).any (Tryz.prog.wideKeysFrom ·))) = true := by kernel_rfl
theorem propers_k18 : (Rows.classProperSpec.vars.all (Tryz.prog.varReadable ·)) = true := by kernel_rfl
theorem propers_k19 : (Tryz.f5.resultTypes.all (fun t => Tryz.prog.readableRec t && decide (t < Tryz.prog.types.size))) = true := by kernel_rfl
theorem propers_k20 : ((Rows.classProperRow.ifacesOut == Tryz.f5.resultTypes.toList.any (Tryz.prog.ifacesRec ·))) = true := by kernel_rfl
theorem propers_k21 : ((Rows.classProperRow.loopsOut == Tryz.f5.resultTypes.toList.any (Tryz.prog.loopsFrom ·))) = true := by kernel_rfl
theorem propers_k23 : (Rows.classProperRow.shortTexts.isNone) = true := by kernel_rfl
theorem propers_k28 : ((Rows.classProperRow.kinds == (if Rows.classProperRow.domain.isEmpty then [] else Tryz.f5.params.toList.map fun t => match Tryz.prog.underlying t with | some (.int k) => some k | _ => none))) = true := by kernel_rfl
theorem propers_k29 : ((Rows.classProperRow.pinned == Rows.classProperRow.pinnedBy)) = true := by kernel_rfl
theorem propers_k30 : ((Rows.classProperRow.veiled == (Tryz.f5.params.toList ++ Rows.classProperSpec.plain.varTypes Tryz.prog ++ Tryz.f5.resultTypes.toList).any (Tryz.prog.veiledRec ·))) = true := by kernel_rfl
theorem propers_k31 : (Rows.classProperRow.veiledFits Tryz.prog Tryz.f5.params.toList (Tryz.f5.params.toList ++ Rows.classProperSpec.plain.varTypes Tryz.prog ++ Tryz.f5.resultTypes.toList)) = true := by kernel_rfl
theorem propers_closed : joinedFacts Tryz.prog 5 Tryz.f5 Rows.classProperSpec Rows.classProperRow = true := (and_t (and_t (and_t (and_t (and_t (and_t (and_t (and_t (and_t (and_t (and_t (and_t (and_t (and_t (and_t (and_t (and_t (and_t (and_t (and_t (and_t (and_t (and_t (and_t (and_t (and_t (and_t (and_t (and_t (and_t (and_t propers_k0 laidOut_yes) fct_maps) propers_k3) propers_k4) propers_k5) fct_stops) propers_k7) fct_knobs) propers_k9) propers_k10) propers_k11) propers_k12) propers_k13) propers_k14) propers_k15) propers_k16) propers_k17) propers_k18) propers_k19) propers_k20) propers_k21) fct_keys) propers_k23) fct_heard) fct_enter) fct_lifts) fct_make) propers_k28) propers_k29) propers_k30) propers_k31)
theorem propers_inst : Tryz.f5.isInstance Tryz.prog Rows.classProperRow.origin Rows.classProperRow.targs := of_decide_eq_true (by kernel_rfl)
theorem propers_wrap : Tryz.f5.isWrapper Tryz.prog Rows.classProperRow.wrapper Rows.classProperRow.mainSum := by unfold Func.isWrapper; first | (rw [if_pos (by decide +kernel)]; kernel_rfl) | (rw [if_neg (by decide +kernel)]; exact ⟨rfl, rfl⟩)
theorem propers_named : Tryz.prog.funcNamed Rows.classProperRow.func = some 5 := by kernel_rfl
theorem propers_holds : Rows.ClassProperSaid :=
  OpenClaim.holds_of_wide 5 Tryz.f5 rfl rfl rfl rfl rfl rfl rfl ⟨rfl, rfl, rfl, rfl, rfl⟩ rfl rfl rfl rfl rfl propers_named Tryz.func5 propers_closed propers_inst propers_wrap
    (fun os started H enc _ => propers_lifted os started H enc)
end Go.Proofs.YtaakmdjicocjpaaGreatDoor
