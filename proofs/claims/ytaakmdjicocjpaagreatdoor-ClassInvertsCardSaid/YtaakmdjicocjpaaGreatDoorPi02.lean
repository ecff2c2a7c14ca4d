/- ClassInverts: the row holds. -/
import Derived.Test.YtaakmdjicocjpaaGreatDoorPi01
import Derived.Test.YtaakmdjicocjpaaGreatDoorPb37
set_option maxRecDepth 100000
namespace Go.Proofs.YtaakmdjicocjpaaGreatDoor
open Go.ChangeShapes Go.WideShapes Go.ChangeAt Go.WideMaps Go.WideElems Go.RowKit
theorem inverts_k0 : (Rows.classInvertsRow.wf (OpenSpec.ofChange Rows.classInvertsSpec)) = true := by kernel_rfl
theorem inverts_k3 : (Tryz.f6.params.all (Tryz.prog.readableRec ·)) = true := by kernel_rfl
theorem inverts_k4 : (namedTie Tryz.prog Rows.classInvertsRow.named Rows.classInvertsSpec.vars) = true := by kernel_rfl
theorem inverts_k5 : ((Rows.classInvertsRow.stops == [])) = true := by kernel_rfl
theorem inverts_k7 : ((Rows.classInvertsRow.knobs == [])) = true := by kernel_rfl
theorem inverts_k9 : ((Rows.classInvertsRow.inPlace == Tryz.prog.inPlace 6)) = true := by kernel_rfl
theorem inverts_k10 : ((Rows.classInvertsRow.unfollowed == Tryz.prog.unfollowed 6)) = true := by kernel_rfl
theorem inverts_k11 : ((Rows.classInvertsRow.recurses == Tryz.prog.recurses 6)) = true := by kernel_rfl
theorem inverts_k12 : ((Rows.classInvertsRow.named == Tryz.prog.varsNamed 6)) = true := by kernel_rfl
theorem inverts_k13 : ((Rows.classInvertsRow.maps == (Tryz.f6.params.toList ++ Rows.classInvertsSpec.plain.varTypes Tryz.prog).any (Tryz.prog.mapsRec ·))) = true := by kernel_rfl
theorem inverts_k14 : ((Rows.classInvertsRow.ifaces == (Tryz.f6.params.toList ++ Rows.classInvertsSpec.plain.varTypes Tryz.prog).any (Tryz.prog.ifacesRec ·))) = true := by kernel_rfl
theorem inverts_k15 : ((Rows.classInvertsRow.mapsOut == Tryz.prog.mapsAmong Tryz.f6.resultTypes.toList)) = true := by kernel_rfl
theorem inverts_k16 : ((Rows.classInvertsRow.loops == (Tryz.f6.params.toList ++ Rows.classInvertsSpec.plain.varTypes Tryz.prog).any (Tryz.prog.loopsFrom ·))) = true := by kernel_rfl
theorem inverts_k17 : ((Rows.classInvertsRow.wideKeys == (Tryz.f6.params.toList ++ Rows.classInvertsSpec.plain.varTypes Tryz.prog ++ Tryz.f6.resultTypes.toList).any (Tryz.prog.wideKeysFrom ·))) = true := by kernel_rfl
theorem inverts_k18 : (Rows.classInvertsSpec.vars.all (Tryz.prog.varReadable ·)) = true := by kernel_rfl
theorem inverts_k19 : (Tryz.f6.resultTypes.all (fun t => Tryz.prog.readableRec t && decide (t < Tryz.prog.types.size))) = true := by kernel_rfl
theorem inverts_k20 : ((Rows.classInvertsRow.ifacesOut == Tryz.f6.resultTypes.toList.any (Tryz.prog.ifacesRec ·))) = true := by kernel_rfl
theorem inverts_k21 : ((Rows.classInvertsRow.loopsOut == Tryz.f6.resultTypes.toList.any (Tryz.prog.loopsFrom ·))) = true := by kernel_rfl
theorem inverts_k23 : (Rows.classInvertsRow.shortTexts.isNone) = true := by kernel_rfl
theorem inverts_k28 : ((Rows.classInvertsRow.kinds == (if Rows.classInvertsRow.domain.isEmpty then [] else Tryz.f6.params.toList.map fun t => match Tryz.prog.underlying t with | some (.int k) => some k | _ => none))) = true := by kernel_rfl
theorem inverts_k29 : ((Rows.classInvertsRow.pinned == Rows.classInvertsRow.pinnedBy)) = true := by kernel_rfl
theorem inverts_k30 : ((Rows.classInvertsRow.veiled == (Tryz.f6.params.toList ++ Rows.classInvertsSpec.plain.varTypes Tryz.prog ++ Tryz.f6.resultTypes.toList).any (Tryz.prog.veiledRec ·))) = true := by kernel_rfl
theorem inverts_k31 : (Rows.classInvertsRow.veiledFits Tryz.prog Tryz.f6.params.toList (Tryz.f6.params.toList ++ Rows.classInvertsSpec.plain.varTypes Tryz.prog ++ Tryz.f6.resultTypes.toList)) = true := by kernel_rfl
theorem inverts_closed : joinedFacts Tryz.prog 6 Tryz.f6 Rows.classInvertsSpec Rows.classInvertsRow = true := (and_t (and_t (and_t (and_t (and_t (and_t (and_t (and_t (and_t (and_t (and_t (and_t (and_t (and_t (and_t (and_t (and_t (and_t (and_t (and_t (and_t (and_t (and_t (and_t (and_t (and_t (and_t (and_t (and_t (and_t (and_t inverts_k0 laidOut_yes) fct_maps) inverts_k3) inverts_k4) inverts_k5) fct_stops) inverts_k7) fct_knobs) inverts_k9) inverts_k10) inverts_k11) inverts_k12) inverts_k13) inverts_k14) inverts_k15) inverts_k16) inverts_k17) inverts_k18) inverts_k19) inverts_k20) inverts_k21) fct_keys) inverts_k23) fct_heard) fct_enter) fct_lifts) fct_make) inverts_k28) inverts_k29) inverts_k30) inverts_k31)
theorem inverts_inst : Tryz.f6.isInstance Tryz.prog Rows.classInvertsRow.origin Rows.classInvertsRow.targs := of_decide_eq_true (by kernel_rfl)
theorem inverts_wrap : Tryz.f6.isWrapper Tryz.prog Rows.classInvertsRow.wrapper Rows.classInvertsRow.mainSum := by unfold Func.isWrapper; first | (rw [if_pos (by decide +kernel)]; kernel_rfl) | (rw [if_neg (by decide +kernel)]; exact ⟨rfl, rfl⟩)
theorem inverts_named : Tryz.prog.funcNamed Rows.classInvertsRow.func = some 6 := by kernel_rfl
theorem inverts_holds : Rows.ClassInvertsSaid :=
  OpenClaim.holds_of_wide 6 Tryz.f6 rfl rfl rfl rfl rfl rfl rfl ⟨rfl, rfl, rfl, rfl, rfl⟩ rfl rfl rfl rfl rfl inverts_named Tryz.func6 inverts_closed inverts_inst inverts_wrap
    (fun os started H enc _ => inverts_lifted os started H enc)
end Go.Proofs.YtaakmdjicocjpaaGreatDoor
