/- ClassTables: the row holds. -/
import Derived.Test.YtaakmdjicocjpaaGreatDoorPq01
import Derived.Test.YtaakmdjicocjpaaGreatDoorPb37
set_option maxRecDepth 100000
namespace Go.Proofs.YtaakmdjicocjpaaGreatDoor
open Go.ChangeShapes Go.WideShapes Go.ChangeAt Go.WideMaps Go.WideElems Go.RowKit
theorem tables_k0 : (Rows.classTablesRow.wf (OpenSpec.ofChange Rows.classTablesSpec)) = true := by kernel_rfl
theorem tables_k3 : (Tryz.f7.params.all (Tryz.prog.readableRec ·)) = true := by kernel_rfl
theorem tables_k4 : (namedTie Tryz.prog Rows.classTablesRow.named Rows.classTablesSpec.vars) = true := by kernel_rfl
theorem tables_k5 : ((Rows.classTablesRow.stops == [])) = true := by kernel_rfl
theorem tables_k7 : ((Rows.classTablesRow.knobs == [])) = true := by kernel_rfl
theorem tables_k9 : ((Rows.classTablesRow.inPlace == Tryz.prog.inPlace 7)) = true := by kernel_rfl
theorem tables_k10 : ((Rows.classTablesRow.unfollowed == Tryz.prog.unfollowed 7)) = true := by kernel_rfl
theorem tables_k11 : ((Rows.classTablesRow.recurses == Tryz.prog.recurses 7)) = true := by kernel_rfl
theorem tables_k12 : ((Rows.classTablesRow.named == Tryz.prog.varsNamed 7)) = true := by kernel_rfl
theorem tables_k13 : ((Rows.classTablesRow.maps == (Tryz.f7.params.toList ++ Rows.classTablesSpec.plain.varTypes Tryz.prog).any (Tryz.prog.mapsRec ·))) = true := by kernel_rfl
theorem tables_k14 : ((Rows.classTablesRow.ifaces == (Tryz.f7.params.toList ++ Rows.classTablesSpec.plain.varTypes Tryz.prog).any (Tryz.prog.ifacesRec ·))) = true := by kernel_rfl
theorem tables_k15 : ((Rows.classTablesRow.mapsOut == Tryz.prog.mapsAmong Tryz.f7.resultTypes.toList)) = true := by kernel_rfl
theorem tables_k16 : ((Rows.classTablesRow.loops == (Tryz.f7.params.toList ++ Rows.classTablesSpec.plain.varTypes Tryz.prog).any (Tryz.prog.loopsFrom ·))) = true := by kernel_rfl
theorem tables_k17 : ((Rows.classTablesRow.wideKeys == (Tryz.f7.params.toList ++ Rows.classTablesSpec.plain.varTypes Tryz.prog ++ Tryz.f7.resultTypes.toList).any (Tryz.prog.wideKeysFrom ·))) = true := by kernel_rfl
theorem tables_k18 : (Rows.classTablesSpec.vars.all (Tryz.prog.varReadable ·)) = true := by kernel_rfl
theorem tables_k19 : (Tryz.f7.resultTypes.all (fun t => Tryz.prog.readableRec t && decide (t < Tryz.prog.types.size))) = true := by kernel_rfl
theorem tables_k20 : ((Rows.classTablesRow.ifacesOut == Tryz.f7.resultTypes.toList.any (Tryz.prog.ifacesRec ·))) = true := by kernel_rfl
theorem tables_k21 : ((Rows.classTablesRow.loopsOut == Tryz.f7.resultTypes.toList.any (Tryz.prog.loopsFrom ·))) = true := by kernel_rfl
theorem tables_k23 : (Rows.classTablesRow.shortTexts.isNone) = true := by kernel_rfl
theorem tables_k28 : ((Rows.classTablesRow.kinds == (if Rows.classTablesRow.domain.isEmpty then [] else Tryz.f7.params.toList.map fun t => match Tryz.prog.underlying t with | some (.int k) => some k | _ => none))) = true := by kernel_rfl
theorem tables_k29 : ((Rows.classTablesRow.pinned == Rows.classTablesRow.pinnedBy)) = true := by kernel_rfl
theorem tables_k30 : ((Rows.classTablesRow.veiled == (Tryz.f7.params.toList ++ Rows.classTablesSpec.plain.varTypes Tryz.prog ++ Tryz.f7.resultTypes.toList).any (Tryz.prog.veiledRec ·))) = true := by kernel_rfl
theorem tables_k31 : (Rows.classTablesRow.veiledFits Tryz.prog Tryz.f7.params.toList (Tryz.f7.params.toList ++ Rows.classTablesSpec.plain.varTypes Tryz.prog ++ Tryz.f7.resultTypes.toList)) = true := by kernel_rfl
theorem tables_closed : joinedFacts Tryz.prog 7 Tryz.f7 Rows.classTablesSpec Rows.classTablesRow = true := (and_t (and_t (and_t (and_t (and_t (and_t (and_t (and_t (and_t (and_t (and_t (and_t (and_t (and_t (and_t (and_t (and_t (and_t (and_t (and_t (and_t (and_t (and_t (and_t (and_t (and_t (and_t (and_t (and_t (and_t (and_t tables_k0 laidOut_yes) fct_maps) tables_k3) tables_k4) tables_k5) fct_stops) tables_k7) fct_knobs) tables_k9) tables_k10) tables_k11) tables_k12) tables_k13) tables_k14) tables_k15) tables_k16) tables_k17) tables_k18) tables_k19) tables_k20) tables_k21) fct_keys) tables_k23) fct_heard) fct_enter) fct_lifts) fct_make) tables_k28) tables_k29) tables_k30) tables_k31)
theorem tables_inst : Tryz.f7.isInstance Tryz.prog Rows.classTablesRow.origin Rows.classTablesRow.targs := of_decide_eq_true (by kernel_rfl)
theorem tables_wrap : Tryz.f7.isWrapper Tryz.prog Rows.classTablesRow.wrapper Rows.classTablesRow.mainSum := by unfold Func.isWrapper; first | (rw [if_pos (by decide +kernel)]; kernel_rfl) | (rw [if_neg (by decide +kernel)]; exact ⟨rfl, rfl⟩)
theorem tables_named : Tryz.prog.funcNamed Rows.classTablesRow.func = some 7 := by kernel_rfl
theorem tables_holds : Rows.ClassTablesSaid :=
  OpenClaim.holds_of_wide 7 Tryz.f7 rfl rfl rfl rfl rfl rfl rfl ⟨rfl, rfl, rfl, rfl, rfl⟩ rfl rfl rfl rfl rfl tables_named Tryz.func7 tables_closed tables_inst tables_wrap
    (fun os started H enc _ => tables_lifted os started H enc)
end Go.Proofs.YtaakmdjicocjpaaGreatDoor
