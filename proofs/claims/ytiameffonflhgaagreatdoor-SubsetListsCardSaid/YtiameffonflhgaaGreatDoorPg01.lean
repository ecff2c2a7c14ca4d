/- SubsetLists: for any draft of a query, All returns the subsets that it asks for, in order, Count their number, and Scales their scales. (The walk, lifted.) SubsetLists: the row holds. SubsetLists: for any draft of a query, All returns the subsets that it asks for, in order, Count their number, and Scales their scales. The tied card, without conditions. -/
import Derived.Test.YtiameffonflhgaaGreatDoorPg00
import Derived.Test.YtiameffonflhgaaGreatDoorPk38
set_option maxRecDepth 100000
namespace Go.Proofs.YtiameffonflhgaaGreatDoor
open Go.ChangeShapes Go.WideShapes Go.ChangeAt Go.WideMaps Go.WideElems Go.RowKit
theorem lists38_lifted (os:Os)(started:os.Started)(H:Type)(enc:TypeId × Value→H) :
  ReturnsInHanded {} Tryz.checked os 5 .any (fun w args=>(Rows.subsetListsSpec.pre enc Tryz.prog Tryz.f5 [] false w args∧laidMetH Tryz.prog Rows.subsetListsRow.laid w)∧sizedMet enc Tryz.prog Tryz.f5 (OpenSpec.ofChange Rows.subsetListsSpec) false w args)
   (Rows.subsetListsSpec.post enc Tryz.prog Tryz.f5 false true false false):=by
 refine returnsInHanded_of_change_and (C:=Tryz.checked) (X:=fun w _=>laidMetH Tryz.prog Rows.subsetListsRow.laid w) (fun _ _ _ hh h=>h.of_heap hh) zq7 started (by kernel_rfl) Tryz.func5
  (ChangeSpec.witness_shaped (enc:=enc) (C:=Tryz.checked) (os:=os) (X:=fun w _=>laidMetH Tryz.prog Rows.subsetListsRow.laid w) false (World.laidAll Tryz.prog os zqC) #[.agg #[.bool false,.int .u8 0,.int .u8 0,.int .i8 0,.int .i8 0,.int .i8 0,.int .i8 0,.int .i8 0,.int .i8 0,.int .i8 0,.int .i8 0,.int .i8 0,.int .i8 0,.int .i8 0,.int .i8 0,.int .i8 0,.int .i8 0,.int .i8 0,.int .i8 0,.int .i8 0,.int .i8 0,.int .i8 0,.int .i8 0,.int .i8 0,.int .i8 0,.int .i8 0,.int .i8 0,.int .u8 0,.int .u8 0,.int .u16 0,.bool false]] 8 (World.laidAll_os _ _ _)
   (zqD os _) (by kernel_rfl) (by kernel_rfl) (by kernel_rfl)
   (zqE os _)) ?_
 intro W base args ds gs before hval0 hW _ _ hL _;have hval:∀ (j:Nat) t v,Tryz.f5.params[j]?=some t→args[j]?=some v→Value.okWide Tryz.prog W .any base t v:=hval0;have hW':=hW;obtain ⟨p,q,hA0,hV,rfl,_,_⟩:=hW;have hA:DataW.TrodAll enc Tryz.prog W 0 (fun _=>true) true Tryz.f5.params.toList args.toList ds p:=hA0;rw [Tryz.params5] at hA hval;obtain ⟨v0,d0,rfl,rfl,h0⟩:=trodAll_one hA;obtain ⟨rfl,rfl⟩:=trodVars_none hV;have hE:=zqB hL;obtain ⟨a,rfl,ha⟩:=zqW (hval 0 85 v0 rfl rfl) h0;refine (zsg a W hE ha).mono fun e' W' ⟨he',hb⟩=>?_;subst he';exact ⟨_,rfl,zqH rfl (by rw [Tryz.params5];decide +kernel) rfl rfl hW' hb⟩
theorem lists38_k0 : (Rows.subsetListsRow.wf (OpenSpec.ofChange Rows.subsetListsSpec))=true:=by kernel_rfl
theorem lists38_k3 : (Tryz.f5.params.all (Tryz.prog.readableRec ·))=true:=by kernel_rfl
theorem lists38_k4 : (namedTie Tryz.prog Rows.subsetListsRow.named Rows.subsetListsSpec.vars)=true:=by kernel_rfl
theorem lists38_k5 : ((Rows.subsetListsRow.stops == []))=true:=by kernel_rfl
theorem lists38_k7 : ((Rows.subsetListsRow.knobs == []))=true:=by kernel_rfl
theorem lists38_k9 : ((Rows.subsetListsRow.inPlace == Tryz.prog.inPlace 5))=true:=by kernel_rfl
theorem lists38_k10 : ((Rows.subsetListsRow.unfollowed == Tryz.prog.unfollowed 5))=true:=by kernel_rfl
theorem lists38_k11 : ((Rows.subsetListsRow.recurses == Tryz.prog.recurses 5))=true:=by kernel_rfl
theorem lists38_k12 : ((Rows.subsetListsRow.named == Tryz.prog.varsNamed 5))=true:=by kernel_rfl
theorem lists38_k13 : ((Rows.subsetListsRow.maps == (Tryz.f5.params.toList++Rows.subsetListsSpec.plain.varTypes Tryz.prog).any (Tryz.prog.mapsRec ·)))=true:=by kernel_rfl
theorem lists38_k14 : ((Rows.subsetListsRow.ifaces == (Tryz.f5.params.toList++Rows.subsetListsSpec.plain.varTypes Tryz.prog).any (Tryz.prog.ifacesRec ·)))=true:=by kernel_rfl
theorem lists38_k15 : ((Rows.subsetListsRow.mapsOut == Tryz.prog.mapsAmong Tryz.f5.resultTypes.toList))=true:=by kernel_rfl
theorem lists38_k16 : ((Rows.subsetListsRow.loops == (Tryz.f5.params.toList++Rows.subsetListsSpec.plain.varTypes Tryz.prog).any (Tryz.prog.loopsFrom ·)))=true:=by kernel_rfl
theorem lists38_k17 : ((Rows.subsetListsRow.wideKeys == (Tryz.f5.params.toList++Rows.subsetListsSpec.plain.varTypes Tryz.prog++Tryz.f5.resultTypes.toList).any (Tryz.prog.wideKeysFrom ·)))=true:=by kernel_rfl
theorem lists38_k18 : (Rows.subsetListsSpec.vars.all (Tryz.prog.varReadable ·))=true:=by kernel_rfl
theorem lists38_k19 : (Tryz.f5.resultTypes.all (fun t=>Tryz.prog.readableRec t && decide (t<Tryz.prog.types.size)))=true:=by kernel_rfl
theorem lists38_k20 : ((Rows.subsetListsRow.ifacesOut == Tryz.f5.resultTypes.toList.any (Tryz.prog.ifacesRec ·)))=true:=by kernel_rfl
theorem lists38_k21 : ((Rows.subsetListsRow.loopsOut == Tryz.f5.resultTypes.toList.any (Tryz.prog.loopsFrom ·)))=true:=by kernel_rfl
theorem lists38_k23 : (Rows.subsetListsRow.shortTexts.isNone)=true:=by kernel_rfl
theorem lists38_k28 : ((Rows.subsetListsRow.kinds == (if Rows.subsetListsRow.domain.isEmpty then [] else Tryz.f5.params.toList.map fun t=>match Tryz.prog.underlying t with | some (.int k)=>some k | _=>none)))=true:=by kernel_rfl
theorem lists38_k29 : ((Rows.subsetListsRow.pinned == Rows.subsetListsRow.pinnedBy))=true:=by kernel_rfl
theorem lists38_k30 : ((Rows.subsetListsRow.veiled == (Tryz.f5.params.toList++Rows.subsetListsSpec.plain.varTypes Tryz.prog++Tryz.f5.resultTypes.toList).any (Tryz.prog.veiledRec ·)))=true:=by kernel_rfl
theorem lists38_k31 : (Rows.subsetListsRow.veiledFits Tryz.prog Tryz.f5.params.toList (Tryz.f5.params.toList++Rows.subsetListsSpec.plain.varTypes Tryz.prog++Tryz.f5.resultTypes.toList))=true:=by kernel_rfl
theorem lists38_closed : joinedFacts Tryz.prog 5 Tryz.f5 Rows.subsetListsSpec Rows.subsetListsRow=true:=(zqX (zqX (zqX (zqX (zqX (zqX (zqX (zqX (zqX (zqX (zqX (zqX (zqX (zqX (zqX (zqX (zqX (zqX (zqX (zqX (zqX (zqX (zqX (zqX (zqX (zqX (zqX (zqX (zqX (zqX (zqX lists38_k0 zqF) zqY) lists38_k3) lists38_k4) lists38_k5) zqZ) lists38_k7) zra) lists38_k9) lists38_k10) lists38_k11) lists38_k12) lists38_k13) lists38_k14) lists38_k15) lists38_k16) lists38_k17) lists38_k18) lists38_k19) lists38_k20) lists38_k21) zrb) lists38_k23) zrc) zrd) zre) zrf) lists38_k28) lists38_k29) lists38_k30) lists38_k31)
theorem lists38_inst : Tryz.f5.isInstance Tryz.prog Rows.subsetListsRow.origin Rows.subsetListsRow.targs:=of_decide_eq_true (by kernel_rfl)
theorem lists38_wrap : Tryz.f5.isWrapper Tryz.prog Rows.subsetListsRow.wrapper Rows.subsetListsRow.mainSum:=by unfold Func.isWrapper;first | (rw [if_pos (by decide +kernel)];kernel_rfl) | (rw [if_neg (by decide +kernel)];exact ⟨rfl,rfl⟩)
theorem lists38_named : Tryz.prog.funcNamed Rows.subsetListsRow.func=some 5:=by kernel_rfl
theorem lists38_holds : Rows.SubsetListsSaid :=
 OpenClaim.holds_of_wide 5 Tryz.f5 rfl rfl rfl rfl rfl rfl rfl ⟨rfl,rfl,rfl,rfl,rfl⟩ rfl rfl rfl rfl rfl lists38_named Tryz.func5 lists38_closed lists38_inst lists38_wrap
  (fun os started H enc _=>lists38_lifted os started H enc)
theorem lists38_card : Rows.SubsetListsCardSaid :=
 Claim7.holds_tied_plain_at .later [] [.data, .data, .data, .sentinel, .sentinel] true (true, "56ea36619e1728458a33c763cda9fbbdbb7ea53eabba31c5e2af5c53c4fcffda") true
  lists38_holds (fun _ h=>by cases h) (by as_aux_lemma=>kernel_rfl) (fun _ h=>by cases h) subsetLists_row_tie rfl ⟨rfl,rfl⟩ (by as_aux_lemma=>kernel_rfl) rfl
  (fun f fn hf hfn=>by
   obtain rfl : f = 5 := Option.some.inj ((show Tryz.prog.funcNamed "schisma/schismalaw38.SubsetLists" = some 5 by kernel_rfl).symm.trans hf) |>.symm
   obtain rfl:fn=Tryz.f5:=(Option.some.inj (Tryz.func5.symm.trans hfn)).symm;exact ⟨by kernel_rfl,fun j t ht=>by
    rw [Tryz.params5] at ht;have hm:t∈[85]:=(by simpa using Array.mem_of_getElem? ht);have hall:([85].all fun u=>!Tryz.prog.wantsStandIn u)=true:=(by kernel_rfl);exact (show Tryz.prog.wantsStandIn t=false by simpa using List.all_eq_true.1 hall t hm)⟩)
  (by as_aux_lemma=>kernel_rfl)
#print axioms lists38_card
end Go.Proofs.YtiameffonflhgaaGreatDoor
