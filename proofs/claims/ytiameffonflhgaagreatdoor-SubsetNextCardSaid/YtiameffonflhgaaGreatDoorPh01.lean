/- SubsetNext: for any draft of a query and any at most 9 ints, Next returns the first subset of All that comes behind them. (The walk, lifted.) SubsetNext: the row holds. SubsetNext: for any draft of a query and any at most 9 ints, Next returns the first subset of All that comes behind them. The tied card, without conditions. -/
import Derived.Test.YtiameffonflhgaaGreatDoorPh00
import Derived.Test.YtiameffonflhgaaGreatDoorPk38
set_option maxRecDepth 100000
namespace Go.Proofs.YtiameffonflhgaaGreatDoor
open Go.ChangeShapes Go.WideShapes Go.ChangeAt Go.WideMaps Go.WideElems Go.RowKit
theorem next38_lifted (os:Os)(started:os.Started)(H:Type)(enc:TypeId × Value→H) :
  ReturnsInHanded {} Tryz.checked os 6 .any (fun w args=>(Rows.subsetNextSpec.pre enc Tryz.prog Tryz.f6 [] false w args∧laidMetH Tryz.prog Rows.subsetNextRow.laid w)∧sizedMet enc Tryz.prog Tryz.f6 (OpenSpec.ofChange Rows.subsetNextSpec) false w args)
   (Rows.subsetNextSpec.post enc Tryz.prog Tryz.f6 false true false false):=by
 refine returnsInHanded_of_change_and (C:=Tryz.checked) (X:=fun w _=>laidMetH Tryz.prog Rows.subsetNextRow.laid w) (fun _ _ _ hh h=>h.of_heap hh) zq7 started (by kernel_rfl) Tryz.func6
  (ChangeSpec.witness_shaped (enc:=enc) (C:=Tryz.checked) (os:=os) (X:=fun w _=>laidMetH Tryz.prog Rows.subsetNextRow.laid w) false (World.laidAll Tryz.prog os zqC) #[.agg #[.bool false,.int .u8 0,.int .u8 0,.int .i8 0,.int .i8 0,.int .i8 0,.int .i8 0,.int .i8 0,.int .i8 0,.int .i8 0,.int .i8 0,.int .i8 0,.int .i8 0,.int .i8 0,.int .i8 0,.int .i8 0,.int .i8 0,.int .i8 0,.int .i8 0,.int .i8 0,.int .i8 0,.int .i8 0,.int .i8 0,.int .i8 0,.int .i8 0,.int .i8 0,.int .i8 0,.int .u8 0,.int .u8 0,.int .u16 0,.bool false],.slice none 0 0] 8 (World.laidAll_os _ _ _)
   (zqD os _) (by kernel_rfl) (by kernel_rfl) (by kernel_rfl)
   (zqE os _)) ?_
 intro W base args ds gs before hval0 hW _ _ hL _;have hval:∀ (j:Nat) t v,Tryz.f6.params[j]?=some t→args[j]?=some v→Value.okWide Tryz.prog W .any base t v:=hval0;have hW':=hW;obtain ⟨p,q,hA0,hV,rfl,_,_⟩:=hW;have hA:DataW.TrodAll enc Tryz.prog W 0 (fun _=>true) true Tryz.f6.params.toList args.toList ds p:=hA0;rw [Tryz.params6] at hA hval;obtain ⟨v0,v1,d0,d1,p0,p1,rfl,rfl,rfl,h0,h1⟩:=trodAll_two hA;obtain ⟨rfl,rfl⟩:=trodVars_none hV;have hE:=zqB hL;obtain ⟨a,rfl,ha⟩:=zqW (hval 0 85 v0 rfl rfl) h0;obtain ⟨l,hl,_⟩:=zsi Tryz.underlying24 (hval 1 24 v1 rfl rfl) h1;refine (zsh a v1 l W hE ha hl).mono fun e' W' ⟨he',hb⟩=>?_;subst he';exact ⟨_,rfl,zqH rfl (by rw [Tryz.params6];decide +kernel) rfl rfl hW' hb⟩
theorem next38_k0 : (Rows.subsetNextRow.wf (OpenSpec.ofChange Rows.subsetNextSpec))=true:=by kernel_rfl
theorem next38_k3 : (Tryz.f6.params.all (Tryz.prog.readableRec ·))=true:=by kernel_rfl
theorem next38_k4 : (namedTie Tryz.prog Rows.subsetNextRow.named Rows.subsetNextSpec.vars)=true:=by kernel_rfl
theorem next38_k5 : ((Rows.subsetNextRow.stops == []))=true:=by kernel_rfl
theorem next38_k7 : ((Rows.subsetNextRow.knobs == []))=true:=by kernel_rfl
theorem next38_k9 : ((Rows.subsetNextRow.inPlace == Tryz.prog.inPlace 6))=true:=by kernel_rfl
theorem next38_k10 : ((Rows.subsetNextRow.unfollowed == Tryz.prog.unfollowed 6))=true:=by kernel_rfl
theorem next38_k11 : ((Rows.subsetNextRow.recurses == Tryz.prog.recurses 6))=true:=by kernel_rfl
theorem next38_k12 : ((Rows.subsetNextRow.named == Tryz.prog.varsNamed 6))=true:=by kernel_rfl
theorem next38_k13 : ((Rows.subsetNextRow.maps == (Tryz.f6.params.toList++Rows.subsetNextSpec.plain.varTypes Tryz.prog).any (Tryz.prog.mapsRec ·)))=true:=by kernel_rfl
theorem next38_k14 : ((Rows.subsetNextRow.ifaces == (Tryz.f6.params.toList++Rows.subsetNextSpec.plain.varTypes Tryz.prog).any (Tryz.prog.ifacesRec ·)))=true:=by kernel_rfl
theorem next38_k15 : ((Rows.subsetNextRow.mapsOut == Tryz.prog.mapsAmong Tryz.f6.resultTypes.toList))=true:=by kernel_rfl
theorem next38_k16 : ((Rows.subsetNextRow.loops == (Tryz.f6.params.toList++Rows.subsetNextSpec.plain.varTypes Tryz.prog).any (Tryz.prog.loopsFrom ·)))=true:=by kernel_rfl
theorem next38_k17 : ((Rows.subsetNextRow.wideKeys == (Tryz.f6.params.toList++Rows.subsetNextSpec.plain.varTypes Tryz.prog++Tryz.f6.resultTypes.toList).any (Tryz.prog.wideKeysFrom ·)))=true:=by kernel_rfl
theorem next38_k18 : (Rows.subsetNextSpec.vars.all (Tryz.prog.varReadable ·))=true:=by kernel_rfl
theorem next38_k19 : (Tryz.f6.resultTypes.all (fun t=>Tryz.prog.readableRec t && decide (t<Tryz.prog.types.size)))=true:=by kernel_rfl
theorem next38_k20 : ((Rows.subsetNextRow.ifacesOut == Tryz.f6.resultTypes.toList.any (Tryz.prog.ifacesRec ·)))=true:=by kernel_rfl
theorem next38_k21 : ((Rows.subsetNextRow.loopsOut == Tryz.f6.resultTypes.toList.any (Tryz.prog.loopsFrom ·)))=true:=by kernel_rfl
theorem next38_k23 : (Rows.subsetNextRow.shortTexts.isNone)=true:=by kernel_rfl
theorem next38_k28 : ((Rows.subsetNextRow.kinds == (if Rows.subsetNextRow.domain.isEmpty then [] else Tryz.f6.params.toList.map fun t=>match Tryz.prog.underlying t with | some (.int k)=>some k | _=>none)))=true:=by kernel_rfl
theorem next38_k29 : ((Rows.subsetNextRow.pinned == Rows.subsetNextRow.pinnedBy))=true:=by kernel_rfl
theorem next38_k30 : ((Rows.subsetNextRow.veiled == (Tryz.f6.params.toList++Rows.subsetNextSpec.plain.varTypes Tryz.prog++Tryz.f6.resultTypes.toList).any (Tryz.prog.veiledRec ·)))=true:=by kernel_rfl
theorem next38_k31 : (Rows.subsetNextRow.veiledFits Tryz.prog Tryz.f6.params.toList (Tryz.f6.params.toList++Rows.subsetNextSpec.plain.varTypes Tryz.prog++Tryz.f6.resultTypes.toList))=true:=by kernel_rfl
theorem next38_closed : joinedFacts Tryz.prog 6 Tryz.f6 Rows.subsetNextSpec Rows.subsetNextRow=true:=(zqX (zqX (zqX (zqX (zqX (zqX (zqX (zqX (zqX (zqX (zqX (zqX (zqX (zqX (zqX (zqX (zqX (zqX (zqX (zqX (zqX (zqX (zqX (zqX (zqX (zqX (zqX (zqX (zqX (zqX (zqX next38_k0 zqF) zqY) next38_k3) next38_k4) next38_k5) zqZ) next38_k7) zra) next38_k9) next38_k10) next38_k11) next38_k12) next38_k13) next38_k14) next38_k15) next38_k16) next38_k17) next38_k18) next38_k19) next38_k20) next38_k21) zrb) next38_k23) zrc) zrd) zre) zrf) next38_k28) next38_k29) next38_k30) next38_k31)
theorem next38_inst : Tryz.f6.isInstance Tryz.prog Rows.subsetNextRow.origin Rows.subsetNextRow.targs:=of_decide_eq_true (by kernel_rfl)
theorem next38_wrap : Tryz.f6.isWrapper Tryz.prog Rows.subsetNextRow.wrapper Rows.subsetNextRow.mainSum:=by unfold Func.isWrapper;first | (rw [if_pos (by decide +kernel)];kernel_rfl) | (rw [if_neg (by decide +kernel)];exact ⟨rfl,rfl⟩)
theorem next38_named : Tryz.prog.funcNamed Rows.subsetNextRow.func=some 6:=by kernel_rfl
theorem next38_holds : Rows.SubsetNextSaid :=
 OpenClaim.holds_of_wide 6 Tryz.f6 rfl rfl rfl rfl rfl rfl rfl ⟨rfl,rfl,rfl,rfl,rfl⟩ rfl rfl rfl rfl rfl next38_named Tryz.func6 next38_closed next38_inst next38_wrap
  (fun os started H enc _=>next38_lifted os started H enc)
theorem next38_card : Rows.SubsetNextCardSaid :=
 Claim7.holds_tied_plain_at .later [] [.data, .data, .data, .sentinel, .sentinel] true (true, "56ea36619e1728458a33c763cda9fbbdbb7ea53eabba31c5e2af5c53c4fcffda") true
  next38_holds (fun _ h=>by cases h) (by as_aux_lemma=>kernel_rfl) (fun _ h=>by cases h) subsetNext_row_tie rfl ⟨rfl,rfl⟩ (by as_aux_lemma=>kernel_rfl) rfl
  (fun f fn hf hfn=>by
   obtain rfl : f = 6 := Option.some.inj ((show Tryz.prog.funcNamed "schisma/schismalaw38.SubsetNext" = some 6 by kernel_rfl).symm.trans hf) |>.symm
   obtain rfl:fn=Tryz.f6:=(Option.some.inj (Tryz.func6.symm.trans hfn)).symm;exact ⟨by kernel_rfl,fun j t ht=>by
    rw [Tryz.params6] at ht;have hm:t∈[85,24]:=(by simpa using Array.mem_of_getElem? ht);have hall:([85,24].all fun u=>!Tryz.prog.wantsStandIn u)=true:=(by kernel_rfl);exact (show Tryz.prog.wantsStandIn t=false by simpa using List.all_eq_true.1 hall t hm)⟩)
  (by as_aux_lemma=>kernel_rfl)
#print axioms next38_card
end Go.Proofs.YtiameffonflhgaaGreatDoor
