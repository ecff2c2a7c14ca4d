/- SubsetChecks: for any described scale without one of its notes if that is asked, and any size, property and at most 4 ints as Must, Check returns the first error, and so do the other functions; Candidates returns their number. (The walk, lifted.) What the rows ask of the program as a whole (once a seat). SubsetChecks: the row holds. SubsetChecks: for any described scale without one of its notes if that is asked, and any size, property and at most 4 ints as Must, Check returns the first error, and so do the other functions; Candidates returns their number. The tied card, without conditions. -/
import Derived.Test.YtebabancfnmfjaaGreatDoorPq40
import Derived.Test.YtebabancfnmfjaaGreatDoorPq41
set_option maxRecDepth 100000
namespace Go.Proofs.YtebabancfnmfjaaGreatDoor
open Go.ChangeShapes Go.WideShapes Go.ChangeAt Go.WideMaps Go.WideElems Go.RowKit
theorem checks38_lifted (os:Os)(started:os.Started)(H:Type)(enc:TypeId × Value→H) :
  ReturnsInHanded {} Tryz.checked os 5 .any (fun w args=>(Rows.subsetChecksSpec.pre enc Tryz.prog Tryz.f5 [] false w args∧laidMetH Tryz.prog Rows.subsetChecksRow.laid w)∧sizedMet enc Tryz.prog Tryz.f5 (OpenSpec.ofChange Rows.subsetChecksSpec) false w args)
   (Rows.subsetChecksSpec.post enc Tryz.prog Tryz.f5 false true false false):=by
 refine returnsInHanded_of_change_and (C:=Tryz.checked) (X:=fun w _=>laidMetH Tryz.prog Rows.subsetChecksRow.laid w) (fun _ _ _ hh h=>h.of_heap hh) zqK started (by kernel_rfl) Tryz.func5
  (ChangeSpec.witness_shaped (enc:=enc) (C:=Tryz.checked) (os:=os) (X:=fun w _=>laidMetH Tryz.prog Rows.subsetChecksRow.laid w) false (World.laidAll Tryz.prog os zqP) #[.agg #[.bool false,.int .u8 0,.int .u8 0,.int .i8 0,.int .i8 0,.int .i8 0,.int .i8 0,.int .i8 0,.int .i8 0,.int .i8 0,.int .i8 0,.int .i8 0,.int .i8 0,.int .i8 0,.int .i8 0,.int .i8 0,.int .i8 0,.int .i8 0,.int .i8 0,.int .i8 0,.int .i8 0,.int .i8 0,.int .i8 0,.int .i8 0,.int .i8 0,.int .i8 0,.int .i8 0],.agg #[.int .i64 0,.int .i64 0,.int .i64 0],.slice none 0 0] 8 (World.laidAll_os _ _ _)
   (zqQ os _) (by kernel_rfl) (by kernel_rfl) (by kernel_rfl)
   (zqR os _)) ?_
 intro W base args ds gs before hval0 hW _ _ hL _;have hval:∀ (j:Nat) t v,Tryz.f5.params[j]?=some t→args[j]?=some v→Value.okWide Tryz.prog W .any base t v:=hval0;have hW':=hW;obtain ⟨p,q,hA0,hV,rfl,_,_⟩:=hW;have hA:DataW.TrodAll enc Tryz.prog W 0 (fun _=>true) true Tryz.f5.params.toList args.toList ds p:=hA0;rw [Tryz.params5] at hA hval;obtain ⟨v0,v1,v2,d0,d1,d2,p0,p1,p2,rfl,rfl,rfl,h0,h1,h2⟩:=trodAll_three hA;obtain ⟨rfl,rfl⟩:=trodVars_none hV;have hE:=zqO hL;obtain ⟨a,rfl,ha⟩:=zre (hval 0 83 v0 rfl rfl) h0;obtain ⟨y0,y1,y2,rfl⟩:=zrj (hval 1 84 v1 rfl rfl) h1;obtain ⟨l,hl,_⟩:=zrf Tryz.underlying24 (hval 2 24 v2 rfl rfl) h2;refine (zqH a y0 y1 y2 v2 l W hE ha hl).mono fun e' W' ⟨he',hb⟩=>?_;subst he';exact ⟨_,rfl,zqU rfl (by rw [Tryz.params5];decide +kernel) rfl rfl hW' hb⟩
theorem and_t {a b:Bool}(ha:a=true)(hb:b=true):(a && b)=true:=by rw [ha,hb];rfl
theorem fct_maps : mapsRowed Tryz.prog=true:=by kernel_rfl
theorem fct_stops : (Tryz.prog.stops == [])=true:=by kernel_rfl
theorem fct_knobs : (Tryz.prog.stopKnobs == [])=true:=by kernel_rfl
theorem fct_keys : (Rows.topPropertiesOfClassesRow.plainKeys == Tryz.prog.plainKeys)=true:=by kernel_rfl
theorem fct_heard : Tryz.prog.stopsHeard=true:=by kernel_rfl
theorem fct_enter : Tryz.prog.mayEnter=true:=by kernel_rfl
theorem fct_lifts : (Rows.topPropertiesOfClassesRow.lifted == Tryz.prog.liftsFinal)=true:=by kernel_rfl
theorem fct_make : (Tryz.prog.make == some Rows.topPropertiesOfClassesRow.make)=true:=by kernel_rfl
theorem checks38_k0 : (Rows.subsetChecksRow.wf (OpenSpec.ofChange Rows.subsetChecksSpec))=true:=by kernel_rfl
theorem checks38_k3 : (Tryz.f5.params.all (Tryz.prog.readableRec ·))=true:=by kernel_rfl
theorem checks38_k4 : (namedTie Tryz.prog Rows.subsetChecksRow.named Rows.subsetChecksSpec.vars)=true:=by kernel_rfl
theorem checks38_k5 : ((Rows.subsetChecksRow.stops == []))=true:=by kernel_rfl
theorem checks38_k7 : ((Rows.subsetChecksRow.knobs == []))=true:=by kernel_rfl
theorem checks38_k9 : ((Rows.subsetChecksRow.inPlace == Tryz.prog.inPlace 5))=true:=by kernel_rfl
theorem checks38_k10 : ((Rows.subsetChecksRow.unfollowed == Tryz.prog.unfollowed 5))=true:=by kernel_rfl
theorem checks38_k11 : ((Rows.subsetChecksRow.recurses == Tryz.prog.recurses 5))=true:=by kernel_rfl
theorem checks38_k12 : ((Rows.subsetChecksRow.named == Tryz.prog.varsNamed 5))=true:=by kernel_rfl
theorem checks38_k13 : ((Rows.subsetChecksRow.maps == (Tryz.f5.params.toList++Rows.subsetChecksSpec.plain.varTypes Tryz.prog).any (Tryz.prog.mapsRec ·)))=true:=by kernel_rfl
theorem checks38_k14 : ((Rows.subsetChecksRow.ifaces == (Tryz.f5.params.toList++Rows.subsetChecksSpec.plain.varTypes Tryz.prog).any (Tryz.prog.ifacesRec ·)))=true:=by kernel_rfl
theorem checks38_k15 : ((Rows.subsetChecksRow.mapsOut == Tryz.prog.mapsAmong Tryz.f5.resultTypes.toList))=true:=by kernel_rfl
theorem checks38_k16 : ((Rows.subsetChecksRow.loops == (Tryz.f5.params.toList++Rows.subsetChecksSpec.plain.varTypes Tryz.prog).any (Tryz.prog.loopsFrom ·)))=true:=by kernel_rfl
theorem checks38_k17 : ((Rows.subsetChecksRow.wideKeys == (Tryz.f5.params.toList++Rows.subsetChecksSpec.plain.varTypes Tryz.prog++Tryz.f5.resultTypes.toList).any (Tryz.prog.wideKeysFrom ·)))=true:=by kernel_rfl
theorem checks38_k18 : (Rows.subsetChecksSpec.vars.all (Tryz.prog.varReadable ·))=true:=by kernel_rfl
theorem checks38_k19 : (Tryz.f5.resultTypes.all (fun t=>Tryz.prog.readableRec t && decide (t<Tryz.prog.types.size)))=true:=by kernel_rfl
theorem checks38_k20 : ((Rows.subsetChecksRow.ifacesOut == Tryz.f5.resultTypes.toList.any (Tryz.prog.ifacesRec ·)))=true:=by kernel_rfl
theorem checks38_k21 : ((Rows.subsetChecksRow.loopsOut == Tryz.f5.resultTypes.toList.any (Tryz.prog.loopsFrom ·)))=true:=by kernel_rfl
theorem checks38_k23 : (Rows.subsetChecksRow.shortTexts.isNone)=true:=by kernel_rfl
theorem checks38_k28 : ((Rows.subsetChecksRow.kinds == (if Rows.subsetChecksRow.domain.isEmpty then [] else Tryz.f5.params.toList.map fun t=>match Tryz.prog.underlying t with | some (.int k)=>some k | _=>none)))=true:=by kernel_rfl
theorem checks38_k29 : ((Rows.subsetChecksRow.pinned == Rows.subsetChecksRow.pinnedBy))=true:=by kernel_rfl
theorem checks38_k30 : ((Rows.subsetChecksRow.veiled == (Tryz.f5.params.toList++Rows.subsetChecksSpec.plain.varTypes Tryz.prog++Tryz.f5.resultTypes.toList).any (Tryz.prog.veiledRec ·)))=true:=by kernel_rfl
theorem checks38_k31 : (Rows.subsetChecksRow.veiledFits Tryz.prog Tryz.f5.params.toList (Tryz.f5.params.toList++Rows.subsetChecksSpec.plain.varTypes Tryz.prog++Tryz.f5.resultTypes.toList))=true:=by kernel_rfl
theorem checks38_closed : joinedFacts Tryz.prog 5 Tryz.f5 Rows.subsetChecksSpec Rows.subsetChecksRow=true:=(and_t (and_t (and_t (and_t (and_t (and_t (and_t (and_t (and_t (and_t (and_t (and_t (and_t (and_t (and_t (and_t (and_t (and_t (and_t (and_t (and_t (and_t (and_t (and_t (and_t (and_t (and_t (and_t (and_t (and_t (and_t checks38_k0 zqS) fct_maps) checks38_k3) checks38_k4) checks38_k5) fct_stops) checks38_k7) fct_knobs) checks38_k9) checks38_k10) checks38_k11) checks38_k12) checks38_k13) checks38_k14) checks38_k15) checks38_k16) checks38_k17) checks38_k18) checks38_k19) checks38_k20) checks38_k21) fct_keys) checks38_k23) fct_heard) fct_enter) fct_lifts) fct_make) checks38_k28) checks38_k29) checks38_k30) checks38_k31)
theorem checks38_inst : Tryz.f5.isInstance Tryz.prog Rows.subsetChecksRow.origin Rows.subsetChecksRow.targs:=of_decide_eq_true (by kernel_rfl)
theorem checks38_wrap : Tryz.f5.isWrapper Tryz.prog Rows.subsetChecksRow.wrapper Rows.subsetChecksRow.mainSum:=by unfold Func.isWrapper;first | (rw [if_pos (by decide +kernel)];kernel_rfl) | (rw [if_neg (by decide +kernel)];exact ⟨rfl,rfl⟩)
theorem checks38_named : Tryz.prog.funcNamed Rows.subsetChecksRow.func=some 5:=by kernel_rfl
theorem checks38_holds : Rows.SubsetChecksSaid :=
 OpenClaim.holds_of_wide 5 Tryz.f5 rfl rfl rfl rfl rfl rfl rfl ⟨rfl,rfl,rfl,rfl,rfl⟩ rfl rfl rfl rfl rfl checks38_named Tryz.func5 checks38_closed checks38_inst checks38_wrap
  (fun os started H enc _=>checks38_lifted os started H enc)
theorem checks38_card : Rows.SubsetChecksCardSaid :=
 Claim7.holds_tied_plain_at .later [] [.data, .data, .data, .sentinel, .sentinel] true (true, "8e33af504aa1186791a3cdadd0ddfcb9c9d627480483b354117e9a33c8394c68") true
  checks38_holds (fun _ h=>by cases h) (by as_aux_lemma=>kernel_rfl) (fun _ h=>by cases h) subsetChecks_row_tie rfl ⟨rfl,rfl⟩ (by as_aux_lemma=>kernel_rfl) rfl
  (fun f fn hf hfn=>by
   obtain rfl : f = 5 := Option.some.inj ((show Tryz.prog.funcNamed "schisma/schismalaw38.SubsetChecks" = some 5 by kernel_rfl).symm.trans hf) |>.symm
   obtain rfl:fn=Tryz.f5:=(Option.some.inj (Tryz.func5.symm.trans hfn)).symm;exact ⟨by kernel_rfl,fun j t ht=>by
    rw [Tryz.params5] at ht;have hm:t∈[83,84,24]:=(by simpa using Array.mem_of_getElem? ht);have hall:([83,84,24].all fun u=>!Tryz.prog.wantsStandIn u)=true:=(by kernel_rfl);exact (show Tryz.prog.wantsStandIn t=false by simpa using List.all_eq_true.1 hall t hm)⟩)
  (by as_aux_lemma=>kernel_rfl)
#print axioms checks38_card
end Go.Proofs.YtebabancfnmfjaaGreatDoor
