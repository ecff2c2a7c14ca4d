/- SubsetLimits: for any equal scale of at most 60 notes and any size of its subsets, Candidates returns their number; beyond 5000 the other functions return the error of the limit, and at most at 100 Count returns it too. (The walk, lifted.) What the rows ask of the program as a whole (once a seat). SubsetLimits: the row holds. SubsetLimits: for any equal scale of at most 60 notes and any size of its subsets, Candidates returns their number; beyond 5000 the other functions return the error of the limit, and at most at 100 Count returns it too. The tied card, without conditions. -/
import Derived.Test.YtebabancfnmfjaaGreatDoorPu32
set_option maxRecDepth 100000
namespace Go.Proofs.YtebabancfnmfjaaGreatDoor
open Go.ChangeShapes Go.WideShapes Go.ChangeAt Go.WideMaps Go.WideElems Go.RowKit
theorem limits38_lifted (os:Os)(started:os.Started)(H:Type)(enc:TypeId × Value→H) :
  ReturnsInHanded {} Tryz.checked os 4 .any (fun w args=>(Rows.subsetLimitsSpec.pre enc Tryz.prog Tryz.f4 [] false w args∧laidMetH Tryz.prog Rows.subsetLimitsRow.laid w)∧sizedMet enc Tryz.prog Tryz.f4 (OpenSpec.ofChange Rows.subsetLimitsSpec) false w args)
   (Rows.subsetLimitsSpec.post enc Tryz.prog Tryz.f4 false true false false):=by
 refine returnsInHanded_of_change_and (C:=Tryz.checked) (X:=fun w _=>laidMetH Tryz.prog Rows.subsetLimitsRow.laid w) (fun _ _ _ hh h=>h.of_heap hh) zpi started (by kernel_rfl) Tryz.func4
  (ChangeSpec.witness_shaped (enc:=enc) (C:=Tryz.checked) (os:=os) (X:=fun w _=>laidMetH Tryz.prog Rows.subsetLimitsRow.laid w) false (World.laidAll Tryz.prog os zpn) #[.int .u8 0,.int .u8 0] 8 (World.laidAll_os _ _ _)
   (zpo os _) (by kernel_rfl) (by kernel_rfl) (by kernel_rfl)
   (zpp os _)) ?_
 intro W base args ds gs before hval0 hW _ _ hL _;have hval:∀ (j:Nat) t v,Tryz.f4.params[j]?=some t→args[j]?=some v→Value.okWide Tryz.prog W .any base t v:=hval0;have hW':=hW;obtain ⟨p,q,hA0,hV,rfl,_,_⟩:=hW;have hA:DataW.TrodAll enc Tryz.prog W 0 (fun _=>true) true Tryz.f4.params.toList args.toList ds p:=hA0;rw [Tryz.params4] at hA hval;obtain ⟨v0,v1,d0,d1,p0,p1,rfl,rfl,rfl,h0,h1⟩:=trodAll_two hA;obtain ⟨rfl,rfl⟩:=trodVars_none hV;have hE:=zpm hL;obtain ⟨x,rfl,rfl,rfl,wx⟩:=open_int Tryz.underlying5 (hval 0 5 v0 rfl rfl) h0;obtain ⟨y,rfl,rfl,rfl,wy⟩:=open_int Tryz.underlying5 (hval 1 5 v1 rfl rfl) h1;obtain ⟨x',rfl,hx⟩:=zpt wx;obtain ⟨y',rfl,hy⟩:=zpt wy;refine (zpf x' y' W hE hx hy).mono fun e' W' ⟨he',hb⟩=>?_;subst he';exact ⟨_,rfl,zps rfl (by rw [Tryz.params4];decide +kernel) rfl rfl hW' hb⟩
theorem and_t {a b:Bool}(ha:a=true)(hb:b=true):(a && b)=true:=by rw [ha,hb];rfl
theorem fct_maps : mapsRowed Tryz.prog=true:=by kernel_rfl
theorem fct_stops : (Tryz.prog.stops == [])=true:=by kernel_rfl
theorem fct_knobs : (Tryz.prog.stopKnobs == [])=true:=by kernel_rfl
theorem fct_keys : (Rows.topPropertiesOfClassesRow.plainKeys == Tryz.prog.plainKeys)=true:=by kernel_rfl
theorem fct_heard : Tryz.prog.stopsHeard=true:=by kernel_rfl
theorem fct_enter : Tryz.prog.mayEnter=true:=by kernel_rfl
theorem fct_lifts : (Rows.topPropertiesOfClassesRow.lifted == Tryz.prog.liftsFinal)=true:=by kernel_rfl
theorem fct_make : (Tryz.prog.make == some Rows.topPropertiesOfClassesRow.make)=true:=by kernel_rfl
theorem limits38_k0 : (Rows.subsetLimitsRow.wf (OpenSpec.ofChange Rows.subsetLimitsSpec))=true:=by kernel_rfl
theorem limits38_k3 : (Tryz.f4.params.all (Tryz.prog.readableRec ·))=true:=by kernel_rfl
theorem limits38_k4 : (namedTie Tryz.prog Rows.subsetLimitsRow.named Rows.subsetLimitsSpec.vars)=true:=by kernel_rfl
theorem limits38_k5 : ((Rows.subsetLimitsRow.stops == []))=true:=by kernel_rfl
theorem limits38_k7 : ((Rows.subsetLimitsRow.knobs == []))=true:=by kernel_rfl
theorem limits38_k9 : ((Rows.subsetLimitsRow.inPlace == Tryz.prog.inPlace 4))=true:=by kernel_rfl
theorem limits38_k10 : ((Rows.subsetLimitsRow.unfollowed == Tryz.prog.unfollowed 4))=true:=by kernel_rfl
theorem limits38_k11 : ((Rows.subsetLimitsRow.recurses == Tryz.prog.recurses 4))=true:=by kernel_rfl
theorem limits38_k12 : ((Rows.subsetLimitsRow.named == Tryz.prog.varsNamed 4))=true:=by kernel_rfl
theorem limits38_k13 : ((Rows.subsetLimitsRow.maps == (Tryz.f4.params.toList++Rows.subsetLimitsSpec.plain.varTypes Tryz.prog).any (Tryz.prog.mapsRec ·)))=true:=by kernel_rfl
theorem limits38_k14 : ((Rows.subsetLimitsRow.ifaces == (Tryz.f4.params.toList++Rows.subsetLimitsSpec.plain.varTypes Tryz.prog).any (Tryz.prog.ifacesRec ·)))=true:=by kernel_rfl
theorem limits38_k15 : ((Rows.subsetLimitsRow.mapsOut == Tryz.prog.mapsAmong Tryz.f4.resultTypes.toList))=true:=by kernel_rfl
theorem limits38_k16 : ((Rows.subsetLimitsRow.loops == (Tryz.f4.params.toList++Rows.subsetLimitsSpec.plain.varTypes Tryz.prog).any (Tryz.prog.loopsFrom ·)))=true:=by kernel_rfl
theorem limits38_k17 : ((Rows.subsetLimitsRow.wideKeys == (Tryz.f4.params.toList++Rows.subsetLimitsSpec.plain.varTypes Tryz.prog++Tryz.f4.resultTypes.toList).any (Tryz.prog.wideKeysFrom ·)))=true:=by kernel_rfl
theorem limits38_k18 : (Rows.subsetLimitsSpec.vars.all (Tryz.prog.varReadable ·))=true:=by kernel_rfl
theorem limits38_k19 : (Tryz.f4.resultTypes.all (fun t=>Tryz.prog.readableRec t && decide (t<Tryz.prog.types.size)))=true:=by kernel_rfl
theorem limits38_k20 : ((Rows.subsetLimitsRow.ifacesOut == Tryz.f4.resultTypes.toList.any (Tryz.prog.ifacesRec ·)))=true:=by kernel_rfl
theorem limits38_k21 : ((Rows.subsetLimitsRow.loopsOut == Tryz.f4.resultTypes.toList.any (Tryz.prog.loopsFrom ·)))=true:=by kernel_rfl
theorem limits38_k23 : (Rows.subsetLimitsRow.shortTexts.isNone)=true:=by kernel_rfl
theorem limits38_k28 : ((Rows.subsetLimitsRow.kinds == (if Rows.subsetLimitsRow.domain.isEmpty then [] else Tryz.f4.params.toList.map fun t=>match Tryz.prog.underlying t with | some (.int k)=>some k | _=>none)))=true:=by kernel_rfl
theorem limits38_k29 : ((Rows.subsetLimitsRow.pinned == Rows.subsetLimitsRow.pinnedBy))=true:=by kernel_rfl
theorem limits38_k30 : ((Rows.subsetLimitsRow.veiled == (Tryz.f4.params.toList++Rows.subsetLimitsSpec.plain.varTypes Tryz.prog++Tryz.f4.resultTypes.toList).any (Tryz.prog.veiledRec ·)))=true:=by kernel_rfl
theorem limits38_k31 : (Rows.subsetLimitsRow.veiledFits Tryz.prog Tryz.f4.params.toList (Tryz.f4.params.toList++Rows.subsetLimitsSpec.plain.varTypes Tryz.prog++Tryz.f4.resultTypes.toList))=true:=by kernel_rfl
theorem limits38_closed : joinedFacts Tryz.prog 4 Tryz.f4 Rows.subsetLimitsSpec Rows.subsetLimitsRow=true:=(and_t (and_t (and_t (and_t (and_t (and_t (and_t (and_t (and_t (and_t (and_t (and_t (and_t (and_t (and_t (and_t (and_t (and_t (and_t (and_t (and_t (and_t (and_t (and_t (and_t (and_t (and_t (and_t (and_t (and_t (and_t limits38_k0 zpq) fct_maps) limits38_k3) limits38_k4) limits38_k5) fct_stops) limits38_k7) fct_knobs) limits38_k9) limits38_k10) limits38_k11) limits38_k12) limits38_k13) limits38_k14) limits38_k15) limits38_k16) limits38_k17) limits38_k18) limits38_k19) limits38_k20) limits38_k21) fct_keys) limits38_k23) fct_heard) fct_enter) fct_lifts) fct_make) limits38_k28) limits38_k29) limits38_k30) limits38_k31)
theorem limits38_inst : Tryz.f4.isInstance Tryz.prog Rows.subsetLimitsRow.origin Rows.subsetLimitsRow.targs:=of_decide_eq_true (by kernel_rfl)
theorem limits38_wrap : Tryz.f4.isWrapper Tryz.prog Rows.subsetLimitsRow.wrapper Rows.subsetLimitsRow.mainSum:=by unfold Func.isWrapper;first | (rw [if_pos (by decide +kernel)];kernel_rfl) | (rw [if_neg (by decide +kernel)];exact ⟨rfl,rfl⟩)
theorem limits38_named : Tryz.prog.funcNamed Rows.subsetLimitsRow.func=some 4:=by kernel_rfl
theorem limits38_holds : Rows.SubsetLimitsSaid :=
 OpenClaim.holds_of_wide 4 Tryz.f4 rfl rfl rfl rfl rfl rfl rfl ⟨rfl,rfl,rfl,rfl,rfl⟩ rfl rfl rfl rfl rfl limits38_named Tryz.func4 limits38_closed limits38_inst limits38_wrap
  (fun os started H enc _=>limits38_lifted os started H enc)
theorem limits38_card : Rows.SubsetLimitsCardSaid :=
 Claim7.holds_tied_plain_at .later [] [.data, .data, .data, .sentinel, .sentinel] true (true, "8e33af504aa1186791a3cdadd0ddfcb9c9d627480483b354117e9a33c8394c68") true
  limits38_holds (fun _ h=>by cases h) (by as_aux_lemma=>kernel_rfl) (fun _ h=>by cases h) subsetLimits_row_tie rfl ⟨rfl,rfl⟩ (by as_aux_lemma=>kernel_rfl) rfl
  (fun f fn hf hfn=>by
   obtain rfl : f = 4 := Option.some.inj ((show Tryz.prog.funcNamed "schisma/schismalaw38.SubsetLimits" = some 4 by kernel_rfl).symm.trans hf) |>.symm
   obtain rfl:fn=Tryz.f4:=(Option.some.inj (Tryz.func4.symm.trans hfn)).symm;exact ⟨by kernel_rfl,fun j t ht=>by
    rw [Tryz.params4] at ht;have hm:t∈[5,5]:=(by simpa using Array.mem_of_getElem? ht);have hall:([5,5].all fun u=>!Tryz.prog.wantsStandIn u)=true:=(by kernel_rfl);exact (show Tryz.prog.wantsStandIn t=false by simpa using List.all_eq_true.1 hall t hm)⟩)
  (by as_aux_lemma=>kernel_rfl)
#print axioms limits38_card
end Go.Proofs.YtebabancfnmfjaaGreatDoor
