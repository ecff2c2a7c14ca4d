/- TopPropertiesOfClasses: for any division of the octave of at most 10 steps and any set of its notes, the scale of the set has classes with the spectra of the set; it is proper, and even or a moment of symmetry, if the set is maximally even; and the query for its property has it, if it has the property. (The walk, lifted.) What the rows ask of the program as a whole (once a seat). TopPropertiesOfClasses: the row holds. TopPropertiesOfClasses: for any division of the octave of at most 10 steps and any set of its notes, the scale of the set has classes with the spectra of the set; it is proper, and even or a moment of symmetry, if the set is maximally even; and the query for its property has it, if it has the property. The tied card, without conditions. -/
import Derived.Test.YtebabancfnmfjaaGreatDoorPm37
set_option maxRecDepth 100000
namespace Go.Proofs.YtebabancfnmfjaaGreatDoor
open Go.ChangeShapes Go.WideShapes Go.ChangeAt Go.WideMaps Go.WideElems Go.RowKit
theorem topc_lifted (os:Os)(started:os.Started)(H:Type)(enc:TypeId × Value→H) :
  ReturnsInHanded {} Tryz.checked os 3 .any (fun w args=>(Rows.topPropertiesOfClassesSpec.pre enc Tryz.prog Tryz.f3 [] false w args∧laidMetH Tryz.prog Rows.topPropertiesOfClassesRow.laid w)∧sizedMet enc Tryz.prog Tryz.f3 (OpenSpec.ofChange Rows.topPropertiesOfClassesSpec) false w args)
   (Rows.topPropertiesOfClassesSpec.post enc Tryz.prog Tryz.f3 false true false false):=by
 refine returnsInHanded_of_change_and (C:=Tryz.checked) (X:=fun w _=>laidMetH Tryz.prog Rows.topPropertiesOfClassesRow.laid w) (fun _ _ _ hh h=>h.of_heap hh) zqx started (by kernel_rfl) Tryz.func3
  (ChangeSpec.witness_shaped (enc:=enc) (C:=Tryz.checked) (os:=os) (X:=fun w _=>laidMetH Tryz.prog Rows.topPropertiesOfClassesRow.laid w) false (World.laidAll Tryz.prog os zq2) #[.int .u8 0,.int .u16 0,.int .u8 0] 8 (World.laidAll_os _ _ _)
   (zq3 os _) (by kernel_rfl) (by kernel_rfl) (by kernel_rfl)
   (zq4 os _)) ?_
 intro W base args ds gs before hval0 hW _ _ hL _;have hval:∀ (j:Nat) t v,Tryz.f3.params[j]?=some t→args[j]?=some v→Value.okWide Tryz.prog W .any base t v:=hval0;have hW':=hW;obtain ⟨p,q,hA0,hV,rfl,_,_⟩:=hW;have hA:DataW.TrodAll enc Tryz.prog W 0 (fun _=>true) true Tryz.f3.params.toList args.toList ds p:=hA0;rw [Tryz.params3] at hA hval;obtain ⟨v0,v1,v2,d0,d1,d2,p0,p1,p2,rfl,rfl,rfl,h0,h1,h2⟩:=trodAll_three hA;obtain ⟨rfl,rfl⟩:=trodVars_none hV;have hE:=zq1 hL;obtain ⟨x,rfl,rfl,rfl,wx⟩:=open_int Tryz.underlying5 (hval 0 5 v0 rfl rfl) h0;obtain ⟨y,rfl,rfl,rfl,wy⟩:=open_int Tryz.underlying22 (hval 1 22 v1 rfl rfl) h1;obtain ⟨z,rfl,rfl,rfl,wz⟩:=open_int Tryz.underlying5 (hval 2 5 v2 rfl rfl) h2;obtain ⟨x',rfl,hx⟩:=zq8 wx;obtain ⟨y',rfl,hy⟩:=zq9 wy;obtain ⟨z',rfl,hz⟩:=zq8 wz;refine (zqu x' y' z' W hE hx hy hz).mono fun e' W' ⟨he',hb⟩=>?_;subst he';exact ⟨_,rfl,zq7 rfl (by rw [Tryz.params3];decide +kernel) rfl rfl hW' hb⟩
theorem and_t {a b:Bool}(ha:a=true)(hb:b=true):(a && b)=true:=by rw [ha,hb];rfl
theorem fct_maps : mapsRowed Tryz.prog=true:=by kernel_rfl
theorem fct_stops : (Tryz.prog.stops == [])=true:=by kernel_rfl
theorem fct_knobs : (Tryz.prog.stopKnobs == [])=true:=by kernel_rfl
theorem fct_keys : (Rows.topPropertiesOfClassesRow.plainKeys == Tryz.prog.plainKeys)=true:=by kernel_rfl
theorem fct_heard : Tryz.prog.stopsHeard=true:=by kernel_rfl
theorem fct_enter : Tryz.prog.mayEnter=true:=by kernel_rfl
theorem fct_lifts : (Rows.topPropertiesOfClassesRow.lifted == Tryz.prog.liftsFinal)=true:=by kernel_rfl
theorem fct_make : (Tryz.prog.make == some Rows.topPropertiesOfClassesRow.make)=true:=by kernel_rfl
theorem topc_k0 : (Rows.topPropertiesOfClassesRow.wf (OpenSpec.ofChange Rows.topPropertiesOfClassesSpec))=true:=by kernel_rfl
theorem topc_k3 : (Tryz.f3.params.all (Tryz.prog.readableRec ·))=true:=by kernel_rfl
theorem topc_k4 : (namedTie Tryz.prog Rows.topPropertiesOfClassesRow.named Rows.topPropertiesOfClassesSpec.vars)=true:=by kernel_rfl
theorem topc_k5 : ((Rows.topPropertiesOfClassesRow.stops == []))=true:=by kernel_rfl
theorem topc_k7 : ((Rows.topPropertiesOfClassesRow.knobs == []))=true:=by kernel_rfl
theorem topc_k9 : ((Rows.topPropertiesOfClassesRow.inPlace == Tryz.prog.inPlace 3))=true:=by kernel_rfl
theorem topc_k10 : ((Rows.topPropertiesOfClassesRow.unfollowed == Tryz.prog.unfollowed 3))=true:=by kernel_rfl
theorem topc_k11 : ((Rows.topPropertiesOfClassesRow.recurses == Tryz.prog.recurses 3))=true:=by kernel_rfl
theorem topc_k12 : ((Rows.topPropertiesOfClassesRow.named == Tryz.prog.varsNamed 3))=true:=by kernel_rfl
theorem topc_k13 : ((Rows.topPropertiesOfClassesRow.maps == (Tryz.f3.params.toList++Rows.topPropertiesOfClassesSpec.plain.varTypes Tryz.prog).any (Tryz.prog.mapsRec ·)))=true:=by kernel_rfl
theorem topc_k14 : ((Rows.topPropertiesOfClassesRow.ifaces == (Tryz.f3.params.toList++Rows.topPropertiesOfClassesSpec.plain.varTypes Tryz.prog).any (Tryz.prog.ifacesRec ·)))=true:=by kernel_rfl
theorem topc_k15 : ((Rows.topPropertiesOfClassesRow.mapsOut == Tryz.prog.mapsAmong Tryz.f3.resultTypes.toList))=true:=by kernel_rfl
theorem topc_k16 : ((Rows.topPropertiesOfClassesRow.loops == (Tryz.f3.params.toList++Rows.topPropertiesOfClassesSpec.plain.varTypes Tryz.prog).any (Tryz.prog.loopsFrom ·)))=true:=by kernel_rfl
theorem topc_k17 : ((Rows.topPropertiesOfClassesRow.wideKeys == (Tryz.f3.params.toList++Rows.topPropertiesOfClassesSpec.plain.varTypes Tryz.prog++Tryz.f3.resultTypes.toList).any (Tryz.prog.wideKeysFrom ·)))=true:=by kernel_rfl
theorem topc_k18 : (Rows.topPropertiesOfClassesSpec.vars.all (Tryz.prog.varReadable ·))=true:=by kernel_rfl
theorem topc_k19 : (Tryz.f3.resultTypes.all (fun t=>Tryz.prog.readableRec t && decide (t<Tryz.prog.types.size)))=true:=by kernel_rfl
theorem topc_k20 : ((Rows.topPropertiesOfClassesRow.ifacesOut == Tryz.f3.resultTypes.toList.any (Tryz.prog.ifacesRec ·)))=true:=by kernel_rfl
theorem topc_k21 : ((Rows.topPropertiesOfClassesRow.loopsOut == Tryz.f3.resultTypes.toList.any (Tryz.prog.loopsFrom ·)))=true:=by kernel_rfl
theorem topc_k23 : (Rows.topPropertiesOfClassesRow.shortTexts.isNone)=true:=by kernel_rfl
theorem topc_k28 : ((Rows.topPropertiesOfClassesRow.kinds == (if Rows.topPropertiesOfClassesRow.domain.isEmpty then [] else Tryz.f3.params.toList.map fun t=>match Tryz.prog.underlying t with | some (.int k)=>some k | _=>none)))=true:=by kernel_rfl
theorem topc_k29 : ((Rows.topPropertiesOfClassesRow.pinned == Rows.topPropertiesOfClassesRow.pinnedBy))=true:=by kernel_rfl
theorem topc_k30 : ((Rows.topPropertiesOfClassesRow.veiled == (Tryz.f3.params.toList++Rows.topPropertiesOfClassesSpec.plain.varTypes Tryz.prog++Tryz.f3.resultTypes.toList).any (Tryz.prog.veiledRec ·)))=true:=by kernel_rfl
theorem topc_k31 : (Rows.topPropertiesOfClassesRow.veiledFits Tryz.prog Tryz.f3.params.toList (Tryz.f3.params.toList++Rows.topPropertiesOfClassesSpec.plain.varTypes Tryz.prog++Tryz.f3.resultTypes.toList))=true:=by kernel_rfl
theorem topc_closed : joinedFacts Tryz.prog 3 Tryz.f3 Rows.topPropertiesOfClassesSpec Rows.topPropertiesOfClassesRow=true:=(and_t (and_t (and_t (and_t (and_t (and_t (and_t (and_t (and_t (and_t (and_t (and_t (and_t (and_t (and_t (and_t (and_t (and_t (and_t (and_t (and_t (and_t (and_t (and_t (and_t (and_t (and_t (and_t (and_t (and_t (and_t topc_k0 zq5) fct_maps) topc_k3) topc_k4) topc_k5) fct_stops) topc_k7) fct_knobs) topc_k9) topc_k10) topc_k11) topc_k12) topc_k13) topc_k14) topc_k15) topc_k16) topc_k17) topc_k18) topc_k19) topc_k20) topc_k21) fct_keys) topc_k23) fct_heard) fct_enter) fct_lifts) fct_make) topc_k28) topc_k29) topc_k30) topc_k31)
theorem topc_inst : Tryz.f3.isInstance Tryz.prog Rows.topPropertiesOfClassesRow.origin Rows.topPropertiesOfClassesRow.targs:=of_decide_eq_true (by kernel_rfl)
theorem topc_wrap : Tryz.f3.isWrapper Tryz.prog Rows.topPropertiesOfClassesRow.wrapper Rows.topPropertiesOfClassesRow.mainSum:=by unfold Func.isWrapper;first | (rw [if_pos (by decide +kernel)];kernel_rfl) | (rw [if_neg (by decide +kernel)];exact ⟨rfl,rfl⟩)
theorem topc_named : Tryz.prog.funcNamed Rows.topPropertiesOfClassesRow.func=some 3:=by kernel_rfl
theorem topc_holds : Rows.TopPropertiesOfClassesSaid :=
 OpenClaim.holds_of_wide 3 Tryz.f3 rfl rfl rfl rfl rfl rfl rfl ⟨rfl,rfl,rfl,rfl,rfl⟩ rfl rfl rfl rfl rfl topc_named Tryz.func3 topc_closed topc_inst topc_wrap
  (fun os started H enc _=>topc_lifted os started H enc)
theorem topc_card : Rows.TopPropertiesOfClassesCardSaid :=
 Claim7.holds_tied_plain_at .later [] [.data, .data, .data, .sentinel, .sentinel] true (true, "8e33af504aa1186791a3cdadd0ddfcb9c9d627480483b354117e9a33c8394c68") true
  topc_holds (fun _ h=>by cases h) (by as_aux_lemma=>kernel_rfl) (fun _ h=>by cases h) topPropertiesOfClasses_row_tie rfl ⟨rfl,rfl⟩ (by as_aux_lemma=>kernel_rfl) rfl
  (fun f fn hf hfn=>by
   obtain rfl : f = 3 := Option.some.inj ((show Tryz.prog.funcNamed "schisma/schismatop.TopPropertiesOfClasses" = some 3 by kernel_rfl).symm.trans hf) |>.symm
   obtain rfl:fn=Tryz.f3:=(Option.some.inj (Tryz.func3.symm.trans hfn)).symm;exact ⟨by kernel_rfl,fun j t ht=>by
    rw [Tryz.params3] at ht;have hm:t∈[5,22,5]:=(by simpa using Array.mem_of_getElem? ht);have hall:([5,22,5].all fun u=>!Tryz.prog.wantsStandIn u)=true:=(by kernel_rfl);exact (show Tryz.prog.wantsStandIn t=false by simpa using List.all_eq_true.1 hall t hm)⟩)
  (by as_aux_lemma=>kernel_rfl)
#print axioms topc_card
end Go.Proofs.YtebabancfnmfjaaGreatDoor
