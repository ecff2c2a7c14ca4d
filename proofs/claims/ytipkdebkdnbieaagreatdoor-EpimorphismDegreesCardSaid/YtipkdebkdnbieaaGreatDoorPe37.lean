/- EpimorphismDegrees: for any planned set and any at most 4 rows of at most 8 elements, Degrees returns their steps with the val of Val, or the first error. (The walk, lifted.) What the rows ask of the program as a whole (once a seat). EpimorphismDegrees: the row holds. EpimorphismDegrees: for any planned set and any at most 4 rows of at most 8 elements, Degrees returns their steps with the val of Val, or the first error. The tied card, without conditions. -/
import Derived.Test.YtipkdebkdnbieaaGreatDoorPe35
import Derived.Test.YtipkdebkdnbieaaGreatDoorPe00
import Derived.ChangeSlices
import Derived.WideShapes
import Derived.ChangeShapes
import Derived.DataReads
import Derived.Test.YtipkdebkdnbieaaGreatDoorPe36
set_option maxRecDepth 100000
namespace Go.Proofs.YtipkdebkdnbieaaGreatDoor
open Go.ChangeShapes Go.WideShapes Go.ChangeAt Go.WideMaps Go.WideElems Go.RowKit
theorem epdegs_lifted (os:Os)(started:os.Started)(H:Type)(enc:TypeId × Value→H) :
  ReturnsInHanded {} Tryz.checked os 4 .any (fun w args=>(Rows.epimorphismDegreesSpec.pre enc Tryz.prog Tryz.f4 [] false w args∧laidMetH Tryz.prog Rows.epimorphismDegreesRow.laid w)∧sizedMet enc Tryz.prog Tryz.f4 (OpenSpec.ofChange Rows.epimorphismDegreesSpec) false w args)
   (Rows.epimorphismDegreesSpec.post enc Tryz.prog Tryz.f4 false true false false):=by
 refine returnsInHanded_of_change_and (C:=Tryz.checked) (X:=fun w _=>laidMetH Tryz.prog Rows.epimorphismDegreesRow.laid w) (fun _ _ _ hh h=>h.of_heap hh) zsi started (by kernel_rfl) Tryz.func4
  (ChangeSpec.witness_shaped (enc:=enc) (C:=Tryz.checked) (os:=os) (X:=fun w _=>laidMetH Tryz.prog Rows.epimorphismDegreesRow.laid w) false (World.laidAll Tryz.prog os zsn) #[.agg #[.int .u8 0,.slice none 0 0,.bool false,.int .u8 0],.slice none 0 0] 8 (World.laidAll_os _ _ _)
   (zso os _) (by kernel_rfl) (by kernel_rfl) (by kernel_rfl)
   (zsp os _)) ?_
 intro W base args ds gs before hval0 hW _ _ hL _;have hval:∀ (j:Nat) t v,Tryz.f4.params[j]?=some t→args[j]?=some v→Value.okWide Tryz.prog W .any base t v:=hval0;have hW':=hW;obtain ⟨p,q,hA0,hV,rfl,_,_⟩:=hW;have hA:DataW.TrodAll enc Tryz.prog W 0 (fun _=>true) true Tryz.f4.params.toList args.toList ds p:=hA0;rw [Tryz.params4] at hA hval;obtain ⟨v0,v1,d0,d1,p0,p1,rfl,rfl,rfl,h0,h1⟩:=trodAll_two hA;obtain ⟨rfl,rfl⟩:=trodVars_none hV;have hE:=zsm hL;obtain ⟨n,o,cm,M,am,Q,rfl,hn,ho,hQ,hb8⟩:=zsf (hval 0 24 v0 rfl rfl) h0;obtain ⟨l1,hl1⟩:=zsg (hval 1 29 v1 rfl rfl) h1;refine (zrX n o cm M am Q v1 l1 W hE hn ho hQ hb8 hl1 (zsa hl1)).mono fun e' W' ⟨he',hb⟩=>?_;subst he';exact ⟨_,rfl,zss rfl (by rw [Tryz.params4];decide +kernel) rfl rfl hW' hb⟩
theorem and_t {a b:Bool}(ha:a=true)(hb:b=true):(a && b)=true:=by rw [ha,hb];rfl
theorem fct_maps : mapsRowed Tryz.prog=true:=by kernel_rfl
theorem fct_stops : (Tryz.prog.stops == [])=true:=by kernel_rfl
theorem fct_knobs : (Tryz.prog.stopKnobs == [])=true:=by kernel_rfl
theorem fct_keys : (Rows.epimorphismLeavesOutRow.plainKeys == Tryz.prog.plainKeys)=true:=by kernel_rfl
theorem fct_heard : Tryz.prog.stopsHeard=true:=by kernel_rfl
theorem fct_enter : Tryz.prog.mayEnter=true:=by kernel_rfl
theorem fct_lifts : (Rows.epimorphismLeavesOutRow.lifted == Tryz.prog.liftsFinal)=true:=by kernel_rfl
theorem fct_make : (Tryz.prog.make == some Rows.epimorphismLeavesOutRow.make)=true:=by kernel_rfl
theorem epdegs_k0 : (Rows.epimorphismDegreesRow.wf (OpenSpec.ofChange Rows.epimorphismDegreesSpec))=true:=by kernel_rfl
theorem epdegs_k3 : (Tryz.f4.params.all (Tryz.prog.readableRec ·))=true:=by kernel_rfl
theorem epdegs_k4 : (namedTie Tryz.prog Rows.epimorphismDegreesRow.named Rows.epimorphismDegreesSpec.vars)=true:=by kernel_rfl
theorem epdegs_k5 : ((Rows.epimorphismDegreesRow.stops == []))=true:=by kernel_rfl
theorem epdegs_k7 : ((Rows.epimorphismDegreesRow.knobs == []))=true:=by kernel_rfl
theorem epdegs_k9 : ((Rows.epimorphismDegreesRow.inPlace == Tryz.prog.inPlace 4))=true:=by kernel_rfl
theorem epdegs_k10 : ((Rows.epimorphismDegreesRow.unfollowed == Tryz.prog.unfollowed 4))=true:=by kernel_rfl
theorem epdegs_k11 : ((Rows.epimorphismDegreesRow.recurses == Tryz.prog.recurses 4))=true:=by kernel_rfl
theorem epdegs_k12 : ((Rows.epimorphismDegreesRow.named == Tryz.prog.varsNamed 4))=true:=by kernel_rfl
theorem epdegs_k13 : ((Rows.epimorphismDegreesRow.maps == (Tryz.f4.params.toList++Rows.epimorphismDegreesSpec.plain.varTypes Tryz.prog).any (Tryz.prog.mapsRec ·)))=true:=by kernel_rfl
theorem epdegs_k14 : ((Rows.epimorphismDegreesRow.ifaces == (Tryz.f4.params.toList++Rows.epimorphismDegreesSpec.plain.varTypes Tryz.prog).any (Tryz.prog.ifacesRec ·)))=true:=by kernel_rfl
theorem epdegs_k15 : ((Rows.epimorphismDegreesRow.mapsOut == Tryz.prog.mapsAmong Tryz.f4.resultTypes.toList))=true:=by kernel_rfl
theorem epdegs_k16 : ((Rows.epimorphismDegreesRow.loops == (Tryz.f4.params.toList++Rows.epimorphismDegreesSpec.plain.varTypes Tryz.prog).any (Tryz.prog.loopsFrom ·)))=true:=by kernel_rfl
theorem epdegs_k17 : ((Rows.epimorphismDegreesRow.wideKeys == (Tryz.f4.params.toList++Rows.epimorphismDegreesSpec.plain.varTypes Tryz.prog++Tryz.f4.resultTypes.toList).any (Tryz.prog.wideKeysFrom ·)))=true:=by kernel_rfl
theorem epdegs_k18 : (Rows.epimorphismDegreesSpec.vars.all (Tryz.prog.varReadable ·))=true:=by kernel_rfl
theorem epdegs_k19 : (Tryz.f4.resultTypes.all (fun t=>Tryz.prog.readableRec t && decide (t<Tryz.prog.types.size)))=true:=by kernel_rfl
theorem epdegs_k20 : ((Rows.epimorphismDegreesRow.ifacesOut == Tryz.f4.resultTypes.toList.any (Tryz.prog.ifacesRec ·)))=true:=by kernel_rfl
theorem epdegs_k21 : ((Rows.epimorphismDegreesRow.loopsOut == Tryz.f4.resultTypes.toList.any (Tryz.prog.loopsFrom ·)))=true:=by kernel_rfl
theorem epdegs_k23 : (Rows.epimorphismDegreesRow.shortTexts.isNone)=true:=by kernel_rfl
theorem epdegs_k28 : ((Rows.epimorphismDegreesRow.kinds == (if Rows.epimorphismDegreesRow.domain.isEmpty then [] else Tryz.f4.params.toList.map fun t=>match Tryz.prog.underlying t with | some (.int k)=>some k | _=>none)))=true:=by kernel_rfl
theorem epdegs_k29 : ((Rows.epimorphismDegreesRow.pinned == Rows.epimorphismDegreesRow.pinnedBy))=true:=by kernel_rfl
theorem epdegs_k30 : ((Rows.epimorphismDegreesRow.veiled == (Tryz.f4.params.toList++Rows.epimorphismDegreesSpec.plain.varTypes Tryz.prog++Tryz.f4.resultTypes.toList).any (Tryz.prog.veiledRec ·)))=true:=by kernel_rfl
theorem epdegs_k31 : (Rows.epimorphismDegreesRow.veiledFits Tryz.prog Tryz.f4.params.toList (Tryz.f4.params.toList++Rows.epimorphismDegreesSpec.plain.varTypes Tryz.prog++Tryz.f4.resultTypes.toList))=true:=by kernel_rfl
theorem epdegs_closed : joinedFacts Tryz.prog 4 Tryz.f4 Rows.epimorphismDegreesSpec Rows.epimorphismDegreesRow=true:=(and_t (and_t (and_t (and_t (and_t (and_t (and_t (and_t (and_t (and_t (and_t (and_t (and_t (and_t (and_t (and_t (and_t (and_t (and_t (and_t (and_t (and_t (and_t (and_t (and_t (and_t (and_t (and_t (and_t (and_t (and_t epdegs_k0 zsq) fct_maps) epdegs_k3) epdegs_k4) epdegs_k5) fct_stops) epdegs_k7) fct_knobs) epdegs_k9) epdegs_k10) epdegs_k11) epdegs_k12) epdegs_k13) epdegs_k14) epdegs_k15) epdegs_k16) epdegs_k17) epdegs_k18) epdegs_k19) epdegs_k20) epdegs_k21) fct_keys) epdegs_k23) fct_heard) fct_enter) fct_lifts) fct_make) epdegs_k28) epdegs_k29) epdegs_k30) epdegs_k31)
theorem epdegs_inst : Tryz.f4.isInstance Tryz.prog Rows.epimorphismDegreesRow.origin Rows.epimorphismDegreesRow.targs:=of_decide_eq_true (by kernel_rfl)
theorem epdegs_wrap : Tryz.f4.isWrapper Tryz.prog Rows.epimorphismDegreesRow.wrapper Rows.epimorphismDegreesRow.mainSum:=by unfold Func.isWrapper;first | (rw [if_pos (by decide +kernel)];kernel_rfl) | (rw [if_neg (by decide +kernel)];exact ⟨rfl,rfl⟩)
theorem epdegs_named : Tryz.prog.funcNamed Rows.epimorphismDegreesRow.func=some 4:=by kernel_rfl
theorem epdegs_holds : Rows.EpimorphismDegreesSaid :=
 OpenClaim.holds_of_wide 4 Tryz.f4 rfl rfl rfl rfl rfl rfl rfl ⟨rfl,rfl,rfl,rfl,rfl⟩ rfl rfl rfl rfl rfl epdegs_named Tryz.func4 epdegs_closed epdegs_inst epdegs_wrap
  (fun os started H enc _=>epdegs_lifted os started H enc)
theorem epdegs_card : Rows.EpimorphismDegreesCardSaid :=
 Claim7.holds_tied_plain_at .later [] [.data, .data, .data, .sentinel, .sentinel] true (true, "e06008c54a02090a161cea70120af34e49b9a3f0b38af524bb26aa78a929c797") true
  epdegs_holds (fun _ h=>by cases h) (by as_aux_lemma=>kernel_rfl) (fun _ h=>by cases h) epimorphismDegrees_row_tie rfl ⟨rfl,rfl⟩ (by as_aux_lemma=>kernel_rfl) rfl
  (fun f fn hf hfn=>by
   obtain rfl : f = 4 := Option.some.inj ((show Tryz.prog.funcNamed "schisma/schismalaw37.EpimorphismDegrees" = some 4 by kernel_rfl).symm.trans hf) |>.symm
   obtain rfl:fn=Tryz.f4:=(Option.some.inj (Tryz.func4.symm.trans hfn)).symm;exact ⟨by kernel_rfl,fun j t ht=>by
    rw [Tryz.params4] at ht;have hm:t∈[24,29]:=(by simpa using Array.mem_of_getElem? ht);have hall:([24,29].all fun u=>!Tryz.prog.wantsStandIn u)=true:=(by kernel_rfl);exact (show Tryz.prog.wantsStandIn t=false by simpa using List.all_eq_true.1 hall t hm)⟩)
  (by as_aux_lemma=>kernel_rfl)
#print axioms epdegs_card
end Go.Proofs.YtipkdebkdnbieaaGreatDoor
