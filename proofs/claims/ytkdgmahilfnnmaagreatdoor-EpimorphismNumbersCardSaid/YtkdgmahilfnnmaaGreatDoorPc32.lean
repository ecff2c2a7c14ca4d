/- EpimorphismNumbers: for any planned set and any row of at most 8 elements, Numbers reports whether it numbers the notes, and Wrong returns the first wrong one, or the first error. (The walk, lifted.) What the rows ask of the program as a whole (once a seat). EpimorphismNumbers: the row holds. EpimorphismNumbers: for any planned set and any row of at most 8 elements, Numbers reports whether it numbers the notes, and Wrong returns the first wrong one, or the first error. The tied card, without conditions. -/
import Derived.Test.YtkdgmahilfnnmaaGreatDoorPc31
set_option maxRecDepth 100000
namespace Go.Proofs.YtkdgmahilfnnmaaGreatDoor
open Go.ChangeShapes Go.WideShapes Go.ChangeAt Go.WideMaps Go.WideElems Go.RowKit
theorem epnums_lifted (os:Os)(started:os.Started)(H:Type)(enc:TypeId × Value→H) :
  ReturnsInHanded {} Tryz.checked os 3 .any (fun w args=>(Rows.epimorphismNumbersSpec.pre enc Tryz.prog Tryz.f3 [] false w args∧laidMetH Tryz.prog Rows.epimorphismNumbersRow.laid w)∧sizedMet enc Tryz.prog Tryz.f3 (OpenSpec.ofChange Rows.epimorphismNumbersSpec) false w args)
   (Rows.epimorphismNumbersSpec.post enc Tryz.prog Tryz.f3 false true false false):=by
 refine returnsInHanded_of_change_and (C:=Tryz.checked) (X:=fun w _=>laidMetH Tryz.prog Rows.epimorphismNumbersRow.laid w) (fun _ _ _ hh h=>h.of_heap hh) zpC started (by kernel_rfl) Tryz.func3
  (ChangeSpec.witness_shaped (enc:=enc) (C:=Tryz.checked) (os:=os) (X:=fun w _=>laidMetH Tryz.prog Rows.epimorphismNumbersRow.laid w) false (World.laidAll Tryz.prog os zpH) #[.agg #[.int .u8 0,.slice none 0 0,.bool false,.int .u8 0],.slice none 0 0] 8 (World.laidAll_os _ _ _)
   (zpI os _) (by kernel_rfl) (by kernel_rfl) (by kernel_rfl)
   (zpJ os _)) ?_
 intro W base args ds gs before hval0 hW _ _ hL _;have hval:∀ (j:Nat) t v,Tryz.f3.params[j]?=some t→args[j]?=some v→Value.okWide Tryz.prog W .any base t v:=hval0;have hW':=hW;obtain ⟨p,q,hA0,hV,rfl,_,_⟩:=hW;have hA:DataW.TrodAll enc Tryz.prog W 0 (fun _=>true) true Tryz.f3.params.toList args.toList ds p:=hA0;rw [Tryz.params3] at hA hval;obtain ⟨v0,v1,d0,d1,p0,p1,rfl,rfl,rfl,h0,h1⟩:=trodAll_two hA;obtain ⟨rfl,rfl⟩:=trodVars_none hV;have hE:=zpG hL;obtain ⟨n,o,cm,M,am,Q,rfl,hn,ho,hQ,hb8⟩:=zp9 (hval 0 24 v0 rfl rfl) h0;obtain ⟨x1,hx1,_⟩:=zpA Tryz.underlying26 (hval 1 26 v1 rfl rfl) h1;refine (zp3 n o cm M am Q v1 x1 W hE hn ho hQ hb8 hx1 (zp4 hx1)).mono fun e' W' ⟨he',hb⟩=>?_;subst he';exact ⟨_,rfl,zpM rfl (by rw [Tryz.params3];decide +kernel) rfl rfl hW' hb⟩
theorem and_t {a b:Bool}(ha:a=true)(hb:b=true):(a && b)=true:=by rw [ha,hb];rfl
theorem fct_maps : mapsRowed Tryz.prog=true:=by kernel_rfl
theorem fct_stops : (Tryz.prog.stops == [])=true:=by kernel_rfl
theorem fct_knobs : (Tryz.prog.stopKnobs == [])=true:=by kernel_rfl
theorem fct_keys : (Rows.epimorphismNumbersRow.plainKeys == Tryz.prog.plainKeys)=true:=by kernel_rfl
theorem fct_heard : Tryz.prog.stopsHeard=true:=by kernel_rfl
theorem fct_enter : Tryz.prog.mayEnter=true:=by kernel_rfl
theorem fct_lifts : (Rows.epimorphismNumbersRow.lifted == Tryz.prog.liftsFinal)=true:=by kernel_rfl
theorem fct_make : (Tryz.prog.make == some Rows.epimorphismNumbersRow.make)=true:=by kernel_rfl
theorem epnums_k0 : (Rows.epimorphismNumbersRow.wf (OpenSpec.ofChange Rows.epimorphismNumbersSpec))=true:=by kernel_rfl
theorem epnums_k3 : (Tryz.f3.params.all (Tryz.prog.readableRec ·))=true:=by kernel_rfl
theorem epnums_k4 : (namedTie Tryz.prog Rows.epimorphismNumbersRow.named Rows.epimorphismNumbersSpec.vars)=true:=by kernel_rfl
theorem epnums_k5 : ((Rows.epimorphismNumbersRow.stops == []))=true:=by kernel_rfl
theorem epnums_k7 : ((Rows.epimorphismNumbersRow.knobs == []))=true:=by kernel_rfl
theorem epnums_k9 : ((Rows.epimorphismNumbersRow.inPlace == Tryz.prog.inPlace 3))=true:=by kernel_rfl
theorem epnums_k10 : ((Rows.epimorphismNumbersRow.unfollowed == Tryz.prog.unfollowed 3))=true:=by kernel_rfl
theorem epnums_k11 : ((Rows.epimorphismNumbersRow.recurses == Tryz.prog.recurses 3))=true:=by kernel_rfl
theorem epnums_k12 : ((Rows.epimorphismNumbersRow.named == Tryz.prog.varsNamed 3))=true:=by kernel_rfl
theorem epnums_k13 : ((Rows.epimorphismNumbersRow.maps == (Tryz.f3.params.toList++Rows.epimorphismNumbersSpec.plain.varTypes Tryz.prog).any (Tryz.prog.mapsRec ·)))=true:=by kernel_rfl
theorem epnums_k14 : ((Rows.epimorphismNumbersRow.ifaces == (Tryz.f3.params.toList++Rows.epimorphismNumbersSpec.plain.varTypes Tryz.prog).any (Tryz.prog.ifacesRec ·)))=true:=by kernel_rfl
theorem epnums_k15 : ((Rows.epimorphismNumbersRow.mapsOut == Tryz.prog.mapsAmong Tryz.f3.resultTypes.toList))=true:=by kernel_rfl
theorem epnums_k16 : ((Rows.epimorphismNumbersRow.loops == (Tryz.f3.params.toList++Rows.epimorphismNumbersSpec.plain.varTypes Tryz.prog).any (Tryz.prog.loopsFrom ·)))=true:=by kernel_rfl
theorem epnums_k17 : ((Rows.epimorphismNumbersRow.wideKeys == (Tryz.f3.params.toList++Rows.epimorphismNumbersSpec.plain.varTypes Tryz.prog++Tryz.f3.resultTypes.toList).any (Tryz.prog.wideKeysFrom ·)))=true:=by kernel_rfl
theorem epnums_k18 : (Rows.epimorphismNumbersSpec.vars.all (Tryz.prog.varReadable ·))=true:=by kernel_rfl
theorem epnums_k19 : (Tryz.f3.resultTypes.all (fun t=>Tryz.prog.readableRec t && decide (t<Tryz.prog.types.size)))=true:=by kernel_rfl
theorem epnums_k20 : ((Rows.epimorphismNumbersRow.ifacesOut == Tryz.f3.resultTypes.toList.any (Tryz.prog.ifacesRec ·)))=true:=by kernel_rfl
theorem epnums_k21 : ((Rows.epimorphismNumbersRow.loopsOut == Tryz.f3.resultTypes.toList.any (Tryz.prog.loopsFrom ·)))=true:=by kernel_rfl
theorem epnums_k23 : (Rows.epimorphismNumbersRow.shortTexts.isNone)=true:=by kernel_rfl
theorem epnums_k28 : ((Rows.epimorphismNumbersRow.kinds == (if Rows.epimorphismNumbersRow.domain.isEmpty then [] else Tryz.f3.params.toList.map fun t=>match Tryz.prog.underlying t with | some (.int k)=>some k | _=>none)))=true:=by kernel_rfl
theorem epnums_k29 : ((Rows.epimorphismNumbersRow.pinned == Rows.epimorphismNumbersRow.pinnedBy))=true:=by kernel_rfl
theorem epnums_k30 : ((Rows.epimorphismNumbersRow.veiled == (Tryz.f3.params.toList++Rows.epimorphismNumbersSpec.plain.varTypes Tryz.prog++Tryz.f3.resultTypes.toList).any (Tryz.prog.veiledRec ·)))=true:=by kernel_rfl
theorem epnums_k31 : (Rows.epimorphismNumbersRow.veiledFits Tryz.prog Tryz.f3.params.toList (Tryz.f3.params.toList++Rows.epimorphismNumbersSpec.plain.varTypes Tryz.prog++Tryz.f3.resultTypes.toList))=true:=by kernel_rfl
theorem epnums_closed : joinedFacts Tryz.prog 3 Tryz.f3 Rows.epimorphismNumbersSpec Rows.epimorphismNumbersRow=true:=(and_t (and_t (and_t (and_t (and_t (and_t (and_t (and_t (and_t (and_t (and_t (and_t (and_t (and_t (and_t (and_t (and_t (and_t (and_t (and_t (and_t (and_t (and_t (and_t (and_t (and_t (and_t (and_t (and_t (and_t (and_t epnums_k0 zpK) fct_maps) epnums_k3) epnums_k4) epnums_k5) fct_stops) epnums_k7) fct_knobs) epnums_k9) epnums_k10) epnums_k11) epnums_k12) epnums_k13) epnums_k14) epnums_k15) epnums_k16) epnums_k17) epnums_k18) epnums_k19) epnums_k20) epnums_k21) fct_keys) epnums_k23) fct_heard) fct_enter) fct_lifts) fct_make) epnums_k28) epnums_k29) epnums_k30) epnums_k31)
theorem epnums_inst : Tryz.f3.isInstance Tryz.prog Rows.epimorphismNumbersRow.origin Rows.epimorphismNumbersRow.targs:=of_decide_eq_true (by kernel_rfl)
theorem epnums_wrap : Tryz.f3.isWrapper Tryz.prog Rows.epimorphismNumbersRow.wrapper Rows.epimorphismNumbersRow.mainSum:=by unfold Func.isWrapper;first | (rw [if_pos (by decide +kernel)];kernel_rfl) | (rw [if_neg (by decide +kernel)];exact ⟨rfl,rfl⟩)
theorem epnums_named : Tryz.prog.funcNamed Rows.epimorphismNumbersRow.func=some 3:=by kernel_rfl
theorem epnums_holds : Rows.EpimorphismNumbersSaid :=
 OpenClaim.holds_of_wide 3 Tryz.f3 rfl rfl rfl rfl rfl rfl rfl ⟨rfl,rfl,rfl,rfl,rfl⟩ rfl rfl rfl rfl rfl epnums_named Tryz.func3 epnums_closed epnums_inst epnums_wrap
  (fun os started H enc _=>epnums_lifted os started H enc)
theorem epnums_card : Rows.EpimorphismNumbersCardSaid :=
 Claim7.holds_tied_plain_at .later [] [.data, .data, .data, .sentinel, .sentinel] true (true, "0992f62b085ac4041780323991ec609653000c83810ea732ffed895aa5216808") true
  epnums_holds (fun _ h=>by cases h) (by as_aux_lemma=>kernel_rfl) (fun _ h=>by cases h) epimorphismNumbers_row_tie rfl ⟨rfl,rfl⟩ (by as_aux_lemma=>kernel_rfl) rfl
  (fun f fn hf hfn=>by
   obtain rfl : f = 3 := Option.some.inj ((show Tryz.prog.funcNamed "schisma/schismalaw37.EpimorphismNumbers" = some 3 by kernel_rfl).symm.trans hf) |>.symm
   obtain rfl:fn=Tryz.f3:=(Option.some.inj (Tryz.func3.symm.trans hfn)).symm;exact ⟨by kernel_rfl,fun j t ht=>by
    rw [Tryz.params3] at ht;have hm:t∈[24,26]:=(by simpa using Array.mem_of_getElem? ht);have hall:([24,26].all fun u=>!Tryz.prog.wantsStandIn u)=true:=(by kernel_rfl);exact (show Tryz.prog.wantsStandIn t=false by simpa using List.all_eq_true.1 hall t hm)⟩)
  (by as_aux_lemma=>kernel_rfl)
#print axioms epnums_card
end Go.Proofs.YtkdgmahilfnnmaaGreatDoor
