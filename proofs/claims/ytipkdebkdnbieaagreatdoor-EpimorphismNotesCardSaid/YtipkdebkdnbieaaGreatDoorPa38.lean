/- EpimorphismNotes: for any planned set, any index from -100 to 100 and any number of a note, Scale, Note, Steps and Mode return the sizes, the note, the steps and the mode, or ErrRange. (The walk, lifted.) What the rows ask of the program as a whole (once a seat). EpimorphismNotes: the row holds. EpimorphismNotes: for any planned set, any index from -100 to 100 and any number of a note, Scale, Note, Steps and Mode return the sizes, the note, the steps and the mode, or ErrRange. The tied card, without conditions. -/
import Derived.Test.YtipkdebkdnbieaaGreatDoorPa37
import Derived.Test.YtipkdebkdnbieaaGreatDoorPa00
import Derived.ChangeSlices
import Derived.WideShapes
import Derived.ChangeShapes
import Derived.DataReads
import Derived.Test.YtipkdebkdnbieaaGreatDoorPa12
import Derived.ChangeSame
import Derived.Deep.Matrix
set_option maxRecDepth 100000
namespace Go.Proofs.YtipkdebkdnbieaaGreatDoor
open Go.ChangeShapes Go.WideShapes Go.ChangeAt Go.WideMaps Go.WideElems Go.RowKit
theorem epnotes_lifted (os:Os)(started:os.Started)(H:Type)(enc:TypeId × Value→H) :
  ReturnsInHanded {} Tryz.checked os 5 .any (fun w args=>(Rows.epimorphismNotesSpec.pre enc Tryz.prog Tryz.f5 [] false w args∧laidMetH Tryz.prog Rows.epimorphismNotesRow.laid w)∧sizedMet enc Tryz.prog Tryz.f5 (OpenSpec.ofChange Rows.epimorphismNotesSpec) false w args)
   (Rows.epimorphismNotesSpec.post enc Tryz.prog Tryz.f5 false true false false):=by
 refine returnsInHanded_of_change_and (C:=Tryz.checked) (X:=fun w _=>laidMetH Tryz.prog Rows.epimorphismNotesRow.laid w) (fun _ _ _ hh h=>h.of_heap hh) zsg started (by kernel_rfl) Tryz.func5
  (ChangeSpec.witness_shaped (enc:=enc) (C:=Tryz.checked) (os:=os) (X:=fun w _=>laidMetH Tryz.prog Rows.epimorphismNotesRow.laid w) false (World.laidAll Tryz.prog os zsl) #[.agg #[.int .u8 0,.slice none 0 0,.bool false,.int .u8 0],.int .i8 0,.int .i64 0] 8 (World.laidAll_os _ _ _)
   (zsm os _) (by kernel_rfl) (by kernel_rfl) (by kernel_rfl)
   (zsn os _)) ?_
 intro W base args ds gs before hval0 hW _ _ hL _;have hval:∀ (j:Nat) t v,Tryz.f5.params[j]?=some t→args[j]?=some v→Value.okWide Tryz.prog W .any base t v:=hval0;have hW':=hW;obtain ⟨p,q,hA0,hV,rfl,_,_⟩:=hW;have hA:DataW.TrodAll enc Tryz.prog W 0 (fun _=>true) true Tryz.f5.params.toList args.toList ds p:=hA0;rw [Tryz.params5] at hA hval;obtain ⟨v0,v1,v2,d0,d1,d2,p0,p1,p2,rfl,rfl,rfl,h0,h1,h2⟩:=trodAll_three hA;obtain ⟨rfl,rfl⟩:=trodVars_none hV;have hE:=zsk hL;obtain ⟨n,o,cm,M,am,Q,rfl,hn,ho,hQ,hb8⟩:=zse (hval 0 24 v0 rfl rfl) h0;obtain ⟨ix,rfl,rfl,rfl,wx⟩:=open_int Tryz.underlying50 (hval 1 50 v1 rfl rfl) h1;obtain ⟨at0,rfl,rfl,rfl,wa⟩:=open_int Tryz.underlying3 (hval 2 3 v2 rfl rfl) h2;have ha:=bounds_i64 wa;refine (zrZ n o cm M am Q ix at0 W hE hn ho hQ hb8 (by omega)).mono fun e' W' ⟨he',hb⟩=>?_;subst he';exact ⟨_,rfl,zsq rfl (by rw [Tryz.params5];decide +kernel) rfl rfl hW' hb⟩
theorem and_t {a b:Bool}(ha:a=true)(hb:b=true):(a && b)=true:=by rw [ha,hb];rfl
theorem fct_maps : mapsRowed Tryz.prog=true:=by kernel_rfl
theorem fct_stops : (Tryz.prog.stops == [])=true:=by kernel_rfl
theorem fct_knobs : (Tryz.prog.stopKnobs == [])=true:=by kernel_rfl
theorem fct_keys : (Rows.epimorphismLeavesOutRow.plainKeys == Tryz.prog.plainKeys)=true:=by kernel_rfl
theorem fct_heard : Tryz.prog.stopsHeard=true:=by kernel_rfl
theorem fct_enter : Tryz.prog.mayEnter=true:=by kernel_rfl
theorem fct_lifts : (Rows.epimorphismLeavesOutRow.lifted == Tryz.prog.liftsFinal)=true:=by kernel_rfl
theorem fct_make : (Tryz.prog.make == some Rows.epimorphismLeavesOutRow.make)=true:=by kernel_rfl
theorem epnotes_k0 : (Rows.epimorphismNotesRow.wf (OpenSpec.ofChange Rows.epimorphismNotesSpec))=true:=by kernel_rfl
theorem epnotes_k3 : (Tryz.f5.params.all (Tryz.prog.readableRec ·))=true:=by kernel_rfl
theorem epnotes_k4 : (namedTie Tryz.prog Rows.epimorphismNotesRow.named Rows.epimorphismNotesSpec.vars)=true:=by kernel_rfl
theorem epnotes_k5 : ((Rows.epimorphismNotesRow.stops == []))=true:=by kernel_rfl
theorem epnotes_k7 : ((Rows.epimorphismNotesRow.knobs == []))=true:=by kernel_rfl
theorem epnotes_k9 : ((Rows.epimorphismNotesRow.inPlace == Tryz.prog.inPlace 5))=true:=by kernel_rfl
theorem epnotes_k10 : ((Rows.epimorphismNotesRow.unfollowed == Tryz.prog.unfollowed 5))=true:=by kernel_rfl
theorem epnotes_k11 : ((Rows.epimorphismNotesRow.recurses == Tryz.prog.recurses 5))=true:=by kernel_rfl
theorem epnotes_k12 : ((Rows.epimorphismNotesRow.named == Tryz.prog.varsNamed 5))=true:=by kernel_rfl
theorem epnotes_k13 : ((Rows.epimorphismNotesRow.maps == (Tryz.f5.params.toList++Rows.epimorphismNotesSpec.plain.varTypes Tryz.prog).any (Tryz.prog.mapsRec ·)))=true:=by kernel_rfl
theorem epnotes_k14 : ((Rows.epimorphismNotesRow.ifaces == (Tryz.f5.params.toList++Rows.epimorphismNotesSpec.plain.varTypes Tryz.prog).any (Tryz.prog.ifacesRec ·)))=true:=by kernel_rfl
theorem epnotes_k15 : ((Rows.epimorphismNotesRow.mapsOut == Tryz.prog.mapsAmong Tryz.f5.resultTypes.toList))=true:=by kernel_rfl
theorem epnotes_k16 : ((Rows.epimorphismNotesRow.loops == (Tryz.f5.params.toList++Rows.epimorphismNotesSpec.plain.varTypes Tryz.prog).any (Tryz.prog.loopsFrom ·)))=true:=by kernel_rfl
theorem epnotes_k17 : ((Rows.epimorphismNotesRow.wideKeys == (Tryz.f5.params.toList++Rows.epimorphismNotesSpec.plain.varTypes Tryz.prog++Tryz.f5.resultTypes.toList).any (Tryz.prog.wideKeysFrom ·)))=true:=by kernel_rfl
theorem epnotes_k18 : (Rows.epimorphismNotesSpec.vars.all (Tryz.prog.varReadable ·))=true:=by kernel_rfl
theorem epnotes_k19 : (Tryz.f5.resultTypes.all (fun t=>Tryz.prog.readableRec t && decide (t<Tryz.prog.types.size)))=true:=by kernel_rfl
theorem epnotes_k20 : ((Rows.epimorphismNotesRow.ifacesOut == Tryz.f5.resultTypes.toList.any (Tryz.prog.ifacesRec ·)))=true:=by kernel_rfl
theorem epnotes_k21 : ((Rows.epimorphismNotesRow.loopsOut == Tryz.f5.resultTypes.toList.any (Tryz.prog.loopsFrom ·)))=true:=by kernel_rfl
theorem epnotes_k23 : (Rows.epimorphismNotesRow.shortTexts.isNone)=true:=by kernel_rfl
theorem epnotes_k28 : ((Rows.epimorphismNotesRow.kinds == (if Rows.epimorphismNotesRow.domain.isEmpty then [] else Tryz.f5.params.toList.map fun t=>match Tryz.prog.underlying t with | some (.int k)=>some k | _=>none)))=true:=by kernel_rfl
theorem epnotes_k29 : ((Rows.epimorphismNotesRow.pinned == Rows.epimorphismNotesRow.pinnedBy))=true:=by kernel_rfl
theorem epnotes_k30 : ((Rows.epimorphismNotesRow.veiled == (Tryz.f5.params.toList++Rows.epimorphismNotesSpec.plain.varTypes Tryz.prog++Tryz.f5.resultTypes.toList).any (Tryz.prog.veiledRec ·)))=true:=by kernel_rfl
theorem epnotes_k31 : (Rows.epimorphismNotesRow.veiledFits Tryz.prog Tryz.f5.params.toList (Tryz.f5.params.toList++Rows.epimorphismNotesSpec.plain.varTypes Tryz.prog++Tryz.f5.resultTypes.toList))=true:=by kernel_rfl
theorem epnotes_closed : joinedFacts Tryz.prog 5 Tryz.f5 Rows.epimorphismNotesSpec Rows.epimorphismNotesRow=true:=(and_t (and_t (and_t (and_t (and_t (and_t (and_t (and_t (and_t (and_t (and_t (and_t (and_t (and_t (and_t (and_t (and_t (and_t (and_t (and_t (and_t (and_t (and_t (and_t (and_t (and_t (and_t (and_t (and_t (and_t (and_t epnotes_k0 zso) fct_maps) epnotes_k3) epnotes_k4) epnotes_k5) fct_stops) epnotes_k7) fct_knobs) epnotes_k9) epnotes_k10) epnotes_k11) epnotes_k12) epnotes_k13) epnotes_k14) epnotes_k15) epnotes_k16) epnotes_k17) epnotes_k18) epnotes_k19) epnotes_k20) epnotes_k21) fct_keys) epnotes_k23) fct_heard) fct_enter) fct_lifts) fct_make) epnotes_k28) epnotes_k29) epnotes_k30) epnotes_k31)
theorem epnotes_inst : Tryz.f5.isInstance Tryz.prog Rows.epimorphismNotesRow.origin Rows.epimorphismNotesRow.targs:=of_decide_eq_true (by kernel_rfl)
theorem epnotes_wrap : Tryz.f5.isWrapper Tryz.prog Rows.epimorphismNotesRow.wrapper Rows.epimorphismNotesRow.mainSum:=by unfold Func.isWrapper;first | (rw [if_pos (by decide +kernel)];kernel_rfl) | (rw [if_neg (by decide +kernel)];exact ⟨rfl,rfl⟩)
theorem epnotes_named : Tryz.prog.funcNamed Rows.epimorphismNotesRow.func=some 5:=by kernel_rfl
theorem epnotes_holds : Rows.EpimorphismNotesSaid :=
 OpenClaim.holds_of_wide 5 Tryz.f5 rfl rfl rfl rfl rfl rfl rfl ⟨rfl,rfl,rfl,rfl,rfl⟩ rfl rfl rfl rfl rfl epnotes_named Tryz.func5 epnotes_closed epnotes_inst epnotes_wrap
  (fun os started H enc _=>epnotes_lifted os started H enc)
theorem epnotes_card : Rows.EpimorphismNotesCardSaid :=
 Claim7.holds_tied_plain_at .later [] [.data, .data, .data, .sentinel, .sentinel] true (true, "e06008c54a02090a161cea70120af34e49b9a3f0b38af524bb26aa78a929c797") true
  epnotes_holds (fun _ h=>by cases h) (by as_aux_lemma=>kernel_rfl) (fun _ h=>by cases h) epimorphismNotes_row_tie rfl ⟨rfl,rfl⟩ (by as_aux_lemma=>kernel_rfl) rfl
  (fun f fn hf hfn=>by
   obtain rfl : f = 5 := Option.some.inj ((show Tryz.prog.funcNamed "schisma/schismalaw37.EpimorphismNotes" = some 5 by kernel_rfl).symm.trans hf) |>.symm
   obtain rfl:fn=Tryz.f5:=(Option.some.inj (Tryz.func5.symm.trans hfn)).symm;exact ⟨by kernel_rfl,fun j t ht=>by
    rw [Tryz.params5] at ht;have hm:t∈[24,50,3]:=(by simpa using Array.mem_of_getElem? ht);have hall:([24,50,3].all fun u=>!Tryz.prog.wantsStandIn u)=true:=(by kernel_rfl);exact (show Tryz.prog.wantsStandIn t=false by simpa using List.all_eq_true.1 hall t hm)⟩)
  (by as_aux_lemma=>kernel_rfl)
#print axioms epnotes_card
end Go.Proofs.YtipkdebkdnbieaaGreatDoor
