/- ScaleNotes: for any described scale and any index, Note returns the size of the note, or ErrRange; Find of it returns the index; and Steps the differences of the notes. (The walk, lifted.) What the rows ask of the program as a whole (once a seat). ScaleNotes: the row holds. ScaleNotes: for any described scale and any index, Note returns the size of the note, or ErrRange; Find of it returns the index; and Steps the differences of the notes. The tied card, without conditions. -/
import Derived.Test.YtnppiicceblfkaaGreatDoorPa31
import Derived.Test.YtnppiicceblfkaaGreatDoorPa32
set_option maxRecDepth 100000
namespace Go.Proofs.YtnppiicceblfkaaGreatDoor
open Go.ChangeShapes Go.WideShapes Go.ChangeAt Go.WideMaps Go.WideElems Go.RowKit
theorem notes31_lifted (os:Os)(started:os.Started)(H:Type)(enc:TypeId × Value→H) :
  ReturnsInHanded {} Tryz.checked os 4 .any (fun w args=>(Rows.scaleNotesSpec.pre enc Tryz.prog Tryz.f4 [] false w args∧laidMetH Tryz.prog Rows.scaleNotesRow.laid w)∧sizedMet enc Tryz.prog Tryz.f4 (OpenSpec.ofChange Rows.scaleNotesSpec) false w args)
   (Rows.scaleNotesSpec.post enc Tryz.prog Tryz.f4 false true false false):=by
 refine returnsInHanded_of_change_and (C:=Tryz.checked) (X:=fun w _=>laidMetH Tryz.prog Rows.scaleNotesRow.laid w) (fun _ _ _ hh h=>h.of_heap hh) zox started (by kernel_rfl) Tryz.func4
  (ChangeSpec.witness_shaped (enc:=enc) (C:=Tryz.checked) (os:=os) (X:=fun w _=>laidMetH Tryz.prog Rows.scaleNotesRow.laid w) false (World.laidAll Tryz.prog os zo2) #[.agg #[.bool false,.int .u8 0,.int .u8 0,.int .i8 0,.int .i8 0,.int .i8 0,.int .i8 0,.int .i8 0,.int .i8 0,.int .i8 0,.int .i8 0,.int .i8 0,.int .i8 0,.int .i8 0,.int .i8 0,.int .i8 0,.int .i8 0,.int .i8 0,.int .i8 0,.int .i8 0,.int .i8 0,.int .i8 0,.int .i8 0,.int .i8 0,.int .i8 0,.int .i8 0,.int .i8 0],.int .i64 0] 8 (World.laidAll_os _ _ _)
   (zo3 os _) (by kernel_rfl) (by kernel_rfl) (by kernel_rfl)
   (zo4 os _)) ?_
 intro W base args ds gs before hval0 hW _ _ hL _;have hval:∀ (j:Nat) t v,Tryz.f4.params[j]?=some t→args[j]?=some v→Value.okWide Tryz.prog W .any base t v:=hval0;have hW':=hW;obtain ⟨p,q,hA0,hV,rfl,_,_⟩:=hW;have hA:DataW.TrodAll enc Tryz.prog W 0 (fun _=>true) true Tryz.f4.params.toList args.toList ds p:=hA0;rw [Tryz.params4] at hA hval;obtain ⟨v0,v1,d0,d1,p0,p1,rfl,rfl,rfl,h0,h1⟩:=trodAll_two hA;obtain ⟨rfl,rfl⟩:=trodVars_none hV;have hE:=zo1 hL;obtain ⟨a,rfl,ha⟩:=zoH (hval 0 26 v0 rfl rfl) h0;obtain ⟨m,rfl,rfl,rfl,wm⟩:=open_int Tryz.underlying3 (hval 1 3 v1 rfl rfl) h1;refine (zot a m W hE (zoM hL) ha).mono fun e' W' ⟨he',hb⟩=>?_;subst he';exact ⟨_,rfl,zo7 rfl (by rw [Tryz.params4];decide +kernel) rfl rfl hW' hb⟩
theorem and_t {a b:Bool}(ha:a=true)(hb:b=true):(a && b)=true:=by rw [ha,hb];rfl
theorem fct_maps : mapsRowed Tryz.prog=true:=by kernel_rfl
theorem fct_stops : (Tryz.prog.stops == [])=true:=by kernel_rfl
theorem fct_knobs : (Tryz.prog.stopKnobs == [])=true:=by kernel_rfl
theorem fct_keys : (Rows.scaleFindsRow.plainKeys == Tryz.prog.plainKeys)=true:=by kernel_rfl
theorem fct_heard : Tryz.prog.stopsHeard=true:=by kernel_rfl
theorem fct_enter : Tryz.prog.mayEnter=true:=by kernel_rfl
theorem fct_lifts : (Rows.scaleFindsRow.lifted == Tryz.prog.liftsFinal)=true:=by kernel_rfl
theorem fct_make : (Tryz.prog.make == some Rows.scaleFindsRow.make)=true:=by kernel_rfl
theorem notes31_k0 : (Rows.scaleNotesRow.wf (OpenSpec.ofChange Rows.scaleNotesSpec))=true:=by kernel_rfl
theorem notes31_k3 : (Tryz.f4.params.all (Tryz.prog.readableRec ·))=true:=by kernel_rfl
theorem notes31_k4 : (namedTie Tryz.prog Rows.scaleNotesRow.named Rows.scaleNotesSpec.vars)=true:=by kernel_rfl
theorem notes31_k5 : ((Rows.scaleNotesRow.stops == []))=true:=by kernel_rfl
theorem notes31_k7 : ((Rows.scaleNotesRow.knobs == []))=true:=by kernel_rfl
theorem notes31_k9 : ((Rows.scaleNotesRow.inPlace == Tryz.prog.inPlace 4))=true:=by kernel_rfl
theorem notes31_k10 : ((Rows.scaleNotesRow.unfollowed == Tryz.prog.unfollowed 4))=true:=by kernel_rfl
theorem notes31_k11 : ((Rows.scaleNotesRow.recurses == Tryz.prog.recurses 4))=true:=by kernel_rfl
theorem notes31_k12 : ((Rows.scaleNotesRow.named == Tryz.prog.varsNamed 4))=true:=by kernel_rfl
theorem notes31_k13 : ((Rows.scaleNotesRow.maps == (Tryz.f4.params.toList++Rows.scaleNotesSpec.plain.varTypes Tryz.prog).any (Tryz.prog.mapsRec ·)))=true:=by kernel_rfl
theorem notes31_k14 : ((Rows.scaleNotesRow.ifaces == (Tryz.f4.params.toList++Rows.scaleNotesSpec.plain.varTypes Tryz.prog).any (Tryz.prog.ifacesRec ·)))=true:=by kernel_rfl
theorem notes31_k15 : ((Rows.scaleNotesRow.mapsOut == Tryz.prog.mapsAmong Tryz.f4.resultTypes.toList))=true:=by kernel_rfl
theorem notes31_k16 : ((Rows.scaleNotesRow.loops == (Tryz.f4.params.toList++Rows.scaleNotesSpec.plain.varTypes Tryz.prog).any (Tryz.prog.loopsFrom ·)))=true:=by kernel_rfl
theorem notes31_k17 : ((Rows.scaleNotesRow.wideKeys == (Tryz.f4.params.toList++Rows.scaleNotesSpec.plain.varTypes Tryz.prog++Tryz.f4.resultTypes.toList).any (Tryz.prog.wideKeysFrom ·)))=true:=by kernel_rfl
theorem notes31_k18 : (Rows.scaleNotesSpec.vars.all (Tryz.prog.varReadable ·))=true:=by kernel_rfl
theorem notes31_k19 : (Tryz.f4.resultTypes.all (fun t=>Tryz.prog.readableRec t && decide (t<Tryz.prog.types.size)))=true:=by kernel_rfl
theorem notes31_k20 : ((Rows.scaleNotesRow.ifacesOut == Tryz.f4.resultTypes.toList.any (Tryz.prog.ifacesRec ·)))=true:=by kernel_rfl
theorem notes31_k21 : ((Rows.scaleNotesRow.loopsOut == Tryz.f4.resultTypes.toList.any (Tryz.prog.loopsFrom ·)))=true:=by kernel_rfl
theorem notes31_k23 : (Rows.scaleNotesRow.shortTexts.isNone)=true:=by kernel_rfl
theorem notes31_k28 : ((Rows.scaleNotesRow.kinds == (if Rows.scaleNotesRow.domain.isEmpty then [] else Tryz.f4.params.toList.map fun t=>match Tryz.prog.underlying t with | some (.int k)=>some k | _=>none)))=true:=by kernel_rfl
theorem notes31_k29 : ((Rows.scaleNotesRow.pinned == Rows.scaleNotesRow.pinnedBy))=true:=by kernel_rfl
theorem notes31_k30 : ((Rows.scaleNotesRow.veiled == (Tryz.f4.params.toList++Rows.scaleNotesSpec.plain.varTypes Tryz.prog++Tryz.f4.resultTypes.toList).any (Tryz.prog.veiledRec ·)))=true:=by kernel_rfl
theorem notes31_k31 : (Rows.scaleNotesRow.veiledFits Tryz.prog Tryz.f4.params.toList (Tryz.f4.params.toList++Rows.scaleNotesSpec.plain.varTypes Tryz.prog++Tryz.f4.resultTypes.toList))=true:=by kernel_rfl
theorem notes31_closed : joinedFacts Tryz.prog 4 Tryz.f4 Rows.scaleNotesSpec Rows.scaleNotesRow=true:=(and_t (and_t (and_t (and_t (and_t (and_t (and_t (and_t (and_t (and_t (and_t (and_t (and_t (and_t (and_t (and_t (and_t (and_t (and_t (and_t (and_t (and_t (and_t (and_t (and_t (and_t (and_t (and_t (and_t (and_t (and_t notes31_k0 zo5) fct_maps) notes31_k3) notes31_k4) notes31_k5) fct_stops) notes31_k7) fct_knobs) notes31_k9) notes31_k10) notes31_k11) notes31_k12) notes31_k13) notes31_k14) notes31_k15) notes31_k16) notes31_k17) notes31_k18) notes31_k19) notes31_k20) notes31_k21) fct_keys) notes31_k23) fct_heard) fct_enter) fct_lifts) fct_make) notes31_k28) notes31_k29) notes31_k30) notes31_k31)
theorem notes31_inst : Tryz.f4.isInstance Tryz.prog Rows.scaleNotesRow.origin Rows.scaleNotesRow.targs:=of_decide_eq_true (by kernel_rfl)
theorem notes31_wrap : Tryz.f4.isWrapper Tryz.prog Rows.scaleNotesRow.wrapper Rows.scaleNotesRow.mainSum:=by unfold Func.isWrapper;first | (rw [if_pos (by decide +kernel)];kernel_rfl) | (rw [if_neg (by decide +kernel)];exact ⟨rfl,rfl⟩)
theorem notes31_named : Tryz.prog.funcNamed Rows.scaleNotesRow.func=some 4:=by kernel_rfl
theorem notes31_holds : Rows.ScaleNotesSaid :=
 OpenClaim.holds_of_wide 4 Tryz.f4 rfl rfl rfl rfl rfl rfl rfl ⟨rfl,rfl,rfl,rfl,rfl⟩ rfl rfl rfl rfl rfl notes31_named Tryz.func4 notes31_closed notes31_inst notes31_wrap
  (fun os started H enc _=>notes31_lifted os started H enc)
theorem notes31_card : Rows.ScaleNotesCardSaid :=
 Claim7.holds_tied_plain_at .later [] [.data, .data, .data, .sentinel, .sentinel] true (true, "684ec45bc43f761c04d1b741c1aa80bb3d9d2b61d406a7caec29c2bc691b7bb2") true
  notes31_holds (fun _ h=>by cases h) (by as_aux_lemma=>kernel_rfl) (fun _ h=>by cases h) scaleNotes_row_tie rfl ⟨rfl,rfl⟩ (by as_aux_lemma=>kernel_rfl) rfl
  (fun f fn hf hfn=>by
   obtain rfl : f = 4 := Option.some.inj ((show Tryz.prog.funcNamed "schisma/schismalaw31.ScaleNotes" = some 4 by kernel_rfl).symm.trans hf) |>.symm
   obtain rfl:fn=Tryz.f4:=(Option.some.inj (Tryz.func4.symm.trans hfn)).symm;exact ⟨by kernel_rfl,fun j t ht=>by
    rw [Tryz.params4] at ht;have hm:t∈[26,3]:=(by simpa using Array.mem_of_getElem? ht);have hall:([26,3].all fun u=>!Tryz.prog.wantsStandIn u)=true:=(by kernel_rfl);exact (show Tryz.prog.wantsStandIn t=false by simpa using List.all_eq_true.1 hall t hm)⟩)
  (by as_aux_lemma=>kernel_rfl)
#print axioms notes31_card
end Go.Proofs.YtnppiicceblfkaaGreatDoor
