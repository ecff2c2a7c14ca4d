/- ScaleFinds: for any described scale and any size (of at most 4 numbers of at most 40 bytes), Reduce returns the rest and the number of periods, and Find the note with the size, or the first error. (The walk, lifted.) What the rows ask of the program as a whole (once a seat). ScaleFinds: the row holds. ScaleFinds: for any described scale and any size (of at most 4 numbers of at most 40 bytes), Reduce returns the rest and the number of periods, and Find the note with the size, or the first error. The tied card, without conditions. -/
import Derived.Test.YtbkfhacmekbniaaGreatDoorPa39
import Derived.Test.YtbkfhacmekbniaaGreatDoorPa40
set_option maxRecDepth 100000
namespace Go.Proofs.YtbkfhacmekbniaaGreatDoor
open Go.ChangeShapes Go.WideShapes Go.ChangeAt Go.WideMaps Go.WideElems Go.RowKit
theorem finds31_lifted (os:Os)(started:os.Started)(H:Type)(enc:TypeId × Value→H) :
  ReturnsInHanded {} Tryz.checked os 4 .any (fun w args=>(Rows.scaleFindsSpec.pre enc Tryz.prog Tryz.f4 [] false w args∧laidMetH Tryz.prog Rows.scaleFindsRow.laid w)∧sizedMet enc Tryz.prog Tryz.f4 (OpenSpec.ofChange Rows.scaleFindsSpec) false w args)
   (Rows.scaleFindsSpec.post enc Tryz.prog Tryz.f4 false true false false):=by
 refine returnsInHanded_of_change_and (C:=Tryz.checked) (X:=fun w _=>laidMetH Tryz.prog Rows.scaleFindsRow.laid w) (fun _ _ _ hh h=>h.of_heap hh) zq9 started (by kernel_rfl) Tryz.func4
  (ChangeSpec.witness_shaped (enc:=enc) (C:=Tryz.checked) (os:=os) (X:=fun w _=>laidMetH Tryz.prog Rows.scaleFindsRow.laid w) false (World.laidAll Tryz.prog os zqE) #[.agg #[.bool false,.int .u8 0,.int .u8 0,.int .i8 0,.int .i8 0,.int .i8 0,.int .i8 0,.int .i8 0,.int .i8 0,.int .i8 0,.int .i8 0,.int .i8 0,.int .i8 0,.int .i8 0,.int .i8 0,.int .i8 0,.int .i8 0,.int .i8 0,.int .i8 0,.int .i8 0,.int .i8 0,.int .i8 0,.int .i8 0,.int .i8 0,.int .i8 0,.int .i8 0,.int .i8 0],.slice none 0 0] 8 (World.laidAll_os _ _ _)
   (zqF os _) (by kernel_rfl) (by kernel_rfl) (by kernel_rfl)
   (zqG os _)) ?_
 intro W base args ds gs before hval0 hW _ _ hL _;have hval:∀ (j:Nat) t v,Tryz.f4.params[j]?=some t→args[j]?=some v→Value.okWide Tryz.prog W .any base t v:=hval0;have hW':=hW;obtain ⟨p,q,hA0,hV,rfl,_,_⟩:=hW;have hA:DataW.TrodAll enc Tryz.prog W 0 (fun _=>true) true Tryz.f4.params.toList args.toList ds p:=hA0;rw [Tryz.params4] at hA hval;obtain ⟨v0,v1,d0,d1,p0,p1,rfl,rfl,rfl,h0,h1⟩:=trodAll_two hA;obtain ⟨rfl,rfl⟩:=trodVars_none hV;have hE:=zqD hL;obtain ⟨a,rfl,ha⟩:=zqT (hval 0 26 v0 rfl rfl) h0;obtain ⟨l,hl,hln⟩:=zra Tryz.underlying32 (hval 1 32 v1 rfl rfl) h1;refine (zq6 a v1 l W hE (zqY hL) ha hl hln).mono fun e' W' ⟨he',hb⟩=>?_;subst he';exact ⟨_,rfl,zqJ rfl (by rw [Tryz.params4];decide +kernel) rfl rfl hW' hb⟩
theorem and_t {a b:Bool}(ha:a=true)(hb:b=true):(a && b)=true:=by rw [ha,hb];rfl
theorem fct_maps : mapsRowed Tryz.prog=true:=by kernel_rfl
theorem fct_stops : (Tryz.prog.stops == [])=true:=by kernel_rfl
theorem fct_knobs : (Tryz.prog.stopKnobs == [])=true:=by kernel_rfl
theorem fct_keys : (Rows.scaleChainsRow.plainKeys == Tryz.prog.plainKeys)=true:=by kernel_rfl
theorem fct_heard : Tryz.prog.stopsHeard=true:=by kernel_rfl
theorem fct_enter : Tryz.prog.mayEnter=true:=by kernel_rfl
theorem fct_lifts : (Rows.scaleChainsRow.lifted == Tryz.prog.liftsFinal)=true:=by kernel_rfl
theorem fct_make : (Tryz.prog.make == some Rows.scaleChainsRow.make)=true:=by kernel_rfl
theorem finds31_k0 : (Rows.scaleFindsRow.wf (OpenSpec.ofChange Rows.scaleFindsSpec))=true:=by kernel_rfl
theorem finds31_k3 : (Tryz.f4.params.all (Tryz.prog.readableRec ·))=true:=by kernel_rfl
theorem finds31_k4 : (namedTie Tryz.prog Rows.scaleFindsRow.named Rows.scaleFindsSpec.vars)=true:=by kernel_rfl
theorem finds31_k5 : ((Rows.scaleFindsRow.stops == []))=true:=by kernel_rfl
theorem finds31_k7 : ((Rows.scaleFindsRow.knobs == []))=true:=by kernel_rfl
theorem finds31_k9 : ((Rows.scaleFindsRow.inPlace == Tryz.prog.inPlace 4))=true:=by kernel_rfl
theorem finds31_k10 : ((Rows.scaleFindsRow.unfollowed == Tryz.prog.unfollowed 4))=true:=by kernel_rfl
theorem finds31_k11 : ((Rows.scaleFindsRow.recurses == Tryz.prog.recurses 4))=true:=by kernel_rfl
theorem finds31_k12 : ((Rows.scaleFindsRow.named == Tryz.prog.varsNamed 4))=true:=by kernel_rfl
theorem finds31_k13 : ((Rows.scaleFindsRow.maps == (Tryz.f4.params.toList++Rows.scaleFindsSpec.plain.varTypes Tryz.prog).any (Tryz.prog.mapsRec ·)))=true:=by kernel_rfl
theorem finds31_k14 : ((Rows.scaleFindsRow.ifaces == (Tryz.f4.params.toList++Rows.scaleFindsSpec.plain.varTypes Tryz.prog).any (Tryz.prog.ifacesRec ·)))=true:=by kernel_rfl
theorem finds31_k15 : ((Rows.scaleFindsRow.mapsOut == Tryz.prog.mapsAmong Tryz.f4.resultTypes.toList))=true:=by kernel_rfl
theorem finds31_k16 : ((Rows.scaleFindsRow.loops == (Tryz.f4.params.toList++Rows.scaleFindsSpec.plain.varTypes Tryz.prog).any (Tryz.prog.loopsFrom ·)))=true:=by kernel_rfl
theorem finds31_k17 : ((Rows.scaleFindsRow.wideKeys == (Tryz.f4.params.toList++Rows.scaleFindsSpec.plain.varTypes Tryz.prog++Tryz.f4.resultTypes.toList).any (Tryz.prog.wideKeysFrom ·)))=true:=by kernel_rfl
theorem finds31_k18 : (Rows.scaleFindsSpec.vars.all (Tryz.prog.varReadable ·))=true:=by kernel_rfl
theorem finds31_k19 : (Tryz.f4.resultTypes.all (fun t=>Tryz.prog.readableRec t && decide (t<Tryz.prog.types.size)))=true:=by kernel_rfl
theorem finds31_k20 : ((Rows.scaleFindsRow.ifacesOut == Tryz.f4.resultTypes.toList.any (Tryz.prog.ifacesRec ·)))=true:=by kernel_rfl
theorem finds31_k21 : ((Rows.scaleFindsRow.loopsOut == Tryz.f4.resultTypes.toList.any (Tryz.prog.loopsFrom ·)))=true:=by kernel_rfl
theorem finds31_k23 : (Rows.scaleFindsRow.shortTexts.isNone)=true:=by kernel_rfl
theorem finds31_k28 : ((Rows.scaleFindsRow.kinds == (if Rows.scaleFindsRow.domain.isEmpty then [] else Tryz.f4.params.toList.map fun t=>match Tryz.prog.underlying t with | some (.int k)=>some k | _=>none)))=true:=by kernel_rfl
theorem finds31_k29 : ((Rows.scaleFindsRow.pinned == Rows.scaleFindsRow.pinnedBy))=true:=by kernel_rfl
theorem finds31_k30 : ((Rows.scaleFindsRow.veiled == (Tryz.f4.params.toList++Rows.scaleFindsSpec.plain.varTypes Tryz.prog++Tryz.f4.resultTypes.toList).any (Tryz.prog.veiledRec ·)))=true:=by kernel_rfl
theorem finds31_k31 : (Rows.scaleFindsRow.veiledFits Tryz.prog Tryz.f4.params.toList (Tryz.f4.params.toList++Rows.scaleFindsSpec.plain.varTypes Tryz.prog++Tryz.f4.resultTypes.toList))=true:=by kernel_rfl
theorem finds31_closed : joinedFacts Tryz.prog 4 Tryz.f4 Rows.scaleFindsSpec Rows.scaleFindsRow=true:=(and_t (and_t (and_t (and_t (and_t (and_t (and_t (and_t (and_t (and_t (and_t (and_t (and_t (and_t (and_t (and_t (and_t (and_t (and_t (and_t (and_t (and_t (and_t (and_t (and_t (and_t (and_t (and_t (and_t (and_t (and_t finds31_k0 zqH) fct_maps) finds31_k3) finds31_k4) finds31_k5) fct_stops) finds31_k7) fct_knobs) finds31_k9) finds31_k10) finds31_k11) finds31_k12) finds31_k13) finds31_k14) finds31_k15) finds31_k16) finds31_k17) finds31_k18) finds31_k19) finds31_k20) finds31_k21) fct_keys) finds31_k23) fct_heard) fct_enter) fct_lifts) fct_make) finds31_k28) finds31_k29) finds31_k30) finds31_k31)
theorem finds31_inst : Tryz.f4.isInstance Tryz.prog Rows.scaleFindsRow.origin Rows.scaleFindsRow.targs:=of_decide_eq_true (by kernel_rfl)
theorem finds31_wrap : Tryz.f4.isWrapper Tryz.prog Rows.scaleFindsRow.wrapper Rows.scaleFindsRow.mainSum:=by unfold Func.isWrapper;first | (rw [if_pos (by decide +kernel)];kernel_rfl) | (rw [if_neg (by decide +kernel)];exact ⟨rfl,rfl⟩)
theorem finds31_named : Tryz.prog.funcNamed Rows.scaleFindsRow.func=some 4:=by kernel_rfl
theorem finds31_holds : Rows.ScaleFindsSaid :=
 OpenClaim.holds_of_wide 4 Tryz.f4 rfl rfl rfl rfl rfl rfl rfl ⟨rfl,rfl,rfl,rfl,rfl⟩ rfl rfl rfl rfl rfl finds31_named Tryz.func4 finds31_closed finds31_inst finds31_wrap
  (fun os started H enc _=>finds31_lifted os started H enc)
theorem finds31_card : Rows.ScaleFindsCardSaid :=
 Claim7.holds_tied_plain_at .later [] [.data, .data, .data, .sentinel, .sentinel] true (true, "eaf05ff7214ec4fb75701f91c8452b021800c37f9ac1bb0e2d9ff2d434eb902b") true
  finds31_holds (fun _ h=>by cases h) (by as_aux_lemma=>kernel_rfl) (fun _ h=>by cases h) scaleFinds_row_tie rfl ⟨rfl,rfl⟩ (by as_aux_lemma=>kernel_rfl) rfl
  (fun f fn hf hfn=>by
   obtain rfl : f = 4 := Option.some.inj ((show Tryz.prog.funcNamed "schisma/schismalaw31.ScaleFinds" = some 4 by kernel_rfl).symm.trans hf) |>.symm
   obtain rfl:fn=Tryz.f4:=(Option.some.inj (Tryz.func4.symm.trans hfn)).symm;exact ⟨by kernel_rfl,fun j t ht=>by
    rw [Tryz.params4] at ht;have hm:t∈[26,32]:=(by simpa using Array.mem_of_getElem? ht);have hall:([26,32].all fun u=>!Tryz.prog.wantsStandIn u)=true:=(by kernel_rfl);exact (show Tryz.prog.wantsStandIn t=false by simpa using List.all_eq_true.1 hall t hm)⟩)
  (by as_aux_lemma=>kernel_rfl)
#print axioms finds31_card
end Go.Proofs.YtbkfhacmekbniaaGreatDoor
