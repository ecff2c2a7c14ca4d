/- ScaleUnions: for any two described scales, Union returns the scale of all their notes and Within says whether the first lies in the second, or both an error for scales over different primes. (The walk, lifted.) What the rows ask of the program as a whole (once a seat). ScaleUnions: the row holds. ScaleUnions: for any two described scales, Union returns the scale of all their notes and Within says whether the first lies in the second, or both an error for scales over different primes. The tied card, without conditions. -/
import Derived.Test.YtbkfhacmekbniaaGreatDoorPc37
import Derived.Test.YtbkfhacmekbniaaGreatDoorPc38
set_option maxRecDepth 100000
namespace Go.Proofs.YtbkfhacmekbniaaGreatDoor
open Go.ChangeShapes Go.WideShapes Go.ChangeAt Go.WideMaps Go.WideElems Go.RowKit
theorem unions_lifted (os:Os)(started:os.Started)(H:Type)(enc:TypeId × Value→H) :
  ReturnsInHanded {} Tryz.checked os 5 .any (fun w args=>(Rows.scaleUnionsSpec.pre enc Tryz.prog Tryz.f5 [] false w args∧laidMetH Tryz.prog Rows.scaleUnionsRow.laid w)∧sizedMet enc Tryz.prog Tryz.f5 (OpenSpec.ofChange Rows.scaleUnionsSpec) false w args)
   (Rows.scaleUnionsSpec.post enc Tryz.prog Tryz.f5 false true false false):=by
 refine returnsInHanded_of_change_and (C:=Tryz.checked) (X:=fun w _=>laidMetH Tryz.prog Rows.scaleUnionsRow.laid w) (fun _ _ _ hh h=>h.of_heap hh) zra started (by kernel_rfl) Tryz.func5
  (ChangeSpec.witness_shaped (enc:=enc) (C:=Tryz.checked) (os:=os) (X:=fun w _=>laidMetH Tryz.prog Rows.scaleUnionsRow.laid w) false (World.laidAll Tryz.prog os zrf) #[.agg #[.bool false,.int .u8 0,.int .u8 0,.int .i8 0,.int .i8 0,.int .i8 0,.int .i8 0,.int .i8 0,.int .i8 0,.int .i8 0,.int .i8 0,.int .i8 0,.int .i8 0,.int .i8 0,.int .i8 0,.int .i8 0,.int .i8 0,.int .i8 0,.int .i8 0,.int .i8 0,.int .i8 0,.int .i8 0,.int .i8 0,.int .i8 0,.int .i8 0,.int .i8 0,.int .i8 0],.agg #[.bool false,.int .u8 0,.int .u8 0,.int .i8 0,.int .i8 0,.int .i8 0,.int .i8 0,.int .i8 0,.int .i8 0,.int .i8 0,.int .i8 0,.int .i8 0,.int .i8 0,.int .i8 0,.int .i8 0,.int .i8 0,.int .i8 0,.int .i8 0,.int .i8 0,.int .i8 0,.int .i8 0,.int .i8 0,.int .i8 0,.int .i8 0,.int .i8 0,.int .i8 0,.int .i8 0]] 8 (World.laidAll_os _ _ _)
   (zrg os _) (by kernel_rfl) (by kernel_rfl) (by kernel_rfl)
   (zrh os _)) ?_
 intro W base args ds gs before hval0 hW _ _ hL _;have hval:∀ (j:Nat) t v,Tryz.f5.params[j]?=some t→args[j]?=some v→Value.okWide Tryz.prog W .any base t v:=hval0;have hW':=hW;obtain ⟨p,q,hA0,hV,rfl,_,_⟩:=hW;have hA:DataW.TrodAll enc Tryz.prog W 0 (fun _=>true) true Tryz.f5.params.toList args.toList ds p:=hA0;rw [Tryz.params5] at hA hval;obtain ⟨v0,v1,d0,d1,p0,p1,rfl,rfl,rfl,h0,h1⟩:=trodAll_two hA;obtain ⟨rfl,rfl⟩:=trodVars_none hV;have hE:=zre hL;obtain ⟨a,rfl,ha⟩:=zru (hval 0 26 v0 rfl rfl) h0;obtain ⟨b,rfl,hy⟩:=zru (hval 1 26 v1 rfl rfl) h1;refine (zqX a b W hE ha hy (zrz hL)).mono fun e' W' ⟨he',hb⟩=>?_;subst he';exact ⟨_,rfl,zrk rfl (by rw [Tryz.params5];decide +kernel) rfl rfl hW' hb⟩
theorem and_t {a b:Bool}(ha:a=true)(hb:b=true):(a && b)=true:=by rw [ha,hb];rfl
theorem fct_maps : mapsRowed Tryz.prog=true:=by kernel_rfl
theorem fct_stops : (Tryz.prog.stops == [])=true:=by kernel_rfl
theorem fct_knobs : (Tryz.prog.stopKnobs == [])=true:=by kernel_rfl
theorem fct_keys : (Rows.scaleChainsRow.plainKeys == Tryz.prog.plainKeys)=true:=by kernel_rfl
theorem fct_heard : Tryz.prog.stopsHeard=true:=by kernel_rfl
theorem fct_enter : Tryz.prog.mayEnter=true:=by kernel_rfl
theorem fct_lifts : (Rows.scaleChainsRow.lifted == Tryz.prog.liftsFinal)=true:=by kernel_rfl
theorem fct_make : (Tryz.prog.make == some Rows.scaleChainsRow.make)=true:=by kernel_rfl
theorem unions_k0 : (Rows.scaleUnionsRow.wf (OpenSpec.ofChange Rows.scaleUnionsSpec))=true:=by kernel_rfl
theorem unions_k3 : (Tryz.f5.params.all (Tryz.prog.readableRec ·))=true:=by kernel_rfl
theorem unions_k4 : (namedTie Tryz.prog Rows.scaleUnionsRow.named Rows.scaleUnionsSpec.vars)=true:=by kernel_rfl
theorem unions_k5 : ((Rows.scaleUnionsRow.stops == []))=true:=by kernel_rfl
theorem unions_k7 : ((Rows.scaleUnionsRow.knobs == []))=true:=by kernel_rfl
theorem unions_k9 : ((Rows.scaleUnionsRow.inPlace == Tryz.prog.inPlace 5))=true:=by kernel_rfl
theorem unions_k10 : ((Rows.scaleUnionsRow.unfollowed == Tryz.prog.unfollowed 5))=true:=by kernel_rfl
theorem unions_k11 : ((Rows.scaleUnionsRow.recurses == Tryz.prog.recurses 5))=true:=by kernel_rfl
theorem unions_k12 : ((Rows.scaleUnionsRow.named == Tryz.prog.varsNamed 5))=true:=by kernel_rfl
theorem unions_k13 : ((Rows.scaleUnionsRow.maps == (Tryz.f5.params.toList++Rows.scaleUnionsSpec.plain.varTypes Tryz.prog).any (Tryz.prog.mapsRec ·)))=true:=by kernel_rfl
theorem unions_k14 : ((Rows.scaleUnionsRow.ifaces == (Tryz.f5.params.toList++Rows.scaleUnionsSpec.plain.varTypes Tryz.prog).any (Tryz.prog.ifacesRec ·)))=true:=by kernel_rfl
theorem unions_k15 : ((Rows.scaleUnionsRow.mapsOut == Tryz.prog.mapsAmong Tryz.f5.resultTypes.toList))=true:=by kernel_rfl
theorem unions_k16 : ((Rows.scaleUnionsRow.loops == (Tryz.f5.params.toList++Rows.scaleUnionsSpec.plain.varTypes Tryz.prog).any (Tryz.prog.loopsFrom ·)))=true:=by kernel_rfl
theorem unions_k17 : ((Rows.scaleUnionsRow.wideKeys == (Tryz.f5.params.toList++Rows.scaleUnionsSpec.plain.varTypes Tryz.prog++Tryz.f5.resultTypes.toList).any (Tryz.prog.wideKeysFrom ·)))=true:=by kernel_rfl
theorem unions_k18 : (Rows.scaleUnionsSpec.vars.all (Tryz.prog.varReadable ·))=true:=by kernel_rfl
theorem unions_k19 : (Tryz.f5.resultTypes.all (fun t=>Tryz.prog.readableRec t && decide (t<Tryz.prog.types.size)))=true:=by kernel_rfl
theorem unions_k20 : ((Rows.scaleUnionsRow.ifacesOut == Tryz.f5.resultTypes.toList.any (Tryz.prog.ifacesRec ·)))=true:=by kernel_rfl
theorem unions_k21 : ((Rows.scaleUnionsRow.loopsOut == Tryz.f5.resultTypes.toList.any (Tryz.prog.loopsFrom ·)))=true:=by kernel_rfl
theorem unions_k23 : (Rows.scaleUnionsRow.shortTexts.isNone)=true:=by kernel_rfl
theorem unions_k28 : ((Rows.scaleUnionsRow.kinds == (if Rows.scaleUnionsRow.domain.isEmpty then [] else Tryz.f5.params.toList.map fun t=>match Tryz.prog.underlying t with | some (.int k)=>some k | _=>none)))=true:=by kernel_rfl
theorem unions_k29 : ((Rows.scaleUnionsRow.pinned == Rows.scaleUnionsRow.pinnedBy))=true:=by kernel_rfl
theorem unions_k30 : ((Rows.scaleUnionsRow.veiled == (Tryz.f5.params.toList++Rows.scaleUnionsSpec.plain.varTypes Tryz.prog++Tryz.f5.resultTypes.toList).any (Tryz.prog.veiledRec ·)))=true:=by kernel_rfl
theorem unions_k31 : (Rows.scaleUnionsRow.veiledFits Tryz.prog Tryz.f5.params.toList (Tryz.f5.params.toList++Rows.scaleUnionsSpec.plain.varTypes Tryz.prog++Tryz.f5.resultTypes.toList))=true:=by kernel_rfl
theorem unions_closed : joinedFacts Tryz.prog 5 Tryz.f5 Rows.scaleUnionsSpec Rows.scaleUnionsRow=true:=(and_t (and_t (and_t (and_t (and_t (and_t (and_t (and_t (and_t (and_t (and_t (and_t (and_t (and_t (and_t (and_t (and_t (and_t (and_t (and_t (and_t (and_t (and_t (and_t (and_t (and_t (and_t (and_t (and_t (and_t (and_t unions_k0 zri) fct_maps) unions_k3) unions_k4) unions_k5) fct_stops) unions_k7) fct_knobs) unions_k9) unions_k10) unions_k11) unions_k12) unions_k13) unions_k14) unions_k15) unions_k16) unions_k17) unions_k18) unions_k19) unions_k20) unions_k21) fct_keys) unions_k23) fct_heard) fct_enter) fct_lifts) fct_make) unions_k28) unions_k29) unions_k30) unions_k31)
theorem unions_inst : Tryz.f5.isInstance Tryz.prog Rows.scaleUnionsRow.origin Rows.scaleUnionsRow.targs:=of_decide_eq_true (by kernel_rfl)
theorem unions_wrap : Tryz.f5.isWrapper Tryz.prog Rows.scaleUnionsRow.wrapper Rows.scaleUnionsRow.mainSum:=by unfold Func.isWrapper;first | (rw [if_pos (by decide +kernel)];kernel_rfl) | (rw [if_neg (by decide +kernel)];exact ⟨rfl,rfl⟩)
theorem unions_named : Tryz.prog.funcNamed Rows.scaleUnionsRow.func=some 5:=by kernel_rfl
theorem unions_holds : Rows.ScaleUnionsSaid :=
 OpenClaim.holds_of_wide 5 Tryz.f5 rfl rfl rfl rfl rfl rfl rfl ⟨rfl,rfl,rfl,rfl,rfl⟩ rfl rfl rfl rfl rfl unions_named Tryz.func5 unions_closed unions_inst unions_wrap
  (fun os started H enc _=>unions_lifted os started H enc)
theorem unions_card : Rows.ScaleUnionsCardSaid :=
 Claim7.holds_tied_plain_at .later [] [.data, .data, .data, .sentinel, .sentinel] true (true, "eaf05ff7214ec4fb75701f91c8452b021800c37f9ac1bb0e2d9ff2d434eb902b") true
  unions_holds (fun _ h=>by cases h) (by as_aux_lemma=>kernel_rfl) (fun _ h=>by cases h) scaleUnions_row_tie rfl ⟨rfl,rfl⟩ (by as_aux_lemma=>kernel_rfl) rfl
  (fun f fn hf hfn=>by
   obtain rfl : f = 5 := Option.some.inj ((show Tryz.prog.funcNamed "schisma/schismalaw31.ScaleUnions" = some 5 by kernel_rfl).symm.trans hf) |>.symm
   obtain rfl:fn=Tryz.f5:=(Option.some.inj (Tryz.func5.symm.trans hfn)).symm;exact ⟨by kernel_rfl,fun j t ht=>by
    rw [Tryz.params5] at ht;have hm:t∈[26,26]:=(by simpa using Array.mem_of_getElem? ht);have hall:([26,26].all fun u=>!Tryz.prog.wantsStandIn u)=true:=(by kernel_rfl);exact (show Tryz.prog.wantsStandIn t=false by simpa using List.all_eq_true.1 hall t hm)⟩)
  (by as_aux_lemma=>kernel_rfl)
#print axioms unions_card
end Go.Proofs.YtbkfhacmekbniaaGreatDoor
