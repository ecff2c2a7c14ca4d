/- ScaleChains: for any described sizes (the generator) and any two numbers, Chain returns the scale of the multiples, or the first error. (The walk, lifted.) What the rows ask of the program as a whole (once a seat). ScaleChains: the row holds. ScaleChains: for any described sizes (the generator) and any two numbers, Chain returns the scale of the multiples, or the first error. The tied card, without conditions. -/
import Derived.Test.YtoehmpbipbbffaaGreatDoorPa37
set_option maxRecDepth 100000
namespace Go.Proofs.YtoehmpbipbbffaaGreatDoor
open Go.ChangeShapes Go.WideShapes Go.ChangeAt Go.WideMaps Go.WideElems Go.RowKit
theorem chains_lifted (os:Os)(started:os.Started)(H:Type)(enc:TypeId × Value→H) :
  ReturnsInHanded {} Tryz.checked os 3 .any (fun w args=>(Rows.scaleChainsSpec.pre enc Tryz.prog Tryz.f3 [] false w args∧laidMetH Tryz.prog Rows.scaleChainsRow.laid w)∧sizedMet enc Tryz.prog Tryz.f3 (OpenSpec.ofChange Rows.scaleChainsSpec) false w args)
   (Rows.scaleChainsSpec.post enc Tryz.prog Tryz.f3 false true false false):=by
 refine returnsInHanded_of_change_and (C:=Tryz.checked) (X:=fun w _=>laidMetH Tryz.prog Rows.scaleChainsRow.laid w) (fun _ _ _ hh h=>h.of_heap hh) zq2 started (by kernel_rfl) Tryz.func3
  (ChangeSpec.witness_shaped (enc:=enc) (C:=Tryz.checked) (os:=os) (X:=fun w _=>laidMetH Tryz.prog Rows.scaleChainsRow.laid w) false (World.laidAll Tryz.prog os zq7) #[.agg #[.bool false,.int .u8 0,.int .u8 0,.int .i8 0,.int .i8 0,.int .i8 0,.int .i8 0,.int .i8 0,.int .i8 0,.int .i8 0,.int .i8 0,.int .i8 0,.int .i8 0,.int .i8 0,.int .i8 0,.int .i8 0,.int .i8 0,.int .i8 0,.int .i8 0,.int .i8 0,.int .i8 0,.int .i8 0,.int .i8 0,.int .i8 0,.int .i8 0,.int .i8 0,.int .i8 0],.int .i64 0,.int .i64 0] 8 (World.laidAll_os _ _ _)
   (zq8 os _) (by kernel_rfl) (by kernel_rfl) (by kernel_rfl)
   (zq9 os _)) ?_
 intro W base args ds gs before hval0 hW _ _ hL _;have hval:∀ (j:Nat) t v,Tryz.f3.params[j]?=some t→args[j]?=some v→Value.okWide Tryz.prog W .any base t v:=hval0;have hW':=hW;obtain ⟨p,q,hA0,hV,rfl,_,_⟩:=hW;have hA:DataW.TrodAll enc Tryz.prog W 0 (fun _=>true) true Tryz.f3.params.toList args.toList ds p:=hA0;rw [Tryz.params3] at hA hval;obtain ⟨v0,v1,v2,d0,d1,d2,p0,p1,p2,rfl,rfl,rfl,h0,h1,h2⟩:=trodAll_three hA;obtain ⟨rfl,rfl⟩:=trodVars_none hV;have hE:=zq6 hL;obtain ⟨a,rfl,ha⟩:=zqM (hval 0 26 v0 rfl rfl) h0;obtain ⟨m,rfl,rfl,rfl,wm⟩:=open_int Tryz.underlying3 (hval 1 3 v1 rfl rfl) h1;obtain ⟨m2,rfl,rfl,rfl,wm2⟩:=open_int Tryz.underlying3 (hval 2 3 v2 rfl rfl) h2;refine (zqz a m m2 W hE (zqR hL) ha).mono fun e' W' ⟨he',hb⟩=>?_;subst he';exact ⟨_,rfl,zqC rfl (by rw [Tryz.params3];decide +kernel) rfl rfl hW' hb⟩
theorem and_t {a b:Bool}(ha:a=true)(hb:b=true):(a && b)=true:=by rw [ha,hb];rfl
theorem fct_maps : mapsRowed Tryz.prog=true:=by kernel_rfl
theorem fct_stops : (Tryz.prog.stops == [])=true:=by kernel_rfl
theorem fct_knobs : (Tryz.prog.stopKnobs == [])=true:=by kernel_rfl
theorem fct_keys : (Rows.scaleChainsRow.plainKeys == Tryz.prog.plainKeys)=true:=by kernel_rfl
theorem fct_heard : Tryz.prog.stopsHeard=true:=by kernel_rfl
theorem fct_enter : Tryz.prog.mayEnter=true:=by kernel_rfl
theorem fct_lifts : (Rows.scaleChainsRow.lifted == Tryz.prog.liftsFinal)=true:=by kernel_rfl
theorem fct_make : (Tryz.prog.make == some Rows.scaleChainsRow.make)=true:=by kernel_rfl
theorem chains_k0 : (Rows.scaleChainsRow.wf (OpenSpec.ofChange Rows.scaleChainsSpec))=true:=by kernel_rfl
theorem chains_k3 : (Tryz.f3.params.all (Tryz.prog.readableRec ·))=true:=by kernel_rfl
theorem chains_k4 : (namedTie Tryz.prog Rows.scaleChainsRow.named Rows.scaleChainsSpec.vars)=true:=by kernel_rfl
theorem chains_k5 : ((Rows.scaleChainsRow.stops == []))=true:=by kernel_rfl
theorem chains_k7 : ((Rows.scaleChainsRow.knobs == []))=true:=by kernel_rfl
theorem chains_k9 : ((Rows.scaleChainsRow.inPlace == Tryz.prog.inPlace 3))=true:=by kernel_rfl
theorem chains_k10 : ((Rows.scaleChainsRow.unfollowed == Tryz.prog.unfollowed 3))=true:=by kernel_rfl
theorem chains_k11 : ((Rows.scaleChainsRow.recurses == Tryz.prog.recurses 3))=true:=by kernel_rfl
theorem chains_k12 : ((Rows.scaleChainsRow.named == Tryz.prog.varsNamed 3))=true:=by kernel_rfl
theorem chains_k13 : ((Rows.scaleChainsRow.maps == (Tryz.f3.params.toList++Rows.scaleChainsSpec.plain.varTypes Tryz.prog).any (Tryz.prog.mapsRec ·)))=true:=by kernel_rfl
theorem chains_k14 : ((Rows.scaleChainsRow.ifaces == (Tryz.f3.params.toList++Rows.scaleChainsSpec.plain.varTypes Tryz.prog).any (Tryz.prog.ifacesRec ·)))=true:=by kernel_rfl
theorem chains_k15 : ((Rows.scaleChainsRow.mapsOut == Tryz.prog.mapsAmong Tryz.f3.resultTypes.toList))=true:=by kernel_rfl
theorem chains_k16 : ((Rows.scaleChainsRow.loops == (Tryz.f3.params.toList++Rows.scaleChainsSpec.plain.varTypes Tryz.prog).any (Tryz.prog.loopsFrom ·)))=true:=by kernel_rfl
theorem chains_k17 : ((Rows.scaleChainsRow.wideKeys == (Tryz.f3.params.toList++Rows.scaleChainsSpec.plain.varTypes Tryz.prog++Tryz.f3.resultTypes.toList).any (Tryz.prog.wideKeysFrom ·)))=true:=by kernel_rfl
theorem chains_k18 : (Rows.scaleChainsSpec.vars.all (Tryz.prog.varReadable ·))=true:=by kernel_rfl
theorem chains_k19 : (Tryz.f3.resultTypes.all (fun t=>Tryz.prog.readableRec t && decide (t<Tryz.prog.types.size)))=true:=by kernel_rfl
theorem chains_k20 : ((Rows.scaleChainsRow.ifacesOut == Tryz.f3.resultTypes.toList.any (Tryz.prog.ifacesRec ·)))=true:=by kernel_rfl
theorem chains_k21 : ((Rows.scaleChainsRow.loopsOut == Tryz.f3.resultTypes.toList.any (Tryz.prog.loopsFrom ·)))=true:=by kernel_rfl
theorem chains_k23 : (Rows.scaleChainsRow.shortTexts.isNone)=true:=by kernel_rfl
theorem chains_k28 : ((Rows.scaleChainsRow.kinds == (if Rows.scaleChainsRow.domain.isEmpty then [] else Tryz.f3.params.toList.map fun t=>match Tryz.prog.underlying t with | some (.int k)=>some k | _=>none)))=true:=by kernel_rfl
theorem chains_k29 : ((Rows.scaleChainsRow.pinned == Rows.scaleChainsRow.pinnedBy))=true:=by kernel_rfl
theorem chains_k30 : ((Rows.scaleChainsRow.veiled == (Tryz.f3.params.toList++Rows.scaleChainsSpec.plain.varTypes Tryz.prog++Tryz.f3.resultTypes.toList).any (Tryz.prog.veiledRec ·)))=true:=by kernel_rfl
theorem chains_k31 : (Rows.scaleChainsRow.veiledFits Tryz.prog Tryz.f3.params.toList (Tryz.f3.params.toList++Rows.scaleChainsSpec.plain.varTypes Tryz.prog++Tryz.f3.resultTypes.toList))=true:=by kernel_rfl
theorem chains_closed : joinedFacts Tryz.prog 3 Tryz.f3 Rows.scaleChainsSpec Rows.scaleChainsRow=true:=(and_t (and_t (and_t (and_t (and_t (and_t (and_t (and_t (and_t (and_t (and_t (and_t (and_t (and_t (and_t (and_t (and_t (and_t (and_t (and_t (and_t (and_t (and_t (and_t (and_t (and_t (and_t (and_t (and_t (and_t (and_t chains_k0 zqA) fct_maps) chains_k3) chains_k4) chains_k5) fct_stops) chains_k7) fct_knobs) chains_k9) chains_k10) chains_k11) chains_k12) chains_k13) chains_k14) chains_k15) chains_k16) chains_k17) chains_k18) chains_k19) chains_k20) chains_k21) fct_keys) chains_k23) fct_heard) fct_enter) fct_lifts) fct_make) chains_k28) chains_k29) chains_k30) chains_k31)
theorem chains_inst : Tryz.f3.isInstance Tryz.prog Rows.scaleChainsRow.origin Rows.scaleChainsRow.targs:=of_decide_eq_true (by kernel_rfl)
theorem chains_wrap : Tryz.f3.isWrapper Tryz.prog Rows.scaleChainsRow.wrapper Rows.scaleChainsRow.mainSum:=by unfold Func.isWrapper;first | (rw [if_pos (by decide +kernel)];kernel_rfl) | (rw [if_neg (by decide +kernel)];exact ⟨rfl,rfl⟩)
theorem chains_named : Tryz.prog.funcNamed Rows.scaleChainsRow.func=some 3:=by kernel_rfl
theorem chains_holds : Rows.ScaleChainsSaid :=
 OpenClaim.holds_of_wide 3 Tryz.f3 rfl rfl rfl rfl rfl rfl rfl ⟨rfl,rfl,rfl,rfl,rfl⟩ rfl rfl rfl rfl rfl chains_named Tryz.func3 chains_closed chains_inst chains_wrap
  (fun os started H enc _=>chains_lifted os started H enc)
theorem chains_card : Rows.ScaleChainsCardSaid :=
 Claim7.holds_tied_plain_at .later [] [.data, .data, .data, .sentinel, .sentinel] true (true, "1e363e7b157264df4b0edf348822b357b2f03e627c4ce43a2a74209a5cb5e393") true
  chains_holds (fun _ h=>by cases h) (by as_aux_lemma=>kernel_rfl) (fun _ h=>by cases h) scaleChains_row_tie rfl ⟨rfl,rfl⟩ (by as_aux_lemma=>kernel_rfl) rfl
  (fun f fn hf hfn=>by
   obtain rfl : f = 3 := Option.some.inj ((show Tryz.prog.funcNamed "schisma/schismalaw31.ScaleChains" = some 3 by kernel_rfl).symm.trans hf) |>.symm
   obtain rfl:fn=Tryz.f3:=(Option.some.inj (Tryz.func3.symm.trans hfn)).symm;exact ⟨by kernel_rfl,fun j t ht=>by
    rw [Tryz.params3] at ht;have hm:t∈[26,3,3]:=(by simpa using Array.mem_of_getElem? ht);have hall:([26,3,3].all fun u=>!Tryz.prog.wantsStandIn u)=true:=(by kernel_rfl);exact (show Tryz.prog.wantsStandIn t=false by simpa using List.all_eq_true.1 hall t hm)⟩)
  (by as_aux_lemma=>kernel_rfl)
#print axioms chains_card
end Go.Proofs.YtoehmpbipbbffaaGreatDoor
