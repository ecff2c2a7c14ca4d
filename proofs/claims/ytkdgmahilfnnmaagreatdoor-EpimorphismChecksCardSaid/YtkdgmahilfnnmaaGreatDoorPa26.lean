/- EpimorphismChecks: for any set of at most 8 primes and at most 9 notes (or 60 to 62) of at most 8 exponents, Check returns OK or the first error, and so do the other functions with a set. (The walk, lifted.) What the rows ask of the program as a whole (once a seat). EpimorphismChecks: the row holds. EpimorphismChecks: for any set of at most 8 primes and at most 9 notes (or 60 to 62) of at most 8 exponents, Check returns OK or the first error, and so do the other functions with a set. The tied card, without conditions. -/
import Derived.Test.YtkdgmahilfnnmaaGreatDoorPa25
set_option maxRecDepth 100000
namespace Go.Proofs.YtkdgmahilfnnmaaGreatDoor
open Go.ChangeShapes Go.WideShapes Go.ChangeAt Go.WideMaps Go.WideElems Go.RowKit
theorem epchecks_lifted (os:Os)(started:os.Started)(H:Type)(enc:TypeId × Value→H) :
  ReturnsInHanded {} Tryz.checked os 4 .any (fun w args=>(Rows.epimorphismChecksSpec.pre enc Tryz.prog Tryz.f4 [] false w args∧laidMetH Tryz.prog Rows.epimorphismChecksRow.laid w)∧sizedMet enc Tryz.prog Tryz.f4 (OpenSpec.ofChange Rows.epimorphismChecksSpec) false w args)
   (Rows.epimorphismChecksSpec.post enc Tryz.prog Tryz.f4 false true false false):=by
 refine returnsInHanded_of_change_and (C:=Tryz.checked) (X:=fun w _=>laidMetH Tryz.prog Rows.epimorphismChecksRow.laid w) (fun _ _ _ hh h=>h.of_heap hh) zot started (by kernel_rfl) Tryz.func4
  (ChangeSpec.witness_shaped (enc:=enc) (C:=Tryz.checked) (os:=os) (X:=fun w _=>laidMetH Tryz.prog Rows.epimorphismChecksRow.laid w) false (World.laidAll Tryz.prog os zoy) #[.agg #[.slice none 0 0,.slice none 0 0]] 8 (World.laidAll_os _ _ _)
   (zoz os _) (by kernel_rfl) (by kernel_rfl) (by kernel_rfl)
   (zo0 os _)) ?_
 intro W base args ds gs before hval0 hW _ _ hL _;have hval:∀ (j:Nat) t v,Tryz.f4.params[j]?=some t→args[j]?=some v→Value.okWide Tryz.prog W .any base t v:=hval0;have hW':=hW;obtain ⟨p,q,hA0,hV,rfl,_,_⟩:=hW;have hA:DataW.TrodAll enc Tryz.prog W 0 (fun _=>true) true Tryz.f4.params.toList args.toList ds p:=hA0;rw [Tryz.params4] at hA hval;obtain ⟨v0,d0,rfl,rfl,h0⟩:=trodAll_one hA;obtain ⟨rfl,rfl⟩:=trodVars_none hV;have hE:=zox hL;obtain ⟨vp,vl,ps,l,rfl,hp1,hl1⟩:=zop (hval 0 32 v0 rfl rfl) h0;refine (zol vp vl ps l W hE hp1 hl1 (zoq hp1) (zor hl1)).mono fun e' W' ⟨he',hb⟩=>?_;subst he';exact ⟨_,rfl,zo3 rfl (by rw [Tryz.params4];decide +kernel) rfl rfl hW' hb⟩
theorem and_t {a b:Bool}(ha:a=true)(hb:b=true):(a && b)=true:=by rw [ha,hb];rfl
theorem fct_maps : mapsRowed Tryz.prog=true:=by kernel_rfl
theorem fct_stops : (Tryz.prog.stops == [])=true:=by kernel_rfl
theorem fct_knobs : (Tryz.prog.stopKnobs == [])=true:=by kernel_rfl
theorem fct_keys : (Rows.epimorphismNumbersRow.plainKeys == Tryz.prog.plainKeys)=true:=by kernel_rfl
theorem fct_heard : Tryz.prog.stopsHeard=true:=by kernel_rfl
theorem fct_enter : Tryz.prog.mayEnter=true:=by kernel_rfl
theorem fct_lifts : (Rows.epimorphismNumbersRow.lifted == Tryz.prog.liftsFinal)=true:=by kernel_rfl
theorem fct_make : (Tryz.prog.make == some Rows.epimorphismNumbersRow.make)=true:=by kernel_rfl
theorem epchecks_k0 : (Rows.epimorphismChecksRow.wf (OpenSpec.ofChange Rows.epimorphismChecksSpec))=true:=by kernel_rfl
theorem epchecks_k3 : (Tryz.f4.params.all (Tryz.prog.readableRec ·))=true:=by kernel_rfl
theorem epchecks_k4 : (namedTie Tryz.prog Rows.epimorphismChecksRow.named Rows.epimorphismChecksSpec.vars)=true:=by kernel_rfl
theorem epchecks_k5 : ((Rows.epimorphismChecksRow.stops == []))=true:=by kernel_rfl
theorem epchecks_k7 : ((Rows.epimorphismChecksRow.knobs == []))=true:=by kernel_rfl
theorem epchecks_k9 : ((Rows.epimorphismChecksRow.inPlace == Tryz.prog.inPlace 4))=true:=by kernel_rfl
theorem epchecks_k10 : ((Rows.epimorphismChecksRow.unfollowed == Tryz.prog.unfollowed 4))=true:=by kernel_rfl
theorem epchecks_k11 : ((Rows.epimorphismChecksRow.recurses == Tryz.prog.recurses 4))=true:=by kernel_rfl
theorem epchecks_k12 : ((Rows.epimorphismChecksRow.named == Tryz.prog.varsNamed 4))=true:=by kernel_rfl
theorem epchecks_k13 : ((Rows.epimorphismChecksRow.maps == (Tryz.f4.params.toList++Rows.epimorphismChecksSpec.plain.varTypes Tryz.prog).any (Tryz.prog.mapsRec ·)))=true:=by kernel_rfl
theorem epchecks_k14 : ((Rows.epimorphismChecksRow.ifaces == (Tryz.f4.params.toList++Rows.epimorphismChecksSpec.plain.varTypes Tryz.prog).any (Tryz.prog.ifacesRec ·)))=true:=by kernel_rfl
theorem epchecks_k15 : ((Rows.epimorphismChecksRow.mapsOut == Tryz.prog.mapsAmong Tryz.f4.resultTypes.toList))=true:=by kernel_rfl
theorem epchecks_k16 : ((Rows.epimorphismChecksRow.loops == (Tryz.f4.params.toList++Rows.epimorphismChecksSpec.plain.varTypes Tryz.prog).any (Tryz.prog.loopsFrom ·)))=true:=by kernel_rfl
theorem epchecks_k17 : ((Rows.epimorphismChecksRow.wideKeys == (Tryz.f4.params.toList++Rows.epimorphismChecksSpec.plain.varTypes Tryz.prog++Tryz.f4.resultTypes.toList).any (Tryz.prog.wideKeysFrom ·)))=true:=by kernel_rfl
theorem epchecks_k18 : (Rows.epimorphismChecksSpec.vars.all (Tryz.prog.varReadable ·))=true:=by kernel_rfl
theorem epchecks_k19 : (Tryz.f4.resultTypes.all (fun t=>Tryz.prog.readableRec t && decide (t<Tryz.prog.types.size)))=true:=by kernel_rfl
theorem epchecks_k20 : ((Rows.epimorphismChecksRow.ifacesOut == Tryz.f4.resultTypes.toList.any (Tryz.prog.ifacesRec ·)))=true:=by kernel_rfl
theorem epchecks_k21 : ((Rows.epimorphismChecksRow.loopsOut == Tryz.f4.resultTypes.toList.any (Tryz.prog.loopsFrom ·)))=true:=by kernel_rfl
theorem epchecks_k23 : (Rows.epimorphismChecksRow.shortTexts.isNone)=true:=by kernel_rfl
theorem epchecks_k28 : ((Rows.epimorphismChecksRow.kinds == (if Rows.epimorphismChecksRow.domain.isEmpty then [] else Tryz.f4.params.toList.map fun t=>match Tryz.prog.underlying t with | some (.int k)=>some k | _=>none)))=true:=by kernel_rfl
theorem epchecks_k29 : ((Rows.epimorphismChecksRow.pinned == Rows.epimorphismChecksRow.pinnedBy))=true:=by kernel_rfl
theorem epchecks_k30 : ((Rows.epimorphismChecksRow.veiled == (Tryz.f4.params.toList++Rows.epimorphismChecksSpec.plain.varTypes Tryz.prog++Tryz.f4.resultTypes.toList).any (Tryz.prog.veiledRec ·)))=true:=by kernel_rfl
theorem epchecks_k31 : (Rows.epimorphismChecksRow.veiledFits Tryz.prog Tryz.f4.params.toList (Tryz.f4.params.toList++Rows.epimorphismChecksSpec.plain.varTypes Tryz.prog++Tryz.f4.resultTypes.toList))=true:=by kernel_rfl
theorem epchecks_closed : joinedFacts Tryz.prog 4 Tryz.f4 Rows.epimorphismChecksSpec Rows.epimorphismChecksRow=true:=(and_t (and_t (and_t (and_t (and_t (and_t (and_t (and_t (and_t (and_t (and_t (and_t (and_t (and_t (and_t (and_t (and_t (and_t (and_t (and_t (and_t (and_t (and_t (and_t (and_t (and_t (and_t (and_t (and_t (and_t (and_t epchecks_k0 zo1) fct_maps) epchecks_k3) epchecks_k4) epchecks_k5) fct_stops) epchecks_k7) fct_knobs) epchecks_k9) epchecks_k10) epchecks_k11) epchecks_k12) epchecks_k13) epchecks_k14) epchecks_k15) epchecks_k16) epchecks_k17) epchecks_k18) epchecks_k19) epchecks_k20) epchecks_k21) fct_keys) epchecks_k23) fct_heard) fct_enter) fct_lifts) fct_make) epchecks_k28) epchecks_k29) epchecks_k30) epchecks_k31)
theorem epchecks_inst : Tryz.f4.isInstance Tryz.prog Rows.epimorphismChecksRow.origin Rows.epimorphismChecksRow.targs:=of_decide_eq_true (by kernel_rfl)
theorem epchecks_wrap : Tryz.f4.isWrapper Tryz.prog Rows.epimorphismChecksRow.wrapper Rows.epimorphismChecksRow.mainSum:=by unfold Func.isWrapper;first | (rw [if_pos (by decide +kernel)];kernel_rfl) | (rw [if_neg (by decide +kernel)];exact ⟨rfl,rfl⟩)
theorem epchecks_named : Tryz.prog.funcNamed Rows.epimorphismChecksRow.func=some 4:=by kernel_rfl
theorem epchecks_holds : Rows.EpimorphismChecksSaid :=
 OpenClaim.holds_of_wide 4 Tryz.f4 rfl rfl rfl rfl rfl rfl rfl ⟨rfl,rfl,rfl,rfl,rfl⟩ rfl rfl rfl rfl rfl epchecks_named Tryz.func4 epchecks_closed epchecks_inst epchecks_wrap
  (fun os started H enc _=>epchecks_lifted os started H enc)
theorem epchecks_card : Rows.EpimorphismChecksCardSaid :=
 Claim7.holds_tied_plain_at .later [] [.data, .data, .data, .sentinel, .sentinel] true (true, "0992f62b085ac4041780323991ec609653000c83810ea732ffed895aa5216808") true
  epchecks_holds (fun _ h=>by cases h) (by as_aux_lemma=>kernel_rfl) (fun _ h=>by cases h) epimorphismChecks_row_tie rfl ⟨rfl,rfl⟩ (by as_aux_lemma=>kernel_rfl) rfl
  (fun f fn hf hfn=>by
   obtain rfl : f = 4 := Option.some.inj ((show Tryz.prog.funcNamed "schisma/schismalaw37.EpimorphismChecks" = some 4 by kernel_rfl).symm.trans hf) |>.symm
   obtain rfl:fn=Tryz.f4:=(Option.some.inj (Tryz.func4.symm.trans hfn)).symm;exact ⟨by kernel_rfl,fun j t ht=>by
    rw [Tryz.params4] at ht;have hm:t∈[32]:=(by simpa using Array.mem_of_getElem? ht);have hall:([32].all fun u=>!Tryz.prog.wantsStandIn u)=true:=(by kernel_rfl);exact (show Tryz.prog.wantsStandIn t=false by simpa using List.all_eq_true.1 hall t hm)⟩)
  (by as_aux_lemma=>kernel_rfl)
#print axioms epchecks_card
end Go.Proofs.YtkdgmahilfnnmaaGreatDoor
