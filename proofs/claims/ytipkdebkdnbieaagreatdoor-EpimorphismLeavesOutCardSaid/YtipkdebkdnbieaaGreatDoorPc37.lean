/- EpimorphismLeavesOut: for any planned set that a val numbers, with two notes at least, the val does not number the set without any of its notes but the period. (The walk, lifted.) What the rows ask of the program as a whole (once a seat). EpimorphismLeavesOut: the row holds. EpimorphismLeavesOut: for any planned set that a val numbers, with two notes at least, the val does not number the set without any of its notes but the period. The tied card, without conditions. -/
import Derived.Test.YtipkdebkdnbieaaGreatDoorPc35
import Derived.Test.YtipkdebkdnbieaaGreatDoorPc00
import Derived.ChangeSlices
import Derived.WideShapes
import Derived.ChangeShapes
import Derived.DataReads
import Derived.Test.YtipkdebkdnbieaaGreatDoorPc12
import Derived.ChangeSame
import Derived.Deep.Matrix
import Derived.Test.YtipkdebkdnbieaaGreatDoorPc36
set_option maxRecDepth 100000
namespace Go.Proofs.YtipkdebkdnbieaaGreatDoor
open Go.ChangeShapes Go.WideShapes Go.ChangeAt Go.WideMaps Go.WideElems Go.RowKit
theorem epleaves_lifted (os:Os)(started:os.Started)(H:Type)(enc:TypeId × Value→H) :
  ReturnsInHanded {} Tryz.checked os 3 .any (fun w args=>(Rows.epimorphismLeavesOutSpec.pre enc Tryz.prog Tryz.f3 [] false w args∧laidMetH Tryz.prog Rows.epimorphismLeavesOutRow.laid w)∧sizedMet enc Tryz.prog Tryz.f3 (OpenSpec.ofChange Rows.epimorphismLeavesOutSpec) false w args)
   (Rows.epimorphismLeavesOutSpec.post enc Tryz.prog Tryz.f3 false true false false):=by
 refine returnsInHanded_of_change_and (C:=Tryz.checked) (X:=fun w _=>laidMetH Tryz.prog Rows.epimorphismLeavesOutRow.laid w) (fun _ _ _ hh h=>h.of_heap hh) zsp started (by kernel_rfl) Tryz.func3
  (ChangeSpec.witness_shaped (enc:=enc) (C:=Tryz.checked) (os:=os) (X:=fun w _=>laidMetH Tryz.prog Rows.epimorphismLeavesOutRow.laid w) false (World.laidAll Tryz.prog os zsu) #[.agg #[.int .u8 0,.slice none 0 0,.bool false,.int .u8 0],.int .u8 0] 8 (World.laidAll_os _ _ _)
   (zsv os _) (by kernel_rfl) (by kernel_rfl) (by kernel_rfl)
   (zsw os _)) ?_
 intro W base args ds gs before hval0 hW _ _ hL _;have hval:∀ (j:Nat) t v,Tryz.f3.params[j]?=some t→args[j]?=some v→Value.okWide Tryz.prog W .any base t v:=hval0;have hW':=hW;obtain ⟨p,q,hA0,hV,rfl,_,_⟩:=hW;have hA:DataW.TrodAll enc Tryz.prog W 0 (fun _=>true) true Tryz.f3.params.toList args.toList ds p:=hA0;rw [Tryz.params3] at hA hval;obtain ⟨v0,v1,d0,d1,p0,p1,rfl,rfl,rfl,h0,h1⟩:=trodAll_two hA;obtain ⟨rfl,rfl⟩:=trodVars_none hV;have hE:=zst hL;obtain ⟨n,o,cm,M,am,Q,rfl,hn,ho,hQ,hb8⟩:=zsn (hval 0 24 v0 rfl rfl) h0;obtain ⟨at0,rfl,rfl,rfl,wa⟩:=open_int Tryz.underlying5 (hval 1 5 v1 rfl rfl) h1;obtain ⟨a0,rfl,ha⟩:=zsj wa;refine (zsi n o cm a0 M am Q W hE hn ho ha hQ hb8).mono fun e' W' ⟨he',hb⟩=>?_;subst he';exact ⟨_,rfl,zsz rfl (by rw [Tryz.params3];decide +kernel) rfl rfl hW' hb⟩
theorem and_t {a b:Bool}(ha:a=true)(hb:b=true):(a && b)=true:=by rw [ha,hb];rfl
theorem fct_maps : mapsRowed Tryz.prog=true:=by kernel_rfl
theorem fct_stops : (Tryz.prog.stops == [])=true:=by kernel_rfl
theorem fct_knobs : (Tryz.prog.stopKnobs == [])=true:=by kernel_rfl
theorem fct_keys : (Rows.epimorphismLeavesOutRow.plainKeys == Tryz.prog.plainKeys)=true:=by kernel_rfl
theorem fct_heard : Tryz.prog.stopsHeard=true:=by kernel_rfl
theorem fct_enter : Tryz.prog.mayEnter=true:=by kernel_rfl
theorem fct_lifts : (Rows.epimorphismLeavesOutRow.lifted == Tryz.prog.liftsFinal)=true:=by kernel_rfl
theorem fct_make : (Tryz.prog.make == some Rows.epimorphismLeavesOutRow.make)=true:=by kernel_rfl
theorem epleaves_k0 : (Rows.epimorphismLeavesOutRow.wf (OpenSpec.ofChange Rows.epimorphismLeavesOutSpec))=true:=by kernel_rfl
theorem epleaves_k3 : (Tryz.f3.params.all (Tryz.prog.readableRec ·))=true:=by kernel_rfl
theorem epleaves_k4 : (namedTie Tryz.prog Rows.epimorphismLeavesOutRow.named Rows.epimorphismLeavesOutSpec.vars)=true:=by kernel_rfl
theorem epleaves_k5 : ((Rows.epimorphismLeavesOutRow.stops == []))=true:=by kernel_rfl
theorem epleaves_k7 : ((Rows.epimorphismLeavesOutRow.knobs == []))=true:=by kernel_rfl
theorem epleaves_k9 : ((Rows.epimorphismLeavesOutRow.inPlace == Tryz.prog.inPlace 3))=true:=by kernel_rfl
theorem epleaves_k10 : ((Rows.epimorphismLeavesOutRow.unfollowed == Tryz.prog.unfollowed 3))=true:=by kernel_rfl
theorem epleaves_k11 : ((Rows.epimorphismLeavesOutRow.recurses == Tryz.prog.recurses 3))=true:=by kernel_rfl
theorem epleaves_k12 : ((Rows.epimorphismLeavesOutRow.named == Tryz.prog.varsNamed 3))=true:=by kernel_rfl
theorem epleaves_k13 : ((Rows.epimorphismLeavesOutRow.maps == (Tryz.f3.params.toList++Rows.epimorphismLeavesOutSpec.plain.varTypes Tryz.prog).any (Tryz.prog.mapsRec ·)))=true:=by kernel_rfl
theorem epleaves_k14 : ((Rows.epimorphismLeavesOutRow.ifaces == (Tryz.f3.params.toList++Rows.epimorphismLeavesOutSpec.plain.varTypes Tryz.prog).any (Tryz.prog.ifacesRec ·)))=true:=by kernel_rfl
theorem epleaves_k15 : ((Rows.epimorphismLeavesOutRow.mapsOut == Tryz.prog.mapsAmong Tryz.f3.resultTypes.toList))=true:=by kernel_rfl
theorem epleaves_k16 : ((Rows.epimorphismLeavesOutRow.loops == (Tryz.f3.params.toList++Rows.epimorphismLeavesOutSpec.plain.varTypes Tryz.prog).any (Tryz.prog.loopsFrom ·)))=true:=by kernel_rfl
theorem epleaves_k17 : ((Rows.epimorphismLeavesOutRow.wideKeys == (Tryz.f3.params.toList++Rows.epimorphismLeavesOutSpec.plain.varTypes Tryz.prog++Tryz.f3.resultTypes.toList).any (Tryz.prog.wideKeysFrom ·)))=true:=by kernel_rfl
theorem epleaves_k18 : (Rows.epimorphismLeavesOutSpec.vars.all (Tryz.prog.varReadable ·))=true:=by kernel_rfl
theorem epleaves_k19 : (Tryz.f3.resultTypes.all (fun t=>Tryz.prog.readableRec t && decide (t<Tryz.prog.types.size)))=true:=by kernel_rfl
theorem epleaves_k20 : ((Rows.epimorphismLeavesOutRow.ifacesOut == Tryz.f3.resultTypes.toList.any (Tryz.prog.ifacesRec ·)))=true:=by kernel_rfl
theorem epleaves_k21 : ((Rows.epimorphismLeavesOutRow.loopsOut == Tryz.f3.resultTypes.toList.any (Tryz.prog.loopsFrom ·)))=true:=by kernel_rfl
theorem epleaves_k23 : (Rows.epimorphismLeavesOutRow.shortTexts.isNone)=true:=by kernel_rfl
theorem epleaves_k28 : ((Rows.epimorphismLeavesOutRow.kinds == (if Rows.epimorphismLeavesOutRow.domain.isEmpty then [] else Tryz.f3.params.toList.map fun t=>match Tryz.prog.underlying t with | some (.int k)=>some k | _=>none)))=true:=by kernel_rfl
theorem epleaves_k29 : ((Rows.epimorphismLeavesOutRow.pinned == Rows.epimorphismLeavesOutRow.pinnedBy))=true:=by kernel_rfl
theorem epleaves_k30 : ((Rows.epimorphismLeavesOutRow.veiled == (Tryz.f3.params.toList++Rows.epimorphismLeavesOutSpec.plain.varTypes Tryz.prog++Tryz.f3.resultTypes.toList).any (Tryz.prog.veiledRec ·)))=true:=by kernel_rfl
theorem epleaves_k31 : (Rows.epimorphismLeavesOutRow.veiledFits Tryz.prog Tryz.f3.params.toList (Tryz.f3.params.toList++Rows.epimorphismLeavesOutSpec.plain.varTypes Tryz.prog++Tryz.f3.resultTypes.toList))=true:=by kernel_rfl
theorem epleaves_closed : joinedFacts Tryz.prog 3 Tryz.f3 Rows.epimorphismLeavesOutSpec Rows.epimorphismLeavesOutRow=true:=(and_t (and_t (and_t (and_t (and_t (and_t (and_t (and_t (and_t (and_t (and_t (and_t (and_t (and_t (and_t (and_t (and_t (and_t (and_t (and_t (and_t (and_t (and_t (and_t (and_t (and_t (and_t (and_t (and_t (and_t (and_t epleaves_k0 zsx) fct_maps) epleaves_k3) epleaves_k4) epleaves_k5) fct_stops) epleaves_k7) fct_knobs) epleaves_k9) epleaves_k10) epleaves_k11) epleaves_k12) epleaves_k13) epleaves_k14) epleaves_k15) epleaves_k16) epleaves_k17) epleaves_k18) epleaves_k19) epleaves_k20) epleaves_k21) fct_keys) epleaves_k23) fct_heard) fct_enter) fct_lifts) fct_make) epleaves_k28) epleaves_k29) epleaves_k30) epleaves_k31)
theorem epleaves_inst : Tryz.f3.isInstance Tryz.prog Rows.epimorphismLeavesOutRow.origin Rows.epimorphismLeavesOutRow.targs:=of_decide_eq_true (by kernel_rfl)
theorem epleaves_wrap : Tryz.f3.isWrapper Tryz.prog Rows.epimorphismLeavesOutRow.wrapper Rows.epimorphismLeavesOutRow.mainSum:=by unfold Func.isWrapper;first | (rw [if_pos (by decide +kernel)];kernel_rfl) | (rw [if_neg (by decide +kernel)];exact ⟨rfl,rfl⟩)
theorem epleaves_named : Tryz.prog.funcNamed Rows.epimorphismLeavesOutRow.func=some 3:=by kernel_rfl
theorem epleaves_holds : Rows.EpimorphismLeavesOutSaid :=
 OpenClaim.holds_of_wide 3 Tryz.f3 rfl rfl rfl rfl rfl rfl rfl ⟨rfl,rfl,rfl,rfl,rfl⟩ rfl rfl rfl rfl rfl epleaves_named Tryz.func3 epleaves_closed epleaves_inst epleaves_wrap
  (fun os started H enc _=>epleaves_lifted os started H enc)
theorem epleaves_card : Rows.EpimorphismLeavesOutCardSaid :=
 Claim7.holds_tied_plain_at .later [] [.data, .data, .data, .sentinel, .sentinel] true (true, "e06008c54a02090a161cea70120af34e49b9a3f0b38af524bb26aa78a929c797") true
  epleaves_holds (fun _ h=>by cases h) (by as_aux_lemma=>kernel_rfl) (fun _ h=>by cases h) epimorphismLeavesOut_row_tie rfl ⟨rfl,rfl⟩ (by as_aux_lemma=>kernel_rfl) rfl
  (fun f fn hf hfn=>by
   obtain rfl : f = 3 := Option.some.inj ((show Tryz.prog.funcNamed "schisma/schismalaw37.EpimorphismLeavesOut" = some 3 by kernel_rfl).symm.trans hf) |>.symm
   obtain rfl:fn=Tryz.f3:=(Option.some.inj (Tryz.func3.symm.trans hfn)).symm;exact ⟨by kernel_rfl,fun j t ht=>by
    rw [Tryz.params3] at ht;have hm:t∈[24,5]:=(by simpa using Array.mem_of_getElem? ht);have hall:([24,5].all fun u=>!Tryz.prog.wantsStandIn u)=true:=(by kernel_rfl);exact (show Tryz.prog.wantsStandIn t=false by simpa using List.all_eq_true.1 hall t hm)⟩)
  (by as_aux_lemma=>kernel_rfl)
#print axioms epleaves_card
end Go.Proofs.YtipkdebkdnbieaaGreatDoor
