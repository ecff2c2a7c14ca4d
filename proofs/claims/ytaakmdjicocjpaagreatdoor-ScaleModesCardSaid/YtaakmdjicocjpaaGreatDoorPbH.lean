/- Walk: scale.note of a right scale. scale.note over a plain right scale. Walk: scale.Note of a right scale. -/
import Derived.Test.YtaakmdjicocjpaaGreatDoorPaS
import Derived.Deep.RegionHeld3
import Derived.Test.YtaakmdjicocjpaaGreatDoorPaT
import Derived.Test.YtaakmdjicocjpaaGreatDoorPaW
namespace Go.Proofs.YtaakmdjicocjpaaGreatDoor
open Go.RowKit Go.Lib

attribute [local go_sem] Oper.semAt_some

/-- What region 5 of note leaves. -/
def NoteC (w w1 : World) (n : Nat) (b : List Rat) (v9 v10 : Value) (wx : World) : Prop := ∃ g, v9 = .slice (some ⟨g, 0, none⟩) n n ∧ v10 = .int .i64 0 ∧ OwnQ wx w.heap.size (.slice (some ⟨g, 0, none⟩) n n) b ∧ Ext w1 wx

set_option maxRecDepth 100000 in
set_option maxHeartbeats 2000000 in
theorem note_c (v : Value) (p : List Int) (rs : List Qw) (n : Nat) (k : Int) (r : Qw) (w : World) (he : Env w) (hv : ScV w v p rs) (h : Right p rs) (hn : rs.length = n + 1) (hr : rs[n]? = some r) (hk0 : -100000000 ≤ k) (hk1 : k ≤ 100000000)
    (hq : Ft 400 ((k / ((n : Int) + 1) : Int) : Rat)) (hf1 : ∀ q ∈ mulZ r.x ((k / ((n : Int) + 1) : Int) : Rat), Ft 30 q) (hf2 : ∀ q ∈ noteQ rs n k, Ft 30 q) :
    Calls Tryz.prog 88 #[v, .int .i64 k] w fun e w' => ∃ g, e = .returned (.tuple #[.slice (some ⟨g, 0, none⟩) p.length p.length, .int .i64 0]) ∧ OwnQ w' w.heap.size (.slice (some ⟨g, 0, none⟩) p.length p.length) (noteQ rs n k) ∧ Ext w w' := by
  have h60 := h.most
  have hN : (0 : Int) < (n : Int) + 1 := by omega
  have htf := trunc_floor (k := k) hN
  have h3 := Int.emod_nonneg k (show (n : Int) + 1 ≠ 0 by omega)
  have h4 := Int.emod_lt_of_pos k hN
  have hqb := div_bd (a := k) (b := (n : Int) + 1) (m := 100000000) hN hk0 hk1 (by omega)
  have hpe := fun W (hE : Ext w W) => period_c v p rs n r W (hv.ext hE) hn (by omega) hr
  have hin := fun W (hE : Ext w W) => integer_c (k / ((n : Int) + 1)) W (he.ext hE) (by omega) (by omega)
  obtain ⟨vp, vn, rfl, hp, hs, hm⟩ := hv
  have hmem := List.mem_of_getElem? hr
  have hmr := hm r hmem
  have hsc := fun W (hE : Ext w W) => sScale_c vp r.u p r.x _ W (he.ext hE) (hE.sl hp) (hE.rd hmr) h.pe (h.len r hmem) (h.ft r hmem) hq hf1
  obtain ⟨ap, cp, rfl, _, _, _⟩ := hp.parts
  obtain ⟨an, cn, rfl, _, _, hc⟩ := hs.parts
  rw [i64s_length] at hpe hsc ⊢
  rw [qwc_length, hn] at hpe ⊢
  obtain ⟨b, off, rfl, hc0⟩ := hc n r.u (by unfold qwc; rw [List.getElem?_map, hr]; rfl)
  have hE0 : Ext w (w.alloc (.cells #[.slice ap p.length cp, .slice (some ⟨b, off, none⟩) (n + 1) cn] 32)) := (Ext.refl w).alloc _
  have hzero : k % ((n : Int) + 1) = 0 → noteQ rs n k = mulZ r.x ((k / ((n : Int) + 1) : Int) : Rat) := fun e => by unfold noteQ; rw [hr]; simp only [e, if_true]; rfl
  have hadd : ¬ k % ((n : Int) + 1) = 0 → ∃ (j : Nat) (s : Qw), (j : Int) = k % ((n : Int) + 1) - 1 ∧ (∃ a c, s.u = .slice a p.length c) ∧ w.cell? ⟨b, off + j, none⟩ = some s.u ∧
      ∀ W vb, Ext w W → Rd W vb (mulZ r.x ((k / ((n : Int) + 1) : Int) : Rat)) → Calls Tryz.prog 129 #[.slice ap p.length cp, vb, s.u] W fun e w' => ∃ g, e = .returned (.tuple #[.slice (some ⟨g, 0, none⟩) p.length p.length, .int .i64 0]) ∧ OwnQ w' W.heap.size (.slice (some ⟨g, 0, none⟩) p.length p.length) (noteQ rs n k) ∧ Ext W w' := fun e => by
    obtain ⟨j, hj⟩ : ∃ j : Nat, (j : Int) = k % ((n : Int) + 1) - 1 := ⟨(k % ((n : Int) + 1) - 1).toNat, by omega⟩
    obtain ⟨s, hs1⟩ : ∃ s, rs[j]? = some s := ⟨_, List.getElem?_eq_getElem (by omega)⟩
    have hsm := List.mem_of_getElem? hs1
    have hrs := hm s hsm
    obtain ⟨b2, off2, e2, hcs⟩ := hc j s.u (by unfold qwc; rw [List.getElem?_map, hs1]; rfl)
    cases e2
    have hnq : noteQ rs n k = addZ (mulZ r.x ((k / ((n : Int) + 1) : Int) : Rat)) s.x := by
      unfold noteQ
      rw [hr, if_neg e, show (k % ((n : Int) + 1)).toNat - 1 = j by omega, hs1]
      rfl
    refine ⟨j, s, hj, ?_, hcs, fun W vb hE hb => ?_⟩
    · obtain ⟨a, c, hu, _⟩ := hrs.parts
      rw [h.len s hsm] at hu
      exact ⟨a, c, hu⟩
    · have := sAdd_c (.slice ap (i64s p).length cp) vb s.u p _ s.x W (he.ext hE) (hE.sl hp) hb (hE.rd hrs) h.pe (by unfold mulZ; rw [List.length_map]; exact h.len r hmem) (h.len s hsm) hf1 (h.ft s hsm) (by rw [← hnq]; exact hf2)
      rw [i64s_length, ← hnq] at this
      exact this
  have hcast : ((n + 1 : Nat) : Int) = (n : Int) + 1 := by omega
  have hnz : ((n : Int) + 1) ≠ 0 := by omega
  clear hp hs hm he h hmr hmem hc hc0 hf1 hf2 hq
  have bx : (w.alloc (.cells #[.slice ap p.length cp, .slice (some ⟨b, off, none⟩) (n + 1) cn] 32)).heap[w.heap.size]? = some (.cells #[.slice ap p.length cp, .slice (some ⟨b, off, none⟩) (n + 1) cn] 32 (0, 0)) := World.alloc_heap_new w _
  have hbox : ∀ W, Ext (w.alloc (.cells #[.slice ap p.length cp, .slice (some ⟨b, off, none⟩) (n + 1) cn] 32)) W → W.cell? ⟨w.heap.size, 0, none⟩ = some (.slice ap p.length cp) ∧ W.cell? ⟨w.heap.size, 1, none⟩ = some (.slice (some ⟨b, off, none⟩) (n + 1) cn) := fun W hE => by
    have hb := hE.heap bx
    unfold World.cell?
    dsimp only
    rw [hb]
    exact ⟨rfl, rfl⟩
  clear bx
  have Hpe := Lib.hid hpe; have Hin := Lib.hid hin; have Hsc := Lib.hid hsc; have HE0 := Lib.hid hE0; have Htf := Lib.hid htf; have Hbox := Lib.hid hbox; have Hzero := Lib.hid hzero; have Hadd := Lib.hid hadd; clear hpe hin hsc hE0 htf hbox hzero hadd
  have hdec : k.tmod ((n : Int) + 1) < 0 ∨ ¬ k.tmod ((n : Int) + 1) < 0 := by omega
  rcases hdec with hs | hs
  case' inl => obtain ⟨e1, e2⟩ := Htf.out.1 hs
  case' inr => obtain ⟨e1, e2⟩ := Htf.out.2 hs
  all_goals
    go_enter Tryz.func88, Tryz.ntmps88
    go_wp2_with fail
    go_quiet (fail)
    go_wp2_with fail
    generalize hV : (w.alloc (.cells #[.slice ap p.length cp, .slice (some ⟨b, off, none⟩) (n + 1) cn] 32)).drewN nq = V at *
    have hEV : Ext (w.alloc (.cells #[.slice ap p.length cp, .slice (some ⟨b, off, none⟩) (n + 1) cn] 32)) V := by rw [← hV]; exact (Ext.refl _).drewN _
    obtain ⟨q0, q1⟩ := Hbox.out V hEV
    have HV := Lib.hid (HE0.out.trans hEV)
    have HEV0 := Lib.hid hEV
    clear hV hEV
    go_region_held3 (fun w' => Ext V w' ∧ w'.cell? ⟨w.heap.size, 0, none⟩ = some (.slice ap p.length cp) ∧ w'.cell? ⟨w.heap.size, 1, none⟩ = some (.slice (some ⟨b, off, none⟩) (n + 1) cn))
      (first | (with_reducible assumption) | exact ⟨(Ext.refl V).drew, q0, q1⟩)
      (first
        | (go_at_call 91; refine (Hpe.out _ (HV.out.trans (And.left (by assumption)))).mono ?_; rintro e9 VA ⟨rfl, hxa⟩; have hEA := ((Ext.refl V).drew).trans hxa; have hS2 : Ext V VA ∧ VA.cell? ⟨w.heap.size, 0, none⟩ = some (.slice ap p.length cp) ∧ VA.cell? ⟨w.heap.size, 1, none⟩ = some (.slice (some ⟨b, off, none⟩) (n + 1) cn) := ⟨hEA, hEA.cell q0, hEA.cell q1⟩; have HEA := Lib.hid hEA; clear hxa hEA)
        | (go_at_call 128; refine (Hin.out _ (HV.out.trans HEA.out)).mono ?_; rintro e9 VB ⟨rfl, hxa⟩; have hEB := HEA.out.trans hxa; have hS3 : Ext V VB ∧ VB.cell? ⟨w.heap.size, 0, none⟩ = some (.slice ap p.length cp) ∧ VB.cell? ⟨w.heap.size, 1, none⟩ = some (.slice (some ⟨b, off, none⟩) (n + 1) cn) := ⟨hEB, hEB.cell q0, hEB.cell q1⟩; have HEB := Lib.hid hEB; clear hxa hEB hS2)
        | (go_at_call 127; refine (Hsc.out _ (HV.out.trans HEB.out)).mono ?_; rintro e9 VC ⟨g, rfl, ho, hxa⟩; have hEC := HEB.out.trans hxa; have hS4 : Ext V VC ∧ VC.cell? ⟨w.heap.size, 0, none⟩ = some (.slice ap p.length cp) ∧ VC.cell? ⟨w.heap.size, 1, none⟩ = some (.slice (some ⟨b, off, none⟩) (n + 1) cn) := ⟨hEC, hEC.cell q0, hEC.cell q1⟩; have HEC := Lib.hid hEC; have HoC := Lib.hid (ho.mono (HV.out.trans HEB.out).size); clear hxa hEC ho hS3))
    all_goals
      clear hS4 q0 q1
      by_cases hi : k % ((n : Int) + 1) = 0
      · have hnq := Hzero.out hi
        have Hnq := Lib.hid hnq; clear hnq
        go_wp2
        go_ret2
        exact ⟨_, rfl, by rw [Hnq.out]; exact HoC.out, HV.out.trans HEC.out⟩
      · obtain ⟨j, s, hj, ⟨sa, sc, hsu⟩, hcs, had⟩ := Hadd.out hi
        rw [hsu] at hcs had
        have hEV := HV.out.trans HEC.out
        have hcs2 := hEV.cell hcs
        obtain ⟨q0, q1⟩ := Hbox.out VC (HEV0.out.trans HEC.out)
        have haD := had VC.drew _ hEV.drew HoC.out.rd
        have hj0 : (0 : Int) ≤ (j : Int) := by omega
        have hj1 : (j : Int) < ((n + 1 : Nat) : Int) := by omega
        clear hcs had
        have hj2 : IntKind.i64.wrap (k % ((n : Int) + 1) - 1) = (j : Int) := by rw [IntWalk.i64_in _ (by omega)]; exact hj.symm
        have hj3 : (j : Int) < (n : Int) + 1 := by omega
        have hj4 : k % ((n : Int) + 1) - 1 = (j : Int) := hj.symm
        clear hj
        have HaD := Lib.hid haD; have HEV := Lib.hid hEV; clear haD hEV
        have hjk : k % ((n : Int) + 1) = (j : Int) + 1 := by omega
        clear hj2 hj4
        generalize k % ((n : Int) + 1) = iv at *
        subst hjk
        have hwj : IntKind.i64.wrap ((j : Int) + 1 - 1) = (j : Int) := by rw [show (j : Int) + 1 - 1 = (j : Int) by omega]; exact IntWalk.i64_in _ (by omega)
        have hwj2 : IntKind.i64.wrap (j : Int) = (j : Int) := IntWalk.i64_in _ (by omega)
        have hjn : j < n + 1 := by omega
        go_wp2_with fail
        go_region_held3 (fun w' => Ext VC w' ∧ w'.cell? ⟨w.heap.size, 0, none⟩ = some (.slice ap p.length cp) ∧ w'.cell? ⟨w.heap.size, 1, none⟩ = some (.slice (some ⟨b, off, none⟩) (n + 1) cn) ∧ w'.cell? ⟨b, off + j, none⟩ = some (.slice sa p.length sc))
          (first | (with_reducible assumption) | exact ⟨(Ext.refl VC).drew, q0, q1, hcs2⟩)
          (first
            | (go_at_call 129; refine (HaD.out).mono ?_; rintro e9 VD ⟨g2, rfl, ho2, hxa⟩; have hED := ((Ext.refl VC).drew).trans hxa; have hS5 : Ext VC VD ∧ VD.cell? ⟨w.heap.size, 0, none⟩ = some (.slice ap p.length cp) ∧ VD.cell? ⟨w.heap.size, 1, none⟩ = some (.slice (some ⟨b, off, none⟩) (n + 1) cn) ∧ VD.cell? ⟨b, off + j, none⟩ = some (.slice sa p.length sc) := ⟨hED, hED.cell q0, hED.cell q1, hED.cell hcs2⟩; have HED := Lib.hid hED; have HoD := Lib.hid (ho2.mono HEV.out.size); clear hxa hED ho2))
        all_goals
          clear hS5 q0 q1 hcs2
          go_wp2
          go_ret2
          exact ⟨_, rfl, HoD.out, HEV.out.trans HED.out⟩
end Go.Proofs.YtaakmdjicocjpaaGreatDoor

namespace Go.Proofs.YtaakmdjicocjpaaGreatDoor
open Go.RowKit Go.Lib

section
variable {p : List Int} {N : List (List Rat)} (h : Wd p N)
include h
theorem Wd.nt_bd (k : Int) : ((k / (N.length : Int) : Int) : Rat) * 67108864 ≤ sF p (nt p N k) ∧ sF p (nt p N k) ≤ ((k / (N.length : Int) : Int) : Rat) * 67108864 + 67108864 := by
  have h0 := h.pos
  have hN : (0 : Int) < (N.length : Int) := by omega
  have a1 := Int.emod_nonneg k (show (N.length : Int) ≠ 0 by omega)
  have a2 := Int.emod_lt_of_pos k hN
  rw [h.sF_nt]
  have := h.zbd (i := (k % (N.length : Int)).toNat) (by omega)
  grind
theorem Wd.nt_sub_quick (k l : Int) (hk0 : -1000 ≤ k) (hk1 : k ≤ 1000) (hl0 : -1000 ≤ l) (hl1 : l ≤ 1000) : Quick p (subZ (nt p N k) (nt p N l)) := by
  obtain ⟨n, hn⟩ := h.dif
  have h0 := h.pos
  have hN : (0 : Int) < (N.length : Int) := by omega
  have e1 := div_bd (a := k) (b := (N.length : Int)) (m := 1000) hN hk0 hk1 (by omega)
  have e2 := div_bd (a := l) (b := (N.length : Int)) (m := 1000) hN hl0 hl1 (by omega)
  have b1 := h.nt_bd k
  have b2 := h.nt_bd l
  have c1 : (-1000 : Rat) ≤ ((k / (N.length : Int) : Int) : Rat) := Rat.intCast_le_intCast.2 e1.1
  have c2 : ((k / (N.length : Int) : Int) : Rat) ≤ 1000 := Rat.intCast_le_intCast.2 e1.2
  have c3 : (-1000 : Rat) ≤ ((l / (N.length : Int) : Int) : Rat) := Rat.intCast_le_intCast.2 e2.1
  have c4 : ((l / (N.length : Int) : Int) : Rat) ≤ 1000 := Rat.intCast_le_intCast.2 e2.2
  have hs := sF_sub p (nt p N k) (nt p N l) (by rw [h.ntlen, h.ntlen])
  have hl := (subZ_len (x := nt p N k) (y := nt p N l) (by rw [h.ntlen, h.ntlen])).trans (h.ntlen k)
  have hc : ((2001 * 67108864 : Int) : Rat) = 2001 * 67108864 := by rw [Rat.intCast_mul]; rfl
  exact nic_quick (c := 2001) (by rw [hl]; exact h.pr) (h.nt_nic hn k l) (by omega) (by omega) (by rw [hc]; grind) (by rw [hc]; grind)
theorem Wd.nt_quick (k : Int) (hk0 : -1000 ≤ k) (hk1 : k ≤ 1000) : Quick p (nt p N k) := by
  have := h.nt_sub_quick k 0 hk0 hk1 (by omega) (by omega)
  rw [h.nt_zero, ← h.ntlen k, subZ_zer] at this
  exact this
end
theorem mul_ov_ft {n : Nat} {q : Int} (h0 : -100000 < q) (h1 : q < 100000) : ∀ x ∈ mulZ (ov n) (q : Rat), Ft 30 x := by
  rw [mul_ov]
  unfold zer
  rw [List.replicate_succ]
  intro x hx
  simp only [shf, List.mem_cons] at hx
  rcases hx with rfl | hx
  · rw [show (0 : Rat) + (q : Rat) = (q : Rat) by grind]
    exact (int_ft (k := 5) (by show _ < 100000; omega) (by omega)).mono (by omega)
  · rw [List.eq_of_mem_replicate hx]
    exact ft_zero.mono (by omega)
theorem nt_c (v : Value) (p : List Int) (rs : List Qw) (k : Int) (w : World) (he : Env w) (hv : ScV w v p rs) (h : Wd p (rs.map Qw.x)) (hk0 : -1000 ≤ k) (hk1 : k ≤ 1000) :
    Calls Tryz.prog 88 #[v, .int .i64 k] w fun e w' => ∃ g, e = .returned (.tuple #[.slice (some ⟨g, 0, none⟩) p.length p.length, .int .i64 0]) ∧ OwnQ w' w.heap.size (.slice (some ⟨g, 0, none⟩) p.length p.length) (nt p (rs.map Qw.x) k) ∧ Ext w w' := by
  have hpos := h.pos
  rw [List.length_map] at hpos
  obtain ⟨n, hn⟩ : ∃ n, rs.length = n + 1 := ⟨rs.length - 1, by omega⟩
  obtain ⟨r, hr⟩ : ∃ r, rs[n]? = some r := ⟨_, List.getElem?_eq_getElem (by omega)⟩
  have hrx : r.x = ov (p.length - 1) := by
    have := h.last
    rw [List.length_map, hn, Nat.add_sub_cancel, List.getElem?_map, hr] at this
    exact Option.some.inj this
  have hnq := h.noteQ hn k
  have hq := h.nt_quick k hk0 hk1
  have hd := div_bd (a := k) (b := (n : Int) + 1) (m := 1000) (by omega) hk0 hk1 (by omega)
  have := note_c v p rs n k r w he hv h.right hn hr (by omega) (by omega) ((int_ft (k := 5) (by show _ < 100000; omega) (by omega)).mono (by omega)) (by rw [hrx]; exact mul_ov_ft (by omega) (by omega)) (by rw [hnq]; exact hq.1)
  rw [hnq] at this
  exact this
end Go.Proofs.YtaakmdjicocjpaaGreatDoor

namespace Go.Proofs.YtaakmdjicocjpaaGreatDoor
open Go.RowKit Go.Lib

attribute [local go_sem] Oper.semAt_some

set_option maxRecDepth 100000 in
set_option maxHeartbeats 1000000 in
theorem scNote_c (v : Value) (p : List Int) (rs : List Qw) (n : Nat) (k : Int) (r : Qw) (w : World) (he : Env w) (hv : ScV w v p rs) (h : Right p rs) (hn : rs.length = n + 1) (hr : rs[n]? = some r) (hk0 : -1000000 ≤ k) (hk1 : k ≤ 1000000)
    (hq : Ft 400 ((k / ((n : Int) + 1) : Int) : Rat)) (hf1 : ∀ q ∈ mulZ r.x ((k / ((n : Int) + 1) : Int) : Rat), Ft 30 q) (hf2 : ∀ q ∈ noteQ rs n k, Ft 30 q) :
    Calls Tryz.prog 41 #[v, .int .i64 k] w fun e w' => ∃ g, e = .returned (.tuple #[.slice (some ⟨g, 0, none⟩) p.length p.length, .int .i64 0]) ∧ OwnQ w' w.heap.size (.slice (some ⟨g, 0, none⟩) p.length p.length) (noteQ rs n k) ∧ Ext w w' := by
  have h1 := fun W (hE : Ext w W) => scCheck_c v p rs W (he.ext hE) (hv.ext hE) h
  have h2 := fun W (hE : Ext w W) => note_c v p rs n k r W (he.ext hE) (hv.ext hE) h hn hr (by omega) (by omega) hq hf1 hf2
  obtain ⟨vp, vn, rfl, hp, hs, hm⟩ := hv
  obtain ⟨ap, cp, rfl, _, _, _⟩ := hp.parts
  obtain ⟨an, cn, rfl, _, _, _⟩ := hs.parts
  generalize (i64s p).length = n1 at *
  generalize (qwc rs).length = n2 at *
  have bx : (w.alloc (.cells #[.slice ap n1 cp, .slice an n2 cn] 32)).heap[w.heap.size]? = some (.cells #[.slice ap n1 cp, .slice an n2 cn] 32 (0, 0)) := World.alloc_heap_new w _
  have hE0 : Ext w (w.alloc (.cells #[.slice ap n1 cp, .slice an n2 cn] 32)) := (Ext.refl w).alloc _
  have hbox : ∀ W, Ext (w.alloc (.cells #[.slice ap n1 cp, .slice an n2 cn] 32)) W → W.cell? ⟨w.heap.size, 0, none⟩ = some (.slice ap n1 cp) ∧ W.cell? ⟨w.heap.size, 1, none⟩ = some (.slice an n2 cn) := fun W hE => by
    have hb := hE.heap bx
    unfold World.cell?
    dsimp only
    rw [hb]
    exact ⟨rfl, rfl⟩
  clear hp hs hm he h bx hq hf1 hf2 hn hr
  have H1 := Lib.hid h1; have H2 := Lib.hid h2; have HE0 := Lib.hid hE0; have Hbox := Lib.hid hbox; clear h1 h2 hE0 hbox
  go_enter Tryz.func41, Tryz.ntmps41
  go_wp2_with fail
  refine (H1.out _ HE0.out).mono ?_
  rintro e w1 ⟨rfl, hx1⟩
  obtain ⟨q0, q1⟩ := Hbox.out w1 hx1
  have Hx1 := Lib.hid (HE0.out.trans hx1); clear hx1
  go_wp2_with fail
  refine (H2.out w1 Hx1.out).mono ?_
  rintro e w2 ⟨g, rfl, ho, hx2⟩
  have Ho := Lib.hid (ho.mono Hx1.out.size)
  have Hx2 := Lib.hid (Hx1.out.trans hx2)
  clear ho hx2 q0 q1
  go_wp2
  go_ret2
  exact ⟨g, rfl, Ho.out, Hx2.out⟩
end Go.Proofs.YtaakmdjicocjpaaGreatDoor
