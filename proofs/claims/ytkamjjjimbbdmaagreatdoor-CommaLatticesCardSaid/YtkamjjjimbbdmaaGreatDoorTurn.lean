/- Walk: hermite's turn (printed by turn.py). -/
import Derived.Test.YtkamjjjimbbdmaaGreatDoorFrmA
namespace Go.Proofs.YtkamjjjimbbdmaaGreatDoor
open Go.RowKit Go.Lib Go.Shelf

def negv (a : List Int) : List Int := List.zipWith (fun x y => x - 2 * y) a a
theorem negv_length (a : List Int) : (negv a).length = a.length := by simp [negv]
theorem negv_at (a : List Int) (j : Nat) : nthI (negv a) j = -nthI a j := by
  unfold nthI negv
  rw [List.getD_eq_getElem?_getD, List.getD_eq_getElem?_getD, List.getElem?_zipWith]
  by_cases h : j < a.length
  · rw [List.getElem?_eq_getElem h]; simp; omega
  · rw [List.getElem?_eq_none (by omega)]; rfl
theorem negv_mem {a : List Int} {z : Int} (h : z ∈ negv a) : -z ∈ a := by
  unfold negv at h
  obtain ⟨j, hj, rfl⟩ := List.getElem_of_mem h
  rw [List.getElem_zipWith]
  have hj2 : j < a.length := by simpa using hj
  rw [show -(a[j] - 2 * a[j]) = a[j] by omega]
  exact List.getElem_mem hj2
def PairAt (w : World) (b : Nat) (u v : Value) : Prop := True ∧ w.cell? ⟨b, 0, none⟩ = some u ∧ w.cell? ⟨b, 1, none⟩ = some v

set_option maxRecDepth 100000 in
set_option maxHeartbeats 2000000 in
theorem turn_c (gx gy n N ca cb : Nat) (a a' : List Int) (w : World) (B : Nat) (ha : a.length = n) (ha' : a'.length = N) (hn : n ≤ 1000) (hN : N ≤ 1000) (hne : gx ≠ gy)
    (hox : w.ownsRow B 76 1 (.slice (some ⟨gx, 0, none⟩) n ca) n (strs a)) (hoy : w.ownsRow B 76 1 (.slice (some ⟨gy, 0, none⟩) N cb) N (strs a'))
    (fa : ∀ z ∈ a, Fit z) (fa' : ∀ z ∈ a', Fit z) :
    Calls Tryz.prog 101 #[.agg #[.slice (some ⟨gx, 0, none⟩) n ca, .slice (some ⟨gy, 0, none⟩) N cb]] w fun e w' => (∃ v, e = .returned v) ∧ w'.ownsRow B 76 1 (.slice (some ⟨gx, 0, none⟩) n ca) n (strs (negv a)) ∧ w'.ownsRow B 76 1 (.slice (some ⟨gy, 0, none⟩) N cb) N (strs (negv a')) ∧ Duo w w' gx gy := by
  have hgw : gx < w.heap.size := (World.ownsRow.lt hox gx rfl).2
  have hhw : gy < w.heap.size := (World.ownsRow.lt hoy gy rfl).2
  have hb0 := two_new0 w (.slice (some ⟨gx, 0, none⟩) n ca) (.slice (some ⟨gy, 0, none⟩) N cb) 118
  have hb1 := two_new1 w (.slice (some ⟨gx, 0, none⟩) n ca) (.slice (some ⟨gy, 0, none⟩) N cb) 118
  have hE0 : Ext w (w.alloc (.cells #[.slice (some ⟨gx, 0, none⟩) n ca, .slice (some ⟨gy, 0, none⟩) N cb] 118)) := (Ext.refl w).alloc _
  have hs0 : (w.alloc (.cells #[.slice (some ⟨gx, 0, none⟩) n ca, .slice (some ⟨gy, 0, none⟩) N cb] 118)).heap.size = w.heap.size + 1 := by rw [World.size_alloc]
  generalize hw0 : w.alloc (.cells #[.slice (some ⟨gx, 0, none⟩) n ca, .slice (some ⟨gy, 0, none⟩) N cb] 118) = W0 at *
  have hp : PairAt (W0.alloc (.cells #[.slice (some ⟨gx, 0, none⟩) n ca, .slice (some ⟨gy, 0, none⟩) N cb] 116)) W0.heap.size (.slice (some ⟨gx, 0, none⟩) n ca) (.slice (some ⟨gy, 0, none⟩) N cb) := ⟨trivial, two_new0 _ _ _ _, two_new1 _ _ _ _⟩
  have hE1 := hE0.alloc (.cells #[.slice (some ⟨gx, 0, none⟩) n ca, .slice (some ⟨gy, 0, none⟩) N cb] 116)
  generalize hw1 : W0.alloc (.cells #[.slice (some ⟨gx, 0, none⟩) n ca, .slice (some ⟨gy, 0, none⟩) N cb] 116) = W1 at *
  have hlt : gx < W0.heap.size ∧ gy < W0.heap.size := ⟨by omega, by omega⟩
  have Hp := Lib.hid hp; have HE1 := Lib.hid hE1; have Hlt := Lib.hid hlt; have Hne := Lib.hid hne
  have Hx0 := Lib.hid (hE1.own hox); have Hy0 := Lib.hid (hE1.own hoy); have La := Lib.hid ha; have Lb := Lib.hid ha'; have Fa := Lib.hid fa; have Fb := Lib.hid fa'
  clear hp hE0 hE1 hlt hne hox hoy ha ha' fa fa' hs0 hgw hhw
  go_enter Tryz.func101, Tryz.ntmps101
  go_wp2_with fail
  go_loopw [12] (fun v12 wr => ∃ k : Nat, v12 = .int .i64 k ∧ k ≤ 2 ∧ wr.ownsRow B 76 1 (.slice (some ⟨gx, 0, none⟩) n ca) n (strs (if 1 ≤ k then negv a else a)) ∧ wr.ownsRow B 76 1 (.slice (some ⟨gy, 0, none⟩) N cb) N (strs (if 2 ≤ k then negv a' else a')) ∧ Duo W1 wr gx gy) (fun v12 _ => 2 - (intOf v12).toNat)
  case atStart => exact ⟨0, rfl, by omega, Hx0.out, Hy0.out, Duo.refl _ _ _⟩
  case round =>
    obtain ⟨k, rfl, hk, hx, hy, hd⟩ := hrel
    obtain ⟨wa, hwa⟩ : ∃ wa, wa = wr := ⟨_, rfl⟩
    subst hwa
    have HD := Lib.hid hd; clear hd
    have h3 : k = 0 ∨ k = 1 ∨ k = 2 := by omega
    rcases h3 with rfl | rfl | rfl
    · have Hx : Hid (wa.ownsRow B 76 1 (.slice (some ⟨gx, 0, none⟩) n ca) n (strs a)) := Lib.hid hx
      have Hy : Hid (wa.ownsRow B 76 1 (.slice (some ⟨gy, 0, none⟩) N cb) N (strs a')) := Lib.hid hy
      clear hx hy
      have hc0 := HD.out.cell Hp.out.2.1 (by have := Hlt.out; simp; omega) (by have := Hlt.out; simp; omega)
      go_wp2_with fail
      go_loopw [18] (fun v18 wi => ∃ j : Nat, v18 = .int .i64 j ∧ j ≤ n ∧ wi.ownsRow B 76 1 (.slice (some ⟨gx, 0, none⟩) n ca) n (strs (subTo 2 a a j)) ∧ wi.ownsRow B 76 1 (.slice (some ⟨gy, 0, none⟩) N cb) N (strs a') ∧ Duo W1 wi gx gy) (fun v18 _ => n - (intOf v18).toNat)
      case atStart => exact ⟨0, rfl, Nat.zero_le _, by rw [subTo_zero]; exact Hx.out, Hy.out, HD.out⟩
      case round =>
        obtain ⟨j, rfl, hj, h1, h2, hd⟩ := hrel
        have H1 := Lib.hid h1; have H2 := Lib.hid h2; have HD2 := Lib.hid hd
        clear h1 h2 hd
        by_cases hjn : j < n
        · have hca := own_cellAt H1.out (j := j) (u := .string (I (nthI a j))) (by unfold strs; rw [List.getElem?_map, subTo_at La.out La.out hjn]; rfl)
          have hya := Fa.out (nthI a j) (nthI_mem' (by rw [La.out]; exact hjn))
          have hset := subTo_set (k := 2) La.out La.out hjn
          rw [show nthI a j - 2 * nthI a j = -nthI a j by omega] at hset
          have Hset := Lib.hid hset; clear hset
          generalize nthI a j = y at *
          have hj0 : (0 : Int) ≤ (j : Int) := by omega
          have hj1 : (j : Int) < (n : Int) := by omega
          have Hng := Lib.hid (fun W => wneg_c y W hya)
          clear hya
          go_wp2_with fail
          refine (Hng.out _).mono ?_
          rintro e V2 ⟨rfl, hx2⟩
          have hf2 := World.ownsRow.frozenAt (hx2.own H1.out) j
          have hst := (World.ownsRow.stored (hx2.own H1.out) j (.string (I (-y)))).1
          have hgs := (World.ownsRow.stored (hx2.own H1.out) j (.string (I (-y)))).2
          have ho2 := World.ownsRow.kept (hx2.own H2.out) hgs (.inr fun e => Hne.out ((Option.some.inj e).symm))
          have hd2 := (HD2.out.trans (Duo.of hx2)).trans (Duo.left hgs)
          have hca2 := hx2.cell hca
          rw [strs_set, Hset.out] at hst
          have Hst := Lib.hid hst; have Ho2 := Lib.hid ho2; have Hd2 := Lib.hid hd2
          clear hst hgs ho2 hd2 hx2 hca
          go_wp2_with fail
          generalize V2.setCell ⟨gx, j, none⟩ (.string (I (-y))) = V3 at *
          go_roundw
          case rel => first | exact ⟨j + 1, by go_num, by omega, Hst.out, Ho2.out, Hd2.out⟩ | ((repeat apply Exists.intro); exact ⟨⟨j + 1, by go_num, by omega, Hst.out, Ho2.out, Hd2.out⟩, rfl⟩)
          case measure => simp [intOf]; omega
        · obtain rfl : j = n := by omega
          have h1 := H1.out
          rw [subTo_full La.out La.out] at h1
          have H3 := Lib.hid h1; clear h1
          go_wp2_with fail
          go_roundw
          case rel => exact ⟨1, rfl, by omega, H3.out, H2.out, HD2.out⟩
          case measure => simp [intOf]
    · have Hx : Hid (wa.ownsRow B 76 1 (.slice (some ⟨gx, 0, none⟩) n ca) n (strs (negv a))) := Lib.hid hx
      have Hy : Hid (wa.ownsRow B 76 1 (.slice (some ⟨gy, 0, none⟩) N cb) N (strs a')) := Lib.hid hy
      clear hx hy
      have hc1 := HD.out.cell Hp.out.2.2 (by have := Hlt.out; simp; omega) (by have := Hlt.out; simp; omega)
      go_wp2_with fail
      go_loopw [18] (fun v18 wi => ∃ j : Nat, v18 = .int .i64 j ∧ j ≤ N ∧ wi.ownsRow B 76 1 (.slice (some ⟨gy, 0, none⟩) N cb) N (strs (subTo 2 a' a' j)) ∧ wi.ownsRow B 76 1 (.slice (some ⟨gx, 0, none⟩) n ca) n (strs (negv a)) ∧ Duo W1 wi gx gy) (fun v18 _ => N - (intOf v18).toNat)
      case atStart => exact ⟨0, rfl, Nat.zero_le _, by rw [subTo_zero]; exact Hy.out, Hx.out, HD.out⟩
      case round =>
        obtain ⟨j, rfl, hj, h1, h2, hd⟩ := hrel
        have H1 := Lib.hid h1; have H2 := Lib.hid h2; have HD2 := Lib.hid hd
        clear h1 h2 hd
        by_cases hjn : j < N
        · have hca := own_cellAt H1.out (j := j) (u := .string (I (nthI a' j))) (by unfold strs; rw [List.getElem?_map, subTo_at Lb.out Lb.out hjn]; rfl)
          have hya := Fb.out (nthI a' j) (nthI_mem' (by rw [Lb.out]; exact hjn))
          have hset := subTo_set (k := 2) Lb.out Lb.out hjn
          rw [show nthI a' j - 2 * nthI a' j = -nthI a' j by omega] at hset
          have Hset := Lib.hid hset; clear hset
          generalize nthI a' j = y at *
          have hj0 : (0 : Int) ≤ (j : Int) := by omega
          have hj1 : (j : Int) < (N : Int) := by omega
          have Hng := Lib.hid (fun W => wneg_c y W hya)
          clear hya
          go_wp2_with fail
          refine (Hng.out _).mono ?_
          rintro e V2 ⟨rfl, hx2⟩
          have hf2 := World.ownsRow.frozenAt (hx2.own H1.out) j
          have hst := (World.ownsRow.stored (hx2.own H1.out) j (.string (I (-y)))).1
          have hgs := (World.ownsRow.stored (hx2.own H1.out) j (.string (I (-y)))).2
          have ho2 := World.ownsRow.kept (hx2.own H2.out) hgs (.inr fun e => Hne.out (Option.some.inj e))
          have hd2 := (HD2.out.trans (Duo.of hx2)).trans (Duo.right hgs)
          have hca2 := hx2.cell hca
          rw [strs_set, Hset.out] at hst
          have Hst := Lib.hid hst; have Ho2 := Lib.hid ho2; have Hd2 := Lib.hid hd2
          clear hst hgs ho2 hd2 hx2 hca
          go_wp2_with fail
          generalize V2.setCell ⟨gy, j, none⟩ (.string (I (-y))) = V3 at *
          go_roundw
          case rel => first | exact ⟨j + 1, by go_num, by omega, Hst.out, Ho2.out, Hd2.out⟩ | ((repeat apply Exists.intro); exact ⟨⟨j + 1, by go_num, by omega, Hst.out, Ho2.out, Hd2.out⟩, rfl⟩)
          case measure => simp [intOf]; omega
        · obtain rfl : j = N := by omega
          have h1 := H1.out
          rw [subTo_full Lb.out Lb.out] at h1
          have H3 := Lib.hid h1; clear h1
          go_wp2_with fail
          go_roundw
          case rel => exact ⟨2, rfl, by omega, H2.out, H3.out, HD2.out⟩
          case measure => simp [intOf]
    · have Hx : Hid (wa.ownsRow B 76 1 (.slice (some ⟨gx, 0, none⟩) n ca) n (strs (negv a))) := Lib.hid hx
      have Hy : Hid (wa.ownsRow B 76 1 (.slice (some ⟨gy, 0, none⟩) N cb) N (strs (negv a'))) := Lib.hid hy
      clear hx hy
      go_wp2
      go_end0
      exact ⟨⟨_, rfl⟩, Hx.out, Hy.out, (Duo.of HE1.out).trans HD.out⟩

end Go.Proofs.YtkamjjjimbbdmaaGreatDoor
