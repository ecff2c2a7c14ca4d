/- Plain law: the list of a lesser height, the last record, the smallest interval. -/
import Derived.Test.YtkamjjjimbbdmaaGreatDoorRecords
import Derived.Test.YtkamjjjimbbdmaaGreatDoorLwB
namespace Go.Proofs.YtkamjjjimbbdmaaGreatDoor
open Go.RowKit Go.Lib Go.Shelf Go.Sort

theorem wall_more (num den : Nat) (p : List Nat) (k : Nat) : ∀ j, ∃ t, wall num den p (k + j) = wall num den p k ++ t
  | 0 => ⟨[], by simp⟩
  | j + 1 => by
    obtain ⟨t, ht⟩ := wall_more num den p k j
    exact ⟨t ++ wover num den p (k + j + 1) (k + j), by rw [← Nat.add_assoc, wall, ht, List.append_assoc]⟩
theorem rows_prefix (num den : Nat) (p : List Nat) {k H : Nat} (h : k ≤ H) : (rowsOf num den p k).length ≤ (rowsOf num den p H).length ∧ (rowsOf num den p H).take (rowsOf num den p k).length = rowsOf num den p k := by
  obtain ⟨t, ht⟩ := wall_more num den p k (H - k)
  rw [Nat.add_sub_cancel' h] at ht
  unfold rowsOf
  rw [ht, List.map_append]
  refine ⟨by simp, ?_⟩
  rw [List.take_left]
theorem rows_inj {num den m H : Nat} (hH : H ≤ 130) {r s : List Int} (hr : r ∈ rowsOf num den (tenP m) H) (hs : s ∈ rowsOf num den (tenP m) H) (h1 : numP (ints (tenP m)) r = numP (ints (tenP m)) s) (h2 : denP (ints (tenP m)) r = denP (ints (tenP m)) s) : r = s := by
  obtain ⟨e, he, rfl⟩ := List.mem_map.1 hr
  obtain ⟨f, hf, rfl⟩ := List.mem_map.1 hs
  obtain ⟨x, y, a1, a2, a3, _⟩ := wall_mem hH he
  obtain ⟨x', y', b1, b2, b3, _⟩ := wall_mem hH hf
  have c1 := wall_parts hH he
  have c2 := wall_parts hH hf
  rw [c1.1, c2.1] at h1
  rw [c1.2, c2.2] at h2
  rw [h1, b1] at a1
  rw [h2, b2] at a2
  rw [a3, b3, Option.some.inj a1, Option.some.inj a2]
theorem coprime_eq {n1 d1 n2 d2 : Nat} (h : n1 * d2 = n2 * d1) (g1 : Nat.gcd n1 d1 = 1) (g2 : Nat.gcd n2 d2 = 1) (h0 : 0 < n1) : n1 = n2 ∧ d1 = d2 := by
  have k1 : n1 ∣ n2 := Nat.Coprime.dvd_of_dvd_mul_right (n := d1) g1 ⟨d2, by rw [← h]⟩
  have k2 : n2 ∣ n1 := Nat.Coprime.dvd_of_dvd_mul_right (n := d2) g2 ⟨d1, by rw [h]⟩
  have e : n1 = n2 := Nat.dvd_antisymm k1 k2
  subst e
  exact ⟨rfl, (Nat.eq_of_mul_eq_mul_left h0 h).symm⟩
def leP (p x y : List Int) : Prop := numP p x * denP p y ≤ numP p y * denP p x
theorem leP_trans {p x y z : List Int} (h1 : leP p x y) (h2 : leP p y z) (h0 : 0 < denP p y) : leP p x z := by
  unfold leP at *
  refine Nat.le_of_mul_le_mul_right (c := denP p y) ?_ h0
  have a := Nat.mul_le_mul_right (denP p z) h1
  have b := Nat.mul_le_mul_right (denP p x) h2
  have e1 : numP p x * denP p z * denP p y = numP p x * denP p y * denP p z := Nat.mul_right_comm ..
  have e2 : numP p y * denP p x * denP p z = numP p y * denP p z * denP p x := Nat.mul_right_comm ..
  have e3 : numP p z * denP p y * denP p x = numP p z * denP p x * denP p y := Nat.mul_right_comm ..
  omega
theorem cmpP_ge {p x y : List Int} (h : 0 ≤ cmpP p x y) : leP p y x := by
  unfold cmpP cmpI at h
  unfold leP
  split at h
  · omega
  · omega
theorem cmpP_lt {p x y : List Int} (h : ¬ 0 ≤ cmpP p x y) : leP p x y := by
  unfold cmpP cmpI at h
  unfold leP
  split at h
  · omega
  · split at h <;> omega
theorem recs_last {p : List Int} : ∀ (n : Nat) {R : List (List Int)}, R.length = n → R ≠ [] → (∀ r ∈ R, 0 < denP p r) → ∃ init z, recsOf p R = init ++ [z] ∧ z ∈ R ∧ (∀ r ∈ R, leP p z r) ∧ (recsOf p R).head? = R.head?
  | 0, R, hn, h0, _ => absurd (List.eq_nil_of_length_eq_zero hn) h0
  | n + 1, R, hn, h0, hd => by
    rcases List.eq_nil_or_concat R with rfl | ⟨R0, x, rfl⟩
    · exact absurd rfl h0
    · rw [List.concat_eq_append] at *
      have hx : leP p x x := Nat.le_refl _
      rw [recsOf_snoc]
      by_cases hR0 : R0 = []
      · subst hR0
        exact ⟨[], x, rfl, by simp, fun r hr => by simp at hr; rw [hr]; exact hx, rfl⟩
      · obtain ⟨init, z, h1, h2, h3, h4⟩ := recs_last n (R := R0) (by simpa using hn) hR0 (fun r hr => hd r (List.mem_append_left _ hr))
        have hh : ∀ t, (R0 ++ t).head? = R0.head? := fun t => by
          cases R0 with
          | nil => exact absurd rfl hR0
          | cons a r => rfl
        have hstep : recStep p (recsOf p R0) x = if 0 ≤ cmpP p x z then init ++ [z] else init ++ [z] ++ [x] := by
          rw [h1]; unfold recStep; simp
        rw [hstep]
        by_cases hc : 0 ≤ cmpP p x z
        · rw [if_pos hc]
          refine ⟨init, z, rfl, List.mem_append_left _ h2, fun r hr => ?_, ?_⟩
          · rcases List.mem_append.1 hr with h | h
            · exact h3 r h
            · simp at h; rw [h]; exact cmpP_ge hc
          · rw [hh, ← h4, h1]
        · rw [if_neg hc]
          refine ⟨init ++ [z], x, rfl, by simp, fun r hr => ?_, ?_⟩
          · rcases List.mem_append.1 hr with h | h
            · exact leP_trans (cmpP_lt hc) (h3 r h) (hd z (List.mem_append_left _ h2))
            · simp at h; rw [h]; exact hx
          · rw [hh, ← h4, h1]
            cases init <;> rfl
/-- The smallest one is the last record. -/
theorem least_last {num den m H : Nat} (hH : H ≤ 130) {F : List (Nat × Nat × List Int)} {rs : List Rw} (h : LeastOf (ints (tenP m)) (rowsOf num den (tenP m) H) 1 F rs) (h0 : rowsOf num den (tenP m) H ≠ []) :
    ∃ init z, recsOf (ints (tenP m)) (rowsOf num den (tenP m) H) = init ++ [z] ∧ rs.map Rw.x = [z] ∧ (init ++ [z]).head? = (rowsOf num den (tenP m) H).head? := by
  obtain ⟨init, z, h1, h2, h3, h4⟩ := recs_last (p := ints (tenP m)) _ rfl h0 (fun r hr => (rows_fact hH r hr).2.2.2.1)
  obtain ⟨k1, k2, k3⟩ := h
  refine ⟨init, z, h1, ?_, by rw [← h1]; exact h4⟩
  cases F with
  | nil =>
    have := k1.length_eq
    simp at this
    exact absurd this.symm (by simpa using h0)
  | cons e F =>
    rw [k3]
    show [e.2.2] = [z]
    have he : e ∈ (rowsOf num den (tenP m) H).map fun r => (numP (ints (tenP m)) r, denP (ints (tenP m)) r, r) := k1.mem_iff.1 (List.mem_cons_self ..)
    obtain ⟨r, hr, rfl⟩ := List.mem_map.1 he
    have hz : (numP (ints (tenP m)) z, denP (ints (tenP m)) z, z) ∈ (numP (ints (tenP m)) r, denP (ints (tenP m)) r, r) :: F := k1.mem_iff.2 (List.mem_map_of_mem h2)
    have hle : leP (ints (tenP m)) r z := by
      rcases List.mem_cons.1 hz with h | h
      · simp only [Prod.mk.injEq] at h
        rw [h.2.2]
        exact Nat.le_refl _
      · exact (List.pairwise_cons.1 k2).1 _ h
    have hge := h3 r hr
    have f1 := rows_fact hH r hr
    have f2 := rows_fact hH z h2
    have hne := coprime_eq (Nat.le_antisymm hle hge) f1.2.2.2.2.2.2 f2.2.2.2.2.2.2 (by have := f1.2.2.2.2.2.1; omega)
    show [r] = [z]
    rw [rows_inj hH hr h2 hne.1 hne.2]

/-- Each interval is right, and greater than 1. -/
theorem rows_err {num den m H : Nat} (hH : H ≤ 130) {r : List Int} (hr : r ∈ rowsOf num den (tenP m) H) : rowErr (ints (tenP m)).length r = 0 := by
  obtain ⟨h1, _, _, _, h5, _⟩ := rows_fact hH r hr
  refine row_fine' (by rw [h5, ints_length]) fun i => ?_
  rcases Nat.lt_or_ge i r.length with h | h
  · have := h1.2.2 i h; omega
  · rw [nthI_out h]; omega
theorem rows_sign {num den m H : Nat} (hH : H ≤ 130) {r : List Int} (hr : r ∈ rowsOf num den (tenP m) H) : oneErr (ints (tenP m)) r = 0 ∧ signP (ints (tenP m)) r = 1 := by
  have h1 : oneErr (ints (tenP m)) r = 0 := by
    unfold oneErr allErr
    rw [ten_primes, if_neg (by simp), rowsErr, rows_err hH hr, if_neg (by simp)]
    rfl
  refine ⟨h1, ?_⟩
  unfold signP
  rw [h1, if_neg (by simp), cmpI_gt (by have := (rows_fact hH r hr).2.2.2.2.2.1; omega)]
theorem rows_two {num den m H : Nat} (hH : H ≤ 130) : ∀ r ∈ rowsOf num den (tenP m) H, ∀ s ∈ rowsOf num den (tenP m) H, allErr (ints (tenP m)) [r, s] = 0 := by
  intro r hr s hs
  unfold allErr
  rw [ten_primes, if_neg (by simp), rowsErr, rows_err hH hr, if_neg (by simp), rowsErr, rows_err hH hs, if_neg (by simp)]
  rfl
theorem recordsTen_c (m H : Nat) (vp vx : Value) (x : List Int) (w : World) (he : Env w) (hp : Sl w vp (i64s (ints (tenP m)))) (hx : Sl w vx (i64s x)) (h1 : 1 ≤ H) (hH : H ≤ 130) (hask : askErr (ints (tenP m)) H x = 0) :
    Calls Tryz.prog 25 #[.agg #[vp, .int .i64 H, vx]] w fun e w' => ∃ v rs, e = .returned (.tuple #[v, .int .i64 0]) ∧ RwL w' w.heap.size v rs ∧ rs.map Rw.x = recsOf (ints (tenP m)) (rowsOf (numP (ints (tenP m)) x) (denP (ints (tenP m)) x) (tenP m) H) ∧ Ext w w' :=
  records_w vp vx (ints (tenP m)) x H w he hp hx _ (by have := rows_len2 (num := numP (ints (tenP m)) x) (den := denP (ints (tenP m)) x) (m := m) hH; omega)
    (fun r hr => by have := rows_fact hH r hr; have := ten_len m; omega) (rows_two hH) (fun W hE => listTen_c m H vp vx x W (he.ext hE) (hE.sl hp) (hE.sl hx) h1 hH hask)

end Go.Proofs.YtkamjjjimbbdmaaGreatDoor
