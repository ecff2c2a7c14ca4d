/- Plain: notes, modes and subsets of right scales over 2.3 and 2.3.5. Walks: equal sizes: slices.Equal at fractions, size.Equal. Walks: slices.Clone at sizes and at primes; a list of sizes with one more. -/
import Derived.Test.YtajdfggocldeaaaGreatDoorPb19
import Derived.Test.YtajdfggocldeaaaGreatDoorPb12
import Derived.Test.YtajdfggocldeaaaGreatDoorPb13
import Derived.Test.YtajdfggocldeaaaGreatDoorShelfE
set_option maxRecDepth 100000
set_option maxHeartbeats 2000000
namespace Go.Proofs.YtajdfggocldeaaaGreatDoor
def zer (n : Nat) : List Rat := List.replicate n 0
theorem zer_len (n : Nat) : (zer n).length = n := List.length_replicate
theorem subZ_len {x y : List Rat} (h : x.length = y.length) : (subZ x y).length = x.length := by unfold subZ; rw [List.length_zipWith, ← h, Nat.min_self]
theorem subZ_zer : ∀ (x : List Rat), subZ x (zer x.length) = x
  | [] => rfl
  | a :: x => by
    have ih := subZ_zer x
    unfold subZ zer at ih ⊢
    rw [List.length_cons, List.replicate_succ, List.zipWith_cons_cons, ih]
    congr 1
    grind
theorem subZ_self : ∀ (x : List Rat), subZ x x = zer x.length
  | [] => rfl
  | a :: x => by
    have ih := subZ_self x
    unfold subZ zer at ih ⊢
    rw [List.length_cons, List.replicate_succ, List.zipWith_cons_cons, ih]
    congr 1
    grind
theorem subZ_subZ : ∀ {x y z : List Rat}, x.length = y.length → y.length = z.length → subZ (subZ x z) (subZ y z) = subZ x y
  | [], [], [], _, _ => rfl
  | a :: x, b :: y, c :: z, h1, h2 => by
    have ih := subZ_subZ (x := x) (y := y) (z := z) (by simpa using h1) (by simpa using h2)
    unfold subZ at ih ⊢
    simp only [List.zipWith_cons_cons, ih]
    congr 1
    grind
/-- Some octaves more. -/
def shf (q : Int) : List Rat → List Rat
  | [] => []
  | a :: tl => (a + (q : Rat)) :: tl
theorem shf_len (q : Int) (x : List Rat) : (shf q x).length = x.length := by cases x <;> simp [shf]
theorem shf_shf (q r : Int) (x : List Rat) : shf q (shf r x) = shf (r + q) x := by
  cases x with
  | nil => rfl
  | cons a x =>
    simp only [shf, Rat.intCast_add]
    congr 1
    grind
theorem shf_zero (x : List Rat) : shf 0 x = x := by
  cases x with
  | nil => rfl
  | cons a x =>
    simp only [shf]
    congr 1
    show a + ((0 : Int) : Rat) = a
    rw [show ((0 : Int) : Rat) = 0 from rfl]
    grind
theorem shf_sub {q r : Int} : ∀ {x y : List Rat}, x.length = y.length → subZ (shf q x) (shf r y) = shf (q - r) (subZ x y)
  | [], [], _ => rfl
  | a :: x, b :: y, _ => by
    simp only [subZ, shf, List.zipWith_cons_cons, Rat.intCast_sub]
    congr 1
    grind
theorem sF_shf {p : List Int} {x : List Rat} (hp : Pr p x.length) (q : Int) : sF p (shf q x) = sF p x + (q : Rat) * 67108864 := by
  cases x with
  | nil => rcases hp with ⟨_, h⟩ | ⟨_, h⟩ <;> cases h
  | cons a x =>
    obtain ⟨ps, rfl⟩ : ∃ ps, p = 2 :: ps := by rcases hp with ⟨rfl, _⟩ | ⟨rfl, _⟩ <;> exact ⟨_, rfl⟩
    simp only [shf, sF, lgs.1]
    show (a + (q : Rat)) * ((67108864 : Int) : Rat) + _ = _
    rw [show ((67108864 : Int) : Rat) = 67108864 from rfl]
    grind
theorem bx_shf {k q : Int} {x : List Rat} (h : Bx k x) : Bx k (shf q x) := by
  match x, h with
  | [a, b], ⟨A, B, h1, h2⟩ => exact ⟨A + q, B, by rw [Rat.intCast_add, h1], h2⟩
  | [a, b, c], ⟨A, B, C, h1, h2⟩ => exact ⟨A + q, B, C, by rw [Rat.intCast_add, h1], h2⟩
theorem oc_shf {n : Nat} {q : Int} {x : List Rat} (h : Oc n x) : Oc n (shf q x) := by
  match x, h with
  | [a, b], ⟨h1, A, h2⟩ => exact ⟨h1, A + q * n, by rw [Rat.intCast_add, Rat.intCast_mul, Rat.intCast_natCast, ← h2]; grind⟩
  | [a, b, c], ⟨h1, h3, A, h2⟩ => exact ⟨h1, h3, A + q * n, by rw [Rat.intCast_add, Rat.intCast_mul, Rat.intCast_natCast, ← h2]; grind⟩
theorem nic_shf {n : Nat} {q : Int} {x : List Rat} (h : Nic n x) : Nic n (shf q x) := by
  rcases h with ⟨e, h⟩ | ⟨h1, h2, h⟩
  · exact .inl ⟨e, bx_shf h⟩
  · exact .inr ⟨h1, h2, oc_shf h⟩
theorem mul_ov (n : Nat) (q : Int) : mulZ (ov n) (q : Rat) = shf q (zer (n + 1)) := by
  unfold mulZ ov zer
  rw [List.map_cons, List.map_replicate, List.replicate_succ]
  simp only [shf]
  congr 1
  · grind
  · congr 1; grind
theorem add_shf {q : Int} : ∀ {x : List Rat}, addZ (shf q (zer x.length)) x = shf q x
  | [] => rfl
  | a :: x => by
    unfold zer addZ
    rw [List.length_cons, List.replicate_succ]
    simp only [shf, List.zipWith_cons_cons]
    congr 1
    · grind
    · have : ∀ l : List Rat, List.zipWith (· + ·) (List.replicate l.length 0) l = l := fun l => by
        induction l with
        | nil => rfl
        | cons b l ih => rw [List.length_cons, List.replicate_succ, List.zipWith_cons_cons, ih]; congr 1; grind
      exact this x
theorem ov_shf (n : Nat) : ov n = shf 1 (zer (n + 1)) := by
  unfold ov zer
  rw [List.replicate_succ]
  simp only [shf]
  congr 1
  show (1 : Rat) = 0 + ((1 : Int) : Rat)
  rw [show ((1 : Int) : Rat) = 1 from rfl]
  grind
theorem sF_zer (p : List Int) (n : Nat) : sF p (zer n) = 0 := sF_zero p _ fun _ h => List.eq_of_mem_replicate h
theorem pr_one {p : List Int} {n : Nat} (h : Pr p n) : p.length = n ∧ 0 < n := by rcases h with ⟨rfl, rfl⟩ | ⟨rfl, rfl⟩ <;> exact ⟨rfl, by omega⟩
/-- A right scale of at most ten notes whose differences are nice. -/
structure Wd (p : List Int) (N : List (List Rat)) : Prop where
  pr : Pr p p.length
  ne : N ≠ []
  few : N.length ≤ 10
  len : ∀ x ∈ N, x.length = p.length
  last : N[N.length - 1]? = some (ov (p.length - 1))
  up : Srt p (zer p.length :: N)
  dif : ∃ n, ∀ x ∈ zer p.length :: N, ∀ y ∈ zer p.length :: N, Nic n (subZ x y)
/-- The notes from the first one of all, which is zero. -/
def zat (p : List Int) (N : List (List Rat)) (i : Nat) : List Rat := ((zer p.length :: N)[i]?).getD []
/-- The size of a note. -/
def nt (p : List Int) (N : List (List Rat)) (k : Int) : List Rat := shf (k / (N.length : Int)) (zat p N (k % (N.length : Int)).toNat)
section
variable {p : List Int} {N : List (List Rat)} (h : Wd p N)
include h
theorem Wd.pos : 0 < N.length := List.length_pos_iff.2 h.ne
theorem Wd.zmem {i : Nat} (hi : i ≤ N.length) : zat p N i ∈ zer p.length :: N := by
  have _ := h
  unfold zat
  rw [List.getElem?_eq_getElem (by rw [List.length_cons]; omega)]
  exact List.getElem_mem _
theorem Wd.zlen {i : Nat} (hi : i ≤ N.length) : (zat p N i).length = p.length := by
  rcases List.mem_cons.1 (h.zmem hi) with e | e
  · rw [e, zer_len]
  · exact h.len _ e
theorem Wd.zlast : zat p N N.length = ov (p.length - 1) := by
  have := h.pos
  unfold zat
  rw [List.getElem?_cons, if_neg (by omega), h.last]
  rfl
theorem Wd.zlt {i j : Nat} (hij : i < j) (hj : j ≤ N.length) : sF p (zat p N i) < sF p (zat p N j) := by
  have := h.up
  unfold Srt at this
  rw [List.pairwise_iff_getElem] at this
  have g := this i j (by rw [List.length_cons]; omega) (by rw [List.length_cons]; omega) hij
  unfold zat
  rw [List.getElem?_eq_getElem (by rw [List.length_cons]; omega), List.getElem?_eq_getElem (by rw [List.length_cons]; omega)]
  exact g
theorem Wd.sov : sF p (ov (p.length - 1)) = 67108864 := by
  have hp := h.pr
  have h0 := (pr_one hp).2
  rw [ov_shf, sF_shf (by rw [zer_len, show p.length - 1 + 1 = p.length by omega]; exact hp), sF_zer]
  show (0 : Rat) + ((1 : Int) : Rat) * 67108864 = _
  rw [show ((1 : Int) : Rat) = 1 from rfl]
  grind
theorem Wd.zbd {i : Nat} (hi : i < N.length) : 0 ≤ sF p (zat p N i) ∧ sF p (zat p N i) < 67108864 := by
  have h2 := h.zlt hi (Nat.le_refl _)
  rw [h.zlast, h.sov] at h2
  refine ⟨?_, h2⟩
  rcases Nat.eq_zero_or_pos i with rfl | g
  · show 0 ≤ sF p (zer p.length)
    rw [sF_zer]
    exact Rat.le_refl
  · have h1 := h.zlt g (by omega)
    have e : sF p (zat p N 0) = 0 := sF_zer p _
    rw [e] at h1
    exact Rat.le_of_lt h1
theorem Wd.ntlen (k : Int) : (nt p N k).length = p.length := by
  have h0 := h.pos
  have := Int.emod_nonneg k (show (N.length : Int) ≠ 0 by omega)
  have := Int.emod_lt_of_pos k (show (0 : Int) < (N.length : Int) by omega)
  unfold nt
  rw [shf_len]
  exact h.zlen (by omega)
theorem Wd.sF_nt (k : Int) : sF p (nt p N k) = sF p (zat p N (k % (N.length : Int)).toNat) + ((k / (N.length : Int) : Int) : Rat) * 67108864 := by
  have h0 := h.pos
  have := Int.emod_nonneg k (show (N.length : Int) ≠ 0 by omega)
  have := Int.emod_lt_of_pos k (show (0 : Int) < (N.length : Int) by omega)
  unfold nt
  exact sF_shf (by rw [h.zlen (by omega)]; exact h.pr) _
theorem Wd.nt_shift (k q : Int) : nt p N (k + q * (N.length : Int)) = shf q (nt p N k) := by
  have h0 := h.pos
  unfold nt
  rw [Int.add_mul_emod_self_right, Int.add_mul_ediv_right _ _ (by omega), shf_shf]
theorem Wd.nt_lt {k l : Int} (hkl : k < l) : sF p (nt p N k) < sF p (nt p N l) := by
  have h0 := h.pos
  have hN : (0 : Int) < (N.length : Int) := by omega
  have a1 := Int.emod_nonneg k (show (N.length : Int) ≠ 0 by omega)
  have a2 := Int.emod_lt_of_pos k hN
  have a3 := Int.mul_ediv_add_emod k (N.length : Int)
  have b1 := Int.emod_nonneg l (show (N.length : Int) ≠ 0 by omega)
  have b2 := Int.emod_lt_of_pos l hN
  have b3 := Int.mul_ediv_add_emod l (N.length : Int)
  rw [h.sF_nt, h.sF_nt]
  have z1 := h.zbd (i := (k % (N.length : Int)).toNat) (by omega)
  have z2 := h.zbd (i := (l % (N.length : Int)).toNat) (by omega)
  have hq : k / (N.length : Int) ≤ l / (N.length : Int) := Int.ediv_le_ediv hN (by omega)
  rcases (by omega : k / (N.length : Int) = l / (N.length : Int) ∨ k / (N.length : Int) + 1 ≤ l / (N.length : Int)) with e | e
  · have := h.zlt (i := (k % (N.length : Int)).toNat) (j := (l % (N.length : Int)).toNat) (by rw [e] at a3; omega) (by omega)
    rw [e]
    grind
  · have hc : (((k / (N.length : Int)) + 1 : Int) : Rat) ≤ ((l / (N.length : Int) : Int) : Rat) := Rat.intCast_le_intCast.2 e
    rw [Rat.intCast_add, show ((1 : Int) : Rat) = 1 from rfl] at hc
    grind
theorem Wd.nt_zero : nt p N 0 = zer p.length := by
  have _ := h
  unfold nt
  rw [Int.zero_ediv, Int.zero_emod, shf_zero]
  rfl
theorem Wd.nt_low {i : Nat} (hi : i ≤ N.length) : nt p N (i : Int) = zat p N i := by
  have h0 := h.pos
  rcases Nat.lt_or_ge i N.length with g | g
  · unfold nt
    rw [Int.ediv_eq_zero_of_lt (by omega) (by omega), Int.emod_eq_of_lt (by omega) (by omega), shf_zero, Int.toNat_natCast]
  · obtain rfl : i = N.length := by omega
    have := h.nt_shift 0 1
    rw [Int.zero_add, Int.one_mul, h.nt_zero] at this
    rw [this, h.zlast, ov_shf, show p.length - 1 + 1 = p.length by have := (pr_one h.pr).2; omega]
theorem Wd.nt_nic {n : Nat} (hn : ∀ x ∈ zer p.length :: N, ∀ y ∈ zer p.length :: N, Nic n (subZ x y)) (k l : Int) : Nic n (subZ (nt p N k) (nt p N l)) := by
  have h0 := h.pos
  have hN : (0 : Int) < (N.length : Int) := by omega
  have a1 := Int.emod_nonneg k (show (N.length : Int) ≠ 0 by omega)
  have a2 := Int.emod_lt_of_pos k hN
  have b1 := Int.emod_nonneg l (show (N.length : Int) ≠ 0 by omega)
  have b2 := Int.emod_lt_of_pos l hN
  unfold nt
  rw [shf_sub (by rw [h.zlen (by omega), h.zlen (by omega)])]
  exact nic_shf (hn _ (h.zmem (by omega)) _ (h.zmem (by omega)))
/-- The notes from one note on, up to a period above it, are a right scale. -/
theorem Wd.pick (k0 : Int) (ks : List Int) (hl : ks.length ≤ 10) (hup : (k0 :: ks).Pairwise (· < ·)) (hlast : ks[ks.length - 1]? = some (k0 + (N.length : Int))) : Wd p (ks.map fun k => subZ (nt p N k) (nt p N k0)) := by
  obtain ⟨n, hn⟩ := h.dif
  have hz : zer p.length :: (ks.map fun k => subZ (nt p N k) (nt p N k0)) = (k0 :: ks).map fun k => subZ (nt p N k) (nt p N k0) := by
    rw [List.map_cons, subZ_self, h.ntlen]
  refine ⟨h.pr, ?_, by rw [List.length_map]; exact hl, ?_, ?_, ?_, n, ?_⟩
  · intro e
    rw [List.map_eq_nil_iff] at e
    rw [e] at hlast
    cases hlast
  · intro x hx
    obtain ⟨k, _, rfl⟩ := List.mem_map.1 hx
    rw [subZ_len (by rw [h.ntlen, h.ntlen]), h.ntlen]
  · rw [List.length_map, List.getElem?_map, hlast, Option.map_some]
    have e := h.nt_shift k0 1
    rw [Int.one_mul] at e
    have e2 : subZ (shf 1 (nt p N k0)) (nt p N k0) = shf 1 (zer p.length) := by
      have := shf_sub (q := 1) (r := 0) (x := nt p N k0) (y := nt p N k0) rfl
      rw [shf_zero, subZ_self, h.ntlen] at this
      exact this
    rw [e, e2, ov_shf, show p.length - 1 + 1 = p.length by have := (pr_one h.pr).2; omega]
  · rw [hz]
    unfold Srt
    rw [List.pairwise_map]
    refine hup.imp fun {a b} g => ?_
    rw [sF_sub _ _ _ (by rw [h.ntlen, h.ntlen]), sF_sub _ _ _ (by rw [h.ntlen, h.ntlen])]
    have := h.nt_lt g
    grind
  · rw [hz]
    intro x hx y hy
    obtain ⟨k, _, rfl⟩ := List.mem_map.1 hx
    obtain ⟨l, _, rfl⟩ := List.mem_map.1 hy
    rw [subZ_subZ (by rw [h.ntlen, h.ntlen]) (by rw [h.ntlen, h.ntlen])]
    exact h.nt_nic hn k l
end
/-- A mode. -/
def mdI (N : List (List Rat)) (m : Int) : List Int := (List.range N.length).map fun (i : Nat) => m + (i : Int) + 1
def md (p : List Int) (N : List (List Rat)) (m : Int) : List (List Rat) := (mdI N m).map fun k => subZ (nt p N k) (nt p N m)
theorem mdI_len (N : List (List Rat)) (m : Int) : (mdI N m).length = N.length := by unfold mdI; simp
theorem md_len (p : List Int) (N : List (List Rat)) (m : Int) : (md p N m).length = N.length := by unfold md; rw [List.length_map, mdI_len]
theorem Wd.mode {p : List Int} {N : List (List Rat)} (h : Wd p N) (m : Int) : Wd p (md p N m) := by
  refine h.pick m (mdI N m) (by rw [mdI_len]; exact h.few) ?_ ?_
  · rw [List.pairwise_cons]
    constructor
    · intro b hb
      unfold mdI at hb
      obtain ⟨i, _, rfl⟩ := List.mem_map.1 hb
      omega
    · unfold mdI
      rw [List.pairwise_map]
      exact List.pairwise_lt_range.imp fun {a b} g => by omega
  · have := h.pos
    rw [mdI_len]
    unfold mdI
    rw [List.getElem?_map, List.getElem?_range (by omega)]
    simp
    omega
theorem md_at {p : List Int} {N : List (List Rat)} {m : Int} {i : Nat} (hi : i < N.length) : (md p N m)[i]? = some (subZ (nt p N (m + (i : Int) + 1)) (nt p N m)) := by
  unfold md mdI
  rw [List.getElem?_map, List.getElem?_map, List.getElem?_range hi]
  rfl
/-- The notes of a mode. -/
theorem Wd.nt_md {p : List Int} {N : List (List Rat)} (h : Wd p N) (m k : Int) : nt p (md p N m) k = subZ (nt p N (m + k)) (nt p N m) := by
  have h0 := h.pos
  have hN : (0 : Int) < (N.length : Int) := by omega
  have a1 := Int.emod_nonneg k (show (N.length : Int) ≠ 0 by omega)
  have a2 := Int.emod_lt_of_pos k hN
  have a3 := Int.mul_ediv_add_emod k (N.length : Int)
  have e : m + k = (m + k % (N.length : Int)) + k / (N.length : Int) * (N.length : Int) := by rw [Int.mul_comm (k / _)]; omega
  have e2 : subZ (shf (k / (N.length : Int)) (nt p N (m + k % (N.length : Int)))) (nt p N m) = shf (k / (N.length : Int)) (subZ (nt p N (m + k % (N.length : Int))) (nt p N m)) := by
    have := shf_sub (q := k / (N.length : Int)) (r := 0) (x := nt p N (m + k % (N.length : Int))) (y := nt p N m) (by rw [h.ntlen, h.ntlen])
    rw [shf_zero, Int.sub_zero] at this
    exact this
  rw [e, h.nt_shift, e2]
  unfold nt
  rw [md_len]
  congr 1
  obtain ⟨i, hi⟩ : ∃ i : Nat, (i : Int) = k % (N.length : Int) := ⟨(k % (N.length : Int)).toNat, by omega⟩
  rw [← hi, Int.toNat_natCast]
  cases i with
  | zero =>
    rw [show m + ((0 : Nat) : Int) = m by omega, subZ_self]
    show zer p.length = zer (nt p N m).length
    rw [h.ntlen]
  | succ i =>
    unfold zat
    rw [List.getElem?_cons_succ, md_at (by omega)]
    show subZ (nt p N (m + (i : Int) + 1)) (nt p N m) = _
    rw [show m + (i : Int) + 1 = m + ((i + 1 : Nat) : Int) by omega]
    rfl
/-- What scale.note answers is the note. -/
theorem Wd.noteQ {p : List Int} {rs : List Qw} {n : Nat} (h : Wd p (rs.map Qw.x)) (hn : rs.length = n + 1) (k : Int) : noteQ rs n k = nt p (rs.map Qw.x) k := by
  have hl : (rs.map Qw.x).length = n + 1 := by rw [List.length_map, hn]
  have h0 := (pr_one h.pr).2
  have hlast := h.last
  have a1 := Int.emod_nonneg k (show (n : Int) + 1 ≠ 0 by omega)
  have a2 := Int.emod_lt_of_pos k (show (0 : Int) < (n : Int) + 1 by omega)
  rw [hl, show n + 1 - 1 = n by omega, List.getElem?_map] at hlast
  unfold Go.Proofs.YtajdfggocldeaaaGreatDoor.noteQ nt
  rw [hl, show ((n + 1 : Nat) : Int) = (n : Int) + 1 by omega, hlast]
  show (if k % ((n : Int) + 1) = 0 then mulZ (ov (p.length - 1)) ((k / ((n : Int) + 1) : Int) : Rat) else addZ (mulZ (ov (p.length - 1)) ((k / ((n : Int) + 1) : Int) : Rat)) (((rs[(k % ((n : Int) + 1)).toNat - 1]?).map Qw.x).getD [])) = _
  rw [mul_ov, show p.length - 1 + 1 = p.length by omega]
  by_cases e : k % ((n : Int) + 1) = 0
  · rw [if_pos e, e]
    rfl
  · rw [if_neg e]
    obtain ⟨i, hi⟩ : ∃ i : Nat, ((i + 1 : Nat) : Int) = k % ((n : Int) + 1) := ⟨(k % ((n : Int) + 1)).toNat - 1, by omega⟩
    rw [← hi, Int.toNat_natCast, Nat.add_sub_cancel]
    unfold zat
    rw [List.getElem?_cons_succ, List.getElem?_map]
    have hlx : (((rs[i]?).map Qw.x).getD []).length = p.length := by
      rw [← List.getElem?_map, List.getElem?_eq_getElem (by rw [hl]; omega)]
      exact h.len _ (List.getElem_mem _)
    generalize ((rs[i]?).map Qw.x).getD [] = y at *
    rw [← hlx]
    exact add_shf
/-- A right scale is right for the walks. -/
theorem Wd.right {p : List Int} {rs : List Qw} (h : Wd p (rs.map Qw.x)) : Right p rs := by
  obtain ⟨n, hn⟩ := h.dif
  have h0 := (pr_one h.pr).2
  have hne := h.pos
  rw [List.length_map] at hne
  have hfew := h.few
  rw [List.length_map] at hfew
  have hprev : ∀ k r, rs[k]? = some r → prevQ p.length rs k = zat p (rs.map Qw.x) k ∧ r.x = zat p (rs.map Qw.x) (k + 1) ∧ k < rs.length := fun k r hr => by
    refine ⟨?_, ?_, (List.getElem?_eq_some_iff.1 hr).1⟩
    · unfold prevQ zat
      cases k with
      | zero => rfl
      | succ k => rw [if_neg (by omega), List.getElem?_cons_succ, List.getElem?_map, Nat.add_sub_cancel]
    · unfold zat
      rw [List.getElem?_cons_succ, List.getElem?_map, hr]
      rfl
  have hsm : ∀ x, Nic n x → x.length = p.length → -67108864 ≤ sF p x → sF p x ≤ 67108864 → Quick p x := fun x hx hl g1 g2 =>
    nic_quick (c := 1) (by rw [hl]; exact h.pr) hx (by omega) (by omega) (by
      rw [show ((1 * 67108864 : Int) : Rat) = 67108864 from rfl]; exact g1) (by
      rw [show ((1 * 67108864 : Int) : Rat) = 67108864 from rfl]; exact g2)
  have hall : ∀ i, i ≤ (rs.map Qw.x).length → 0 ≤ sF p (zat p (rs.map Qw.x) i) ∧ sF p (zat p (rs.map Qw.x) i) ≤ 67108864 := fun i hi => by
    rcases Nat.lt_or_ge i (rs.map Qw.x).length with g | g
    · have := h.zbd g
      exact ⟨this.1, Rat.le_of_lt this.2⟩
    · rw [show i = (rs.map Qw.x).length by omega, h.zlast, h.sov]
      exact ⟨by decide, Rat.le_refl⟩
  have hq : ∀ k r, rs[k]? = some r → Nic n (subZ (prevQ p.length rs k) r.x) ∧ sF p (subZ (prevQ p.length rs k) r.x) < 0 ∧ Quick p (subZ (prevQ p.length rs k) r.x) ∧ (subZ (prevQ p.length rs k) r.x).length = p.length := fun k r hr => by
    obtain ⟨e1, e2, e3⟩ := hprev k r hr
    rw [e1, e2]
    have hl1 := h.zlen (i := k) (by rw [List.length_map]; omega)
    have hl2 := h.zlen (i := k + 1) (by rw [List.length_map]; omega)
    have b1 := hall k (by rw [List.length_map]; omega)
    have b2 := hall (k + 1) (by rw [List.length_map]; omega)
    have hlt := h.zlt (i := k) (j := k + 1) (by omega) (by rw [List.length_map]; omega)
    have hni := hn _ (h.zmem (i := k) (by rw [List.length_map]; omega)) _ (h.zmem (i := k + 1) (by rw [List.length_map]; omega))
    have hl3 := subZ_len (hl1.trans hl2.symm)
    have hs := sF_sub p _ _ (hl1.trans hl2.symm)
    refine ⟨hni, by grind, hsm _ hni (hl3.trans hl1) (by grind) (by grind), hl3.trans hl1⟩
  refine ⟨?_, ?_, by omega, by omega, fun r hr => h.len _ (List.mem_map_of_mem hr), ?_, fun k r hr => (hq k r hr).2.2.1, ?_⟩
  · rcases h.pr with ⟨e, _⟩ | ⟨e, _⟩ <;> rw [e] <;> decide
  · rcases h.pr with ⟨e, _⟩ | ⟨e, _⟩ <;> rw [e] <;> decide
  · intro r hr
    obtain ⟨k, hk⟩ := List.mem_iff_getElem?.1 hr
    obtain ⟨_, e2, e3⟩ := hprev k r hk
    have hni := hn _ (h.zmem (i := k + 1) (by rw [List.length_map]; omega)) _ (List.mem_cons_self ..)
    have hl2 := h.zlen (i := k + 1) (by rw [List.length_map]; omega)
    rw [← e2] at hni hl2
    have hb := hall (k + 1) (by rw [List.length_map]; omega)
    rw [← e2] at hb
    rw [← hl2, subZ_zer] at hni
    exact (hsm _ hni hl2 (by grind) hb.2).1
  · intro k r hr
    obtain ⟨h1, h2, _, h4⟩ := hq k r hr
    rw [nice_sgn (by rw [h4]; exact h.pr) h1.nice]
    unfold sgQ
    rw [if_pos h2]
end Go.Proofs.YtajdfggocldeaaaGreatDoor

namespace Go.Proofs.YtajdfggocldeaaaGreatDoor
open Go.RowKit Go.Lib
attribute [local go_sem] Oper.semAt_some
theorem toList_inj {s t : ByteArray} (h : s.toList = t.toList) : s = t := by
  rw [Lib.toList_data, Lib.toList_data] at h
  exact ByteArray.ext (Array.toList_inj.1 h)
theorem slEq_c (va vb : Value) (x y : List Rat) (w : World) (ha : Rd w va x) (hb : Rd w vb y) (hx : x.length ≤ 1000) (hy : y.length ≤ 1000) :
    Calls Tryz.prog 56 #[va, vb] w fun e w' => e = .returned (.bool (decide (x = y))) ∧ Ext w w' := by
  obtain ⟨aa, ca, rfl, _, _, hca⟩ := ha.parts
  obtain ⟨ab, cb, rfl, _, _, hcb⟩ := hb.parts
  clear ha hb
  by_cases hl : x.length = y.length
  · have Hl := Lib.hid hl
    rw [← hl]
    have hfin : (∀ i, i < x.length → x[i]? = y[i]?) → decide (x = y) = true := fun h => by
      rw [decide_eq_true_eq]
      apply List.ext_getElem? 
      intro i
      rcases Nat.lt_or_ge i x.length with g | g
      · exact h i g
      · rw [List.getElem?_eq_none g, List.getElem?_eq_none (by omega)]
    generalize hn : x.length = n at *
    have hbad : ∀ (i : Nat) (q r : Rat), x[i]? = some q → y[i]? = some r → q ≠ r → decide (x = y) = false := fun i q r h1 h2 h3 => by
      rw [decide_eq_false_iff_not]
      rintro rfl
      rw [h1] at h2
      exact h3 (Option.some.inj h2)
    clear hl hy
    have Hca := Lib.hid hca; have Hcb := Lib.hid hcb; have Hfin := Lib.hid hfin; have Hbad := Lib.hid hbad; have Hn := Lib.hid hn; clear hca hcb hfin hbad hn
    go_enter Tryz.func56, Tryz.ntmps56
    go_wp2_with fail
    go_loopw [5, 13] (fun v5 v13 wr => ∃ k : Nat, v13 = .int .i64 k ∧ k ≤ n ∧ (∀ i, i < k → x[i]? = y[i]?) ∧ Ext w wr) (fun _ v13 _ => n - (intOf v13).toNat)
    case atStart => exact ⟨0, rfl, Nat.zero_le _, fun i h => by omega, Ext.refl _⟩
    case round =>
      obtain ⟨k, rfl, hk, hall, hE⟩ := hrel
      by_cases hkn : k < n
      · obtain ⟨q, hq⟩ : ∃ q, x[k]? = some q := ⟨_, List.getElem?_eq_getElem (by rw [Hn.out]; exact hkn)⟩
        obtain ⟨r, hr⟩ : ∃ r, y[k]? = some r := ⟨_, List.getElem?_eq_getElem (by rw [← Hl.out]; exact hkn)⟩
        obtain ⟨ba, oa, rfl, hx0, hx1⟩ := Hca.out k q hq
        obtain ⟨bb, ob, rfl, hy0, hy1⟩ := Hcb.out k r hr
        have c0 := hE.cell hx0; have c1 := hE.cell hx1
        have e0 := hE.cell hy0; have e1 := hE.cell hy1
        have hk0 : (0 : Int) ≤ (k : Int) := by omega
        have hk1 : (k : Int) < (n : Int) := by omega
        clear hx0 hx1 hy0 hy1
        by_cases hqr : q = r
        · subst hqr
          have hnx : ∀ i, i < k + 1 → x[i]? = y[i]? := fun i hi => by
            rcases Nat.lt_or_ge i k with g | g
            · exact hall i g
            · rw [show i = k by omega, hq, hr]
          generalize I q.num = s1 at *
          generalize I (q.den : Int) = s2 at *
          clear hall hq hr
          have Hnx := Lib.hid hnx; have HE := Lib.hid hE; clear hnx hE
          go_wp2_with fail
          go_quiet (fail)
          go_wp2_with fail
          go_roundw
          case rel => exact ⟨k + 1, by go_num, by omega, Hnx.out, HE.out.drewN _⟩
          case measure => simp [intOf]; omega
        · have hb1 := Hbad.out k q r hq hr hqr
          have hpart : ¬ (I q.num).toList = (I r.num).toList ∨ ((I r.num).toList = (I q.num).toList ∧ ¬ (I (q.den : Int)).toList = (I (r.den : Int)).toList) := by
            by_cases g : (I q.num).toList = (I r.num).toList
            · refine Or.inr ⟨g.symm, fun g2 => hqr (Rv_inj ?_)⟩
              unfold Rv
              rw [toList_inj g, toList_inj g2]
            · exact Or.inl g
          generalize I q.num = s1 at *
          generalize I (q.den : Int) = s2 at *
          generalize I r.num = s3 at *
          generalize I (r.den : Int) = s4 at *
          clear hall hq hr hqr
          have Hb1 := Lib.hid hb1; have HE := Lib.hid hE; clear hb1 hE
          rcases hpart with g | ⟨g, g2⟩
          all_goals
            go_wp2_with fail
            go_quiet (fail)
            go_wp2
            go_ret
            exact ⟨by rw [Hb1.out]; rfl, HE.out.drewN _⟩
      · obtain rfl : n = k := by omega
        have hf := Hfin.out hall
        clear hall
        have Hf := Lib.hid hf; have HE := Lib.hid hE; clear hf hE
        go_wp2
        go_ret
        exact ⟨by rw [Hf.out]; rfl, HE.out⟩
  · have hne : decide (x = y) = false := by
      rw [decide_eq_false_iff_not]
      rintro rfl
      exact hl rfl
    rw [hne]
    clear hca hcb hne
    have hl2 : ¬ (x.length : Int) = (y.length : Int) := by omega
    generalize x.length = n at *
    generalize y.length = m at *
    go_enter Tryz.func56, Tryz.ntmps56
    go_wp2
    go_ret
    exact ⟨rfl, Ext.refl _⟩
theorem sEq_c (va vb : Value) (x y : List Rat) (w : World) (ha : Rd w va x) (hb : Rd w vb y) (hx : x.length ≤ 1000) (hy : y.length ≤ 1000) :
    Calls Tryz.prog 28 #[va, vb] w fun e w' => e = .returned (.bool (decide (x = y))) ∧ Ext w w' := by
  have h := slEq_c va vb x y w ha hb hx hy
  obtain ⟨aa, ca, rfl, _, _, _⟩ := ha.parts
  obtain ⟨ab, cb, rfl, _, _, _⟩ := hb.parts
  generalize decide (x = y) = b at *
  clear ha hb
  have H := Lib.hid h; clear h
  go_enter Tryz.func28, Tryz.ntmps28
  go_wp2_with fail
  refine (H.out).mono ?_
  rintro e w1 ⟨rfl, hx1⟩
  have Hx1 := Lib.hid hx1; clear hx1
  go_wp2
  go_ret
  exact ⟨rfl, Hx1.out⟩
end Go.Proofs.YtajdfggocldeaaaGreatDoor

namespace Go.Proofs.YtajdfggocldeaaaGreatDoor
open Go.RowKit Go.Lib
theorem cloneQ_c (v : Value) (x : List Rat) (w : World) (hx : Rd w v x) (hl : x.length ≤ 1000000) (hne : x ≠ []) :
    Calls Tryz.prog 43 #[v] w fun e w' => ∃ u, e = .returned u ∧ OwnQ w' w.heap.size u x ∧ Ext w w' := by
  obtain ⟨i0, hi, hz0, hz1, hz2⟩ := info_parts info_rat
  rcases hx with ⟨a, cap, rfl, hm, e⟩ | ⟨b, off, cap, rfl, h1, h2, hc⟩
  · exact absurd e hne
  · have hcell : ∀ j u, (rcs x)[j]? = some u → w.cell? ⟨b, off + j, none⟩ = some u := fun j u hu => by
      have hj : j < (rcs x).length := (List.getElem?_eq_some_iff.1 hu).1
      rw [rcs_length] at hj
      obtain ⟨r, hr⟩ : ∃ r, x[j / 2]? = some r := ⟨_, List.getElem?_eq_getElem (by omega)⟩
      obtain ⟨e1, e2⟩ := rcs_at hr
      obtain ⟨g1, g2⟩ := hc (j / 2) r hr
      rcases (by omega : j = j / 2 * 2 ∨ j = j / 2 * 2 + 1) with e | e
      · rw [e, e1] at hu; cases hu; rw [e]; exact g1
      · rw [e, e2] at hu; cases hu; rw [e, ← Nat.add_assoc]; exact g2
    exact (AnyE.slices_Clone Tryz.lCloneQ i0 (.agg #[.string ByteArray.empty, .string ByteArray.empty]) 2 32 hi hz0 hz1 hz2 rfl (by decide) Tryz.sizeOf55 b off x.length cap (rcs x) w (by rw [rcs_length]; omega) (by unfold maxLen; omega) (by omega) hcell (by
      intro u hu
      unfold rcs at hu
      obtain ⟨r, _, hr⟩ := List.mem_flatMap.1 hu
      simp only [rc, List.mem_cons, List.not_mem_nil, or_false] at hr
      rcases hr with rfl | rfl <;> rfl)).mono fun e w' ⟨v', he, ho, _, hb⟩ => ⟨v', he, ho, hb⟩
theorem qwc_snoc (rs : List Qw) (r : Qw) : qwc (rs ++ [r]) = qwc rs ++ [r.u] := by simp [qwc]
theorem QwM.nil (w : World) (b B : Nat) : QwM w b B (.slice none 0 0) [] := ⟨World.ownsRow_nil w _ _ 1, fun _ h => by cases h⟩
/-- A list of sizes with one more: behind the append. -/
theorem QwM.more {w0 W V : World} {o : Obj} {v v7 : Value} {rs : List Qw} {r : Qw} (hE : Ext w0 W) (h : QwM W w0.heap.size w0.heap.size v rs) (hr : OwnQ W w0.heap.size r.u r.x)
    (hown : V.ownsRow w0.heap.size 28 1 v7 (rs.length + 1) (qwc rs ++ [r.u])) (hgrow : (W.alloc o).grownBy V v.ownBlock) : QwM V w0.heap.size w0.heap.size v7 (rs ++ [r]) ∧ Ext w0 V := by
  have hal := h.1.alloc o
  have hkeep : ∀ s : Qw, OwnQ W w0.heap.size s.u s.x → OwnQ V w0.heap.size s.u s.x := fun s hs => World.ownsRow.kept (World.ownsRow.alloc hs o) hgrow (own_ne (World.ownsRow.alloc hs o) hal (by decide))
  refine ⟨⟨?_, fun s hs => ?_⟩, (hE.alloc o).grown hgrow fun k hk => (World.ownsRow.lt hal k hk).1⟩
  · rw [List.length_append, List.length_singleton, qwc_snoc]; exact hown
  · rcases List.mem_append.1 hs with g | g
    · exact hkeep s (h.2 s g)
    · rw [List.mem_singleton] at g
      subst g
      exact hkeep s hr
end Go.Proofs.YtajdfggocldeaaaGreatDoor
