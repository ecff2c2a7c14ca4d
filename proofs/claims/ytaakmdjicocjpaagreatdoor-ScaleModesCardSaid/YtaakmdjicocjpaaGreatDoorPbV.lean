/- Plain: modes again, the subset of all notes, the collection of a scale's own notes, the sum of the steps. Plain: a world's scale has at most nine notes; the steps as differences of its notes. -/
import Derived.Test.YtaakmdjicocjpaaGreatDoorPbM
import Derived.Test.YtaakmdjicocjpaaGreatDoorPaT
import Derived.Test.YtaakmdjicocjpaaGreatDoorPbH
import Derived.Test.YtaakmdjicocjpaaGreatDoorPbL
namespace Go.Proofs.YtaakmdjicocjpaaGreatDoor

theorem sub_zero' {n : Nat} {l : List Int} : ∀ (m k : Nat), (∀ i, k ≤ i → i < k + m → stepE n l i = 0) → subFrom n l k m = 0
  | 0, _, _ => rfl
  | m + 1, k, h => by
    rw [subFrom, if_pos (h k (Nat.le_refl _) (by omega))]
    exact sub_zero' m (k + 1) fun i h1 h2 => h i (by omega) (by omega)
/-- All indices. -/
def allI (n : Nat) : List Int := (List.range n).map fun (i : Nat) => (i : Int)
theorem allI_len (n : Nat) : (allI n).length = n := by unfold allI; simp
theorem allI_at {n i : Nat} (hi : i < n) : (allI n)[i]? = some (i : Int) := by
  unfold allI
  rw [List.getElem?_map, List.getElem?_range hi]
  rfl
theorem subE_all {n : Nat} (h0 : 0 < n) : subE n (allI n) = 0 := by
  have hne : allI n ≠ [] := fun e => by
    have := allI_len n
    rw [e] at this
    simp at this
    omega
  unfold subE
  rw [if_neg hne, allI_len]
  refine sub_zero' n 0 fun i _ hi => ?_
  unfold stepE
  rw [allI_at (by omega), Option.getD_some]
  rw [if_neg (by omega)]
  refine if_neg fun g => ?_
  rw [allI_at (by omega), Option.getD_some] at g
  omega
theorem subK_all {n : Nat} (h0 : 0 < n) : subK n (allI n) = (List.range n).map fun (i : Nat) => (0 : Int) + (i : Int) + 1 := by
  obtain ⟨m, rfl⟩ : ∃ m, n = m + 1 := ⟨n - 1, by omega⟩
  have e : allI (m + 1) = 0 :: (List.range m).map fun (i : Nat) => (i : Int) + 1 := by
    unfold allI
    rw [List.range_succ_eq_map, List.map_cons, List.map_map]
    rfl
  unfold subK
  rw [e, List.tail_cons, List.headD_cons, List.range_succ, List.map_append]
  have e2 : ((List.range m).map fun (i : Nat) => (i : Int) + 1) = (List.range m).map fun (i : Nat) => (0 : Int) + (i : Int) + 1 := List.map_congr_left fun i _ => by omega
  rw [e2, List.map_singleton, show (0 : Int) + ((m + 1 : Nat) : Int) = 0 + (m : Int) + 1 by omega]
section
variable {p : List Int} {N : List (List Rat)} (h : Wd p N)
include h
theorem Wd.md_mod (m q : Int) : md p N (m + q * (N.length : Int)) = md p N m := by
  refine List.ext_getElem? fun i => ?_
  by_cases hi : i < N.length
  · have e : m + q * (N.length : Int) + (i : Int) + 1 = (m + (i : Int) + 1) + q * (N.length : Int) := by generalize q * (N.length : Int) = t; omega
    rw [md_at hi, md_at hi, e, h.nt_shift, h.nt_shift, shf_sub (by rw [h.ntlen, h.ntlen]), Int.sub_self, shf_zero]
  · rw [List.getElem?_eq_none (by rw [md_len]; omega), List.getElem?_eq_none (by rw [md_len]; omega)]
theorem Wd.md_rem (m : Int) : md p N (m % (N.length : Int)) = md p N m := by
  have := h.md_mod (m % (N.length : Int)) (m / (N.length : Int))
  rw [← this]
  congr 1
  have := Int.emod_add_mul_ediv m (N.length : Int)
  rw [Int.mul_comm] at this
  exact this
omit h in
theorem zat_mem {i : Nat} (hi : i < N.length) : N[i]? = some (zat p N (i + 1)) := by
  unfold zat
  rw [List.getElem?_cons_succ, List.getElem?_eq_getElem hi, Option.getD_some]
theorem Wd.md_zero : md p N 0 = N := by
  refine List.ext_getElem? fun i => ?_
  by_cases hi : i < N.length
  · have e : (0 : Int) + (i : Int) + 1 = ((i + 1 : Nat) : Int) := by omega
    have hz := subZ_zer (nt p N ((i + 1 : Nat) : Int))
    rw [h.ntlen] at hz
    rw [md_at hi, e, h.nt_zero, hz, h.nt_low (by omega), zat_mem (p := p) hi]
  · rw [List.getElem?_eq_none (by rw [md_len]; omega), List.getElem?_eq_none (by omega)]
theorem Wd.sub_all : subN p N (allI N.length) = N := by
  have h0 := h.pos
  have e : (allI N.length).headD 0 = 0 := by
    obtain ⟨m, hm⟩ : ∃ m, N.length = m + 1 := ⟨N.length - 1, by omega⟩
    rw [hm]
    unfold allI
    rw [List.range_succ_eq_map]
    rfl
  unfold subN
  rw [subK_all h0, e]
  exact h.md_zero
theorem Wd.zlow {i : Nat} (hi : i < N.length) : rst p (zat p N i) = zat p N i := by
  obtain ⟨n, hn⟩ := h.dif
  have hl := h.zlen (Nat.le_of_lt hi)
  have hni := hn _ (h.zmem (Nat.le_of_lt hi)) _ (List.mem_cons_self ..)
  rw [← hl, subZ_zer] at hni
  obtain ⟨a, tl, e, hl2, hb⟩ := nic_tail (by rw [hl]; exact h.pr) hni
  have hbd := h.zbd hi
  unfold rst
  rw [e] at hl hbd ⊢
  have hf : flP p (a :: tl) = 0 := by
    rw [flP_eq (by rw [hl]; exact h.pr) hb, Int.eq_iff_le_and_ge]
    constructor
    · have g1 := Rat.floor_le (sF p (a :: tl) / 67108864)
      have : ((sF p (a :: tl) / 67108864).floor : Rat) < ((1 : Int) : Rat) := by rw [show ((1 : Int) : Rat) = 1 from rfl]; grind
      have := Rat.intCast_lt_intCast.1 this
      omega
    · show (0 : Int) ≤ _
      rw [Rat.le_floor_iff, show ((0 : Int) : Rat) = 0 from rfl]
      grind
  rw [hf]
  exact shf_zero _
theorem Wd.zov : rst p (ov (p.length - 1)) = zer p.length := by
  obtain ⟨n, hn⟩ := h.dif
  have hl := h.zlen (Nat.le_refl _)
  have hni := hn _ (h.zmem (Nat.le_refl _)) _ (List.mem_cons_self ..)
  rw [← hl, subZ_zer] at hni
  rw [h.zlast] at hni hl
  obtain ⟨a, tl, e, hl2, hb⟩ := nic_tail (by rw [hl]; exact h.pr) hni
  have hf : flP p (ov (p.length - 1)) = 1 := by
    have hs := h.sov
    rw [e] at hs hl ⊢
    rw [flP_eq (by rw [hl]; exact h.pr) hb, hs]
    decide +kernel
  unfold rst
  rw [hf, ov_pr h.pr, shf_shf]
  exact shf_zero _
theorem Wd.lw : Lw p 1 N := by
  obtain ⟨n, hn⟩ := h.dif
  refine ⟨h.pr, h.len, by omega, by omega, fun x hx => ?_, n, hn⟩
  obtain ⟨i, hi, e⟩ := List.getElem_of_mem hx
  have hz := zat_mem (p := p) hi
  rw [List.getElem?_eq_getElem hi, e] at hz
  rw [Option.some.inj hz, show ((1 * 67108864 : Int) : Rat) = 67108864 from rfl]
  rcases Nat.lt_or_ge (i + 1) N.length with g | g
  · have := h.zbd g
    constructor <;> grind
  · rw [show i + 1 = N.length by omega, h.zlast, h.sov]
    constructor <;> grind
theorem Wd.own_coll : Coll p N N := by
  have hup := h.up
  unfold Srt at hup
  rw [List.pairwise_cons] at hup
  refine ⟨hup.2, fun x => ⟨fun hx => ?_, ?_⟩⟩
  · obtain ⟨i, hi, e⟩ := List.getElem_of_mem hx
    have hz := zat_mem (p := p) hi
    rw [List.getElem?_eq_getElem hi, e] at hz
    have hz := Option.some.inj hz
    rcases Nat.lt_or_ge (i + 1) N.length with g | g
    · right
      refine ⟨fun e0 => ?_, x, hx, by rw [hz]; exact (h.zlow g).symm⟩
      have := hup.1 x hx
      rw [e0] at this
      grind
    · left
      rw [hz, show i + 1 = N.length by omega, h.zlast]
  · rintro (e | ⟨h0, y, hy, e⟩)
    · rw [e]
      exact List.mem_of_getElem? h.last
    · obtain ⟨i, hi, ey⟩ := List.getElem_of_mem hy
      have hz := zat_mem (p := p) hi
      rw [List.getElem?_eq_getElem hi, ey] at hz
      have hz := Option.some.inj hz
      rcases Nat.lt_or_ge (i + 1) N.length with g | g
      · rw [hz, h.zlow g, ← hz] at e
        rw [e]
        exact hy
      · rw [hz, show i + 1 = N.length by omega, h.zlast, h.zov] at e
        exact absurd e h0
theorem Wd.coll_own {M : List (List Rat)} (hM : Coll p N M) : M = N := coll_uniq hM h.own_coll
/-- A step, and the notes above it. -/
def stZ (p : List Int) (N : List (List Rat)) (i : Nat) : List Rat := subZ (zat p N (i + 1)) (zat p N i)
omit h in
theorem addZ_subZ : ∀ {x y : List Rat}, x.length = y.length → addZ y (subZ x y) = x
  | [], [], _ => rfl
  | a :: x, b :: y, hl => by
    have ih := addZ_subZ (x := x) (y := y) (by simpa using hl)
    unfold addZ subZ at ih ⊢
    simp only [List.zipWith_cons_cons, ih]
    congr 1
    grind
theorem Wd.sum_step {i : Nat} (hi : i < N.length) : addZ (zat p N i) (stZ p N i) = zat p N (i + 1) :=
  addZ_subZ (by rw [h.zlen (by omega), h.zlen (by omega)])
theorem Wd.st_pos {i : Nat} (hi : i < N.length) : 0 < sF p (stZ p N i) := by
  unfold stZ
  rw [sF_sub _ _ _ (by rw [h.zlen (by omega), h.zlen (by omega)])]
  have := h.zlt (i := i) (j := i + 1) (by omega) (by omega)
  grind
theorem Wd.st_nt {i : Nat} (hi : i < N.length) : stZ p N i = subZ (nt p N ((i + 1 : Nat) : Int)) (nt p N (i : Int)) := by
  unfold stZ
  rw [h.nt_low (by omega), h.nt_low (by omega)]
end
end Go.Proofs.YtaakmdjicocjpaaGreatDoor

namespace Go.Proofs.YtaakmdjicocjpaaGreatDoor

theorem coll_len {p : List Int} {l M : List (List Rat)} (hM : Coll p l M) {z0 : List Rat} (hz : z0 ∈ l) (h0 : rst p z0 = zer p.length) : M.length ≤ l.length := by
  have hnd : M.Nodup := hM.1.imp fun {a b} g e => by rw [e] at g; grind
  have hs : M ⊆ ov (p.length - 1) :: (l.erase z0).map (rst p) := fun x hx => by
    rcases (hM.2 x).1 hx with e | ⟨g0, y, hy, e⟩
    · rw [e]; exact List.mem_cons_self ..
    · refine List.mem_cons_of_mem _ ?_
      rw [e]
      refine List.mem_map_of_mem ((List.mem_erase_of_ne fun k => g0 ?_).2 hy)
      rw [e, k, h0]
  have h1 := nodup_len hnd hs
  have h2 := List.length_erase_of_mem hz
  have h3 := List.length_pos_of_mem hz
  rw [List.length_cons, List.length_map] at h1
  omega
theorem coll_len1 {p : List Int} {l M : List (List Rat)} (hM : Coll p l M) : M.length ≤ l.length + 1 := by
  have hnd : M.Nodup := hM.1.imp fun {a b} g e => by rw [e] at g; grind
  have hs : M ⊆ ov (p.length - 1) :: l.map (rst p) := fun x hx => by
    rcases (hM.2 x).1 hx with e | ⟨g0, y, hy, e⟩
    · rw [e]; exact List.mem_cons_self ..
    · exact List.mem_cons_of_mem _ (by rw [e]; exact List.mem_map_of_mem hy)
  have h1 := nodup_len hnd hs
  rw [List.length_cons, List.length_map] at h1
  exact h1
theorem mul_zero_z {p : List Int} {x : List Rat} (hx : x.length = p.length) : mulZ x ((0 : Int) : Rat) = zer p.length := by
  unfold mulZ zer
  rw [← hx]
  refine List.ext_getElem (by simp) fun i h1 h2 => ?_
  rw [List.getElem_map, List.getElem_replicate]
  exact Rat.mul_zero _
/-- At most nine notes. -/
theorem wl_nine (a : Wl) {M : List (List Rat)} (hM : Coll a.p a.sizes M) : M.length ≤ 9 := by
  have hw := wl_wd a hM
  have hn := a.n9
  have hpw := a.pw
  have hp := (pr_one hpw.pr).2
  by_cases h0 : a.kind % 3 = 0
  · have hs : a.sizes = mulsZ (mulZ (ov (a.p.length - 1)) (mkRat 1 a.n)) 1 a.n := by unfold Wl.sizes; rw [if_pos h0]
    have hl : a.sizes.length = a.n := by rw [hs, mulsZ_len]
    have hm : ov (a.p.length - 1) ∈ a.sizes := by
      rw [hs]
      unfold mulsZ
      refine List.mem_map.2 ⟨a.n - 1, List.mem_range.2 (by omega), ?_⟩
      rw [oc_mul hpw a.n, show (1 : Int) + ((a.n - 1 : Nat) : Int) = (a.n : Int) by omega]
      have e : ((a.n : Int) : Rat) / (a.n : Rat) = 1 := by
        show ((a.n : Nat) : Rat) / (a.n : Rat) = 1
        rw [Rat.div_def, Rat.mul_inv_cancel _ (nat_ne hn.1)]
      rcases hpw with e2 | e2 <;> rw [e2]
      · rw [oc_two, e]; rfl
      · rw [oc_three, e]; rfl
    have := coll_len hM hm hw.zov
    omega
  · by_cases h1 : a.kind % 3 = 1
    · have hs : a.sizes = mulsZ (szW a.p.length (a.xs 0)) 0 a.n := by unfold Wl.sizes; rw [if_neg h0, if_pos h1]
      have hl : a.sizes.length = a.n := by rw [hs, mulsZ_len]
      have hm : zer a.p.length ∈ a.sizes := by
        rw [hs]
        unfold mulsZ
        refine List.mem_map.2 ⟨0, List.mem_range.2 hn.1, ?_⟩
        exact mul_zero_z (szW_len _ _)
      have := coll_len hM hm (hw.zlow hw.pos)
      omega
    · have hs : a.sizes = (List.range (min a.n 8)).map fun i => szW a.p.length (a.xs i) := by unfold Wl.sizes; rw [if_neg h0, if_neg h1]
      have hl : a.sizes.length = min a.n 8 := by rw [hs, List.length_map, List.length_range]
      have := coll_len1 hM
      omega
/-- The steps that the program finds. -/
theorem stQ_eq {p : List Int} {rs : List Qw} {k : Nat} (hk : k < rs.length) : stQ p.length rs k = stZ p (rs.map Qw.x) k := by
  have h1 : ((rs[k]?).map Qw.x).getD [] = zat p (rs.map Qw.x) (k + 1) := by
    unfold zat
    rw [List.getElem?_cons_succ, List.getElem?_map]
  have h2 : prevQ p.length rs k = zat p (rs.map Qw.x) k := by
    unfold prevQ zat
    cases k with
    | zero => rfl
    | succ k => rw [if_neg (by omega), List.getElem?_cons_succ, List.getElem?_map, Nat.add_sub_cancel]
  unfold stQ stZ
  rw [h1, h2]
end Go.Proofs.YtaakmdjicocjpaaGreatDoor
