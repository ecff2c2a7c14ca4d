/- The walk of decimal's trim: what it leaves are the pieces of the value. -/
import Derived.Test.YtkamjjjimbbdmaaGreatDoorKit
namespace Go.Proofs.YtkamjjjimbbdmaaGreatDoor
open Go.RowKit Go.Lib

def TrimPost (b cap n : Nat) (l : List Nat) (e : Ending) : Prop :=
  ∃ k, k ≤ n ∧ e = .returned (.slice (some ⟨b, 0, none⟩) k cap) ∧ (∀ j, k ≤ j → j < n → nth l j = 0) ∧ (0 < k → nth l (k - 1) ≠ 0)

set_option maxHeartbeats 400000 in
theorem trim_walk (b n cap : Nat) (l : List Nat) (w : World) (hn : n ≤ cap) (hcap : cap ≤ maxLen)
    (hc : ∀ i, i < n → w.cell? ⟨b, i, none⟩ = some (.int .u64 (nth l i : Nat))) :
    Calls Tryz.prog 139 #[.slice (some ⟨b, 0, none⟩) n cap] w fun e w' => TrimPost b cap n l e ∧ w = w' := by
  unfold maxLen at hcap
  go_enter Tryz.func139, Tryz.ntmps139
  go_wp2
  go_loop [0] (fun v => ∃ k : Nat, k ≤ n ∧ v = .slice (some ⟨b, 0, none⟩) k cap ∧ (∀ j, k ≤ j → j < n → nth l j = 0)) (fun v => lenOf v)
  case atStart => exact ⟨n, Nat.le_refl _, rfl, fun j h1 h2 => by omega⟩
  case round =>
    obtain ⟨k, hk, rfl, hz⟩ := hrel
    have Hz := Lib.hid hz; clear hz
    rcases Nat.eq_zero_or_pos k with hk0 | hk0
    · subst hk0
      go_wp2
      go_ret
      exact ⟨⟨0, Nat.zero_le _, rfl, Hz.out, fun h => by omega⟩, rfl⟩
    · obtain ⟨m, rfl⟩ : ∃ m, k = m + 1 := ⟨k - 1, by omega⟩
      have hcm := hc m (by omega)
      have Hc := Lib.hid hc; clear hc
      by_cases h0 : nth l m = 0
      · have ht : ((nth l m : Int) == 0) = true := by rw [h0]; rfl
        have H0 := Lib.hid h0; clear h0
        go_wp2
        go_round
        case rel => exact ⟨m, by omega, rfl, fun j h1 h2 => by
          rcases Nat.eq_or_lt_of_le h1 with e | e
          · rw [← e]; exact H0.out
          · exact Hz.out j e h2⟩
        case measure => simp [lenOf]
      · have ht : ((nth l m : Int) == 0) = false := beq_eq_false_iff_ne.2 (by omega)
        have H0 := Lib.hid h0; clear h0
        go_wp2
        go_ret
        exact ⟨⟨m + 1, hk, rfl, Hz.out, fun _ => H0.out⟩, rfl⟩

set_option maxHeartbeats 400000 in
theorem trim_nil (w : World) : Calls Tryz.prog 139 #[.slice none 0 0] w fun e w' => e = .returned (.slice none 0 0) ∧ w = w' := by
  go_enter Tryz.func139, Tryz.ntmps139
  go_wp2
  go_loop [0] (fun v => v = .slice none 0 0) (fun v => lenOf v)
  case atStart => rfl
  case round =>
    obtain rfl := hrel
    go_wp2
    go_ret
    exact ⟨rfl, rfl⟩

/-- A row of pieces that a call made. -/
def Own (w : World) (B : Nat) (v : Value) (l : List Nat) : Prop := w.ownsRow B 145 1 v l.length (u64s l)
theorem Ext.own' {w w' : World} (h : Ext w w') {B : Nat} {v : Value} {l : List Nat} (ho : Own w B v l) : Own w' B v l := h.own ho
theorem Own.sl {w : World} {B : Nat} {v : Value} {l : List Nat} (ho : Own w B v l) : Sl w v (u64s l) := sl_own ho

def Back (w : World) (B : Nat) (l : List Nat) (e : Ending) : Prop := ∃ v, e = .returned v ∧ Own w B v l

theorem trim_c (B : Nat) (v : Value) (l : List Nat) (w : World) (ho : Own w B v l) (hs : Dec.Small l) :
    Calls Tryz.prog 139 #[v] w fun e w' => Back w B (Dec.P (Dec.pv l)) e ∧ w = w' := by
  have ho1 : w.ownsRow B 145 1 v l.length (u64s l) := ho
  rcases ho1.2 with ⟨rfl, hn⟩ | ⟨g, cap, cur, rfl, hb, hg, h1, h2, h3, h4⟩
  · refine (trim_nil w).mono fun e w' ⟨he, hw⟩ => ⟨⟨_, he, ?_⟩, hw⟩
    obtain rfl := List.eq_nil_of_length_eq_zero hn
    rw [show Dec.pv [] = 0 from rfl, Dec.P_zero]
    exact World.ownsRow_nil w B _ 1
  · have hc : ∀ i, i < l.length → w.cell? ⟨g, i, none⟩ = some (.int .u64 (nth l i : Nat)) := fun i hi => by
      have := ho1.cells (g := g) rfl i _ (u64s_at hi)
      rwa [show ((⟨g, 0, none⟩ : Addr).add i) = ⟨g, i, none⟩ by unfold Addr.add; split <;> simp_all] at this
    refine (trim_walk g l.length cap l w h1 h2 hc).mono fun e w' ⟨⟨k, hk, he, hz, hnz⟩, hw⟩ => ⟨⟨_, he, ?_⟩, hw⟩
    have e1 := Dec.trim_P l k hs hk hz hnz
    have hlen : (Dec.P (Dec.pv l)).length = k := by rw [← e1, List.length_take]; omega
    refine ⟨by rw [u64s_length, hlen]; simp, .inr ⟨g, cap, cur, by rw [hlen], hb, hg, by omega, h2, h3, ?_⟩⟩
    rw [hlen, ← e1]
    have h5 : cur.toList.take (l.length * 1) = u64s l := h4
    unfold u64s at *
    rw [List.map_take, ← h5, List.take_take]
    congr 1
    omega

end Go.Proofs.YtkamjjjimbbdmaaGreatDoor
