/- The walks of decimal's trim and cut. -/
import Derived.Test.YtkamjjjimbbdmaaGreatDoorKit
namespace Go.Proofs.YtkamjjjimbbdmaaGreatDoor
open Go.RowKit Go.Lib

def TrimPost (b cap n : Nat) (l : List Nat) (e : Ending) : Prop :=
  ∃ k, k ≤ n ∧ e = .returned (.slice (some ⟨b, 0, none⟩) k cap) ∧ (∀ j, k ≤ j → j < n → nth l j = 0) ∧ (0 < k → nth l (k - 1) ≠ 0)

set_option maxHeartbeats 400000 in
theorem trim_walk (b n cap : Nat) (l : List Nat) (w : World) (hn : n ≤ cap) (hcap : cap ≤ maxLen)
    (hc : ∀ i, i < n → w.cell? ⟨b, i, none⟩ = some (.int .u64 (nth l i : Nat))) :
    Calls Tryz.prog 139 #[.slice (some ⟨b, 0, none⟩) n cap] w fun e w' => TrimPost b cap n l e ∧ w = w' := by
  unfold maxLen at hcap
  go_enter Tryz.func139, Tryz.ntmps139
  go_wp2
  go_loop [0] (fun v => ∃ k : Nat, k ≤ n ∧ v = .slice (some ⟨b, 0, none⟩) k cap ∧ (∀ j, k ≤ j → j < n → nth l j = 0)) (fun v => lenOf v)
  case atStart => exact ⟨n, Nat.le_refl _, rfl, fun j h1 h2 => by omega⟩
  case round =>
    obtain ⟨k, hk, rfl, hz⟩ := hrel
    have Hz := Lib.hid hz; clear hz
    rcases Nat.eq_zero_or_pos k with hk0 | hk0
    · subst hk0
      go_wp2
      go_ret
      exact ⟨⟨0, Nat.zero_le _, rfl, Hz.out, fun h => by omega⟩, rfl⟩
    · obtain ⟨m, rfl⟩ : ∃ m, k = m + 1 := ⟨k - 1, by omega⟩
      have hcm := hc m (by omega)
      have Hc := Lib.hid hc; clear hc
      by_cases h0 : nth l m = 0
      · have ht : ((nth l m : Int) == 0) = true := by rw [h0]; rfl
        have H0 := Lib.hid h0; clear h0
        go_wp2
        go_round
        case rel => exact ⟨m, by omega, rfl, fun j h1 h2 => by
          rcases Nat.eq_or_lt_of_le h1 with e | e
          · rw [← e]; exact H0.out
          · exact Hz.out j e h2⟩
        case measure => simp [lenOf]
      · have ht : ((nth l m : Int) == 0) = false := beq_eq_false_iff_ne.2 (by omega)
        have H0 := Lib.hid h0; clear h0
        go_wp2
        go_ret
        exact ⟨⟨m + 1, hk, rfl, Hz.out, fun _ => H0.out⟩, rfl⟩

set_option maxHeartbeats 400000 in
theorem trim_nil (w : World) : Calls Tryz.prog 139 #[.slice none 0 0] w fun e w' => e = .returned (.slice none 0 0) ∧ w = w' := by
  go_enter Tryz.func139, Tryz.ntmps139
  go_wp2
  go_loop [0] (fun v => v = .slice none 0 0) (fun v => lenOf v)
  case atStart => rfl
  case round =>
    obtain rfl := hrel
    go_wp2
    go_ret
    exact ⟨rfl, rfl⟩

/-- A row of pieces that a call made. -/
def Own (w : World) (B : Nat) (v : Value) (l : List Nat) : Prop := w.ownsRow B 145 1 v l.length (u64s l)
theorem Ext.own' {w w' : World} (h : Ext w w') {B : Nat} {v : Value} {l : List Nat} (ho : Own w B v l) : Own w' B v l := h.own ho
theorem Own.sl {w : World} {B : Nat} {v : Value} {l : List Nat} (ho : Own w B v l) : Sl w v (u64s l) := sl_own ho

def Back (w : World) (B : Nat) (l : List Nat) (e : Ending) : Prop := ∃ v, e = .returned v ∧ Own w B v l

theorem trim_c (B : Nat) (v : Value) (l : List Nat) (w : World) (ho : Own w B v l) (hs : Dec.Small l) :
    Calls Tryz.prog 139 #[v] w fun e w' => Back w B (Dec.P (Dec.pv l)) e ∧ w = w' := by
  have ho1 : w.ownsRow B 145 1 v l.length (u64s l) := ho
  rcases ho1.2 with ⟨rfl, hn⟩ | ⟨g, cap, cur, rfl, hb, hg, h1, h2, h3, h4⟩
  · refine (trim_nil w).mono fun e w' ⟨he, hw⟩ => ⟨⟨_, he, ?_⟩, hw⟩
    obtain rfl := List.eq_nil_of_length_eq_zero hn
    rw [show Dec.pv [] = 0 from rfl, Dec.P_zero]
    exact World.ownsRow_nil w B _ 1
  · have hc : ∀ i, i < l.length → w.cell? ⟨g, i, none⟩ = some (.int .u64 (nth l i : Nat)) := fun i hi => by
      have := ho1.cells (g := g) rfl i _ (u64s_at hi)
      rwa [show ((⟨g, 0, none⟩ : Addr).add i) = ⟨g, i, none⟩ by unfold Addr.add; split <;> simp_all] at this
    refine (trim_walk g l.length cap l w h1 h2 hc).mono fun e w' ⟨⟨k, hk, he, hz, hnz⟩, hw⟩ => ⟨⟨_, he, ?_⟩, hw⟩
    have e1 := Dec.trim_P l k hs hk hz hnz
    have hlen : (Dec.P (Dec.pv l)).length = k := by rw [← e1, List.length_take]; omega
    refine ⟨by rw [u64s_length, hlen]; simp, .inr ⟨g, cap, cur, by rw [hlen], hb, hg, by omega, h2, h3, ?_⟩⟩
    rw [hlen, ← e1]
    have h5 : cur.toList.take (l.length * 1) = u64s l := h4
    unfold u64s at *
    rw [List.map_take, ← h5, List.take_take]
    congr 1
    omega

end Go.Proofs.YtkamjjjimbbdmaaGreatDoor

namespace Go.Proofs.YtkamjjjimbbdmaaGreatDoor
open Go.RowKit Go.Lib

theorem info_u64 : (Tryz.prog.info? 145).map (fun i => (i.zero, i.size, i.bytes)) = some (some (.int .u64 0), 1, 8) := by kernel_rfl

theorem conv_bytes (s : ByteArray) (c : List UInt8) (h : s = ⟨c.toArray⟩) (W : World) : (convert 76 210 (.string s)).run Tryz.prog W =
    .ok (.slice (some ⟨W.heap.size, 0, none⟩) c.length (grownCap W c.length 0 5)) (Lib.bytesWorld W 5 ⟨c.toArray⟩) := by
  subst h
  have := Lib.run_convert_string_bytes (P := Tryz.prog) W 76 210 5 ⟨c.toArray⟩ Tryz.underlying76 Tryz.underlying210 Tryz.underlying5
  rwa [show (⟨c.toArray⟩ : ByteArray).size = c.length by simp [ByteArray.size]] at this

/-- The state of the outer loop. -/
def CutRel (l : List UInt8) (w0 : World) (v i : Value) (wr : World) : Prop :=
  ∃ (z : Int) (o : List Nat), i = .int .i64 z ∧ z ≤ l.length ∧ l.length = z + 9 * o.length ∧ Dec.Small o ∧ Dec.pv o = Dec.val 0 (l.drop z.toNat) ∧ Own wr w0.heap.size v o ∧ Ext w0 wr

set_option maxRecDepth 100000 in
set_option maxHeartbeats 400000 in
theorem cut_c (l : List UInt8) (w : World) (hd : Dec.Dig l) (hl : l.length ≤ 1000000) :
    Calls Tryz.prog 112 #[.string ⟨l.toArray⟩] w fun e w' => Back w' w.heap.size (Dec.P (Dec.val 0 l)) e ∧ Ext w w' := by
  obtain ⟨i0, hi, hz0, hz1, hz2⟩ := info_parts info_u64
  have Hd := Lib.hid hd; clear hd
  go_enter Tryz.func112, Tryz.ntmps112
  go_wp2_with (at_make; refine wpList_make_own _ rfl _ _ 169 rfl w.heap.size 145 i0 (.int .u64 0) 1 Tryz.underlying169 hi hz0 hz1 _ _ _ (l.length / 9 + 1) rfl rfl ?hC ?b2 ?b3 (Nat.le_refl _) ?_)
  case hC => simp
  case b2 => rw [hz2]; omega
  case b3 => unfold maxLen; omega
  intro w1 hown hgrow
  go_wp2_with fail
  go_loopw [3, 4] (fun v i wr => CutRel l w v i wr) (fun _ i _ => (intOf i).toNat)
  case atStart =>
    refine ⟨l.length, [], rfl, Int.le_refl _, by simp, by simp [Dec.Small], ?_, ?_, ?_⟩
    · rw [Int.toNat_natCast, List.drop_length, Dec.val_nil]; rfl
    · exact hown
    · exact (Ext.refl w).grown hgrow (by simp)
  case round =>
    obtain ⟨z, o, rfl, hz, hlo, hsm, hpv, hown1, hext⟩ := hrel
    have Hlo := Lib.hid hlo; clear hlo
    have Hpv := Lib.hid hpv; clear hpv
    have Hsm := Lib.hid hsm; clear hsm
    have Hown1 := Lib.hid hown1; clear hown1
    have Hext := Lib.hid hext; clear hext
    clear hown hgrow
    by_cases hp : 0 < z
    · obtain ⟨e, rfl⟩ : ∃ e : Nat, z = e := ⟨z.toNat, by omega⟩
      have hlo' : (l.length : Int) = e + 9 * o.length := Hlo.out
      obtain ⟨c, hc, hcl, hdc, hstep⟩ : ∃ c : List UInt8, (⟨l.toArray⟩ : ByteArray).extract (e - 9) e = ⟨c.toArray⟩ ∧ c.length ≤ 9 ∧ Dec.Dig c ∧ Dec.pv (o ++ [Dec.val 0 c]) = Dec.val 0 (l.drop (e - 9)) :=
        ⟨_, extract_list l _ _, by rw [List.length_drop, List.length_take]; omega, Dec.dig_drop (Dec.dig_take Hd.out _) _, Dec.cut_step l _ e o.length o (by omega) (by omega) rfl (by have := Hpv.out; simpa using this)⟩
      have Hdc := Lib.hid hdc; clear hdc
      have Hstep := Lib.hid hstep; clear hstep
      clear hlo'
      have Hc := Lib.hid hc; clear hc
      have hk2 : (9 < e ∧ ∀ W, _) ∨ (e ≤ 9 ∧ ∀ W, _) := (Nat.lt_or_ge 9 e).imp
        (fun h => ⟨h, conv_bytes ((⟨l.toArray⟩ : ByteArray).extract (e - 9) e) c Hc.out⟩)
        (fun h => ⟨h, conv_bytes ((⟨l.toArray⟩ : ByteArray).extract 0 e) c (by have := Hc.out; rwa [show e - 9 = 0 by omega] at this)⟩)
      rcases hk2 with ⟨h9, kc⟩ | ⟨h9, kc⟩
      all_goals
        go_wp2_with fail
        have hbx : Ext wr (Lib.bytesWorld wr 5 ⟨c.toArray⟩) := Ext.bytes wr _ _
        have hbc := bytes_cell wr 5 c
        generalize Lib.bytesWorld wr 5 ⟨c.toArray⟩ = W1 at *
        have Hbx := Lib.hid hbx; clear hbx
        clear kc
        have Hbc := Lib.hid hbc; clear hbc
        go_loop [5, 27] (fun v i => ∃ k m : Nat, k ≤ c.length ∧ i = .int .i64 k ∧ v = .int .u64 m ∧ m = Dec.val 0 (c.take k)) (fun _ i => c.length - (intOf i).toNat)
        case atStart => exact ⟨0, 0, Nat.zero_le _, rfl, rfl, by rw [List.take_zero, Dec.val_nil]⟩
        case round =>
          obtain ⟨k, m, hk, rfl, rfl, hm⟩ := hrel
          have hm9 : m < 1000000000 := by rw [hm]; exact Dec.val_take_lt c k Hdc.out hcl
          have Hm := Lib.hid hm; clear hm
          by_cases hlt : k < c.length
          · have hcell := Hbc.out k hlt
            obtain ⟨x, hx1, hx2, hxc, hxv⟩ := Dec.val_take_succ c k Hdc.out hlt
            rw [hxc] at hcell
            have Hxv := Lib.hid hxv; clear hxv hxc
            go_wp2
            go_round
            case rel => exact ⟨k + 1, 10 * m + (x - 48), by omega, by go_num, by congr 1; omega, by rw [Hxv.out, Hm.out]⟩
            case measure => simp [intOf]; omega
          · have hkc : k = c.length := by omega
            have hmc : m = Dec.val 0 c := by rw [Hm.out, hkc, List.take_length]
            have Hmc := Lib.hid hmc; clear hmc hkc
            have hown2 : W1.ownsRow w.heap.size 145 1 u3 o.length (u64s o) := Hbx.out.own' Hown1.out
            have hb1 : w.heap.size ≤ W1.heap.size := Nat.le_trans Hext.out.size Hbx.out.size
            have hol : o.length ≤ 1000000 := by have := Hlo.out; omega
            have hm3 : o.length + 1 ≤ maxLen := by unfold maxLen; omega
            have hm4 : (o.length + 1) * 8 ≤ 140737488355328 := by omega
            have hm5 : w.heap.size ≤ (W1.alloc (.cells #[.int .u64 (m : Int)] 145)).heap.size := by simp; omega
            go_wp2_with (at_builtin; refine wpList_append_own _ rfl _ _ 169 rfl w.heap.size 145 i0 (.int .u64 0) 1 8 Tryz.underlying169 hi hz0 hz1 hz2 rfl (by decide) _ _ _ rfl (hown2.alloc _) ⟨W1.heap.size, 0, none⟩ 1 1 [.int .u64 (m : Int)] rfl rfl (cell_one_new _ _ _) (by simp [Value.oneCell']) hm3 hm4 hm5 ?_)
            intro v' w2 hown3 hgrow3 _
            have hx2 : Ext w w2 := ((Hext.out.trans Hbx.out).alloc _).grown hgrow3 (fun g hg => (hown2.lt g hg).1)
            have Hx2 := Lib.hid hx2; clear hx2
            have Hown3 := Lib.hid hown3; clear hown3 hgrow3 hown2
            go_wp2
            go_roundw
            case rel =>
              refine ⟨(e : Int) - 9, o ++ [m], by go_num, by omega, ?_, ?_, ?_, ?_, Hx2.out⟩
              · have := Hlo.out; rw [List.length_append, List.length_singleton]; omega
              · exact Dec.small_snoc Hsm.out hm9
              · rw [Hmc.out, Hstep.out]; congr 2; omega
              · have := Hown3.out
                unfold Own
                rwa [List.length_append, show u64s (o ++ [m]) = u64s o ++ [Value.int .u64 (m : Int)] by simp [u64s]]
            case measure => simp [intOf]; omega
    · have hz1 : z.toNat = 0 := by omega
      have hv : Dec.pv o = Dec.val 0 l := by have := Hpv.out; rwa [hz1, List.drop_zero] at this
      have Hv := Lib.hid hv; clear hv hz1
      go_wp2_with fail
      refine (trim_c w.heap.size u3 o wr Hown1.out Hsm.out).mono ?_
      rintro e w' ⟨⟨v, rfl, hv⟩, rfl⟩
      have Hv2 := Lib.hid hv; clear hv
      go_wp2
      go_ret
      exact ⟨⟨v, rfl, by rw [← Hv.out]; exact Hv2.out⟩, Hext.out⟩

theorem cut_D (n : Nat) (w : World) (hl : nDigits n ≤ 1000000) :
    Calls Tryz.prog 112 #[.string (D n)] w fun e w' => Back w' w.heap.size (Dec.P n) e ∧ Ext w w' := by
  have := cut_c (decDigits n) w (Dec.dig_dec n) (by rw [decDigits_length]; exact hl)
  rwa [Dec.val_dec] at this
end Go.Proofs.YtkamjjjimbbdmaaGreatDoor
