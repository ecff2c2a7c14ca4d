/- The walk of decimal's text: pieces as a numeral. -/
import Derived.Test.YtkamjjjimbbdmaaGreatDoorTrim
import Derived.Test.YtkamjjjimbbdmaaGreatDoorStr
namespace Go.Proofs.YtkamjjjimbbdmaaGreatDoor
open Go.RowKit Go.Lib Go.Sort

theorem info_u8 : (Tryz.prog.info? 5).map (fun i => (i.zero, i.size, i.bytes)) = some (some (.int .u8 0), 1, 1) := by kernel_rfl

/-- How many digits have been laid when piece k is begun. -/
def laid (N k : Nat) : Nat := if k < (Dec.P N).length then 9 * k else nDigits N

def TextRel (N : Nat) (w0 : World) (v i : Value) (wr : World) : Prop :=
  ∃ k : Nat, i = .int .i64 k ∧ k ≤ (Dec.P N).length ∧ OwnB wr w0.heap.size v (Dec.rd N (laid N k)) ∧ Ext w0 wr

def TextIn (N i : Nat) (w0 : World) (v n k : Value) (wr : World) : Prop :=
  ∃ j : Nat, k = .int .i64 j ∧ j ≤ 9 ∧ n = .int .u64 (Dec.left N i j : Nat) ∧ 9 * i + j ≤ nDigits N ∧ OwnB wr w0.heap.size v (Dec.rd N (9 * i + j)) ∧ Ext w0 wr

theorem own_bytes {w : World} {B : Nat} {v : Value} {l : List UInt8} (h : OwnB w B v l) (hv : l ≠ []) :
    ∃ g cap, v = .slice (some ⟨g, 0, none⟩) l.length cap ∧ ∀ j (hj : j < l.length), w.cell? ((⟨g, 0, none⟩ : Addr).add j) = some (.int .u8 (l[j].toNat : Int)) := by
  have ho : w.ownsRow B 5 1 v l.length (u8s l) := h
  rcases ho.2 with ⟨_, h0⟩ | ⟨g, cap, cur, rfl, _, _, _⟩
  · exact absurd (List.eq_nil_of_length_eq_zero h0) hv
  · exact ⟨g, cap, rfl, fun j hj => ho.cells (g := g) rfl j _ (by simp [u8s, hj])⟩

set_option maxRecDepth 100000 in
set_option maxHeartbeats 800000 in
theorem text_some (b off cap N : Nat) (w : World) (hN : N ≠ 0) (hl : (Dec.P N).length ≤ 100000) (_hcap : cap ≤ maxLen)
    (hc : ∀ i, i < (Dec.P N).length → w.cell? ⟨b, off + i, none⟩ = some (.int .u64 (nth (Dec.P N) i : Nat))) :
    Calls Tryz.prog 114 #[.slice (some ⟨b, off, none⟩) (Dec.P N).length cap] w fun e w' => e = .returned (.string (D N)) ∧ Ext w w' := by
  obtain ⟨i0, hi, hz0, hz1, hz2⟩ := info_parts info_u8
  have hd := Dec.nDigits_P hN
  have hpos := Dec.P_len_pos hN
  have Hc := Lib.hid hc; clear hc
  generalize hL : (Dec.P N).length = L at *
  have HL := Lib.hid hL; clear hL
  have hL0 : ((L : Int) == 0) = false := beq_eq_false_iff_ne.2 (by omega)
  go_enter Tryz.func114, Tryz.ntmps114
  go_wp2_with (at_make; refine wpList_make_own _ rfl _ _ 210 rfl w.heap.size 5 i0 (.int .u8 0) 1 Tryz.underlying210 hi hz0 hz1 _ _ _ (9 * L) rfl rfl ?hC ?b2 ?b3 (Nat.le_refl _) ?_)
  case hC => simp
  case b2 => rw [hz2]; omega
  case b3 => unfold maxLen; omega
  intro w1 hown hgrow
  go_wp2_with fail
  go_loopw [3, 16] (fun v i wr => TextRel N w v i wr) (fun _ i _ => L - (intOf i).toNat)
  case atStart =>
    refine ⟨0, rfl, Nat.zero_le _, ?_, (Ext.refl w).grown hgrow (by simp)⟩
    unfold laid
    rw [if_pos (by rw [HL.out]; exact hpos), Nat.mul_zero, Dec.rd_zero]
    exact hown
  case round =>
    obtain ⟨k, rfl, hk, hown1, hext⟩ := hrel
    rw [HL.out] at hk
    have Hown1 := Lib.hid hown1; clear hown1
    have Hext := Lib.hid hext; clear hext
    clear hown hgrow
    by_cases hlt : k < L
    · have hcell := Hext.out.cell (Hc.out k hlt)
      have hnth : nth (Dec.P N) k = Dec.left N k 0 := by rw [Dec.left_zero]; exact Dec.P_at N k
      rw [hnth] at hcell
      have Hcell := hcell
      clear hnth
      have hnd1 : 9 * k < nDigits N := by omega
      go_wp2_with fail
      go_loopw [3, 5, 6] (fun v n j wr => TextIn N k w v n j wr) (fun _ _ j _ => 9 - (intOf j).toNat)
      case atStart =>
        refine ⟨0, rfl, Nat.zero_le _, rfl, by omega, ?_, Hext.out⟩
        have := Hown1.out
        unfold laid at this
        rw [HL.out, if_pos hlt] at this
        exact this
      case round =>
        rename_i wo _ _ _
        obtain ⟨j, rfl, hj, rfl, hjd, hown2, hext2⟩ := hrel
        have Hown2 := Lib.hid hown2; clear hown2
        have Hext2 := Lib.hid hext2; clear hext2
        have hleft : Dec.left N k j < 1000000000 := Dec.left_lt N k j
        have hdig : j < 9 → Dec.left N k j % 10 = N / 10 ^ (9 * k + j) % 10 := Dec.left_mod N k j
        have Hdig := Lib.hid hdig; clear hdig
        have hsucc := Dec.left_succ N k j
        generalize hn : Dec.left N k j = n at *
        have Hn := Lib.hid hn; clear hn
        have Hsucc := Lib.hid hsucc; clear hsucc
        have hlast : k + 1 = L → n = N / 10 ^ (9 * k + j) := fun e => by rw [← Hn.out]; exact Dec.left_last N k j (by rw [e, ← HL.out]; exact Dec.P_len_lt N)
        have Hlast := Lib.hid hlast; clear hlast
        by_cases hgo : j < 9 ∧ (k + 1 < L ∨ 0 < n)
        · obtain ⟨hj9, hor⟩ := hgo
          have hm : 9 * k + j < nDigits N := by
            rcases Nat.lt_or_ge (k + 1) L with h | h
            · omega
            · have h0 : 0 < n := by omega
              rw [Hlast.out (by omega)] at h0
              exact Dec.div_pow_pos h0
          have hx : (Lib.dg N (9 * k + j)).toNat = 48 + n % 10 := Dec.dg_eq N (9 * k + j) n (48 + n % 10) (Hdig.out hj9) rfl
          have Hx := Lib.hid hx; clear hx
          have hown3 : wr.ownsRow w.heap.size 5 1 _ (Dec.rd N (9 * k + j)).length (u8s (Dec.rd N (9 * k + j))) := Hown2.out
          rw [Dec.rd_length] at hown3
          have hm3 : 9 * k + j + 1 ≤ maxLen := by unfold maxLen; omega
          have hm4 : (9 * k + j + 1) * 1 ≤ 140737488355328 := by omega
          have hm5 : w.heap.size ≤ (wr.alloc (.cells #[.int .u8 (48 + (n : Int) % 10)] 5)).heap.size := by have := Hext2.out.size; simp; omega
          have hmod : (n : Int) % 10 < 10 ∧ 0 ≤ (n : Int) % 10 := by omega
          rcases Nat.lt_or_ge (k + 1) L with h1 | h1
          all_goals
            try have h0 : 0 < n := by omega
            go_wp2_with (at_builtin; refine wpList_append_own _ rfl _ _ 210 rfl w.heap.size 5 i0 (.int .u8 0) 1 1 Tryz.underlying210 hi hz0 hz1 hz2 rfl (by decide) _ _ _ rfl (hown3.alloc _) ⟨wr.heap.size, 0, none⟩ 1 1 [.int .u8 (48 + (n : Int) % 10)] rfl rfl (cell_one_new _ _ _) (by simp [Value.oneCell']) hm3 hm4 hm5 ?_)
            intro v' w2 hown4 hgrow4 _
            have hx2 : Ext w w2 := (Hext2.out.alloc _).grown hgrow4 (fun g hg => (hown3.lt g hg).1)
            have Hx2 := Lib.hid hx2; clear hx2
            have hown5 : OwnB w2 w.heap.size v' (Dec.rd N (9 * k + (j + 1))) := by
              unfold OwnB
              rw [Dec.rd_length, ← Nat.add_assoc, Dec.rd_succ, u8s_snoc, Hx.out]
              exact hown4
            have Hown5 := Lib.hid hown5; clear hown5 hown4 hgrow4 hown3
            go_wp2
            go_roundw
            case rel => exact ⟨j + 1, by go_num, by omega, by rw [Hsucc.out]; go_num, by omega, Hown5.out, Hx2.out⟩
            case measure => simp [intOf]; omega
        · have hend : 9 * k + j = laid N (k + 1) := by
            unfold laid
            rw [HL.out]
            rcases Nat.lt_or_ge (k + 1) L with h | h
            · rw [if_pos h]; omega
            · rw [if_neg (by omega)]
              rcases Nat.lt_or_ge j 9 with h9 | h9
              · have h0 : n = 0 := by omega
                have h1 := Hlast.out (by omega)
                rw [h0] at h1
                rcases Nat.eq_zero_or_pos (9 * k + j) with e | e
                · rw [e] at h1
                  rw [Nat.pow_zero, Nat.div_one] at h1
                  omega
                · have := Dec.div_pow_zero e h1.symm
                  omega
              · omega
          have hnext : OwnB wr w.heap.size u3 (Dec.rd N (laid N (k + 1))) := by rw [← hend]; exact Hown2.out
          have Hnext := Lib.hid hnext; clear hnext hend
          have hcase : (j < 9 ∧ L ≤ k + 1 ∧ n = 0) ∨ ¬ j < 9 := by omega
          rcases hcase with ⟨h9, h1, rfl⟩ | h9
          all_goals
            go_wp2
            go_roundw
            case rel => exact ⟨k + 1, by go_num, by rw [HL.out]; omega, Hnext.out, Hext2.out⟩
            case measure => simp [intOf]; omega
    · have hfin : OwnB wr w.heap.size u3 (Dec.rd N (nDigits N)) := by
        have := Hown1.out
        unfold laid at this
        rwa [HL.out, if_neg hlt] at this
      have Hfin := Lib.hid hfin; clear hfin
      go_wp2_with fail
      refine (revB_c w.heap.size _ _ wr (by rw [Dec.rd_length]; omega) Hfin.out).mono ?_
      rintro e w' ⟨rfl, ho2, hb2⟩
      rw [Dec.rd_reverse] at ho2
      obtain ⟨g, cp, rfl, hcells⟩ := own_bytes ho2 (Dec.dec_ne_nil N)
      have hx2 : Ext w w' := Below.trans Hext.out hb2
      have Hx2 := Lib.hid hx2; clear hx2 hb2 ho2
      have hcv := run_convert_bytes_back (P := Tryz.prog) w' 210 76 5 ⟨g, 0, none⟩ cp (decDigits N) Tryz.underlying210 Tryz.underlying5 Tryz.underlying76 hcells
      clear hcells
      generalize (decDigits N).length = M at *
      go_wp2
      go_ret
      exact ⟨rfl, Hx2.out⟩

set_option maxHeartbeats 400000 in
theorem text_none (a : Option Addr) (cap : Nat) (w : World) :
    Calls Tryz.prog 114 #[.slice a 0 cap] w fun e w' => e = .returned (.string (D 0)) ∧ Ext w w' := by
  have h0 : D 0 = ⟨#[48]⟩ := by unfold D; rw [decDigits]; rfl
  rw [h0]
  go_enter Tryz.func114, Tryz.ntmps114
  go_wp2
  go_ret
  exact ⟨rfl, Ext.refl _⟩

theorem text_c (v : Value) (N : Nat) (w : World) (h : Sl w v (u64s (Dec.P N))) (hl : (Dec.P N).length ≤ 100000) :
    Calls Tryz.prog 114 #[v] w fun e w' => e = .returned (.string (D N)) ∧ Ext w w' := by
  by_cases hN : N = 0
  · subst hN
    rw [Dec.P_zero] at h
    rcases h with ⟨rfl, _⟩ | ⟨b, off, cap, rfl, _⟩
    · exact text_none none 0 w
    · exact text_none _ cap w
  · rcases h with ⟨_, h0⟩ | ⟨b, off, cap, rfl, _, h2, hc⟩
    · exfalso
      have := Dec.P_len_pos hN
      rw [← u64s_length, h0] at this
      simp at this
    · rw [u64s_length]
      exact text_some b off cap N w hN hl h2 (fun i hi => hc i _ (u64s_at hi))

end Go.Proofs.YtkamjjjimbbdmaaGreatDoor
