/- The walk of decimal's times. -/
import Derived.Test.YtkamjjjimbbdmaaGreatDoorTrim
import Derived.Test.YtkamjjjimbbdmaaGreatDoorMul
namespace Go.Proofs.YtkamjjjimbbdmaaGreatDoor
open Go.RowKit Go.Lib

theorem info_u64' : (Tryz.prog.info? 145).map (fun i => (i.zero, i.size, i.bytes)) = some (some (.int .u64 0), 1, 8) := by kernel_rfl

theorem own_set {w : World} {B g cap : Nat} {o : List Nat} (h : Own w B (.slice (some ⟨g, 0, none⟩) o.length cap) o) (j x : Nat) :
    Own (w.setCell ⟨g, j, none⟩ (.int .u64 (x : Int))) B (.slice (some ⟨g, 0, none⟩) o.length cap) (o.set j x) := by
  have := (World.ownsRow.stored h j (.int .u64 (x : Int))).1
  unfold Own
  rw [List.length_set]
  rwa [show (u64s o).set j (.int .u64 (x : Int)) = u64s (o.set j x) by simp [u64s, List.map_set]] at this

theorem own_cell {w : World} {B g cap : Nat} {o : List Nat} (h : Own w B (.slice (some ⟨g, 0, none⟩) o.length cap) o) (j : Nat) (hj : j < o.length) :
    w.cell? ⟨g, j, none⟩ = some (.int .u64 (nth o j : Nat)) := by
  rw [World.ownsRow.cellAt h j (by omega), u64s_at hj]

def TimesOut (p q : List Nat) (w0 : World) (i : Value) (wr : World) : Prop :=
  ∃ (k : Nat) (o : List Nat), i = .int .i64 k ∧ k ≤ p.length ∧ o.length = p.length + q.length ∧ Dec.Small o ∧ Dec.pv o = Dec.pv (p.take k) * Dec.pv q ∧ (∀ j, k + q.length ≤ j → nth o j = 0) ∧
    Own wr w0.heap.size (.slice (some ⟨w0.heap.size, 0, none⟩) o.length o.length) o ∧ Ext w0 wr

def TimesIn (p q : List Nat) (k : Nat) (w0 : World) (cr i : Value) (wr : World) : Prop :=
  ∃ (m c : Nat) (o : List Nat), i = .int .i64 m ∧ m ≤ q.length ∧ cr = .int .u64 c ∧ c < Dec.B ∧ o.length = p.length + q.length ∧ Dec.Small o ∧
    Dec.pv o + c * Dec.B ^ (k + m) = Dec.pv (p.take k) * Dec.pv q + p.getD k 0 * Dec.B ^ k * Dec.pv (q.take m) ∧ (∀ j, k + q.length ≤ j → nth o j = 0) ∧
    Own wr w0.heap.size (.slice (some ⟨w0.heap.size, 0, none⟩) o.length o.length) o ∧ Ext w0 wr

set_option maxRecDepth 100000 in
set_option maxHeartbeats 1000000 in
theorem times_l (ap aq : Option Addr) (cp cq : Nat) (p q : List Nat) (w : World) (hsp : Dec.Small p) (hsq : Dec.Small q)
    (hp : ∀ i u, (u64s p)[i]? = some u → ∃ b off, ap = some ⟨b, off, none⟩ ∧ w.cell? ⟨b, off + i, none⟩ = some u)
    (hq : ∀ i u, (u64s q)[i]? = some u → ∃ b off, aq = some ⟨b, off, none⟩ ∧ w.cell? ⟨b, off + i, none⟩ = some u)
    (hlp : p.length ≤ 100000) (hlq : q.length ≤ 100000) :
    Calls Tryz.prog 113 #[.slice ap p.length cp, .slice aq q.length cq] w fun e w' => Back w' w.heap.size (Dec.P (Dec.pv p * Dec.pv q)) e ∧ Ext w w' := by
  obtain ⟨i0, hi, hz0, hz1, hz2⟩ := info_parts info_u64'
  have Hp := Lib.hid hp; clear hp
  have Hq := Lib.hid hq; clear hq
  have Hsp := Lib.hid hsp; clear hsp
  have Hsq := Lib.hid hsq; clear hsq
  go_enter Tryz.func113, Tryz.ntmps113
  go_wp2_with (at_make; refine wpList_make_full _ rfl _ _ 169 rfl w.heap.size 145 i0 (.int .u64 0) 1 Tryz.underlying169 hi hz0 hz1 _ _ _ _ (p.length + q.length) rfl rfl ?hL ?hC ?b2 ?b3 (Nat.le_refl _) ?_)
  case hL => simp
  case hC => simp
  case b2 => rw [hz2]; omega
  case b3 => unfold maxLen; omega
  intro w1 hown hgrow
  go_wp2_with fail
  go_loopw [19] (fun i wr => TimesOut p q w i wr) (fun i _ => p.length - (intOf i).toNat)
  case atStart =>
    refine ⟨0, List.replicate (p.length + q.length) 0, rfl, Nat.zero_le _, List.length_replicate .., Dec.small_zeros _, ?_, ?_, ?_, (Ext.refl w).grown hgrow (by simp)⟩
    · rw [Dec.pv_zeros, List.take_zero]; simp [Dec.pv]
    · intro j _
      unfold nth
      rw [List.getD_eq_getElem?_getD, List.getElem?_replicate]
      split <;> rfl
    · unfold Own
      rw [List.length_replicate]
      have e : u64s (List.replicate (p.length + q.length) 0) = (madeCells #[Value.int .u64 0] (p.length + q.length)).toList := by
        rw [toList_madeCells_one]
        simp [u64s]
      rw [e]
      exact hown
  case round =>
    obtain ⟨k, o, rfl, hk, hlo, hso, hpv, hzer, hown1, hext⟩ := hrel
    have Hso := Lib.hid hso; clear hso
    have Hpv := Lib.hid hpv; clear hpv
    have Hzer := Lib.hid hzer; clear hzer
    have Hown1 := Lib.hid hown1; clear hown1
    have Hext := Lib.hid hext; clear hext
    have Hlo := Lib.hid hlo; clear hlo
    clear hown hgrow
    by_cases hlt : k < p.length
    · obtain ⟨bp, op, rfl, hcp⟩ := Hp.out k _ (u64s_at hlt)
      have hcell := Hext.out.cell hcp
      clear hcp
      go_wp2_with fail
      go_loopw [8, 26] (fun c i wr => TimesIn p q k w c i wr) (fun _ i _ => q.length - (intOf i).toNat)
      case atStart =>
        exact ⟨0, 0, o, rfl, Nat.zero_le _, rfl, Dec.B_pos, Hlo.out, Hso.out, by rw [Hpv.out]; simp [Dec.pv], Hzer.out, Hown1.out, Hext.out⟩
      case round =>
        obtain ⟨m, c, o', rfl, hm, rfl, hcB, hlo', hso', hpv', hzer', hown2, hext2⟩ := hrel
        have Hso' := Lib.hid hso'; clear hso'
        have Hpv' := Lib.hid hpv'; clear hpv'
        have Hzer' := Lib.hid hzer'; clear hzer'
        have Hext2 := Lib.hid hext2; clear hext2
        unfold Dec.B at hcB
        have hfr : ∀ j, wr.frozen? ⟨w.heap.size, j, none⟩ = false := World.ownsRow.frozenAt hown2
        by_cases hmlt : m < q.length
        · obtain ⟨bq, oq, rfl, hcq⟩ := Hq.out m _ (u64s_at hmlt)
          have hcellq := Hext2.out.cell hcq
          clear hcq
          have hcello := own_cell hown2 (k + m) (by omega)
          have hf := hfr (k + m)
          have hset := own_set hown2 (k + m)
          have Hset := Lib.hid hset; clear hset
          have Hown2 := Lib.hid hown2; clear hown2
          have Hlo' := Lib.hid hlo'; clear hlo'
          clear hfr
          have hxa : nth p k < Dec.B := Dec.small_getD Hsp.out k
          have hxb : nth q m < Dec.B := Dec.small_getD Hsq.out m
          have hxo : nth o' (k + m) < Dec.B := Dec.small_getD Hso'.out (k + m)
          have hprod : nth p k * nth q m ≤ 999999998000000001 := Dec.prod_lt hxa hxb
          have hstep := Dec.times_step o' q k m (nth p k) c (nth q m) (c + (nth o' (k + m) + nth p k * nth q m)) (by rw [Hlo'.out]; omega) hmlt rfl rfl _ Hpv'.out
          have Hstep := Lib.hid hstep; clear hstep
          unfold Dec.B at hxa hxb hxo
          generalize hA : nth p k = A at *
          generalize hBq : nth q m = Bq at *
          generalize hO : nth o' (k + m) = O at *
          have HA := Lib.hid hA; clear hA
          have HB := Lib.hid hBq; clear hBq
          have HO := Lib.hid hO; clear hO
          have hprod' : (A : Int) * (Bq : Int) ≤ 999999998000000001 := by rw [← Int.natCast_mul]; omega
          have hprod0 : 0 ≤ (A : Int) * (Bq : Int) := by rw [← Int.natCast_mul]; omega
          go_wp2
          go_roundw
          case rel =>
            have e1 : ((c : Int) + (O + A * Bq)) / 1000000000 = (((c + (O + A * Bq)) / Dec.B : Nat) : Int) := by unfold Dec.B; rw [← Int.natCast_mul]; omega
            have e2 : ((c : Int) + (O + A * Bq)) % 1000000000 = (((c + (O + A * Bq)) % Dec.B : Nat) : Int) := by unfold Dec.B; rw [← Int.natCast_mul]; omega
            refine ⟨m + 1, (c + (O + A * Bq)) / Dec.B, o'.set (k + m) ((c + (O + A * Bq)) % Dec.B), by go_num, by omega, by rw [e1], ?_, by rw [List.length_set]; exact Hlo'.out, Dec.small_set Hso'.out (Nat.mod_lt _ Dec.B_pos), ?_, ?_, ?_, ?_⟩
            · unfold Dec.B; omega
            · have := Hstep.out
              rw [← HA.out] at this ⊢
              exact this
            · intro j hj
              have := Hzer'.out j hj
              unfold nth at *
              rw [Dec.nthD_set _ _ _ _ (by rw [Hlo'.out]; omega), if_neg (by omega)]
              exact this
            · have := Hset.out ((c + (O + A * Bq)) % Dec.B)
              rw [List.length_set, e2]
              exact this
            · exact Hext2.out.setCell (Nat.le_refl _) _
          case measure => simp [intOf]; omega
        · obtain rfl : m = q.length := by omega
          have hcello := own_cell hown2 (k + q.length) (by omega)
          rw [Hzer'.out (k + q.length) (Nat.le_refl _)] at hcello
          have hf := hfr (k + q.length)
          have hset := own_set hown2 (k + q.length)
          have Hset := Lib.hid hset; clear hset
          have hrow := Dec.times_row o' p q k c (p.getD k 0) _ hlt (by omega) rfl (Hzer'.out (k + q.length) (Nat.le_refl _)) rfl Hpv'.out
          have Hrow := Lib.hid hrow; clear hrow
          have Hown2 := Lib.hid hown2; clear hown2
          have Hlo' := Lib.hid hlo'; clear hlo'
          clear hfr
          go_wp2
          go_roundw
          case rel =>
            refine ⟨k + 1, o'.set (k + q.length) c, by go_num, by omega, by rw [List.length_set]; exact Hlo'.out, Dec.small_set Hso'.out hcB, Hrow.out, ?_, ?_, ?_⟩
            · intro j hj
              have := Hzer'.out j (by omega)
              unfold nth at *
              rw [Dec.nthD_set _ _ _ _ (by rw [Hlo'.out]; omega), if_neg (by omega)]
              exact this
            · have := Hset.out c
              rw [List.length_set]
              exact this
            · exact Hext2.out.setCell (Nat.le_refl _) _
          case measure => simp [intOf]; omega
    · obtain rfl : k = p.length := by omega
      have hval : Dec.pv o = Dec.pv p * Dec.pv q := by rw [Hpv.out, List.take_length]
      have Hval := Lib.hid hval; clear hval
      have hown3 : Own wr w.heap.size (.slice (some ⟨w.heap.size, 0, none⟩) (p.length + q.length) (p.length + q.length)) o := by
        have := Hown1.out
        rwa [Hlo.out] at this
      have Hown3 := Lib.hid hown3; clear hown3
      go_wp2_with fail
      refine (trim_c w.heap.size _ o wr Hown3.out Hso.out).mono ?_
      rintro e w' ⟨⟨v, rfl, hv⟩, rfl⟩
      have Hv2 := Lib.hid hv; clear hv
      go_wp2
      go_ret
      exact ⟨⟨v, rfl, by rw [← Hval.out]; exact Hv2.out⟩, Hext.out⟩

theorem times_c (vp vq : Value) (a b : Nat) (w : World) (hp : Sl w vp (u64s (Dec.P a))) (hq : Sl w vq (u64s (Dec.P b))) (hla : (Dec.P a).length ≤ 100000) (hlb : (Dec.P b).length ≤ 100000) :
    Calls Tryz.prog 113 #[vp, vq] w fun e w' => Back w' w.heap.size (Dec.P (a * b)) e ∧ Ext w w' := by
  obtain ⟨ap, cp, rfl, _, _, hcp⟩ := hp.parts
  obtain ⟨aq, cq, rfl, _, _, hcq⟩ := hq.parts
  have := times_l ap aq cp cq (Dec.P a) (Dec.P b) w (Dec.small_P a) (Dec.small_P b) hcp hcq hla hlb
  rw [Dec.pv_P, Dec.pv_P] at this
  rw [u64s_length, u64s_length]
  exact this

end Go.Proofs.YtkamjjjimbbdmaaGreatDoor
