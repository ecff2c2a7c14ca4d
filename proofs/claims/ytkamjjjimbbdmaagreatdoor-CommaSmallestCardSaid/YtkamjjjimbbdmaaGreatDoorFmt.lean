/- strconv.FormatUint at base 10; decimal's Of and Small. -/
import Derived.Test.YtkamjjjimbbdmaaGreatDoorStr
import Derived.Lib.ItoaMem
import Derived.Shelf.Strconv.Itoa2
namespace Go.Proofs.YtkamjjjimbbdmaaGreatDoor
open Go.RowKit Go.Lib Go.Sort

set_option maxHeartbeats 1600000 in
set_option maxRecDepth 100000 in
theorem fmtIn_c (u : Nat) (hu64 : u < 18446744073709551616) (w : World) (he : Env w) :
    Calls Tryz.prog 176 #[.int .u64 u, .int .i64 10] w fun e w' => e = .returned (.string (D u)) ∧ Ext w w' := by
  by_cases hs : u < 100
  · go_enter Tryz.func176, Tryz.ntmps176
    go_wp2_with (go_at_call 193; refine (Any.internal_strconv_small Tryz.lSmall u hs _).mono ?_; rintro e w' ⟨rfl, rfl⟩)
    go_ret
    exact ⟨rfl, Ext.refl _⟩
  · have hu1 : 1 ≤ u := by omega
    have hnd20 : Lib.nDigits u ≤ 20 := Dec.nDigits_le (by omega) (by omega)
    have hal : Tryz.prog.arrayLen 239 = 24 := by kernel_rfl
    have hsl : ∀ W, (Instr.sliceAt 239 (.pointer (some ⟨w.heap.size, 0, none⟩)) none (some (.int .i64 (Lib.nDigits u : Int))) none).run Tryz.prog W = .ok (.slice (some ⟨w.heap.size, 0, none⟩) (Lib.nDigits u) 24) W := fun W => by
      rw [run_sliceAt_array_h W 239 ⟨w.heap.size, 0, none⟩ (by simp [Program.arrayLen, Program.elem, Tryz.underlying239]) .i64 (Lib.nDigits u : Int) (by omega) (by rw [hal]; omega)]
      go_simp
    have hH0 : Holds (fun (b : UInt8) => Value.int .u8 (b.toNat : Int)) (w.alloc (.cells Lib.zeros24 239)) w.heap.size 0 (Array.replicate (Lib.nDigits u) 0) := by
      intro j hj
      have hj' : j < Lib.nDigits u := by simpa using hj
      refine ⟨?_, World.frozen?_alloc_new _ _ _ _⟩
      rw [World.cell?_alloc_new, Lib.zeros24_at _ (by omega), getElem!_pos _ j hj]
      simp
    have hfmt := Any.internal_strconv_formatBase10 Tryz.lBase10 w.heap.size 0 24 u (Array.replicate (Lib.nDigits u) 0) (w.alloc (.cells Lib.zeros24 239)) hH0 (by rw [Array.size_replicate]; exact Lib.lt_pow_nDigits u) hu64 (by rw [Array.size_replicate]; omega)
    rw [Array.size_replicate] at hfmt
    have HH0 := Lib.hid hH0
    clear hH0 hal
    go_enter Tryz.func176, Tryz.ntmps176
    go_wp2_with (go_at_call 194; refine (Any.internal_strconv_numDigits Tryz.lDigits u hu1 hu64 _ (Lib.tabIs_alloc he _)).mono ?_; rintro e w' ⟨rfl, rfl⟩)
    refine hfmt.mono ?_
    rintro e w' ⟨rfl, k, v', dk, rfl, hF⟩
    have hcv : (convert 210 9 (.slice (some ⟨w.heap.size, 0, none⟩) (Lib.nDigits u) 24)).run Tryz.prog ((putRow (fun (b : UInt8) => Value.int .u8 (b.toNat : Int)) (w.alloc (.cells Lib.zeros24 239)) w.heap.size 0 dk).drewN k) = .ok (.string (D u)) ((putRow (fun (b : UInt8) => Value.int .u8 (b.toNat : Int)) (w.alloc (.cells Lib.zeros24 239)) w.heap.size 0 dk).drewN k) := by
      have h := run_convert_bytes_back (P := Tryz.prog) ((putRow (fun (b : UInt8) => Value.int .u8 (b.toNat : Int)) (w.alloc (.cells Lib.zeros24 239)) w.heap.size 0 dk).drewN k) 210 9 5 ⟨w.heap.size, 0, none⟩ 24 (Lib.decDigits u) Tryz.underlying210 Tryz.underlying5 Tryz.underlying9 (fun j hj => by
        rw [Lib.row_is_numeral hF j hj, Lib.add_plain, World.cell?_drewN]
        exact cell?_putRow (fun (b : UInt8) => Value.int .u8 (b.toNat : Int)) _ w.heap.size 0 _ dk HH0.out (by rw [hF.size, Array.size_replicate]) j (by rw [hF.size]; rw [Lib.decDigits_length] at hj; exact hj))
      rw [Lib.decDigits_length] at h
      exact h
    have hx : Ext w ((putRow (fun (b : UInt8) => Value.int .u8 (b.toNat : Int)) (w.alloc (.cells Lib.zeros24 239)) w.heap.size 0 dk).drewN k) :=
      Ext.drewN (show Ext w _ from below_putRow (q := 0) ((Ext.refl w).alloc _).below (Nat.le_refl _)) k
    have Hx := Lib.hid hx
    clear hx
    go_wp2
    go_ret
    exact ⟨rfl, Hx.out⟩

set_option maxHeartbeats 400000 in
theorem fmtUint_c (u : Nat) (hu64 : u < 18446744073709551616) (w : World) (he : Env w) :
    Calls Tryz.prog 137 #[.int .u64 u, .int .i64 10] w fun e w' => e = .returned (.string (D u)) ∧ Ext w w' := by
  have He := Lib.hid he; clear he
  go_enter Tryz.func137, Tryz.ntmps137
  go_wp2_with fail
  refine (fmtIn_c u hu64 w He.out).mono ?_
  rintro e w' ⟨rfl, hx⟩
  have Hx := Lib.hid hx; clear hx
  go_wp2
  go_ret
  exact ⟨rfl, Hx.out⟩

set_option maxHeartbeats 400000 in
theorem decOf_c (u : Nat) (hu64 : u < 18446744073709551616) (w : World) (he : Env w) :
    Calls Tryz.prog 91 #[.int .u64 u] w fun e w' => e = .returned (.string (D u)) ∧ Ext w w' := by
  have He := Lib.hid he; clear he
  go_enter Tryz.func91, Tryz.ntmps91
  go_wp2_with fail
  refine (fmtUint_c u hu64 w He.out).mono ?_
  rintro e w' ⟨rfl, hx⟩
  have Hx := Lib.hid hx; clear hx
  go_wp2
  go_ret
  exact ⟨rfl, Hx.out⟩

set_option maxHeartbeats 400000 in
theorem decSmall_c (u : Nat) (hu64 : u < 18446744073709551616) (w : World) :
    Calls Tryz.prog 164 #[.string (D u)] w fun e w' => e = .returned (.tuple #[.int .u64 u, .bool true]) ∧ Ext w w' := by
  go_enter Tryz.func164, Tryz.ntmps164
  go_wp2_with fail
  refine (parseUint_c u hu64 w).mono ?_
  rintro e w' ⟨rfl, hx⟩
  have Hx := Lib.hid hx; clear hx
  go_wp2
  go_ret2
  exact ⟨rfl, Hx.out⟩

set_option maxHeartbeats 400000 in
theorem wholeOf_c (z : Int) (h0 : -9223372036854775808 ≤ z) (h1 : z ≤ 9223372036854775807) (w : World) (he : Env w) :
    Calls Tryz.prog 41 #[.int .i64 z] w fun e w' => e = .returned (.string (I z)) ∧ Ext w w' := by
  have He := Lib.hid he; clear he
  go_enter Tryz.func41, Tryz.ntmps41
  go_wp2_with fail
  refine (itoa_c z h0 h1 w He.out).mono ?_
  rintro e w' ⟨rfl, hx⟩
  have Hx := Lib.hid hx; clear hx
  go_wp2
  go_ret
  exact ⟨rfl, Hx.out⟩

end Go.Proofs.YtkamjjjimbbdmaaGreatDoor
