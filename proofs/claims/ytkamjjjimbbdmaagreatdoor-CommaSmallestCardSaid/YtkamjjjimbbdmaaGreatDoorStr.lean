/- The library's calls, in the words of the walks: strconv's, the reversal of bytes. -/
import Derived.Test.YtkamjjjimbbdmaaGreatDoorKit
import Derived.Test.YtkamjjjimbbdmaaGreatDoorShelfA
import Derived.Lib.OwnBridge
namespace Go.Proofs.YtkamjjjimbbdmaaGreatDoor
open Go.RowKit Go.Lib Go.Sort

theorem Ext.grow {a w : World} (h : Ext a w) (os : Array Obj) : Ext a (Sort.grow w os) :=
  Ext.trans h ⟨rfl, rfl, rfl, by simp, fun k hk => heap_grow_old w os hk⟩
theorem Ext.ahead {a w : World} (h : Ext a w) (n : Nat) : Ext a (Sort.ahead w n) :=
  Ext.trans h ⟨rfl, rfl, rfl, Nat.le_refl _, fun _ _ => rfl⟩

theorem itoa_c (z : Int) (h0 : -9223372036854775808 ≤ z) (h1 : z ≤ 9223372036854775807) (w : World) (he : Env w) :
    Calls Tryz.prog 81 #[.int .i64 z] w fun e w' => e = .returned (.string (I z)) ∧ Ext w w' :=
  (Any.strconv_Itoa Tryz.lItoa z h0 h1 w he).mono fun e w' ⟨h, k, os, hw⟩ => ⟨h, by rw [hw]; exact ((Ext.refl w).drewN k).grow os⟩

theorem atoiAll_I (z : Int) (h0 : -9223372036854775808 ≤ z) (h1 : z ≤ 9223372036854775807) : Lib.atoiAll (itoa z) = .ok z := by
  have key : ∀ (l : List UInt8) (acc : Nat), Dec.Dig l → Dec.val acc l < 18446744073709551616 → parseUint10 acc l = .ok (Dec.val acc l) := by
    intro l
    induction l with
    | nil => intro acc _ _; rw [Dec.val_nil]; rfl
    | cons c r ih =>
      intro acc hd hv
      have hc := hd c (List.mem_cons_self ..)
      have hr : Dec.Dig r := fun x hx => hd x (List.mem_cons_of_mem _ hx)
      rw [Dec.val_cons] at hv ⊢
      have hmono : 10 * acc + Dec.dv c ≤ Dec.val (10 * acc + Dec.dv c) r := by
        rw [Dec.val_acc]
        have : 1 ≤ 10 ^ r.length := Nat.one_le_pow _ _ (by decide)
        have := Nat.mul_le_mul_left (10 * acc + Dec.dv c) this
        omega
      have hdv : c.toNat - 48 = Dec.dv c := rfl
      simp only [parseUint10]
      rw [if_pos hc, if_neg (by omega), hdv, if_neg (by omega), Nat.mul_comm acc 10, ih _ hr hv]
  have mag : ∀ n : Nat, n < 18446744073709551616 → parseMag (decDigits n) = .ok n := by
    intro n hn
    unfold parseMag
    rw [if_neg (Dec.dec_ne_nil n), key _ 0 (Dec.dig_dec n) (by rw [Dec.val_dec]; exact hn), Dec.val_dec]
  unfold itoa
  by_cases hz : z < 0
  · rw [if_pos hz]
    unfold atoiAll
    have e45 : (45 : UInt8).toNat = 45 := rfl
    simp only [e45, or_true, if_true]
    rw [mag _ (by omega)]
    simp only [not_true, false_and, if_false, true_and]
    rw [if_neg (by omega)]
    congr 1
    omega
  · rw [if_neg hz]
    obtain ⟨n, rfl⟩ : ∃ n : Nat, z = n := ⟨z.toNat, by omega⟩
    rw [Int.toNat_natCast]
    cases hl : decDigits n with
    | nil => exact absurd hl (Dec.dec_ne_nil n)
    | cons c r =>
      have hc := Dec.dig_dec n c (by rw [hl]; exact List.mem_cons_self ..)
      unfold atoiAll
      simp only
      rw [if_neg (by omega), ← hl, mag _ (by omega)]
      simp only
      have h45 : ¬ c.toNat = 45 := by omega
      simp only [h45, not_false_eq_true, true_and, false_and, if_false]
      rw [if_neg (by omega)]

theorem atoi_c (z : Int) (h0 : -9223372036854775808 ≤ z) (h1 : z ≤ 9223372036854775807) (w : World) :
    Calls Tryz.prog 110 #[.string (I z)] w fun e w' => e = .returned (.tuple #[.int .i64 z, .nilIface]) ∧ Ext w w' := by
  have hs : (I z).size ≤ 9223372036854775806 := by
    show (itoa z).toArray.size ≤ _
    rw [List.size_toArray]
    unfold itoa
    split
    · rw [List.length_cons, decDigits_length]
      have := Dec.nDigits_le (n := z.natAbs) (k := 20) (by omega) (by omega)
      omega
    · rw [decDigits_length]
      have := Dec.nDigits_le (n := z.toNat) (k := 20) (by omega) (by omega)
      omega
  refine (Any.strconv_Atoi_ok Tryz.lAtoi (I z) hs z (atoiAll_I z h0 h1) w).mono fun e w' ⟨h, hw⟩ => ⟨h, ?_⟩
  rcases hw with rfl | ⟨t, rfl⟩
  · exact Ext.refl _
  · exact Ext.bytes _ _ _

theorem parseUint_D (n : Nat) (h : n < 18446744073709551616) : Lib.parseUintB 64 (decDigits n) = .ok n := by
  have key : ∀ (l : List UInt8) (acc : Nat), Dec.Dig l → Dec.val acc l < 18446744073709551616 → parseUintM (2 ^ 64 - 1) acc l = .ok (Dec.val acc l) := by
    intro l
    induction l with
    | nil => intro acc _ _; rw [Dec.val_nil]; rfl
    | cons c r ih =>
      intro acc hd hv
      have hc := hd c (List.mem_cons_self ..)
      have hr : Dec.Dig r := fun x hx => hd x (List.mem_cons_of_mem _ hx)
      rw [Dec.val_cons] at hv ⊢
      have hmono : 10 * acc + Dec.dv c ≤ Dec.val (10 * acc + Dec.dv c) r := by
        rw [Dec.val_acc]
        have : 1 ≤ 10 ^ r.length := Nat.one_le_pow _ _ (by decide)
        have := Nat.mul_le_mul_left (10 * acc + Dec.dv c) this
        omega
      have hdv : c.toNat - 48 = Dec.dv c := rfl
      simp only [parseUintM]
      rw [if_pos hc, if_neg (by omega), hdv, if_neg (by omega), Nat.mul_comm acc 10, ih _ hr hv]
  unfold parseUintB
  rw [if_neg (Dec.dec_ne_nil n), key _ 0 (Dec.dig_dec n) (by rw [Dec.val_dec]; exact h), Dec.val_dec]

theorem parseUint_c (n : Nat) (h : n < 18446744073709551616) (w : World) :
    Calls Tryz.prog 192 #[.string (D n), .int .i64 10, .int .i64 64] w fun e w' => e = .returned (.tuple #[.int .u64 n, .nilIface]) ∧ Ext w w' := by
  have hs : (D n).size ≤ 9223372036854775806 := by
    rw [D_size]
    have := Dec.nDigits_le (n := n) (k := 20) (by omega) (by omega)
    omega
  refine (Any.strconv_ParseUint_10_at64_ok Tryz.lParseUint (D n) hs n (parseUint_D n h) w).mono fun e w' ⟨h, hw⟩ => ⟨h, ?_⟩
  rcases hw with rfl | rfl
  · exact Ext.refl _
  · exact Ext.bytes _ _ _

/-- A row of bytes that a call made. -/
def u8s (l : List UInt8) : List Value := l.map fun (b : UInt8) => Value.int .u8 (b.toNat : Int)
def OwnB (w : World) (B : Nat) (v : Value) (l : List UInt8) : Prop := w.ownsRow B 5 1 v l.length (u8s l)
theorem u8s_length (l : List UInt8) : (u8s l).length = l.length := by simp [u8s]
theorem u8s_snoc (l : List UInt8) (b : UInt8) : u8s (l ++ [b]) = u8s l ++ [Value.int .u8 (b.toNat : Int)] := by simp [u8s]

theorem revB_c (B : Nat) (v : Value) (l : List UInt8) (w : World) (hl : l.length ≤ 1000000) (ho : OwnB w B v l) :
    Calls Tryz.prog 165 #[v] w fun e w' => e = .returned (.tuple #[]) ∧ OwnB w' B v l.reverse ∧ Below B w w' := by
  have ho1 : w.ownsRow B 5 1 v l.length (l.map fun (b : UInt8) => Value.int .u8 (b.toNat : Int)) := ho
  by_cases hv : v = .slice none 0 0
  · subst hv
    refine (AnyE.slices_Reverse_empty Tryz.lReverseB none 0 w).mono fun e w' ⟨h, hw⟩ => ⟨h, ?_, by rw [hw]; exact Below.refl _ _⟩
    rcases ho1.2 with ⟨_, h0⟩ | ⟨g, cap, cur, e0, _⟩
    · obtain rfl := List.eq_nil_of_length_eq_zero h0
      rw [hw]; exact ho
    · cases e0
  · obtain ⟨g, cap, rfl, hb, hg, hn, hm, hlen, hH⟩ := holds_of_ownsRow ho1 hv
    refine (AnyE.slices_Reverse Tryz.lReverseB (fun (b : UInt8) => Value.int .u8 (b.toNat : Int)) (fun _ => rfl) g 0 cap l w hH (by omega)).mono fun e w' ⟨h, n, hw⟩ => ⟨h, ?_, ?_⟩
    · rw [hw]
      have := ownsRow_putRow (q := n) (ys := l.reverse) ho1 (by simp) (Nat.le_refl _)
      rw [List.take_of_length_le (by simp)] at this
      unfold OwnB u8s
      rw [List.length_reverse]
      exact this
    · rw [hw]
      exact below_putRow (Below.refl _ _) hb

end Go.Proofs.YtkamjjjimbbdmaaGreatDoor
