/- Plain law: numerals are compared by their lengths, then byte by byte. -/
import Derived.Test.YtkamjjjimbbdmaaGreatDoorKit
namespace Go.Proofs.YtkamjjjimbbdmaaGreatDoor
open Go.RowKit Go.Lib

theorem less_dig : ∀ (l m : List UInt8), Dec.Dig l → Dec.Dig m → l.length = m.length → Op.bytesLess l m = decide (Dec.val 0 l < Dec.val 0 m)
  | [], [], _, _, _ => by simp [Op.bytesLess, Dec.val_nil]
  | [], _ :: _, _, _, h => by simp at h
  | _ :: _, [], _, _, h => by simp at h
  | a :: l, b :: m, hl, hm, h => by
    have ha := hl a (List.mem_cons_self ..)
    have hb := hm b (List.mem_cons_self ..)
    have hl' : Dec.Dig l := fun x hx => hl x (List.mem_cons_of_mem _ hx)
    have hm' : Dec.Dig m := fun x hx => hm x (List.mem_cons_of_mem _ hx)
    have hlen : l.length = m.length := by simpa using h
    have ih := less_dig l m hl' hm' hlen
    have vl := Dec.val_lt l hl'
    have vm := Dec.val_lt m hm'
    rw [Dec.val_cons, Dec.val_cons, Dec.val_acc l, Dec.val_acc m, hlen]
    rw [hlen] at vl
    generalize Dec.val 0 l = x at *
    generalize Dec.val 0 m = y at *
    generalize 10 ^ m.length = t at *
    have hda : Dec.dv a = a.toNat - 48 := rfl
    have hdb : Dec.dv b = b.toNat - 48 := rfl
    rw [hda, hdb]
    simp only [Op.bytesLess]
    rw [ih]
    have e10 : ∀ z : Nat, (10 * 0 + z) * t = z * t := fun z => by rw [Nat.mul_zero, Nat.zero_add]
    rw [e10, e10]
    rcases Nat.lt_trichotomy a.toNat b.toNat with g | g | g
    · have g1 : (a < b) = True := by rw [UInt8.lt_iff_toNat_lt]; simp [g]
      have g2 : (a.toNat - 48) * t + x < (b.toNat - 48) * t + y := by
        have h1 : (a.toNat - 48 + 1) * t ≤ (b.toNat - 48) * t := Nat.mul_le_mul_right _ (by omega)
        rw [Nat.add_mul, Nat.one_mul] at h1
        omega
      simp [g1, g2]
    · have g1 : a = b := UInt8.toNat_inj.1 g
      subst g1
      simp
    · have g1 : (a < b) = False := by rw [UInt8.lt_iff_toNat_lt]; simp; omega
      have g3 : (a == b) = false := by
        rw [beq_eq_false_iff_ne]
        intro e
        rw [e] at g
        omega
      have g2 : ¬ (a.toNat - 48) * t + x < (b.toNat - 48) * t + y := by
        have h1 : (b.toNat - 48 + 1) * t ≤ (a.toNat - 48) * t := Nat.mul_le_mul_right _ (by omega)
        rw [Nat.add_mul, Nat.one_mul] at h1
        omega
      simp [g1, g3, g2]

theorem ret_int {k : IntKind} {a b : Int} (h : a = b) : Ending.returned (.int k a) = .returned (.int k b) := by rw [h]

/-- Three ways of an order. -/
def cmpI (a b : Int) : Int := if a < b then -1 else if a = b then 0 else 1
theorem cmpI_lt {a b : Int} (h : a < b) : cmpI a b = -1 := by unfold cmpI; rw [if_pos h]
theorem cmpI_eq {a b : Int} (h : a = b) : cmpI a b = 0 := by unfold cmpI; rw [if_neg (by omega), if_pos h]
theorem cmpI_gt {a b : Int} (h : b < a) : cmpI a b = 1 := by unfold cmpI; rw [if_neg (by omega), if_neg (by omega)]

theorem D_list (n : Nat) : (D n).toList = decDigits n := by rw [Lib.toList_data]; simp [D]
theorem D_pos (n : Nat) : 0 < (D n).size := by rw [D_size]; exact nDigits_pos n
theorem D_inj {a b : Nat} (h : D a = D b) : a = b := Dec.dec_inj (by rw [← D_list, h, D_list])
theorem D_less (a b : Nat) (h : nDigits a = nDigits b) : Op.bytesLess (D a).toList (D b).toList = decide (a < b) := by
  rw [D_list, D_list, less_dig _ _ (Dec.dig_dec a) (Dec.dig_dec b) (by rw [decDigits_length, decDigits_length, h]), Dec.val_dec, Dec.val_dec]
theorem D_eq (a b : Nat) : ((D a).toList == (D b).toList) = decide (a = b) := by
  rw [D_list, D_list]
  by_cases h : a = b
  · subst h; simp
  · rw [decide_eq_false h, beq_eq_false_iff_ne]
    exact fun e => h (Dec.dec_inj e)
theorem D_zero : D 0 = ⟨#[48]⟩ := by unfold D; rw [decDigits]; rfl
theorem D_one : D 1 = ⟨#[49]⟩ := by unfold D; rw [decDigits]; rfl
theorem D_is_zero (a : Nat) : ((D a).toList == [48]) = decide (a = 0) := by
  have := D_eq a 0
  rwa [D_list 0, show decDigits 0 = [48] by rw [decDigits]; rfl] at this
theorem D_is_one (a : Nat) : ((D a).toList == [49]) = decide (a = 1) := by
  have := D_eq a 1
  rwa [D_list 1, show decDigits 1 = [49] by rw [decDigits]; rfl] at this

theorem I_neg_list (n : Nat) (h : 0 < n) : (I (-(n : Int))).toList = 45 :: decDigits n := by
  rw [Lib.toList_data]
  unfold I itoa
  rw [if_pos (by omega)]
  simp
theorem I_neg_size (n : Nat) (h : 0 < n) : (I (-(n : Int))).size = nDigits n + 1 := by
  have := I_neg_list n h
  rw [Lib.size_eq, ← Lib.toList_data, this, List.length_cons, decDigits_length]
theorem I_list (z : Int) : (I z).toList = itoa z := by rw [Lib.toList_data]; simp [I]
theorem itoa_inj {a b : Int} (h : itoa a = itoa b) : a = b := by
  unfold itoa at h
  by_cases h1 : a < 0 <;> by_cases h2 : b < 0
  · rw [if_pos h1, if_pos h2] at h
    injection h with _ h
    have := Dec.dec_inj h
    omega
  · rw [if_pos h1, if_neg h2] at h
    have := Dec.dig_dec b.toNat 45 (by rw [← h]; exact List.mem_cons_self ..)
    have e45 : (45 : UInt8).toNat = 45 := rfl
    rw [e45] at this
    omega
  · rw [if_neg h1, if_pos h2] at h
    have := Dec.dig_dec a.toNat 45 (by rw [h]; exact List.mem_cons_self ..)
    have e45 : (45 : UInt8).toNat = 45 := rfl
    rw [e45] at this
    omega
  · rw [if_neg h1, if_neg h2] at h
    have := Dec.dec_inj h
    omega
theorem I_inj {a b : Int} (h : I a = I b) : a = b := itoa_inj (by rw [← I_list, h, I_list])
theorem I_eq (a b : Int) : ((I a).toList == (I b).toList) = decide (a = b) := by
  rw [I_list, I_list]
  by_cases h : a = b
  · subst h; simp
  · rw [decide_eq_false h, beq_eq_false_iff_ne]
    exact fun e => h (itoa_inj e)
theorem I_is_zero (a : Int) : ((I a).toList == [48]) = decide (a = 0) := by
  have := I_eq a 0
  rwa [I_list 0, show itoa 0 = [48] by unfold itoa; rw [if_neg (by omega), show (0 : Int).toNat = 0 from rfl, decDigits]; rfl] at this

/-- The first byte of a numeral. -/
theorem D_first (n : Nat) (h : 0 < (D n).size) : 48 ≤ ((D n)[0]'h).toNat ∧ ((D n)[0]'h).toNat ≤ 57 := by
  have e : (D n)[0]'h ∈ decDigits n := by
    have h1 : (D n)[0]'h = (D n).data[0]'h := rfl
    rw [h1]
    have : (D n).data.toList = decDigits n := by simp [D]
    rw [← this]
    exact Array.mem_toList_iff.2 (Array.getElem_mem _)
  exact Dec.dig_dec n _ e

theorem I_neg_first (n : Nat) (hn : 0 < n) (h : 0 < (I (-(n : Int))).size) : ((I (-(n : Int)))[0]'h).toNat = 45 := by
  have e : I (-(n : Int)) = ⟨(45 :: decDigits n).toArray⟩ := by
    unfold I itoa
    rw [if_pos (by omega)]
    simp
  have h1 : ∀ (s : ByteArray) (hs : 0 < s.size), s = ⟨(45 :: decDigits n).toArray⟩ → (s[0]'hs).toNat = 45 := by
    intro s hs he
    subst he
    rfl
  exact h1 _ h e

theorem I_neg_tail (n : Nat) (hn : 0 < n) : (I (-(n : Int))).extract 1 (I (-(n : Int))).size = D n := by
  have e : I (-(n : Int)) = ⟨(45 :: decDigits n).toArray⟩ := by
    unfold I itoa
    rw [if_pos (by omega)]
    simp
  rw [I_neg_size n hn, e, extract_list]
  unfold D
  congr 2
  rw [List.take_of_length_le (by rw [List.length_cons, decDigits_length]; omega)]
  rfl

end Go.Proofs.YtkamjjjimbbdmaaGreatDoor
