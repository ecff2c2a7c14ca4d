/- whole.Small: strconv.ParseInt at numerals, with the error of the range. Walk: hermite's small. -/
import Derived.Test.YtkamjjjimbbdmaaGreatDoorShelfD
import Derived.Test.YtkamjjjimbbdmaaGreatDoorNumA
import Derived.Test.YtkamjjjimbbdmaaGreatDoorHermC
namespace Go.Proofs.YtkamjjjimbbdmaaGreatDoor
open Go.RowKit Go.Lib Go.Shelf

/-- What strconv.ErrRange holds. -/
def RngV (w : World) : Prop := ∃ tp p, w.var? Tryz.prog "strconv.ErrRange" = some #[.iface tp p]
theorem globalAtR : Tryz.prog.globalNamed "strconv.ErrRange" = some 1 := by kernel_rfl
theorem RngV.ext {w w' : World} (h : RngV w) (hx : Ext w w') : RngV w' := by
  obtain ⟨tp, p, h⟩ := h
  refine ⟨tp, p, var?_below hx globalAtR ?_ h⟩
  unfold World.var? at h
  rw [globalAtR] at h
  rcases Nat.lt_or_ge 1 w.heap.size with g | g
  · exact g
  · have e : w.heap[1]? = none := Array.getElem?_eq_none g
    simp [e] at h

theorem atoiAll_range (z : Int) (h : z < -9223372036854775808 ∨ 9223372036854775808 ≤ z) : Lib.atoiAll (itoa z) = .range := by
  have key : ∀ (l : List UInt8) (acc : Nat), Dec.Dig l → acc < 18446744073709551616 → 18446744073709551616 ≤ Dec.val acc l → parseUint10 acc l = .range := by
    intro l
    induction l with
    | nil => intro acc _ h1 h2; rw [Dec.val_nil] at h2; omega
    | cons c r ih =>
      intro acc hd ha hv
      have hc := hd c (List.mem_cons_self ..)
      have hr : Dec.Dig r := fun x hx => hd x (List.mem_cons_of_mem _ hx)
      rw [Dec.val_cons] at hv
      have hdv : c.toNat - 48 = Dec.dv c := rfl
      simp only [parseUint10]
      rw [if_pos hc]
      by_cases h1 : 1844674407370955162 ≤ acc
      · rw [if_pos h1]
      · rw [if_neg h1, hdv]
        by_cases h2 : 18446744073709551616 ≤ acc * 10 + Dec.dv c
        · rw [if_pos h2]
        · rw [if_neg h2, Nat.mul_comm acc 10]
          exact ih _ hr (by omega) hv
  have okk : ∀ (l : List UInt8) (acc : Nat), Dec.Dig l → Dec.val acc l < 18446744073709551616 → parseUint10 acc l = .ok (Dec.val acc l) := by
    intro l
    induction l with
    | nil => intro acc _ _; rw [Dec.val_nil]; rfl
    | cons c r ih =>
      intro acc hd hv
      have hc := hd c (List.mem_cons_self ..)
      have hr : Dec.Dig r := fun x hx => hd x (List.mem_cons_of_mem _ hx)
      rw [Dec.val_cons] at hv ⊢
      have hmono : 10 * acc + Dec.dv c ≤ Dec.val (10 * acc + Dec.dv c) r := by
        rw [Dec.val_acc]
        have : 1 ≤ 10 ^ r.length := Nat.one_le_pow _ _ (by decide)
        have := Nat.mul_le_mul_left (10 * acc + Dec.dv c) this
        omega
      have hdv : c.toNat - 48 = Dec.dv c := rfl
      simp only [parseUint10]
      rw [if_pos hc, if_neg (by omega), hdv, if_neg (by omega), Nat.mul_comm acc 10, ih _ hr hv]
  have mag : ∀ n : Nat, parseMag (decDigits n) = if n < 18446744073709551616 then .ok n else .range := by
    intro n
    unfold parseMag
    rw [if_neg (Dec.dec_ne_nil n)]
    by_cases hn : n < 18446744073709551616
    · rw [if_pos hn, okk _ 0 (Dec.dig_dec n) (by rw [Dec.val_dec]; exact hn), Dec.val_dec]
    · rw [if_neg hn, key _ 0 (Dec.dig_dec n) (by omega) (by rw [Dec.val_dec]; omega)]
  unfold itoa
  by_cases hz : z < 0
  · rw [if_pos hz]
    unfold atoiAll
    have e45 : (45 : UInt8).toNat = 45 := rfl
    simp only [e45, or_true, if_true]
    rw [mag]
    by_cases hn : z.natAbs < 18446744073709551616
    · rw [if_pos hn]
      simp only [not_true, false_and, if_false, true_and]
      rw [if_pos (by omega)]
    · rw [if_neg hn]
  · rw [if_neg hz]
    obtain ⟨n, rfl⟩ : ∃ n : Nat, z = n := ⟨z.toNat, by omega⟩
    rw [Int.toNat_natCast]
    cases hl : decDigits n with
    | nil => exact absurd hl (Dec.dec_ne_nil n)
    | cons c r =>
      have hc := Dec.dig_dec n c (by rw [hl]; exact List.mem_cons_self ..)
      unfold atoiAll
      simp only
      rw [if_neg (by omega), ← hl, mag]
      by_cases hn : n < 18446744073709551616
      · rw [if_pos hn]
        simp only
        have h45 : ¬ c.toNat = 45 := by omega
        simp only [h45, not_false_eq_true, true_and, false_and, if_false]
        rw [if_pos (by omega)]
      · rw [if_neg hn]

set_option maxHeartbeats 400000 in
theorem wsmall_yes (z : Int) (w : World) (h0 : -9223372036854775808 ≤ z) (h1 : z ≤ 9223372036854775807) :
    Calls Tryz.prog 104 #[.string (I z)] w fun e w' => e = .returned (.tuple #[.int .i64 z, .bool true]) ∧ Ext w w' := by
  have hs : (I z).size ≤ 9223372036854775806 := by
    show (itoa z).toArray.size ≤ _
    rw [List.size_toArray]
    unfold itoa
    split
    · rw [List.length_cons, decDigits_length]
      have := Dec.nDigits_le (n := z.natAbs) (k := 20) (by omega) (by omega)
      omega
    · rw [decDigits_length]
      have := Dec.nDigits_le (n := z.toNat) (k := 20) (by omega) (by omega)
      omega
  have hp := Any.strconv_ParseInt_10_at64_ok Tryz.lParseInt (I z) hs z (by rw [Lib.parseIntB_64]; exact atoiAll_I z h0 h1) w
  have hp2 : Calls Tryz.prog 149 #[.string (I z), .int .i64 10, .int .i64 64] w fun e w' => e = .returned (.tuple #[.int .i64 z, .nilIface]) ∧ Ext w w' := hp.mono fun e w' ⟨h, hw⟩ => ⟨h, by
    rcases hw with rfl | ⟨t, rfl⟩
    · exact Ext.refl _
    · exact Ext.bytes _ _ _⟩
  have Hp := Lib.hid hp2; clear hp hp2 hs
  go_enter Tryz.func104, Tryz.ntmps104
  go_wp2_with fail
  refine Hp.out.mono ?_
  rintro e w1 ⟨rfl, hx1⟩
  have Hx1 := Lib.hid hx1; clear hx1
  go_wp2
  go_ret2
  exact ⟨rfl, Hx1.out⟩

set_option maxHeartbeats 400000 in
theorem wsmall_no (z : Int) (w : World) (hr : RngV w) (h : z < -9223372036854775808 ∨ 9223372036854775808 ≤ z) (hf : Fit z) :
    Calls Tryz.prog 104 #[.string (I z)] w fun e w' => e = .returned (.tuple #[.int .i64 0, .bool false]) ∧ Ext w w' := by
  have hs : (I z).size ≤ 281474976710656 := by
    have := I_size_le z hf
    omega
  obtain ⟨tp, p, hv⟩ := hr
  have hp := Any.strconv_ParseInt_10_at64_range_var Tryz.lParseInt (I z) hs (by rw [Lib.parseIntB_64]; exact atoiAll_range z h) tp p w hv
  have hp2 : Calls Tryz.prog 149 #[.string (I z), .int .i64 10, .int .i64 64] w fun e w' => ∃ n tt N, e = .returned (.tuple #[.int .i64 n, .iface tt (.pointer (some ⟨N, 0, none⟩))]) ∧ Ext w w' := hp.mono fun e w' ⟨N, h, _, _, hb⟩ => ⟨_, _, N, h, hb⟩
  have Hp := Lib.hid hp2; clear hp hp2 hs hv hf h
  go_enter Tryz.func104, Tryz.ntmps104
  go_wp2_with fail
  refine Hp.out.mono ?_
  rintro e w1 ⟨n1, tt, N, rfl, hx1⟩
  have Hx1 := Lib.hid hx1; clear hx1
  go_wp2
  go_ret2
  exact ⟨rfl, Hx1.out⟩

end Go.Proofs.YtkamjjjimbbdmaaGreatDoor

namespace Go.Proofs.YtkamjjjimbbdmaaGreatDoor
open Go.RowKit Go.Lib Go.Shelf

/-- What small answers: the row, or the error of the limit. -/
def HsPost (w : World) (l : List Int) (e : Ending) (w' : World) : Prop :=
  (l.all fitsI = true ∧ ∃ a c, e = .returned (.tuple #[.slice a l.length c, .int .i64 0]) ∧ OwnI w' w.heap.size (.slice a l.length c) l) ∨ (l.all fitsI = false ∧ e = .returned (.tuple #[.slice none 0 0, .int .i64 4]))

theorem fits_at {z : Int} : fitsI z = true ↔ -1000000000 ≤ z ∧ z ≤ 1000000000 := by unfold fitsI; simp
set_option maxRecDepth 100000 in
set_option maxHeartbeats 1000000 in
theorem hsmall_c (v : Value) (l : List Int) (w : World) (hr : RngV w) (hv : Sl w v (strs l)) (hl : l.length ≤ 1000) (hf : ∀ z ∈ l, Fit z) :
    Calls Tryz.prog 70 #[v] w fun e w' => HsPost w l e w' ∧ Ext w w' := by
  obtain ⟨i0, hi, hz0, hz1, hz2⟩ := info_parts info_int
  obtain ⟨a, c, rfl, _, _, hc⟩ := hv.parts
  rw [strs_length] at *
  have Hc := Lib.hid hc; have Hr := Lib.hid hr; have Hf := Lib.hid hf; have Hl := Lib.hid hl
  clear hc hr hf hv
  go_enter Tryz.func70, Tryz.ntmps70
  go_wp2_with (at_make; refine wpList_make_own _ rfl _ _ 30 rfl w.heap.size 3 i0 (.int .i64 0) 1 Tryz.underlying30 hi hz0 hz1 _ _ _ l.length rfl rfl ?hC ?b2 ?b3 (Nat.le_refl _) ?_)
  case hC => simp
  case b2 => rw [hz2]; omega
  case b3 => unfold maxLen; omega
  intro w1 hown hgrow
  have hx1 : Ext w w1 := (Ext.refl w).grown hgrow (by simp)
  have Hown := Lib.hid hown; have Hx1 := Lib.hid hx1
  clear hown hx1 hgrow
  go_wp2_with fail
  go_loopw [4, 14] (fun v4 v14 wr => ∃ k : Nat, v14 = .int .i64 k ∧ k ≤ l.length ∧ wr.ownsRow w.heap.size 3 1 v4 k (i64s (l.take k)) ∧ (l.take k).all fitsI = true ∧ Ext w wr) (fun _ v14 _ => l.length - (intOf v14).toNat)
  case atStart => exact ⟨0, rfl, Nat.zero_le _, Hown.out, rfl, Hx1.out⟩
  case round =>
    obtain ⟨k, rfl, hk, ho, hall, hext⟩ := hrel
    obtain ⟨a4, c4, rfl⟩ := own_shape ho
    have Ho := Lib.hid ho; have Hall := Lib.hid hall; have Hext := Lib.hid hext
    clear ho hall hext
    by_cases hkl : k < l.length
    · obtain ⟨b1, o1, e1, hcu⟩ := Hc.out k _ (strs_at hkl)
      subst e1
      have hcell := Hext.out.cell hcu
      have hfz := Hf.out _ (nthI_mem' hkl)
      have htk : l.take (k + 1) = l.take k ++ [nthI l k] := by
        rw [List.take_succ_eq_append_getElem hkl]
        congr 2
        unfold nthI
        rw [List.getD_eq_getElem?_getD, List.getElem?_eq_getElem hkl]; rfl
      have hmz : nthI l k ∈ l := nthI_mem' hkl
      have Htk := Lib.hid htk; have Hmz := Lib.hid hmz
      generalize nthI l k = z at *
      clear hcu htk hmz
      have hk0 : (0 : Int) ≤ (k : Int) := by omega
      have hk1 : (k : Int) < (l.length : Int) := by omega
      by_cases hz : -9223372036854775808 ≤ z ∧ z ≤ 9223372036854775807
      · have Hs := Lib.hid (wsmall_yes z wr hz.1 hz.2)
        clear hz hfz
        go_wp2_with fail
        refine Hs.out.mono ?_
        rintro e w2 ⟨rfl, hx2⟩
        have Hx2 := Lib.hid (Hext.out.trans hx2); have Ho2 := Lib.hid (hx2.own Ho.out); clear hx2 hcell
        have hw2 := Hx2.out.size
        by_cases hb : -1000000000 ≤ z ∧ z ≤ 1000000000
        · have hd1 : ¬ (1000000000 : Int) < z := by omega
          have hd2 : ¬ z < (-1000000000 : Int) := by omega
          have hm1 : k + 1 ≤ maxLen := by unfold maxLen; omega
          have hm2 : (k + 1) * 8 ≤ 140737488355328 := by omega
          have Hb := Lib.hid hb; clear hb
          go_wp2_with (at_builtin; refine wpList_append_own _ rfl _ _ 30 rfl w.heap.size 3 i0 (.int .i64 0) 1 8 Tryz.underlying30 hi hz0 hz1 hz2 rfl (by decide) _ _ _ rfl (Ho2.out.alloc _) ⟨w2.heap.size, 0, none⟩ 1 1 [.int .i64 z] rfl rfl (cell_one_new _ _ _) (by simp [Value.oneCell']) hm1 hm2 (by rw [World.size_alloc]; omega) ?_; intro v7 W7 hown7 hgrow7 _)
          have hE7 : Ext w W7 := (Hx2.out.alloc _).grown hgrow7 (fun q hq => (World.ownsRow.lt Ho2.out q hq).1)
          have Hown7 := Lib.hid hown7; have HE7 := Lib.hid hE7
          clear hown7 hE7 hgrow7
          go_wp2_with fail
          go_roundw
          case rel =>
            refine ⟨k + 1, by go_num, by omega, ?_, ?_, HE7.out⟩
            · rw [Htk.out]
              have := Hown7.out
              rwa [show i64s (l.take k) ++ [Value.int .i64 z] = i64s (l.take k ++ [z]) by simp [i64s]] at this
            · rw [Htk.out, List.all_append, Hall.out]
              simp [fits_at.2 Hb.out]
          case measure => simp [intOf]; omega
        · have hbad : l.all fitsI = false := by
            cases hq : l.all fitsI with
            | false => rfl
            | true => exact absurd (fits_at.1 (List.all_eq_true.1 hq z Hmz.out)) hb
          have Hbad := Lib.hid hbad; clear hbad
          have hcs : (1000000000 : Int) < z ∨ (¬ (1000000000 : Int) < z ∧ z < (-1000000000 : Int)) := by omega
          clear hb
          rcases hcs with h1 | ⟨h1, h2⟩
          all_goals
            go_wp2
            go_ret2
            exact ⟨.inr ⟨Hbad.out, rfl⟩, Hx2.out⟩
      · have Hs := Lib.hid (wsmall_no z wr (Hr.out.ext Hext.out) (by omega) hfz)
        have hbad : l.all fitsI = false := by
          cases hq : l.all fitsI with
          | false => rfl
          | true => have := fits_at.1 (List.all_eq_true.1 hq z Hmz.out); omega
        have Hbad := Lib.hid hbad; clear hbad hz hfz
        go_wp2_with fail
        refine Hs.out.mono ?_
        rintro e w2 ⟨rfl, hx2⟩
        have Hx2 := Lib.hid (Hext.out.trans hx2); clear hx2 hcell
        go_wp2
        go_ret2
        exact ⟨.inr ⟨Hbad.out, rfl⟩, Hx2.out⟩
    · obtain rfl : k = l.length := by omega
      have hfin := Ho.out
      have hal := Hall.out
      rw [List.take_length] at hfin hal
      have Hfin := Lib.hid hfin; have Hal := Lib.hid hal; clear hfin hal
      go_wp2
      go_ret2
      exact ⟨.inl ⟨Hal.out, _, _, rfl, Hfin.out⟩, Hext.out⟩

end Go.Proofs.YtkamjjjimbbdmaaGreatDoor
