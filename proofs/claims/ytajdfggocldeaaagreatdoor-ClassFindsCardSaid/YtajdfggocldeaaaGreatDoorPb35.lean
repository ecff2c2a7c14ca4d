/- Walks: whole.Check and fraction.Check at any strings of at most 9 bytes. Walk: fraction.Check at any two strings of at most 9 bytes. Walk: size.check and size.Check at any size of strings of at most 9 bytes (Rb: a slice of pairs of strings that reads). Walks: class.Count and class.Classes where size.Check finds an error. Walk: law 32's short, over any []api.Rational that reads. -/
import Derived.Test.YtajdfggocldeaaaGreatDoorPb11
import Derived.Test.YtajdfggocldeaaaGreatDoorPb12
import Derived.Test.YtajdfggocldeaaaGreatDoorPb34
set_option maxRecDepth 100000
set_option maxHeartbeats 2000000
namespace Go.Proofs.YtajdfggocldeaaaGreatDoor
open Go.RowKit Go.Lib
theorem canon_dec : ∀ (k : Nat) (l : List UInt8), l.length = k → canonB l = true → ∃ n, l = decDigits n := by
  intro k
  induction k with
  | zero =>
    intro l hl h
    have := List.eq_nil_of_length_eq_zero hl
    subst this
    exact absurd h (by decide)
  | succ k ih =>
    intro l hl h
    obtain ⟨m, c, rfl⟩ : ∃ m c, l = m ++ [c] := ⟨l.dropLast, l.getLast (by intro e; subst e; simp at hl), (List.dropLast_concat_getLast _).symm⟩
    have hm : m.length = k := by simpa using hl
    unfold canonB at h
    rw [Bool.and_eq_true, List.all_append, Bool.and_eq_true] at h
    obtain ⟨⟨ha, hc⟩, hb⟩ := h
    have hc : isD c = true := by simpa using hc
    unfold isD at hc
    rw [Bool.and_eq_true, decide_eq_true_iff, decide_eq_true_iff] at hc
    obtain ⟨hc1, hc2⟩ := hc
    have hce : ∀ j, j % 10 = c.toNat - 48 → UInt8.ofNat (48 + j % 10) = c := by
      intro j hj
      apply UInt8.toNat_inj.1
      rw [hj, show 48 + (c.toNat - 48) = c.toNat by omega]
      simp
    cases m with
    | nil =>
      refine ⟨c.toNat - 48, ?_⟩
      rw [decDigits, dif_pos (by omega)]
      have := hce (c.toNat - 48) (by omega)
      rw [Nat.mod_eq_of_lt (by omega)] at this
      rw [this]; rfl
    | cons d m =>
      have hd : d ≠ 48 := by
        rw [Bool.or_eq_true] at hb
        rcases hb with hb | hb
        · simp at hb
        · rw [Bool.and_eq_true, decide_eq_true_iff, decide_eq_true_iff] at hb
          exact hb.2
      have hcm : canonB (d :: m) = true := by
        unfold canonB
        rw [ha, Bool.true_and, Bool.or_eq_true]
        cases m with
        | nil => exact .inl rfl
        | cons _ _ => refine .inr ?_; rw [Bool.and_eq_true]; exact ⟨decide_eq_true (by simp), decide_eq_true hd⟩
      obtain ⟨n, hn⟩ := ih (d :: m) hm hcm
      have hn0 : n ≠ 0 := by
        rintro rfl
        rw [decDigits, dif_pos (by omega)] at hn
        exact hd (List.cons.inj hn).1
      refine ⟨10 * n + (c.toNat - 48), ?_⟩
      rw [decDigits, dif_neg (by omega), hn, show (10 * n + (c.toNat - 48)) / 10 = n by omega, hce _ (by omega)]
theorem ba_back (s : ByteArray) : (⟨s.toList.toArray⟩ : ByteArray) = s := by rw [Lib.toList_data]
theorem split_e (s : ByteArray) (w : World) (h0 : s.size = 0) :
    Calls Tryz.prog 128 #[.string s] w fun e w' => e = .returned (.tuple #[.bool false, .string s]) ∧ Ext w w' := by
  go_enter Tryz.func128, Tryz.ntmps128
  go_wp2
  go_ret2
  exact ⟨rfl, Ext.refl _⟩
theorem wchk_pos (s : ByteArray) (hs : ∀ w, Calls Tryz.prog 128 #[.string s] w fun e w' => e = .returned (.tuple #[.bool false, .string s]) ∧ Ext w w') (k : Int) (hk : k = 0 ∨ k = 2)
    (hc2 : ∀ W, Calls Tryz.prog 129 #[.string s] W fun e w' => e = .returned (.int .i64 k) ∧ Ext W w') (w : World) :
    Calls Tryz.prog 80 #[.string s] w fun e w' => e = .returned (.int .i64 k) ∧ Ext w w' := by
  rcases hk with rfl | rfl
  all_goals
    have Hs := Lib.hid hs; have Hc2 := Lib.hid hc2; clear hs hc2
    go_enter Tryz.func80, Tryz.ntmps80
    go_wp2_with fail
    refine ((Hs.out _)).mono ?_
    rintro e w1 ⟨rfl, hx1⟩
    have Hx1 := Lib.hid hx1; clear hx1
    go_wp2_with fail
    refine (Hc2.out w1).mono ?_
    rintro e w2 ⟨rfl, hx2⟩
    have Hx2 := Lib.hid (Hx1.out.trans hx2); clear hx2
    go_wp2
    go_ret
    exact ⟨rfl, Hx2.out⟩
theorem wchk_neg0 (s t : ByteArray) (hs : ∀ w, Calls Tryz.prog 128 #[.string s] w fun e w' => e = .returned (.tuple #[.bool true, .string t]) ∧ Ext w w') (h0 : (t.toList == [48]) = true) (w : World) :
    Calls Tryz.prog 80 #[.string s] w fun e w' => e = .returned (.int .i64 2) ∧ Ext w w' := by
  have Hs := Lib.hid hs; clear hs
  go_enter Tryz.func80, Tryz.ntmps80
  go_wp2_with fail
  refine ((Hs.out _)).mono ?_
  rintro e w1 ⟨rfl, hx1⟩
  have Hx1 := Lib.hid hx1; clear hx1
  go_wp2
  go_ret
  exact ⟨rfl, Hx1.out⟩
theorem wchk_neg (s t : ByteArray) (hs : ∀ w, Calls Tryz.prog 128 #[.string s] w fun e w' => e = .returned (.tuple #[.bool true, .string t]) ∧ Ext w w') (h0 : (t.toList == [48]) = false) (k : Int) (hk : k = 0 ∨ k = 2)
    (hc2 : ∀ W, Calls Tryz.prog 129 #[.string t] W fun e w' => e = .returned (.int .i64 k) ∧ Ext W w') (w : World) :
    Calls Tryz.prog 80 #[.string s] w fun e w' => e = .returned (.int .i64 k) ∧ Ext w w' := by
  rcases hk with rfl | rfl
  all_goals
    have Hs := Lib.hid hs; have Hc2 := Lib.hid hc2; clear hs hc2
    go_enter Tryz.func80, Tryz.ntmps80
    go_wp2_with fail
    refine ((Hs.out _)).mono ?_
    rintro e w1 ⟨rfl, hx1⟩
    have Hx1 := Lib.hid hx1; clear hx1
    go_wp2_with fail
    refine (Hc2.out w1).mono ?_
    rintro e w2 ⟨rfl, hx2⟩
    have Hx2 := Lib.hid (Hx1.out.trans hx2); clear hx2
    go_wp2
    go_ret
    exact ⟨rfl, Hx2.out⟩
theorem dchk_raw (t : ByteArray) (h9 : t.size ≤ 9) (w : World) :
    Calls Tryz.prog 129 #[.string t] w fun e w' => e = .returned (.int .i64 (if canonB t.toList = true then 0 else 2)) ∧ Ext w w' := by
  have hl : t.toList.length ≤ 9 := by rw [Lib.toList_data]; exact h9
  have h := dchk_c t.toList w (by omega)
  rw [ba_back] at h
  have e : (if canonB t.toList = true ∧ t.toList.length ≤ 400 then (0 : Int) else 2) = if canonB t.toList = true then 0 else 2 := by
    by_cases hb : canonB t.toList = true
    · rw [if_pos ⟨hb, by omega⟩, if_pos hb]
    · rw [if_neg (fun k => hb k.1), if_neg hb]
  rwa [e] at h
theorem D_of_canon {t : ByteArray} (h9 : t.size ≤ 9) (h : canonB t.toList = true) : ∃ n : Nat, t = D n ∧ nDigits n ≤ 9 := by
  obtain ⟨n, hn⟩ := canon_dec _ _ rfl h
  have e : t = D n := by rw [← ba_back t, hn]; rfl
  refine ⟨n, e, ?_⟩
  rw [e, D_size] at h9; exact h9
/-- whole.Check at any string of at most 9 bytes: a number, or the error 2. -/
theorem wchk_raw (s : ByteArray) (h9 : s.size ≤ 9) :
    (∃ z : Int, s = I z ∧ nDigits z.natAbs ≤ 9) ∨ ∀ w, Calls Tryz.prog 80 #[.string s] w fun e w' => e = .returned (.int .i64 2) ∧ Ext w w' := by
  by_cases h0 : s.size = 0
  · refine .inr fun w => wchk_pos s (fun w => split_e s w h0) 2 (.inr rfl) (fun W => ?_) w
    have h := dchk_raw s h9 W
    have hl : s.toList = [] := List.eq_nil_of_length_eq_zero (by rw [Lib.toList_data]; exact h0)
    rw [hl, if_neg (by decide)] at h
    exact h
  · have hp : 0 < s.size := by omega
    by_cases hm : (((s[0]'hp).toNat : Int) == 45) = true
    · have hs := fun w => split_w1 s (s.extract 1 s.size) w hp (by omega) hm rfl
      have ht9 : (s.extract 1 s.size).size + 1 = s.size   := by rw [ByteArray.size_extract]; omega
      have hst : s.toList = 45 :: (s.extract 1 s.size).toList := by
        have hb : (s[0]'hp) = 45 := UInt8.toNat_inj.1 (by have := beq_iff_eq.1 hm; show (s[0]'hp).toNat = 45; omega)
        rw [Lib.toList_data, Lib.toList_data]
        have h1 : s.data.toList[0]'(by simpa using hp) = 45 := hb
        have h2 : (s.extract 1 s.size).data.toList = s.data.toList.drop 1 := by
          rw [ByteArray.data_extract, Array.toList_extract, List.extract_eq_take_drop]
          apply List.take_of_length_le
          rw [List.length_drop, Array.length_toList]; exact Nat.le_refl _
        rw [h2]
        have : s.data.toList ≠ [] := by
          intro e
          have e2 : s.data.toList.length = 0 := by rw [e]; rfl
          have e3 : s.size = s.data.toList.length := by rw [Array.length_toList]; rfl
          omega
        cases hq : s.data.toList with
        | nil => exact absurd hq this
        | cons a q => simp only [hq] at h1; simp at h1; rw [h1]; rfl
      generalize s.extract 1 s.size = t at *
      cases hz : (t.toList == [48]) with
      | true => exact .inr fun w => wchk_neg0 s t hs hz w
      | false =>
        by_cases hc : canonB t.toList = true
        · obtain ⟨n, rfl, hn⟩ := D_of_canon (by omega) hc
          refine .inl ⟨-(n : Int), ?_, by rw [Int.natAbs_neg, Int.natAbs_natCast]; exact hn⟩
          have hn0 : 0 < n := by
            rcases Nat.eq_zero_or_pos n with e | e
            · subst e; rw [D_is_zero] at hz; simp at hz
            · exact e
          have := I_neg_list n hn0
          rw [← ba_back s, hst, D_list, ← this, ba_back]
        · refine .inr fun w => wchk_neg s t hs hz 2 (.inr rfl) (fun W => ?_) w
          have h := dchk_raw t (by omega) W
          rwa [if_neg hc] at h
    · have hs := fun w => split_w0 s w hp (by omega) (by simpa using hm)
      by_cases hc : canonB s.toList = true
      · obtain ⟨n, rfl, hn⟩ := D_of_canon h9 hc
        exact .inl ⟨(n : Int), (I_nat n).symm, by rw [Int.natAbs_natCast]; exact hn⟩
      · refine .inr fun w => wchk_pos s hs 2 (.inr rfl) (fun W => ?_) w
        have h := dchk_raw s h9 W
        rwa [if_neg hc] at h
end Go.Proofs.YtajdfggocldeaaaGreatDoor

namespace Go.Proofs.YtajdfggocldeaaaGreatDoor
open Go.RowKit Go.Lib
theorem frChk_r1 (a b : ByteArray) (w : World)
    (hw1 : ∀ w, Calls Tryz.prog 80 #[.string a] w fun e w' => e = .returned (.int .i64 2) ∧ Ext w w') :
    Calls Tryz.prog 59 #[.agg #[.string a, .string b]] w fun e w' => e = .returned (.int .i64 2) ∧ Ext w w' := by
  have hE : Ext w (w.alloc (.cells #[.string a, .string b] 55)) := (Ext.refl _).alloc _
  have b1 := Box2.new w (.string a) (.string b)
  have Hw1 := Lib.hid hw1; have HE := Lib.hid hE; have B1 := Lib.hid b1; clear hw1 hE b1
  go_enter Tryz.func59, Tryz.ntmps59
  go_wp2_with fail
  refine (Hw1.out _).mono ?_
  rintro e w1 ⟨rfl, hx1⟩
  have Hx1 := Lib.hid hx1; clear hx1
  go_wp2
  go_ret
  exact ⟨rfl, HE.out.trans Hx1.out⟩
theorem frChk_r2 (a b : ByteArray) (w : World)
    (hw1 : ∀ w, Calls Tryz.prog 80 #[.string a] w fun e w' => e = .returned (.int .i64 0) ∧ Ext w w')
    (hw2 : ∀ w, Calls Tryz.prog 80 #[.string b] w fun e w' => e = .returned (.int .i64 2) ∧ Ext w w') :
    Calls Tryz.prog 59 #[.agg #[.string a, .string b]] w fun e w' => e = .returned (.int .i64 2) ∧ Ext w w' := by
  have hE : Ext w (w.alloc (.cells #[.string a, .string b] 55)) := (Ext.refl _).alloc _
  have b1 := Box2.new w (.string a) (.string b)
  have Hw1 := Lib.hid hw1; have Hw2 := Lib.hid hw2; have HE := Lib.hid hE; have B1 := Lib.hid b1; clear hw1 hw2 hE b1
  go_enter Tryz.func59, Tryz.ntmps59
  go_wp2_with fail
  refine (Hw1.out _).mono ?_
  rintro e w1 ⟨rfl, hx1⟩
  have Hx1 := Lib.hid hx1; clear hx1
  have hc1 := (B1.out.ext Hx1.out).c1
  go_wp2_with fail
  refine (Hw2.out w1).mono ?_
  rintro e w2 ⟨rfl, hx2⟩
  have Hx2 := Lib.hid (Hx1.out.trans hx2); clear hx2
  go_wp2
  go_ret
  exact ⟨rfl, HE.out.trans Hx2.out⟩
theorem frChk_r3 (a b : ByteArray) (k : Int) (w : World) (hk : k = 0 ∨ k = -1)
    (hw1 : ∀ w, Calls Tryz.prog 80 #[.string a] w fun e w' => e = .returned (.int .i64 0) ∧ Ext w w')
    (hw2 : ∀ w, Calls Tryz.prog 80 #[.string b] w fun e w' => e = .returned (.int .i64 0) ∧ Ext w w')
    (hs : ∀ w, Calls Tryz.prog 81 #[.string b] w fun e w' => e = .returned (.int .i64 k) ∧ w = w') :
    Calls Tryz.prog 59 #[.agg #[.string a, .string b]] w fun e w' => e = .returned (.int .i64 2) ∧ Ext w w' := by
  have hE : Ext w (w.alloc (.cells #[.string a, .string b] 55)) := (Ext.refl _).alloc _
  have b1 := Box2.new w (.string a) (.string b)
  rcases hk with rfl | rfl
  all_goals
    have Hw1 := Lib.hid hw1; have Hw2 := Lib.hid hw2; have Hs := Lib.hid hs; have HE := Lib.hid hE; have B1 := Lib.hid b1; clear hw1 hw2 hs hE b1
    go_enter Tryz.func59, Tryz.ntmps59
    go_wp2_with fail
    refine (Hw1.out _).mono ?_
    rintro e w1 ⟨rfl, hx1⟩
    have Hx1 := Lib.hid hx1; clear hx1
    have hc1 := (B1.out.ext Hx1.out).c1
    go_wp2_with fail
    refine (Hw2.out w1).mono ?_
    rintro e w2 ⟨rfl, hx2⟩
    have Hx2 := Lib.hid (Hx1.out.trans hx2); clear hx2
    have hc0 := (B1.out.ext Hx2.out).c0
    have hc1 := (B1.out.ext Hx2.out).c1
    go_wp2_with fail
    refine (Hs.out _).mono ?_
    rintro e W3 ⟨rfl, rfl⟩
    go_wp2
    go_ret
    exact ⟨rfl, HE.out.trans Hx2.out⟩
theorem frChk_r4 (a b g : ByteArray) (t : Bool) (ht : (g.toList == [49]) = t) (w : World)
    (hw1 : ∀ w, Calls Tryz.prog 80 #[.string a] w fun e w' => e = .returned (.int .i64 0) ∧ Ext w w')
    (hw2 : ∀ w, Calls Tryz.prog 80 #[.string b] w fun e w' => e = .returned (.int .i64 0) ∧ Ext w w')
    (hs : ∀ w, Calls Tryz.prog 81 #[.string b] w fun e w' => e = .returned (.int .i64 1) ∧ w = w')
    (hg : ∀ W, Ext w W → Calls Tryz.prog 82 #[.string a, .string b] W fun e w' => e = .returned (.string g) ∧ Ext W w') :
    Calls Tryz.prog 59 #[.agg #[.string a, .string b]] w fun e w' => e = .returned (.int .i64 (if t then 0 else 2)) ∧ Ext w w' := by
  have hE : Ext w (w.alloc (.cells #[.string a, .string b] 55)) := (Ext.refl _).alloc _
  have b1 := Box2.new w (.string a) (.string b)
  have t2 : (g.toList != [49]) = !t := by rw [bne, ht]
  cases t
  all_goals
    simp only [Bool.not_true, Bool.not_false] at t2
    have Hw1 := Lib.hid hw1; have Hw2 := Lib.hid hw2; have Hs := Lib.hid hs; have Hg := Lib.hid hg; have HE := Lib.hid hE; have B1 := Lib.hid b1; clear hw1 hw2 hs hg hE b1
    go_enter Tryz.func59, Tryz.ntmps59
    go_wp2_with fail
    refine (Hw1.out _).mono ?_
    rintro e w1 ⟨rfl, hx1⟩
    have Hx1 := Lib.hid hx1; clear hx1
    have hc1 := (B1.out.ext Hx1.out).c1
    go_wp2_with fail
    refine (Hw2.out w1).mono ?_
    rintro e w2 ⟨rfl, hx2⟩
    have Hx2 := Lib.hid (Hx1.out.trans hx2); clear hx2
    have hc0 := (B1.out.ext Hx2.out).c0
    have hc1 := (B1.out.ext Hx2.out).c1
    go_wp2_with fail
    refine (Hs.out _).mono ?_
    rintro e W3 ⟨rfl, rfl⟩
    go_wp2_with fail
    refine (Hg.out _ (HE.out.trans Hx2.out)).mono ?_
    rintro e w4 ⟨rfl, hx4⟩
    have Hx4 := Lib.hid (Hx2.out.trans hx4); clear hx4
    go_wp2
    go_ret
    exact ⟨rfl, HE.out.trans Hx4.out⟩
theorem D_is_one9 (a : Nat) : ((D a).toList == [49]) = decide (a = 1) := by
  have := D_eq a 1
  rwa [D_list 1, show decDigits 1 = [49] by rw [decDigits]; rfl] at this
/-- fraction.Check at any two strings of at most 9 bytes: a reduced fraction, or the error 2. -/
theorem frChk_raw (a b : ByteArray) (ha : a.size ≤ 9) (hb : b.size ≤ 9) :
    (∃ r : Rat, Rv r = .agg #[.string a, .string b] ∧ Ft 9 r) ∨
    ∀ w, Env w → Calls Tryz.prog 59 #[.agg #[.string a, .string b]] w fun e w' => e = .returned (.int .i64 2) ∧ Ext w w' := by
  rcases wchk_raw a ha with ⟨x, rfl, hx⟩ | h1
  · have hw1 := fun W => wchk_I x W (by omega)
    rcases wchk_raw b hb with ⟨z, rfl, hz⟩ | h2
    · have hw2 := fun W => wchk_I z W (by omega)
      have hs := fun W => sign_c z W (by unfold Fit; omega)
      by_cases hp : 0 < z
      · rw [cmpI_gt (by omega)] at hs
        have hg := fun W (he : Env W) => wgcd_c x z W he (by unfold Fit; omega) (by unfold Fit; omega)
        by_cases hr : Nat.gcd x.natAbs z.natAbs = 1
        · refine .inl ⟨⟨x, z.natAbs, by omega, hr⟩, ?_, hx, hz⟩
          unfold Rv
          show Value.agg #[.string (I x), .string (I (z.natAbs : Int))] = _
          rw [Int.natAbs_of_nonneg (by omega)]
        · refine .inr fun w he => ?_
          have := frChk_r4 (I x) (I z) (I (Nat.gcd x.natAbs z.natAbs : Nat)) false ?_ w hw1 hw2 hs (fun W h => hg W (he.ext h))
          · exact this
          · rw [I_nat, D_is_one9]; exact decide_eq_false hr
      · refine .inr fun w he => frChk_r3 (I x) (I z) (cmpI z 0) w ?_ hw1 hw2 hs
        rcases Int.lt_or_eq_of_le (Int.not_lt.1 hp) with h | h
        · exact .inr (cmpI_lt h)
        · exact .inl (cmpI_eq h)
    · exact .inr fun w _ => frChk_r2 (I x) b w hw1 h2
  · exact .inr fun w _ => frChk_r1 a b w h1
end Go.Proofs.YtajdfggocldeaaaGreatDoor

namespace Go.Proofs.YtajdfggocldeaaaGreatDoor
open Go.RowKit Go.Lib
/-- A slice of api.Rational, whatever strings it holds. -/
def Rb (w : World) (v : Value) (l : List (ByteArray × ByteArray)) : Prop :=
  ∃ a cap, v = .slice a l.length cap ∧ cap ≤ maxLen ∧ l.length ≤ cap ∧ ∀ i e, l[i]? = some e → ∃ b off, a = some ⟨b, off, none⟩ ∧ w.cell? ⟨b, off + i * 2, none⟩ = some (.string e.1) ∧ w.cell? ⟨b, off + i * 2 + 1, none⟩ = some (.string e.2)
theorem Ext.rb {w w' : World} (h : Ext w w') {v : Value} {l : List (ByteArray × ByteArray)} (k : Rb w v l) : Rb w' v l := by
  obtain ⟨a, cap, hv, h1, h2, hc⟩ := k
  refine ⟨a, cap, hv, h1, h2, fun i e he => ?_⟩
  obtain ⟨b, off, ha, g1, g2⟩ := hc i e he
  exact ⟨b, off, ha, h.cell g1, h.cell g2⟩
/-- A pair of strings that is a reduced fraction. -/
def Frac9 (e : ByteArray × ByteArray) : Prop := ∃ r : Rat, Rv r = .agg #[.string e.1, .string e.2] ∧ Ft 9 r
def rp (r : Rat) : ByteArray × ByteArray := (I r.num, I (r.den : Int))
theorem Frac9.rp {e : ByteArray × ByteArray} (h : Frac9 e) : ∃ r, e = rp r ∧ Ft 9 r := by
  obtain ⟨r, hr, hf⟩ := h
  unfold Rv at hr
  injection hr with hr
  have h0 := congrArg (fun a : Array Value => a[0]?) hr
  have h1 := congrArg (fun a : Array Value => a[1]?) hr
  simp at h0 h1
  exact ⟨r, Prod.ext h0.symm h1.symm, hf⟩
theorem rps {l : List (ByteArray × ByteArray)} (h : ∀ e ∈ l, Frac9 e) : ∃ x : List Rat, l = x.map rp ∧ ∀ r ∈ x, Ft 9 r := by
  induction l with
  | nil => exact ⟨[], rfl, fun _ k => by simp at k⟩
  | cons a t ih =>
    obtain ⟨x, rfl, hx⟩ := ih fun e he => h e (List.mem_cons_of_mem _ he)
    obtain ⟨r, rfl, hr⟩ := (h a List.mem_cons_self).rp
    refine ⟨r :: x, rfl, fun q hq => ?_⟩
    rcases List.mem_cons.1 hq with rfl | hq
    · exact hr
    · exact hx q hq
theorem rb_rd {w : World} {v : Value} {x : List Rat} (h : Rb w v (x.map rp)) : Rd w v x := by
  obtain ⟨a, cap, hv, h1, h2, hc⟩ := h
  rw [List.length_map] at hv h2
  cases x with
  | nil => exact .inl ⟨a, cap, hv, h1, rfl⟩
  | cons r t =>
    obtain ⟨b, off, rfl, _⟩ := hc 0 (rp r) rfl
    refine .inr ⟨b, off, cap, hv, h2, h1, fun i q hq => ?_⟩
    obtain ⟨b2, off2, e, g1, g2⟩ := hc i (rp q) (by rw [List.getElem?_map, hq]; rfl)
    injection e with e
    injection e with e1 e2
    subst e1; subst e2
    exact ⟨g1, g2⟩
open Classical in
/-- size.check's answer over a right list of n primes. -/
noncomputable def ckR (n : Nat) (l : List (ByteArray × ByteArray)) : Int := if l.length = n then if ∀ e ∈ l, Frac9 e then 0 else 2 else 5
theorem ckR_zero {n : Nat} {l : List (ByteArray × ByteArray)} (h : ckR n l = 0) : l.length = n ∧ ∀ e ∈ l, Frac9 e := by
  unfold ckR at h
  split at h
  · split at h
    · exact ⟨by assumption, by assumption⟩
    · omega
  · omega
theorem ret_int' {k : IntKind} {a b : Int} (h : a = b) : Ending.returned (.int k a) = .returned (.int k b) := by rw [h]
theorem scheckL_c (a : Option Addr) (c n : Nat) (l : List (ByteArray × ByteArray)) (w : World) (he : Env w) (ap : Option Addr) (cp : Nat)
    (hl : l.length ≤ 1000) (hln : l.length = n) (h9 : ∀ e ∈ l, e.1.size ≤ 9 ∧ e.2.size ≤ 9)
    (hc : ∀ i e, l[i]? = some e → ∃ b off, a = some ⟨b, off, none⟩ ∧ w.cell? ⟨b, off + i * 2, none⟩ = some (.string e.1) ∧ w.cell? ⟨b, off + i * 2 + 1, none⟩ = some (.string e.2)) :
    Calls Tryz.prog 34 #[.slice ap n cp, .slice a l.length c] w fun e w' => e = .returned (.int .i64 (ckR n l)) ∧ Ext w w' := by
  have hck : ∀ e, e ∈ l → Frac9 e ∨ ∀ W, Ext w W → Calls Tryz.prog 59 #[.agg #[.string e.1, .string e.2]] W fun u w' => u = .returned (.int .i64 2) ∧ Ext W w' := fun e h => by
    rcases frChk_raw e.1 e.2 (h9 e h).1 (h9 e h).2 with k | k
    · exact .inl k
    · exact .inr fun W hE => k W (he.ext hE)
  have hfine := fun (r : Rat) (hr : Ft 9 r) W (hE : Ext w W) => frChk_c r W (he.ext hE) (hr.mono (by omega))
  have hsh := fun (r : Rat) (hr : Ft 9 r) W => by
    have h1 := short_c r W (hr.mono (by omega))
    rw [short_ft (hr.mono (by omega))] at h1
    exact h1
  have hok : (∀ i e, l[i]? = some e → Frac9 e) → (0 : Int) = ckR n l := fun h => by
    unfold ckR
    rw [if_pos hln, if_pos fun e he => ?_]
    obtain ⟨i, hi⟩ := List.getElem?_of_mem he
    exact h i e hi
  have hbad : ∀ e, e ∈ l → ¬ Frac9 e → (2 : Int) = ckR n l := fun e h1 h2 => by
    unfold ckR
    rw [if_pos hln, if_neg fun h => h2 (h e h1)]
  subst hln
  clear he h9
  generalize hR : ckR l.length l = R at *
  clear hR
  have Hc := Lib.hid hc; have Hck := Lib.hid hck; have Hsh := Lib.hid hsh; have Hfine := Lib.hid hfine; have Hok := Lib.hid hok; have Hbad := Lib.hid hbad; clear hc hck hsh hfine hok hbad
  go_enter Tryz.func34, Tryz.ntmps34
  go_wp2_with fail
  go_loopw [6, 14] (fun v6 v14 wr => ∃ k : Nat, v14 = .int .i64 k ∧ k ≤ l.length ∧ Ext w wr ∧ ∀ i e, i < k → l[i]? = some e → Frac9 e) (fun _ v14 _ => l.length - (intOf v14).toNat)
  case atStart => exact ⟨0, rfl, Nat.zero_le _, Ext.refl _, fun i e h => absurd h (Nat.not_lt_zero i)⟩
  case round =>
    obtain ⟨k, rfl, hk, hE, hF⟩ := hrel
    have HE := Lib.hid hE; have HF := Lib.hid hF; clear hE hF
    by_cases hkl : k < l.length
    · obtain ⟨e, hr⟩ : ∃ e, l[k]? = some e := ⟨_, List.getElem?_eq_getElem hkl⟩
      have hmem := List.mem_of_getElem? hr
      obtain ⟨b, off, rfl, hc0, hc1⟩ := Hc.out k e hr
      have h0 := HE.out.cell hc0
      have h1 := HE.out.cell hc1
      have hk0 : (0 : Int) ≤ (k : Int) := by omega
      have hk1 : (k : Int) < (l.length : Int) := by omega
      by_cases hg : Frac9 e
      · have hnew : ∀ i e, i < k + 1 → l[i]? = some e → Frac9 e := fun i e' hi hie => by
          rcases Nat.lt_or_ge i k with h | h
          · exact HF.out i e' h hie
          · obtain rfl : i = k := by omega
            rw [hr] at hie; obtain rfl := Option.some.inj hie
            exact hg
        obtain ⟨r, re, hft⟩ := hg.rp
        have hr0 := Hfine.out r hft
        have hr1 := Hsh.out r hft
        unfold Rv at hr0 hr1
        rw [show I r.num = e.1 by rw [re]; rfl, show I (r.den : Int) = e.2 by rw [re]; rfl] at hr0 hr1
        have hEb : Ext w (wr.alloc (.cells #[.string e.1, .string e.2] 55)) := HE.out.alloc _
        have b1 := Box2.new wr (.string e.1) (.string e.2)
        clear re hft hg hmem
        generalize e.1 = sa at *
        generalize e.2 = sb at *
        clear hc0 hc1
        have Hr0 := Lib.hid hr0; have Hr1 := Lib.hid hr1; have Hr := Lib.hid hr; have HEb := Lib.hid hEb; have B1 := Lib.hid b1; have Hnew := Lib.hid hnew; clear hr0 hr1 hr hEb b1 hnew
        go_wp2_with fail
        refine (Hr0.out _ HEb.out).mono ?_
        rintro e W2 ⟨rfl, hx2⟩
        have hb2 := B1.out.ext hx2
        have g0 := hb2.c0; have g1 := hb2.c1
        have Hx2 := Lib.hid (HEb.out.trans hx2); clear hx2 hb2
        go_wp2_with fail
        refine (Hr1.out _).mono ?_
        rintro e W3 ⟨rfl, hx3⟩
        have Hx3 := Lib.hid (Hx2.out.trans hx3); clear hx3
        go_wp2_with fail
        go_roundw
        case rel => exact ⟨k + 1, by go_num, by omega, Hx3.out, Hnew.out⟩
        case measure => simp [intOf]; omega
      · have hans := Hbad.out e hmem hg
        have hr0 := (Hck.out e hmem).resolve_left hg
        have hEb : Ext w (wr.alloc (.cells #[.string e.1, .string e.2] 55)) := HE.out.alloc _
        have b1 := Box2.new wr (.string e.1) (.string e.2)
        clear hg hmem
        generalize e.1 = sa at *
        generalize e.2 = sb at *
        clear hc0 hc1
        have Hr0 := Lib.hid hr0; have Hr := Lib.hid hr; have HEb := Lib.hid hEb; have B1 := Lib.hid b1; have Hans := Lib.hid hans; clear hr0 hr hEb b1 hans
        go_wp2_with fail
        refine (Hr0.out _ HEb.out).mono ?_
        rintro e W2 ⟨rfl, hx2⟩
        have Hx2 := Lib.hid (HEb.out.trans hx2); clear hx2
        go_wp2
        go_ret
        exact ⟨ret_int' Hans.out, Hx2.out⟩
    · obtain rfl : k = l.length := by omega
      go_wp2
      go_ret
      exact ⟨ret_int' (Hok.out fun i e hi => HF.out i e (List.getElem?_eq_some_iff.1 hi).1 hi), HE.out⟩
theorem scheckN_c (a ap : Option Addr) (c n cp m : Nat) (w : World) (_hn : n ≤ 1000) (_hm : m ≤ 1000) (hne : ¬ (m : Int) = (n : Int)) :
    Calls Tryz.prog 34 #[.slice ap n cp, .slice a m c] w fun e w' => e = .returned (.int .i64 5) ∧ Ext w w' := by
  go_enter Tryz.func34, Tryz.ntmps34
  go_wp2
  go_ret
  exact ⟨rfl, Ext.refl _⟩
theorem scheckR_c (vp v : Value) (p : List Int) (l : List (ByteArray × ByteArray)) (w : World) (he : Env w) (hp : Sl w vp (i64s p)) (hv : Rb w v l) (hpl : p.length ≤ 1000) (hl : l.length ≤ 1000) (h9 : ∀ e ∈ l, e.1.size ≤ 9 ∧ e.2.size ≤ 9) :
    Calls Tryz.prog 34 #[vp, v] w fun e w' => e = .returned (.int .i64 (ckR p.length l)) ∧ Ext w w' := by
  obtain ⟨ap, cp, rfl, _, _, _⟩ := hp.parts
  obtain ⟨a, c, rfl, _, _, hc⟩ := hv
  rw [i64s_length]
  by_cases hln : l.length = p.length
  · exact scheckL_c a c p.length l w he ap cp hl hln h9 hc
  · have : ckR p.length l = 5 := by unfold ckR; rw [if_neg hln]
    rw [this]
    exact scheckN_c a ap c p.length cp l.length w hpl hl (by omega)
theorem sCheckR_c (vp v : Value) (p : List Int) (l : List (ByteArray × ByteArray)) (w : World) (he : Env w) (hp : Sl w vp (i64s p)) (hv : Rb w v l) (hpe : primesErr p = 0) (hl : l.length ≤ 1000) (h9 : ∀ e ∈ l, e.1.size ≤ 9 ∧ e.2.size ≤ 9) :
    Calls Tryz.prog 9 #[vp, v] w fun e w' => e = .returned (.int .i64 (ckR p.length l)) ∧ Ext w w' := by
  have hpl := (primesErr_zero hpe).2.1
  have h1 := primes_c vp p w hp (by omega)
  have h2 := scheckR_c vp v p l w he hp hv (by omega) hl h9
  rw [hpe] at h1
  obtain ⟨ap, cp, rfl, _, _, _⟩ := hp.parts
  obtain ⟨a, c, rfl, _, _, _⟩ := hv
  generalize ckR p.length l = R at *
  clear hp he hpe h9
  have H1 := Lib.hid h1; have H2 := Lib.hid h2; clear h1 h2
  go_enter Tryz.func9, Tryz.ntmps9
  go_wp2_with fail
  refine H1.out.mono ?_
  rintro e W ⟨rfl, rfl⟩
  go_wp2_with fail
  refine (H2.out).mono ?_
  rintro e w2 ⟨rfl, hx2⟩
  have Hx2 := Lib.hid hx2; clear hx2
  go_wp2
  go_ret
  exact ⟨rfl, Hx2.out⟩
end Go.Proofs.YtajdfggocldeaaaGreatDoor

namespace Go.Proofs.YtajdfggocldeaaaGreatDoor
open Go.RowKit Go.Lib
theorem ckR_cases (n : Nat) (l : List (ByteArray × ByteArray)) : ckR n l = 0 ∨ ckR n l = 2 ∨ ckR n l = 5 := by
  unfold ckR
  split
  · split
    · exact .inl rfl
    · exact .inr (.inl rfl)
  · exact .inr (.inr rfl)
theorem countE_c (v vx : Value) (p : List Int) (rs : List Qw) (l : List (ByteArray × ByteArray)) (d : Nat) (w : World) (he : Env w) (hv : ScV w v p rs) (h : Wc p (rs.map Qw.x)) (hd : d ≤ rs.length) (hx : Rb w vx l) (hll : l.length ≤ 1000) (h9 : ∀ e ∈ l, e.1.size ≤ 9 ∧ e.2.size ≤ 9) (hR : ¬ ckR p.length l = 0) :
    Calls Tryz.prog 8 #[v, .int .i64 (d : Int), vx] w fun e w' => e = .returned (.tuple #[.int .i64 0, .int .i64 (ckR p.length l)]) ∧ Ext w w' := by
  have hcl := fun W (hE : Ext w W) => classed_c v p rs d W (he.ext hE) (hv.ext hE) h hd
  have hpe : primesErr p = 0 ∧ p.length ≤ 100 := by rcases h.wd.pr with ⟨e, _⟩ | ⟨e, _⟩ <;> rw [e] <;> decide
  have hL : (rs.map Qw.x).length = rs.length := List.length_map ..
  have hfew := h.wd.few
  have hpos := h.wd.pos
  rw [hL] at hfew hpos
  obtain ⟨vp, vn, rfl, hp, hs, hmr⟩ := hv
  have hck := fun W (hE : Ext w W) => sCheckR_c vp vx p l W (he.ext hE) (hE.sl hp) (hE.rb hx) hpe.1 hll h9
  obtain ⟨ap, cp, rfl, _, _, _⟩ := hp.parts
  obtain ⟨an, cn, rfl, _, _, _⟩ := hs.parts
  obtain ⟨ax, cx, rfl, _, _, _⟩ := hx
  have hR2 : ckR p.length l = 2 ∨ ckR p.length l = 5 := (ckR_cases _ _).resolve_left hR
  clear hR h9
  rw [i64s_length] at *
  rw [qwc_length] at *
  generalize rs.length = n at *
  generalize ckR p.length l = R at *
  generalize l.length = lx at *
  have hE0 : Ext w (w.alloc (.cells #[.slice ap p.length cp, .slice an n cn] 35)) := (Ext.refl w).alloc _
  have hE1 := hE0.alloc (.cells #[.slice ax lx cx] 28)
  have b1 := (BoxT.new 35 w (.slice ap p.length cp) (.slice an n cn)).ext ((Ext.refl _).alloc (.cells #[.slice ax lx cx] 28))
  have b2 : BoxX ((w.alloc (.cells #[.slice ap p.length cp, .slice an n cn] 35)).alloc (.cells #[.slice ax lx cx] 28)) (w.heap.size + 1) (.slice ax lx cx) := by
    have : (w.alloc (.cells #[.slice ap p.length cp, .slice an n cn] 35)).heap.size = w.heap.size + 1 := World.size_alloc ..
    rw [← this]
    exact World.alloc_heap_new _ _
  have q0 := b1.c0
  have q1 := b1.c1
  have q2 := b2.c0
  have Hcl := Lib.hid hcl; have Hck := Lib.hid hck; have HE1 := Lib.hid hE1; have B1 := Lib.hid b1; have B2 := Lib.hid b2
  clear hcl hck hE0 hE1 b1 b2 hp hs hmr he h hpe hL
  rcases hR2 with rfl | rfl
  all_goals
    go_enter Tryz.func8, Tryz.ntmps8
    go_wp2_with fail
    refine (Hcl.out _ HE1.out).mono ?_
    rintro e w2 ⟨u, rfl, hu, hx2⟩
    have q0 := (B1.out.ext hx2).c0
    have q2 := (B2.out.ext hx2).c0
    have hE2 := HE1.out.trans hx2
    have hck := Hck.out w2 hE2
    obtain ⟨b, v1, v2, v3, nts, rfl, hrest⟩ := hu
    have Hck2 := Lib.hid hck; have HE2 := Lib.hid hE2
    clear hck hE2 hrest hx2
    go_wp2_with fail
    refine Hck2.out.mono ?_
    rintro e w3 ⟨rfl, hx3⟩
    have HE3 := Lib.hid (HE2.out.trans hx3)
    clear hx3 q0 q2
    go_wp2_with fail
    exact bodyPost_ret (v := .tuple #[.int .i64 0, _]) (by simp [results, Tryz.results8, go_sem]) rfl ⟨rfl, HE3.out⟩
theorem classesE_c (v vx : Value) (p : List Int) (rs : List Qw) (l : List (ByteArray × ByteArray)) (w : World) (he : Env w) (hv : ScV w v p rs) (h : Wc p (rs.map Qw.x)) (hx : Rb w vx l) (hll : l.length ≤ 1000) (h9 : ∀ e ∈ l, e.1.size ≤ 9 ∧ e.2.size ≤ 9) (hR : ¬ ckR p.length l = 0) :
    Calls Tryz.prog 7 #[v, vx] w fun e w' => e = .returned (.tuple #[.slice none 0 0, .int .i64 (ckR p.length l)]) ∧ Ext w w' := by
  have hlk := fun W (hE : Ext w W) => look_c v p rs W (he.ext hE) (hv.ext hE) h.wd
  have hpe : primesErr p = 0 ∧ p.length ≤ 100 := by rcases h.wd.pr with ⟨e, _⟩ | ⟨e, _⟩ <;> rw [e] <;> decide
  have hL : (rs.map Qw.x).length = rs.length := List.length_map ..
  have hfew := h.wd.few
  have hpos := h.wd.pos
  rw [hL] at hfew hpos
  obtain ⟨vp, vn, rfl, hp, hs, hmr⟩ := hv
  have hck := fun W (hE : Ext w W) => sCheckR_c vp vx p l W (he.ext hE) (hE.sl hp) (hE.rb hx) hpe.1 hll h9
  obtain ⟨ap, cp, rfl, _, _, _⟩ := hp.parts
  obtain ⟨an, cn, rfl, _, _, _⟩ := hs.parts
  obtain ⟨ax, cx, rfl, _, _, _⟩ := hx
  have hR2 : ckR p.length l = 2 ∨ ckR p.length l = 5 := (ckR_cases _ _).resolve_left hR
  clear hR h9
  rw [i64s_length] at *
  rw [qwc_length] at *
  generalize rs.length = n at *
  generalize ckR p.length l = R at *
  generalize l.length = lx at *
  have hE0 : Ext w (w.alloc (.cells #[.slice ap p.length cp, .slice an n cn] 35)) := (Ext.refl w).alloc _
  have hE1 := hE0.alloc (.cells #[.slice ax lx cx] 28)
  have b1 := (BoxT.new 35 w (.slice ap p.length cp) (.slice an n cn)).ext ((Ext.refl _).alloc (.cells #[.slice ax lx cx] 28))
  have b2 : BoxX ((w.alloc (.cells #[.slice ap p.length cp, .slice an n cn] 35)).alloc (.cells #[.slice ax lx cx] 28)) (w.heap.size + 1) (.slice ax lx cx) := by
    have : (w.alloc (.cells #[.slice ap p.length cp, .slice an n cn] 35)).heap.size = w.heap.size + 1 := World.size_alloc ..
    rw [← this]
    exact World.alloc_heap_new _ _
  have q0 := b1.c0
  have q1 := b1.c1
  have q2 := b2.c0
  have Hlk := Lib.hid hlk; have Hck := Lib.hid hck; have HE1 := Lib.hid hE1; have B1 := Lib.hid b1; have B2 := Lib.hid b2
  clear hlk hck hE0 hE1 b1 b2 hp hs hmr he h hpe hL
  rcases hR2 with rfl | rfl
  all_goals
    go_enter Tryz.func7, Tryz.ntmps7
    go_wp2_with fail
    refine (Hlk.out _ HE1.out).mono ?_
    rintro e w2 ⟨u, rfl, hu, hx2⟩
    have q0 := (B1.out.ext hx2).c0
    have q2 := (B2.out.ext hx2).c0
    have hE2 := HE1.out.trans hx2
    have hck := Hck.out w2 hE2
    obtain ⟨b, v1, v2, v3, nts, rfl, hrest⟩ := hu
    have Hck2 := Lib.hid hck; have HE2 := Lib.hid hE2
    clear hck hE2 hrest hx2
    go_wp2_with fail
    refine Hck2.out.mono ?_
    rintro e w3 ⟨rfl, hx3⟩
    have HE3 := Lib.hid (HE2.out.trans hx3)
    clear hx3 q0 q2
    go_wp2_with fail
    exact bodyPost_ret (v := .tuple #[.slice none 0 0, _]) (by simp [results, Tryz.results7, go_sem]) rfl ⟨rfl, HE3.out⟩
end Go.Proofs.YtajdfggocldeaaaGreatDoor

namespace Go.Proofs.YtajdfggocldeaaaGreatDoor
open Go.RowKit Go.Lib
def sht9 (e : ByteArray × ByteArray) : Prop := e.1.size ≤ 9 ∧ e.2.size ≤ 9
instance (e : ByteArray × ByteArray) : Decidable (sht9 e) := by unfold sht9; infer_instance
def sht (l : List (ByteArray × ByteArray)) : Bool := decide ((∀ e ∈ l, sht9 e) ∧ l.length ≤ 4)
theorem ret_bool2 {a b : Bool} (h : a = b) : Ending.returned (.bool a) = .returned (.bool b) := by rw [h]
theorem lShort_c (v : Value) (l : List (ByteArray × ByteArray)) (w : World) (hv : Rb w v l) (hl : l.length ≤ 9223372036854775807) :
    Calls Tryz.prog 5 #[v] w fun e w' => e = .returned (.bool (sht l)) ∧ Ext w w' := by
  obtain ⟨a, c, rfl, _, _, hc⟩ := hv
  have hbad : ∀ e, e ∈ l → ¬ sht9 e → false = sht l := fun e h1 h2 => by
    unfold sht
    exact (decide_eq_false fun h => h2 (h.1 e h1)).symm
  have hok : (∀ i e, i < l.length → l[i]? = some e → sht9 e) → decide ((l.length : Int) ≤ 4) = sht l := fun h => by
    unfold sht
    have h9 : ∀ e ∈ l, sht9 e := fun e he => by
      obtain ⟨i, hi⟩ := List.getElem?_of_mem he
      exact h i e (List.getElem?_eq_some_iff.1 hi).1 hi
    by_cases h4 : l.length ≤ 4
    · rw [decide_eq_true (by omega), decide_eq_true ⟨h9, h4⟩]
    · rw [decide_eq_false (by omega), decide_eq_false fun k => h4 k.2]
  generalize hS : sht l = S at *
  clear hS
  have Hc := Lib.hid hc; have Hbad := Lib.hid hbad; have Hok := Lib.hid hok; clear hc hbad hok
  go_enter Tryz.func5, Tryz.ntmps5
  go_wp2_with fail
  go_loopw [3] (fun v3 wr => ∃ k : Nat, v3 = .int .i64 k ∧ k ≤ l.length ∧ Ext w wr ∧ ∀ i e, i < k → l[i]? = some e → sht9 e) (fun v3 _ => l.length - (intOf v3).toNat)
  case atStart => exact ⟨0, rfl, Nat.zero_le _, Ext.refl _, fun i e h => absurd h (Nat.not_lt_zero i)⟩
  case round =>
    obtain ⟨k, rfl, hk, hE, hF⟩ := hrel
    have HE := Lib.hid hE; have HF := Lib.hid hF; clear hE hF
    by_cases hkl : k < l.length
    · obtain ⟨e, hr⟩ : ∃ e, l[k]? = some e := ⟨_, List.getElem?_eq_getElem hkl⟩
      have hmem := List.mem_of_getElem? hr
      obtain ⟨b, off, rfl, hc0, hc1⟩ := Hc.out k e hr
      have h0 := HE.out.cell hc0
      have h1 := HE.out.cell hc1
      have hk0 : (0 : Int) ≤ (k : Int) := by omega
      have hk1 : (k : Int) < (l.length : Int) := by omega
      have hb := fun h => Hbad.out e hmem h
      have hnew : sht9 e → ∀ i e, i < k + 1 → l[i]? = some e → sht9 e := fun hg i e' hi hie => by
        rcases Nat.lt_or_ge i k with h | h
        · exact HF.out i e' h hie
        · obtain rfl : i = k := by omega
          rw [hr] at hie; obtain rfl := Option.some.inj hie
          exact hg
      unfold sht9 at hb
      have hnew2 : e.1.size ≤ 9 → e.2.size ≤ 9 → ∀ i e, i < k + 1 → l[i]? = some e → sht9 e := fun g1 g2 => hnew ⟨g1, g2⟩
      clear hnew hmem
      clear hr hc0 hc1
      generalize e.1 = sa at *
      generalize e.2 = sb at *
      have Hb := Lib.hid hb; have Hnew2 := Lib.hid hnew2; clear hb hnew2
      by_cases g1 : sa.size ≤ 9
      · have g1i : ¬ (9 : Int) < (sa.size : Int) := by omega
        by_cases g2 : sb.size ≤ 9
        · have g2i : ¬ (9 : Int) < (sb.size : Int) := by omega
          have HN := Lib.hid (Hnew2.out g1 g2)
          go_wp2_with fail
          go_roundw
          case rel => exact ⟨k + 1, by go_num, by omega, HE.out, HN.out⟩
          case measure => simp [intOf]; omega
        · have g2i : (9 : Int) < (sb.size : Int) := by omega
          have HN := Lib.hid (Hb.out fun h => g2 h.2)
          go_wp2
          go_ret
          exact ⟨ret_bool2 HN.out, HE.out⟩
      · have g1i : (9 : Int) < (sa.size : Int) := by omega
        have HN := Lib.hid (Hb.out fun h => g1 h.1)
        go_wp2
        go_ret
        exact ⟨ret_bool2 HN.out, HE.out⟩
    · obtain rfl : k = l.length := by omega
      have HN := Lib.hid (Hok.out fun i e h hi => HF.out i e h hi)
      go_wp2
      go_ret
      exact ⟨ret_bool2 HN.out, HE.out⟩
end Go.Proofs.YtajdfggocldeaaaGreatDoor
