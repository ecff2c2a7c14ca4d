/- The law CommaCombines at the arguments that it leaves, and at a limit that Combine refuses. -/
import Derived.Test.YtkamjjjimbbdmaaGreatDoorCombL
namespace Go.Proofs.YtkamjjjimbbdmaaGreatDoor
open Go.RowKit Go.Lib Go.Shelf Go.Sort

theorem comb_all {p : List Int} {l : List (List Int)} (hpe : primesErr p = 0) (hlen : ∀ x ∈ l, x.length = p.length) (hr : ∀ i j, -9 ≤ nthI (l.getD i []) j ∧ nthI (l.getD i []) j ≤ 9) : allErr p l = 0 := by
  unfold allErr
  rw [hpe, if_neg (by simp)]
  have : ∀ m : List (List Int), (∀ x ∈ m, rowErr p.length x = 0) → rowsErr p.length m = 0 := by
    intro m
    induction m with
    | nil => intro _; rfl
    | cons x r ih =>
      intro h
      rw [rowsErr, h x (List.mem_cons_self ..), if_neg (by simp)]
      exact ih fun y hy => h y (List.mem_cons_of_mem _ hy)
  refine this l fun x hx => ?_
  obtain ⟨i, hi, rfl⟩ := List.getElem_of_mem hx
  refine row_fine (hlen _ hx) fun j _ => ?_
  have := hr i j
  rw [List.getD_eq_getElem?_getD, List.getElem?_eq_getElem hi] at this
  simp only [Option.getD_some] at this
  omega

set_option maxRecDepth 100000 in
set_option maxHeartbeats 2000000 in
theorem combines_out (n : Nat) (a b c d cnt : Int) (am : Option Addr) (cm qn : Nat) (w : World) (he : Env w) (h : 2 < qn ∨ cnt < -1 ∨ 3 < cnt) (hq : qn ≤ maxLen) :
    Calls Tryz.prog 5 #[.agg #[.int .u8 n, .int .i8 a, .int .i8 b, .int .i8 c, .int .i8 d], .slice am qn cm, .int .i8 cnt] w fun e w' => e = .returned (.bool true) ∧ Ext w w' := by
  have hkn := fun W (hE : Ext w W) => known_c W (he.ext hE)
  have Hkn := Lib.hid hkn; clear hkn he
  unfold maxLen at hq
  have h3 : (2 < qn) ∨ (¬ 2 < qn ∧ cnt < -1) ∨ (¬ 2 < qn ∧ ¬ cnt < -1 ∧ 3 < cnt) := by omega
  clear h
  have hE0 : Ext w (w.alloc (.cells #[.int .u8 n, .int .i8 a, .int .i8 b, .int .i8 c, .int .i8 d] 25)) := (Ext.refl w).alloc _
  have HE0 := Lib.hid hE0; clear hE0
  rcases h3 with h | ⟨h, h2⟩ | ⟨h, h2, h3⟩
  all_goals
    go_enter Tryz.func5, Tryz.ntmps5
    go_wp2_with fail
    generalize w.alloc (.cells #[.int .u8 n, .int .i8 a, .int .i8 b, .int .i8 c, .int .i8 d] 25) = W0 at *
    refine (Hkn.out W0 HE0.out).mono ?_
    rintro e W1 ⟨rfl, hx1⟩
    have Hx1 := Lib.hid (HE0.out.trans hx1); clear hx1
    go_wp2_with fail
    refine (Hkn.out W1 Hx1.out).mono ?_
    rintro e W2 ⟨rfl, hx2⟩
    have Hx2 := Lib.hid (Hx1.out.trans hx2); clear hx2
    go_wp2
    go_ret
    exact ⟨rfl, Hx2.out⟩

set_option maxRecDepth 100000 in
set_option maxHeartbeats 16000000 in
theorem combines_neg (n : Nat) (a b c d : Int) (am : Option Addr) (cm : Nat) (Q : List Q4) (w : World) (he : Env w) (hn : n < 256) (hr : ∀ z ∈ [a, b, c, d], -128 ≤ z ∧ z ≤ 127) (hQ : QIn w am Q) (hQl : Q.length ≤ 2) (hQb : ∀ e ∈ Q, ∀ z ∈ q4l e, -128 ≤ z ∧ z ≤ 127) :
    Calls Tryz.prog 5 #[.agg #[.int .u8 n, .int .i8 a, .int .i8 b, .int .i8 c, .int .i8 d], .slice am Q.length cm, .int .i8 (-1)] w fun e w' => e = .returned (.bool true) ∧ Ext w w' := by
  obtain ⟨j0, hjr, hy0, hy1, hy2⟩ := info_parts info_row
  have hmk := fun W => make12_c n a b c d W hn hr
  have hkn := fun W (hE : Ext w W) => known_c W (he.ext hE)
  have h4 := ten_len n
  have hiv := fun W vp (e : Q4) (hp : Sl W vp (i64s (ints (tenP n)))) (hm : e ∈ Q) => interval_c vp (ints (tenP n)) e.1 e.2.1 e.2.2.1 e.2.2.2 W hp (by rw [ints_length]; exact h4.1) (hQb e hm)
  have hbr := comb_bd n a b c d Q
  have hln := comb_len n a b c d Q
  have hall := comb_all (ten_primes n) hln hbr
  have hco := fun W vp vl (hp : Sl W vp (i64s (ints (tenP n)))) (hl : Mat W vl (combRows n a b c d Q)) => combNeg_c vp vl (ints (tenP n)) (combRows n a b c d Q) (-1) W hp hl (by rw [ints_length]; omega) (by rw [comb_count]; omega) (fun i => by
    rw [List.getD_eq_getElem?_getD]
    rcases Nat.lt_or_ge i (combRows n a b c d Q).length with h | h
    · rw [List.getElem?_eq_getElem h]
      have := hln _ (List.getElem_mem h)
      rw [ints_length] at this
      simp only [Option.getD_some]
      omega
    · rw [List.getElem?_eq_none h]; simp) hall (by omega)
  have hrows : combRows n a b c d (Q.take Q.length) = combRows n a b c d Q := by rw [List.take_length]
  have hRc := comb_count n a b c d Q
  have Hmk := Lib.hid hmk; have Hkn := Lib.hid hkn; have Hiv := Lib.hid hiv; have Hco := Lib.hid hco; have Hrows := Lib.hid hrows; have HQ := Lib.hid hQ; have HRc := Lib.hid hRc
  clear hmk hkn hiv hco hall hbr hln hrows hQ hQb hr he hRc
  have hE0 : Ext w (w.alloc (.cells #[.int .u8 n, .int .i8 a, .int .i8 b, .int .i8 c, .int .i8 d] 25)) := (Ext.refl w).alloc _
  have hbx := World.alloc_heap_new w (.cells #[.int .u8 n, .int .i8 a, .int .i8 b, .int .i8 c, .int .i8 d] 25)
  have HE0 := Lib.hid hE0; have Hbx := Lib.hid hbx; clear hE0 hbx
  have hg1 : ¬ (2 : Int) < (Q.length : Int) := by omega
  go_enter Tryz.func5, Tryz.ntmps5
  go_wp2_with fail
  generalize w.alloc (.cells #[.int .u8 n, .int .i8 a, .int .i8 b, .int .i8 c, .int .i8 d] 25) = W0 at *
  refine (Hkn.out W0 HE0.out).mono ?_
  rintro e W1 ⟨rfl, hx1⟩
  obtain ⟨hb0, hb1, hb2, hb3, hb4⟩ := box5 (hx1.heap Hbx.out)
  have HE1 := Lib.hid (HE0.out.trans hx1); clear hx1
  go_wp2_with fail
  refine (Hmk.out W1).mono ?_
  rintro e W2 ⟨vp, vx, rfl, hvp, hvx, hx2⟩
  obtain ⟨ap, cp, rfl⟩ := own_shape hvp
  obtain ⟨ax, cx, rfl⟩ := own_shape hvx
  have hE2 := HE1.out.trans hx2
  have hE3 : Ext W2 (W2.alloc (.cells #[.slice ax (planX n [a, b, c, d]).length cx] 30)) := (Ext.refl W2).alloc _
  have hpx : (planX n [a, b, c, d]).length ≤ 1000000 := by rw [plan_len, ints_length]; omega
  have hrw0 : RwM (W2.alloc (.cells #[.slice ax (planX n [a, b, c, d]).length cx] 30)) w.heap.size W2.heap.size (.slice (some ⟨W2.heap.size, 0, none⟩) 1 1) [⟨planX n [a, b, c, d], .slice ax (planX n [a, b, c, d]).length cx, rfl⟩] := by
    refine ⟨own_block (xs := [.slice ax (planX n [a, b, c, d]).length cx]) (World.alloc_heap_new W2 _) (Nat.le_refl _) (by simp [maxLen]), fun r hr => ?_⟩
    simp only [List.mem_singleton] at hr
    subst hr
    exact ⟨hE3.ownI (own_mono hvx HE1.out.size), hpx⟩
  have Hvp := Lib.hid hvp.sl; have HE2 := Lib.hid hE2; have HE3 := Lib.hid hE3; have Hrw0 := Lib.hid hrw0; have HQ2 := Lib.hid hx2
  clear hvp hvx hx2 hE2 hE3 hrw0 hb0 hb1 hb2 hb3 hb4 hpx
  go_wp2_with fail
  generalize W2.alloc (.cells #[.slice ax (planX n [a, b, c, d]).length cx] 30) = W3 at *
  go_loopw [9, 10] (fun v i wr => CmRow n a b c d Q w.heap.size W2 v i wr) (fun _ i _ => Q.length - (intOf i).toNat)
  case atStart => exact ⟨0, _, rfl, Nat.zero_le _, Hrw0.out, by simp [combRows], HE3.out⟩
  case round =>
    obtain ⟨k, rs, rfl, hk, hrs, hmap, hext⟩ := hrel
    obtain ⟨av, cv, rfl⟩ := own_shape hrs.1
    have hrl : rs.length = k + 1 := by
      have := congrArg List.length hmap
      rw [List.length_map, comb_count, List.length_take, Nat.min_eq_left hk] at this
      exact this
    have Hrs := Lib.hid hrs; have Hmap := Lib.hid hmap; have Hext := Lib.hid hext; have Hrl := Lib.hid hrl
    by_cases hlt : k < Q.length
    · obtain ⟨q, hq⟩ : ∃ q, Q[k]? = some q := ⟨_, List.getElem?_eq_getElem hlt⟩
      obtain ⟨bb, off, rfl, hq0, hq1, hq2, hq3⟩ := HQ.out k q hq
      have hcv := Hiv.out wr (.slice ap (ints (tenP n)).length cp) q (hext.sl Hvp.out) (List.mem_of_getElem? hq)
      have hw2 := (HE2.out.trans hext)
      have hc0 := hw2.cell hq0
      have hc1 := hw2.cell hq1
      have hc2 := hw2.cell hq2
      have hc3 := hw2.cell hq3
      have Hq := Lib.hid hq; have Hcv := Lib.hid hcv
      clear hrs hmap hext hrl hq hq0 hq1 hq2 hq3 hcv hw2
      have hk0 : (0 : Int) ≤ (k : Int) := by omega
      have hk1 : (k : Int) < (Q.length : Int) := by omega
      go_wp2_with fail
      refine Hcv.out.mono ?_
      rintro e W5 ⟨v5, rfl, hv5, hx5⟩
      obtain ⟨a5, c5, rfl⟩ := own_shape hv5
      have hE5 := Hext.out.trans hx5
      have hr5 := hx5.rwM Hrs.out
      have hown : W5.ownsRow W2.heap.size 30 1 (.slice av rs.length cv) rs.length (rwc rs) := hr5.1
      have hv6 : OwnI W5 w.heap.size (.slice a5 (ivl (ints (tenP n)).length [q.1, q.2.1, q.2.2.1, q.2.2.2]).length c5) (ivl (ints (tenP n)).length [q.1, q.2.1, q.2.2.1, q.2.2.2]) := own_mono hv5 (HE2.out.trans Hext.out).size
      have hsz := hE5.size
      have hl5 : (ivl (ints (tenP n)).length [q.1, q.2.1, q.2.2.1, q.2.2.2]).length ≤ 1000000 := by rw [ivl_length, ints_length]; omega
      have hrl3 : rs.length ≤ 10 := by have := Hrl.out; omega
      have HE5 := Lib.hid hE5; have Hr5 := Lib.hid hr5; have Hv6 := Lib.hid hv6; have Hl5 := Lib.hid hl5
      clear hE5 hr5 hv5 hv6 hx5 hc0 hc1 hc2 hc3 hl5
      have hm3 : rs.length + 1 ≤ maxLen := by unfold maxLen; omega
      have hm4 : (rs.length + 1) * 24 ≤ 140737488355328 := by omega
      go_wp2_with (at_builtin; refine wpList_append_own _ rfl _ _ 36 rfl W2.heap.size 30 j0 (.slice none 0 0) 1 24 Tryz.underlying36 hjr hy0 hy1 hy2 rfl (by decide) _ _ _ rfl (hown.alloc _) ⟨W5.heap.size, 0, none⟩ 1 1 [.slice a5 (ivl (ints (tenP n)).length [q.1, q.2.1, q.2.2.1, q.2.2.2]).length c5] rfl rfl (cell_one_new _ _ _) (by simp [Value.oneCell']) hm3 hm4 (by rw [World.size_alloc]; omega) ?_; intro v7 W7 hown7 hgrow7 _)
      have hfin := rwm_more (r := ⟨ivl (ints (tenP n)).length [q.1, q.2.1, q.2.2.1, q.2.2.2], .slice a5 (ivl (ints (tenP n)).length [q.1, q.2.1, q.2.2.1, q.2.2.2]).length c5, rfl⟩) Hr5.out Hv6.out Hl5.out HE5.out hown7 hgrow7
      have hmapE : (rs ++ [(⟨ivl (ints (tenP n)).length [q.1, q.2.1, q.2.2.1, q.2.2.2], .slice a5 (ivl (ints (tenP n)).length [q.1, q.2.1, q.2.2.1, q.2.2.2]).length c5, rfl⟩ : Rw)]).map Rw.x = combRows n a b c d (Q.take (k + 1)) := by
        rw [List.map_append, Hmap.out, List.take_add_one, Hq.out, Option.toList_some]
        unfold combRows
        rw [List.map_append, List.cons_append, ints_length]
        rfl
      have HmapE := Lib.hid hmapE; have Hfin := Lib.hid hfin; clear hmapE hfin hown7 hgrow7 hown
      go_wp2
      go_roundw
      case rel => exact ⟨k + 1, _, by go_num, by omega, Hfin.out.1, HmapE.out, Hfin.out.2⟩
      case measure => simp [intOf]; omega
    · obtain rfl : k = Q.length := by omega
      obtain ⟨wa, hwa⟩ : ∃ wa : World, wa = wr := ⟨_, rfl⟩
      subst hwa
      have hmapR : rs.map Rw.x = combRows n a b c d Q := by rw [hmap, Hrows.out]
      have hmat := hrs.mat
      rw [hmapR] at hmat
      have hcom := Hco.out wa (.slice ap (ints (tenP n)).length cp) _ (hext.sl Hvp.out) hmat
      have Hcom := Lib.hid hcom
      clear hrs hmap hext hrl hmat hcom hmapR hlt hk
      go_wp2_with fail
      refine Hcom.out.mono ?_
      rintro e W6 ⟨rfl, rfl⟩
      go_wp2
      go_ret
      exact ⟨rfl, HE2.out.trans Hext.out⟩

theorem combines_c (n : Nat) (a b c d cnt : Int) (am : Option Addr) (cm : Nat) (Q : List Q4) (w : World) (he : Env w) (hn : n < 256) (hr : ∀ z ∈ [a, b, c, d], -128 ≤ z ∧ z ≤ 127) (hQ : QIn w am Q) (hQb : ∀ e ∈ Q, ∀ z ∈ q4l e, -128 ≤ z ∧ z ≤ 127) (hq : Q.length ≤ maxLen) :
    Calls Tryz.prog 5 #[.agg #[.int .u8 n, .int .i8 a, .int .i8 b, .int .i8 c, .int .i8 d], .slice am Q.length cm, .int .i8 cnt] w fun e w' => e = .returned (.bool true) ∧ Ext w w' := by
  by_cases h : 2 < Q.length ∨ cnt < -1 ∨ 3 < cnt
  · exact combines_out n a b c d cnt am cm Q.length w he h hq
  · by_cases h1 : cnt = -1
    · subst h1
      exact combines_neg n a b c d am cm Q w he hn hr hQ (by omega) hQb
    · obtain ⟨M, rfl⟩ : ∃ M : Nat, cnt = M := ⟨cnt.toNat, by omega⟩
      exact combines_in n a b c d am cm Q M w he hn hr hQ (by omega) hQb (by omega)

end Go.Proofs.YtkamjjjimbbdmaaGreatDoor
