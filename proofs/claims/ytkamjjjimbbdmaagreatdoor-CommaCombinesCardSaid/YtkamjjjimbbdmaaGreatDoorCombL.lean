/- The walk of the law CommaCombines. -/
import Derived.Test.YtkamjjjimbbdmaaGreatDoorIns
namespace Go.Proofs.YtkamjjjimbbdmaaGreatDoor
open Go.RowKit Go.Lib Go.Shelf Go.Sort

theorem dig_bd {M k i : Nat} (hM : M ≤ 3) : -3 ≤ ((k / pw M i % (2 * M + 1) : Nat) : Int) - (M : Int) ∧ ((k / pw M i % (2 * M + 1) : Nat) : Int) - (M : Int) ≤ 3 := by
  have := Nat.mod_lt (k / pw M i) (show 0 < 2 * M + 1 by omega)
  omega
theorem mul_27 {k z : Int} (h1 : -3 ≤ k) (h2 : k ≤ 3) (hz1 : -9 ≤ z) (hz2 : z ≤ 9) : -27 ≤ k * z ∧ k * z ≤ 27 := by
  have h3 : (k * z).natAbs ≤ 3 * 9 := by rw [Int.natAbs_mul]; exact Nat.mul_le_mul (by omega) (by omega)
  omega
theorem zTo_bd {M L k : Nat} {rows : List (List Int)} (hM : M ≤ 3) (hr : ∀ i j, -9 ≤ nthI (rows.getD i []) j ∧ nthI (rows.getD i []) j ≤ 9) : ∀ (i j : Nat), -(27 * (i : Int)) ≤ nthI (zTo M rows L k i) j ∧ nthI (zTo M rows L k i) j ≤ 27 * (i : Int)
  | 0, j => by
    rw [zTo]
    have : nthI (List.replicate L 0) j = 0 := by
      unfold nthI
      rw [List.getD_eq_getElem?_getD, List.getElem?_replicate]
      split <;> rfl
    rw [this]; omega
  | i + 1, j => by
    have ih := zTo_bd (L := L) (k := k) hM hr i j
    rw [zTo]
    rcases Nat.lt_or_ge j (zTo M rows L k i).length with h | h
    · unfold addK
      rw [nthI_range h]
      have h1 := dig_bd (k := k) (i := i) hM
      have h2 := hr i j
      have h3 := mul_27 h1.1 h1.2 h2.1 h2.2
      omega
    · rw [nthI_out (by rw [addK_length]; exact h)]; omega
theorem zTo_one {M k : Nat} {p : List Int} {rows : List (List Int)} (hp : primesErr p = 0) (hM : M ≤ 3) (hr : ∀ i j, -9 ≤ nthI (rows.getD i []) j ∧ nthI (rows.getD i []) j ≤ 9) (hl : rows.length ≤ 3) : oneErr p (zTo M rows p.length k rows.length) = 0 := by
  have h1 : rowErr p.length (zTo M rows p.length k rows.length) = 0 := row_fine (zTo_len _ _ _ _ _) fun i _ => by
    have := zTo_bd (L := p.length) (k := k) hM hr rows.length i
    omega
  unfold oneErr allErr
  rw [hp, if_neg (by simp), rowsErr, h1, if_neg (by simp)]
  rfl
theorem pw_small {M k : Nat} (hM : M ≤ 3) (hk : k ≤ 3) : pw M k ≤ 343 := by
  have h1 : pw M k ≤ pw 3 k := Nat.pow_le_pow_left (by omega) k
  have h2 : pw 3 k ≤ pw 3 3 := Nat.pow_le_pow_right (by omega) hk
  have h3 : pw 3 3 = 343 := rfl
  omega
theorem combOk_c (vp vl : Value) (p : List Int) (l : List (List Int)) (M : Nat) (w : World) (he : Env w) (hp : Sl w vp (i64s p)) (hl : Mat w vl l) (hll : l.length ≤ 3) (hM : M ≤ 3) (hpe : primesErr p = 0) (hlen : ∀ x ∈ l, x.length = p.length) (hpl : p.length ≤ 64) (hr : ∀ i j, -9 ≤ nthI (l.getD i []) j ∧ nthI (l.getD i []) j ≤ 9) :
    Calls Tryz.prog 21 #[vp, vl, .int .i64 M] w fun e w' => ∃ v rs, e = .returned (.tuple #[v, .int .i64 0]) ∧ RwM w' w.heap.size w.heap.size v rs ∧ rs.map Rw.x = wantTo p (fun k => zTo M l p.length k l.length) (pw M l.length) ∧ Ext w w' := by
  have hall : allErr p l = 0 := by
    unfold allErr
    rw [hpe, if_neg (by simp)]
    have : ∀ m : List (List Int), (∀ x ∈ m, rowErr p.length x = 0) → rowsErr p.length m = 0 := by
      intro m
      induction m with
      | nil => intro _; rfl
      | cons x r ih =>
        intro h
        rw [rowsErr, h x (List.mem_cons_self ..), if_neg (by simp)]
        exact ih fun y hy => h y (List.mem_cons_of_mem _ hy)
    refine this l fun x hx => ?_
    obtain ⟨i, hi, rfl⟩ := List.getElem_of_mem hx
    refine row_fine (hlen _ hx) fun j _ => ?_
    have := hr i j
    rw [List.getD_eq_getElem?_getD, List.getElem?_eq_getElem hi] at this
    simp only [Option.getD_some] at this
    omega
  refine (combine_w vp vl p l M w he hp hl (by omega) (fun i => by
    rw [List.getD_eq_getElem?_getD]
    rcases Nat.lt_or_ge i l.length with h | h
    · rw [List.getElem?_eq_getElem h]
      have := hlen _ (List.getElem_mem h)
      simp only [Option.getD_some]
      omega
    · rw [List.getElem?_eq_none h]; simp) hall (.inr (by omega)) (by omega) (by have := pw_small hM hll; omega)).mono ?_
  rintro e w' (⟨⟨z, hz, hbad⟩, _⟩ | ⟨_, v, rs, rfl, hrs, hco, hx⟩)
  · have := (comb_mem M l p.length l.length (Nat.le_refl _) z).1 (by rw [List.take_length]; exact hz)
    obtain ⟨k, _, rfl⟩ := this
    exact absurd (zTo_one hpe hM hr hll) hbad
  · exact ⟨v, rs, rfl, hrs, comb_want hco, hx⟩

theorem box5 {w : World} {b : Nat} {x0 x1 x2 x3 x4 : Value} {t : TypeId} (h : w.heap[b]? = some (.cells #[x0, x1, x2, x3, x4] t (0, 0))) : w.cell? ⟨b, 0, none⟩ = some x0 ∧ w.cell? ⟨b, 1, none⟩ = some x1 ∧ w.cell? ⟨b, 2, none⟩ = some x2 ∧ w.cell? ⟨b, 3, none⟩ = some x3 ∧ w.cell? ⟨b, 4, none⟩ = some x4 := by
  refine ⟨?_, ?_, ?_, ?_, ?_⟩ <;> (unfold World.cell?; rw [h]; rfl)
abbrev Q4 := Int × Int × Int × Int
def q4l (e : Q4) : List Int := [e.1, e.2.1, e.2.2.1, e.2.2.2]
/-- A slice of four small ints an element that came in. -/
def QIn (w : World) (am : Option Addr) (Q : List Q4) : Prop := ∀ i e, Q[i]? = some e → ∃ bb off, am = some ⟨bb, off, none⟩ ∧ w.cell? ⟨bb, off + i * 4, none⟩ = some (.int .i8 e.1) ∧ w.cell? ⟨bb, off + i * 4 + 1, none⟩ = some (.int .i8 e.2.1) ∧ w.cell? ⟨bb, off + i * 4 + 2, none⟩ = some (.int .i8 e.2.2.1) ∧ w.cell? ⟨bb, off + i * 4 + 3, none⟩ = some (.int .i8 e.2.2.2)
def combRows (n : Nat) (a b c d : Int) (Q : List Q4) : List (List Int) := planX n [a, b, c, d] :: Q.map fun e => planX n (q4l e)
theorem comb_bd (n : Nat) (a b c d : Int) (Q : List Q4) (i j : Nat) : -9 ≤ nthI ((combRows n a b c d Q).getD i []) j ∧ nthI ((combRows n a b c d Q).getD i []) j ≤ 9 := by
  have hp : ∀ l, -9 ≤ nthI (planX n l) j ∧ nthI (planX n l) j ≤ 9 := fun l => by
    unfold planX
    rcases Nat.lt_or_ge j (tenP n).length with h | h
    · rw [nthI_ivl h]
      exact tmod_ten _
    · rw [nthI_out (by rw [ivl_length]; exact h)]; omega
  have h0 : nthI ([] : List Int) j = 0 := nthI_out (by simp)
  unfold combRows
  rw [List.getD_eq_getElem?_getD]
  cases i with
  | zero => simpa using hp _
  | succ i =>
    rw [List.getElem?_cons_succ, List.getElem?_map]
    cases hq : Q[i]? with
    | none => simp only [Option.map_none, Option.getD_none, h0]; omega
    | some e => simpa using hp _
theorem comb_len (n : Nat) (a b c d : Int) (Q : List Q4) : ∀ x ∈ combRows n a b c d Q, x.length = (ints (tenP n)).length := by
  intro x hx
  unfold combRows at hx
  rcases List.mem_cons.1 hx with rfl | hx
  · exact plan_len _ _
  · obtain ⟨e, _, rfl⟩ := List.mem_map.1 hx
    exact plan_len _ _
theorem comb_count (n : Nat) (a b c d : Int) (Q : List Q4) : (combRows n a b c d Q).length = Q.length + 1 := by simp [combRows]

def CmRow (n : Nat) (a b c d : Int) (Q : List Q4) (B : Nat) (W : World) (v i : Value) (wr : World) : Prop :=
  ∃ (k : Nat) (rs : List Rw), i = .int .i64 k ∧ k ≤ Q.length ∧ RwM wr B W.heap.size v rs ∧ rs.map Rw.x = combRows n a b c d (Q.take k) ∧ Ext W wr
def CmTot (M L : Nat) (v i : Value) : Prop := ∃ k : Nat, i = .int .i64 k ∧ 1 ≤ k ∧ k ≤ L ∧ v = .int .i64 ((pw M k : Nat) : Int)
def CmWant (p : List Int) (f : Nat → List Int) (T : Nat) (W : World) (v i : Value) (wr : World) : Prop :=
  ∃ (k : Nat) (ws : List Rw), i = .int .i64 k ∧ k ≤ T ∧ RwM wr W.heap.size W.heap.size v ws ∧ ws.map Rw.x = wantTo p f k ∧ Ext W wr
def CmSum (M : Nat) (rows : List (List Int)) (L k : Nat) (gz cz : Nat) (wk : World) (rest i : Value) (wr : World) : Prop :=
  ∃ j : Nat, i = .int .i64 j ∧ j ≤ rows.length ∧ rest = .int .i64 ((k / pw M j : Nat) : Int) ∧ OwnI wr wk.heap.size (.slice (some ⟨gz, 0, none⟩) L cz) (zTo M rows L k j) ∧ Ext wk wr
theorem div_pw (M k j : Nat) : k / pw M j / (2 * M + 1) = k / pw M (j + 1) := by rw [pw_succ, Nat.div_div_eq_div_mul]

set_option maxRecDepth 100000 in
set_option maxHeartbeats 16000000 in
theorem combines_in (n : Nat) (a b c d : Int) (am : Option Addr) (cm : Nat) (Q : List Q4) (M : Nat) (w : World) (he : Env w) (hn : n < 256) (hr : ∀ z ∈ [a, b, c, d], -128 ≤ z ∧ z ≤ 127) (hQ : QIn w am Q) (hQl : Q.length ≤ 2) (hQb : ∀ e ∈ Q, ∀ z ∈ q4l e, -128 ≤ z ∧ z ≤ 127) (hM : M ≤ 3) :
    Calls Tryz.prog 5 #[.agg #[.int .u8 n, .int .i8 a, .int .i8 b, .int .i8 c, .int .i8 d], .slice am Q.length cm, .int .i8 M] w fun e w' => e = .returned (.bool true) ∧ Ext w w' := by
  obtain ⟨j0, hjr, hy0, hy1, hy2⟩ := info_parts info_row
  obtain ⟨i0, hi, hz0, hz1, hz2⟩ := info_parts info_int
  have hmk := fun W => make12_c n a b c d W hn hr
  have hkn := fun W (hE : Ext w W) => known_c W (he.ext hE)
  have h4 := ten_len n
  have hiv := fun W vp (e : Q4) (hp : Sl W vp (i64s (ints (tenP n)))) (hm : e ∈ Q) => interval_c vp (ints (tenP n)) e.1 e.2.1 e.2.2.1 e.2.2.2 W hp (by rw [ints_length]; exact h4.1) (hQb e hm)
  have hco := fun W vp vl (hE : Ext w W) (hp : Sl W vp (i64s (ints (tenP n)))) (hl : Mat W vl (combRows n a b c d Q)) => combOk_c vp vl (ints (tenP n)) (combRows n a b c d Q) M W (he.ext hE) hp hl (by rw [comb_count]; omega) hM (ten_primes n) (comb_len n a b c d Q) (by rw [ints_length]; omega) (comb_bd n a b c d Q)
  have hsg := fun W vp v k (hE : Ext w W) (hp : Sl W vp (i64s (ints (tenP n)))) (hv : Sl W v (i64s (zTo M (combRows n a b c d Q) (ints (tenP n)).length k (combRows n a b c d Q).length))) => msign_c vp v (ints (tenP n)) _ W (he.ext hE) hp hv (by rw [ints_length]; omega) (by rw [zTo_len, ints_length]; omega)
  have hone := fun k => zTo_one (k := k) (ten_primes n) hM (comb_bd n a b c d Q) (by rw [comb_count]; omega)
  have hbd := fun k i j => zTo_bd (L := (ints (tenP n)).length) (k := k) hM (comb_bd n a b c d Q) i j
  have hbr := comb_bd n a b c d Q
  have hln := comb_len n a b c d Q
  have hsame := fun W va vb x y (h1 : Mat W va x) (h2 : Mat W vb y) (h3 : x.length ≤ 1000000) (h4 : y.length ≤ 1000000) (h5 : ∀ i, (x.getD i []).length ≤ 1000000) (h6 : ∀ i, (y.getD i []).length ≤ 1000000) => same16_c va vb x y W h1 h2 h3 h4 h5 h6
  have hrows : combRows n a b c d (Q.take Q.length) = combRows n a b c d Q := by rw [List.take_length]
  have hRc := comb_count n a b c d Q
  have Hmk := Lib.hid hmk; have Hkn := Lib.hid hkn; have Hiv := Lib.hid hiv; have Hco := Lib.hid hco; have Hsg := Lib.hid hsg; have Hone := Lib.hid hone; have Hbd := Lib.hid hbd; have Hbr := Lib.hid hbr; have Hln := Lib.hid hln; have Hsame := Lib.hid hsame; have Hrows := Lib.hid hrows; have HQ := Lib.hid hQ; have HRc := Lib.hid hRc
  clear hmk hkn hiv hco hsg hone hbd hbr hln hsame hrows hQ hQb hr he hRc
  have hE0 : Ext w (w.alloc (.cells #[.int .u8 n, .int .i8 a, .int .i8 b, .int .i8 c, .int .i8 d] 25)) := (Ext.refl w).alloc _
  have hbx := World.alloc_heap_new w (.cells #[.int .u8 n, .int .i8 a, .int .i8 b, .int .i8 c, .int .i8 d] 25)
  have HE0 := Lib.hid hE0; have Hbx := Lib.hid hbx; clear hE0 hbx
  have hg1 : ¬ (2 : Int) < (Q.length : Int) := by omega
  have hg2 : ¬ (M : Int) < -1 := by omega
  have hg3 : ¬ (3 : Int) < (M : Int) := by omega
  have hg4 : ¬ (M : Int) < 0 := by omega
  go_enter Tryz.func5, Tryz.ntmps5
  go_wp2_with fail
  generalize w.alloc (.cells #[.int .u8 n, .int .i8 a, .int .i8 b, .int .i8 c, .int .i8 d] 25) = W0 at *
  refine (Hkn.out W0 HE0.out).mono ?_
  rintro e W1 ⟨rfl, hx1⟩
  obtain ⟨hb0, hb1, hb2, hb3, hb4⟩ := box5 (hx1.heap Hbx.out)
  have HE1 := Lib.hid (HE0.out.trans hx1); clear hx1
  go_wp2_with fail
  refine (Hmk.out W1).mono ?_
  rintro e W2 ⟨vp, vx, rfl, hvp, hvx, hx2⟩
  obtain ⟨ap, cp, rfl⟩ := own_shape hvp
  obtain ⟨ax, cx, rfl⟩ := own_shape hvx
  have hE2 := HE1.out.trans hx2
  have hE3 : Ext W2 (W2.alloc (.cells #[.slice ax (planX n [a, b, c, d]).length cx] 30)) := (Ext.refl W2).alloc _
  have hpx : (planX n [a, b, c, d]).length ≤ 1000000 := by rw [plan_len, ints_length]; omega
  have hrw0 : RwM (W2.alloc (.cells #[.slice ax (planX n [a, b, c, d]).length cx] 30)) w.heap.size W2.heap.size (.slice (some ⟨W2.heap.size, 0, none⟩) 1 1) [⟨planX n [a, b, c, d], .slice ax (planX n [a, b, c, d]).length cx, rfl⟩] := by
    refine ⟨own_block (xs := [.slice ax (planX n [a, b, c, d]).length cx]) (World.alloc_heap_new W2 _) (Nat.le_refl _) (by simp [maxLen]), fun r hr => ?_⟩
    simp only [List.mem_singleton] at hr
    subst hr
    exact ⟨hE3.ownI (own_mono hvx HE1.out.size), hpx⟩
  have Hvp := Lib.hid hvp.sl; have HE2 := Lib.hid hE2; have HE3 := Lib.hid hE3; have Hrw0 := Lib.hid hrw0; have HQ2 := Lib.hid hx2
  clear hvp hvx hx2 hE2 hE3 hrw0 hb0 hb1 hb2 hb3 hb4 hpx
  go_wp2_with fail
  generalize W2.alloc (.cells #[.slice ax (planX n [a, b, c, d]).length cx] 30) = W3 at *
  go_loopw [9, 10] (fun v i wr => CmRow n a b c d Q w.heap.size W2 v i wr) (fun _ i _ => Q.length - (intOf i).toNat)
  case atStart => exact ⟨0, _, rfl, Nat.zero_le _, Hrw0.out, by simp [combRows], HE3.out⟩
  case round =>
    obtain ⟨k, rs, rfl, hk, hrs, hmap, hext⟩ := hrel
    obtain ⟨av, cv, rfl⟩ := own_shape hrs.1
    have hrl : rs.length = k + 1 := by
      have := congrArg List.length hmap
      rw [List.length_map, comb_count, List.length_take, Nat.min_eq_left hk] at this
      exact this
    have Hrs := Lib.hid hrs; have Hmap := Lib.hid hmap; have Hext := Lib.hid hext; have Hrl := Lib.hid hrl
    by_cases hlt : k < Q.length
    · obtain ⟨q, hq⟩ : ∃ q, Q[k]? = some q := ⟨_, List.getElem?_eq_getElem hlt⟩
      obtain ⟨bb, off, rfl, hq0, hq1, hq2, hq3⟩ := HQ.out k q hq
      have hcv := Hiv.out wr (.slice ap (ints (tenP n)).length cp) q (hext.sl Hvp.out) (List.mem_of_getElem? hq)
      have hw2 := (HE2.out.trans hext)
      have hc0 := hw2.cell hq0
      have hc1 := hw2.cell hq1
      have hc2 := hw2.cell hq2
      have hc3 := hw2.cell hq3
      have Hq := Lib.hid hq; have Hcv := Lib.hid hcv
      clear hrs hmap hext hrl hq hq0 hq1 hq2 hq3 hcv hw2
      have hk0 : (0 : Int) ≤ (k : Int) := by omega
      have hk1 : (k : Int) < (Q.length : Int) := by omega
      go_wp2_with fail
      refine Hcv.out.mono ?_
      rintro e W5 ⟨v5, rfl, hv5, hx5⟩
      obtain ⟨a5, c5, rfl⟩ := own_shape hv5
      have hE5 := Hext.out.trans hx5
      have hr5 := hx5.rwM Hrs.out
      have hown : W5.ownsRow W2.heap.size 30 1 (.slice av rs.length cv) rs.length (rwc rs) := hr5.1
      have hv6 : OwnI W5 w.heap.size (.slice a5 (ivl (ints (tenP n)).length [q.1, q.2.1, q.2.2.1, q.2.2.2]).length c5) (ivl (ints (tenP n)).length [q.1, q.2.1, q.2.2.1, q.2.2.2]) := own_mono hv5 (HE2.out.trans Hext.out).size
      have hsz := hE5.size
      have hl5 : (ivl (ints (tenP n)).length [q.1, q.2.1, q.2.2.1, q.2.2.2]).length ≤ 1000000 := by rw [ivl_length, ints_length]; omega
      have hrl3 : rs.length ≤ 10 := by have := Hrl.out; omega
      have HE5 := Lib.hid hE5; have Hr5 := Lib.hid hr5; have Hv6 := Lib.hid hv6; have Hl5 := Lib.hid hl5
      clear hE5 hr5 hv5 hv6 hx5 hc0 hc1 hc2 hc3 hl5
      have hm3 : rs.length + 1 ≤ maxLen := by unfold maxLen; omega
      have hm4 : (rs.length + 1) * 24 ≤ 140737488355328 := by omega
      go_wp2_with (at_builtin; refine wpList_append_own _ rfl _ _ 36 rfl W2.heap.size 30 j0 (.slice none 0 0) 1 24 Tryz.underlying36 hjr hy0 hy1 hy2 rfl (by decide) _ _ _ rfl (hown.alloc _) ⟨W5.heap.size, 0, none⟩ 1 1 [.slice a5 (ivl (ints (tenP n)).length [q.1, q.2.1, q.2.2.1, q.2.2.2]).length c5] rfl rfl (cell_one_new _ _ _) (by simp [Value.oneCell']) hm3 hm4 (by rw [World.size_alloc]; omega) ?_; intro v7 W7 hown7 hgrow7 _)
      have hfin := rwm_more (r := ⟨ivl (ints (tenP n)).length [q.1, q.2.1, q.2.2.1, q.2.2.2], .slice a5 (ivl (ints (tenP n)).length [q.1, q.2.1, q.2.2.1, q.2.2.2]).length c5, rfl⟩) Hr5.out Hv6.out Hl5.out HE5.out hown7 hgrow7
      have hmapE : (rs ++ [(⟨ivl (ints (tenP n)).length [q.1, q.2.1, q.2.2.1, q.2.2.2], .slice a5 (ivl (ints (tenP n)).length [q.1, q.2.1, q.2.2.1, q.2.2.2]).length c5, rfl⟩ : Rw)]).map Rw.x = combRows n a b c d (Q.take (k + 1)) := by
        rw [List.map_append, Hmap.out, List.take_add_one, Hq.out, Option.toList_some]
        unfold combRows
        rw [List.map_append, List.cons_append, ints_length]
        rfl
      have HmapE := Lib.hid hmapE; have Hfin := Lib.hid hfin; clear hmapE hfin hown7 hgrow7 hown
      go_wp2
      go_roundw
      case rel => exact ⟨k + 1, _, by go_num, by omega, Hfin.out.1, HmapE.out, Hfin.out.2⟩
      case measure => simp [intOf]; omega
    · obtain rfl : k = Q.length := by omega
      obtain ⟨wa, hwa⟩ : ∃ wa : World, wa = wr := ⟨_, rfl⟩
      subst hwa
      have hmapR : rs.map Rw.x = combRows n a b c d Q := by rw [hmap, Hrows.out]
      have hmat := hrs.mat
      rw [hmapR] at hmat
      have hcom := Hco.out wa (.slice ap (ints (tenP n)).length cp) _ (HE2.out.trans hext) (hext.sl Hvp.out) hmat
      have hRl : rs.length = (combRows n a b c d Q).length := by rw [← hmapR, List.length_map]
      have hR3 : rs.length ≤ 3 := by omega
      have hR1 : 1 ≤ rs.length := by omega
      have hpl : (ints (tenP n)).length ≤ 4 := by rw [ints_length]; omega
      have HmapR := Lib.hid hmapR; have Hcom := Lib.hid hcom; have HR := Lib.hid hRl
      clear hrs hmap hext hrl hmat hcom hmapR hlt hk hRl
      generalize combRows n a b c d Q = R at *
      generalize ints (tenP n) = P at *
      go_wp2_with fail
      refine Hcom.out.mono ?_
      rintro e W6 ⟨v6, gs, rfl, hgs, hgm, hx6⟩
      obtain ⟨a6, c6, rfl⟩ := own_shape hgs.1
      have Hgs := Lib.hid hgs; have Hgm := Lib.hid hgm; have Hx6 := Lib.hid hx6
      clear hgs hgm hx6
      have hM2 : (0 : Int) ≤ (M : Int) := by omega
      have hM3 : (M : Int) ≤ 3 := by omega
      go_wp2_with fail
      have hp1 : (2 : Int) * (M : Int) + 1 = ((pw M 1 : Nat) : Int) := by rw [pw_succ, pw_zero]; omega
      go_loop [14, 15] (fun v i => CmTot M rs.length v i) (fun _ i => rs.length - (intOf i).toNat)
      case atStart => exact ⟨1, rfl, Nat.le_refl _, by omega, by rw [← hp1]⟩
      case round =>
        obtain ⟨k, rfl, hk1, hk, rfl⟩ := hrel
        clear hp1
        by_cases hlt : k < rs.length
        · have hs := pw_succ M k
          have hb := pw_small hM (show k + 1 ≤ 3 by omega)
          have hb0 := pw_small hM (show k ≤ 3 by omega)
          have he1 : ((pw M k : Nat) : Int) * (2 * (M : Int) + 1) = ((pw M (k + 1) : Nat) : Int) := by rw [hs]; simp
          have hpp := pw_pos M (k + 1)
          clear hs
          generalize hT1 : pw M (k + 1) = t1 at *
          generalize pw M k = t0 at *
          have HT1 := Lib.hid hT1; clear hT1
          go_wp2
          go_round
          case rel => exact ⟨k + 1, by go_num, by omega, by omega, by rw [HT1.out]⟩
          case measure => simp [intOf]; omega
        · obtain rfl : k = rs.length := by omega
          have hTb := pw_small hM hR3
          have Hrk := Lib.hid HR.out
          have hfR : ∀ j, rs.length = R.length → zTo M R P.length j rs.length = zTo M R P.length j R.length := fun j e => by rw [e]
          clear hlt hk hk1
          obtain ⟨T, hT⟩ : ∃ T, T = pw M rs.length := ⟨_, rfl⟩
          rw [← hT] at hTb ⊢
          have HT := Lib.hid hT; clear hT
          go_wp2_with fail
          go_loopw [16, 17] (fun v i wr => CmWant P (fun j => zTo M R P.length j R.length) T W6 v i wr) (fun _ i _ => T - (intOf i).toNat)
          case atStart => exact ⟨0, [], rfl, Nat.zero_le _, rwm_nil _ _ _, rfl, Ext.refl _⟩
          case round =>
            obtain ⟨k, ws, rfl, hk, hws, hwm, hext3⟩ := hrel
            obtain ⟨aw, cw, rfl⟩ := own_shape hws.1
            have hwl : ws.length ≤ k := by
              have := want_len P (fun j => zTo M R P.length j R.length) k
              rw [← hwm, List.length_map] at this
              exact this
            have Hws := Lib.hid hws; have Hwm := Lib.hid hwm; have Hext3 := Lib.hid hext3
            clear hws hwm hext3
            obtain ⟨wk, hwk⟩ : ∃ wk : World, wk = wr := ⟨_, rfl⟩
            subst hwk
            by_cases hkT : k < T
            · go_wp2_with (at_make; refine wpList_make_full _ rfl _ _ 30 rfl wk.heap.size 3 i0 (.int .i64 0) 1 Tryz.underlying30 hi hz0 hz1 _ _ _ _ P.length rfl rfl ?hL ?hC ?b2 ?b3 (Nat.le_refl _) ?_)
              case hL => simp
              case hC => simp
              case b2 => first | (rw [hz2]; omega) | omega
              case b3 => unfold maxLen; omega
              intro w7 hown7 hgrow7
              have hz7 : OwnI w7 wk.heap.size (.slice (some ⟨wk.heap.size, 0, none⟩) P.length P.length) (zTo M R P.length k 0) := by
                have e : i64s (List.replicate P.length 0) = (madeCells #[Value.int .i64 0] P.length).toList := by
                  rw [toList_madeCells_one]
                  simp [i64s]
                unfold OwnI
                rw [zTo, List.length_replicate, e]
                exact hown7
              have hE7 : Ext wk w7 := (Ext.refl wk).grown hgrow7 (by simp)
              have Hz7 := Lib.hid hz7; have HE7 := Lib.hid hE7
              clear hz7 hE7 hown7 hgrow7
              go_wp2_with fail
              go_loopw [19, 20] (fun r i wr => CmSum M R P.length k wk.heap.size P.length wk r i wr) (fun _ i _ => R.length - (intOf i).toNat)
              case atStart => exact ⟨0, rfl, Nat.zero_le _, by rw [pw_zero, Nat.div_one], Hz7.out, HE7.out⟩
              case round =>
                obtain ⟨j, rfl, hj, rfl, hoz, hez⟩ := hrel
                have Hoz := Lib.hid hoz; have Hez := Lib.hid hez
                clear hoz hez
                by_cases hjl : j < R.length
                · have hjr : j < rs.length := by have := HR.out; omega
                  obtain ⟨r, hr⟩ : ∃ r, rs[j]? = some r := ⟨_, List.getElem?_eq_getElem hjr⟩
                  have hrx : r.x = R.getD j [] := by
                    rw [← HmapR.out, List.getD_eq_getElem?_getD, List.getElem?_map, hr]; rfl
                  have hrl : r.x.length = P.length := Hln.out r.x (by rw [← HmapR.out]; exact List.mem_map_of_mem (List.mem_of_getElem? hr))
                  obtain ⟨g, cap, e0, hcells⟩ := own_slice Hrs.out.1 (by omega)
                  injection e0 with e1 _ e3
                  subst e1; subst e3
                  have hE : Ext wa wk := Hx6.out.trans Hext3.out
                  have hhead := hE.cell (hcells j r.u (by simp [rwc, hr]))
                  have hor := hE.ownI (Hrs.out.2 r (List.mem_of_getElem? hr)).1
                  obtain ⟨axr, cxr, hru⟩ := own_shape hor
                  have hsl := hor.sl
                  rw [hru] at hhead
                  obtain ⟨_, _, _, _, _, hcx⟩ := hsl.parts
                  rw [hru] at hsl
                  obtain ⟨axr2, cxr2, e4, _, _, hcxx⟩ := hsl.parts
                  injection e4 with e5 _ e6
                  subst e5; subst e6
                  rw [hrl] at hhead
                  have hbx := fun c => Hbr.out j c
                  rw [← hrx] at hbx
                  have hbz := fun c => Hbd.out k j c
                  have hzl := zTo_len M R P.length k j
                  have hzs : zTo M R P.length k (j + 1) = addK (zTo M R P.length k j) r.x (((k / pw M j % (2 * M + 1) : Nat) : Int) - (M : Int)) := by rw [hrx]; rfl
                  have hdp := div_pw M k j
                  have hdb := dig_bd (k := k) (i := j) hM
                  have hqk : k / pw M j ≤ k := Nat.div_le_self _ _
                  obtain ⟨q, hq⟩ : ∃ q, q = k / pw M j := ⟨_, rfl⟩
                  rw [← hq] at hzs hdp hdb hqk ⊢
                  obtain ⟨dg, hdg⟩ : ∃ dg, dg = q % (2 * M + 1) := ⟨_, rfl⟩
                  obtain ⟨q2, hq2⟩ : ∃ q2, q2 = q / (2 * M + 1) := ⟨_, rfl⟩
                  rw [← hdg] at hzs hdb
                  rw [← hq2] at hdp
                  have hN : (2 * (M : Int) + 1) = ((2 * M + 1 : Nat) : Int) := by omega
                  have ht1 : (q : Int).tdiv (2 * (M : Int) + 1) = (q2 : Int) := by rw [hN, hq2, Int.tdiv_eq_ediv_of_nonneg (by omega)]; rfl
                  have ht2 : (q : Int).tmod (2 * (M : Int) + 1) = (dg : Int) := by rw [hN, hdg, Int.tmod_eq_emod_of_nonneg (by omega)]; rfl
                  have ht3 : (q : Int) / (2 * (M : Int) + 1) = (q2 : Int) := by rw [hN, hq2]; rfl
                  have ht4 : (q : Int) % (2 * (M : Int) + 1) = (dg : Int) := by rw [hN, hdg]; rfl
                  obtain ⟨kk, hkk⟩ : ∃ kk : Int, (dg : Int) - (M : Int) = kk := ⟨_, rfl⟩
                  rw [hkk] at hzs hdb
                  obtain ⟨hkk1, hkk2⟩ := hdb
                  have hq2b : q2 ≤ 343 := by rw [hq2]; exact Nat.le_trans (Nat.div_le_self _ _) (by omega)
                  have hdgb : dg ≤ 6 := by omega
                  have hoz := Hoz.out
                  have Hzs := Lib.hid hzs; have Hdp := Lib.hid hdp; have Hbx := Lib.hid hbx; have Hbz := Lib.hid hbz; have Hhead := Lib.hid hhead; have Hcxx := Lib.hid hcxx; have Hrl := Lib.hid hrl; have Hzl := Lib.hid hzl
                  clear hzs hdp hbx hbz hhead hcxx hrl hzl hq hdg hq2 hN hrx hcx hsl hor hru hcells hE hr hoz
                  obtain ⟨wj, hwj⟩ : ∃ wj : World, wj = wr := ⟨_, rfl⟩
                  subst hwj
                  go_wp2_with fail
                  obtain ⟨zj, hzj⟩ : ∃ zj, zj = zTo M R P.length k j := ⟨_, rfl⟩
                  have hoz2 : OwnI wj wk.heap.size (.slice (some ⟨wk.heap.size, 0, none⟩) P.length P.length) zj := by rw [hzj]; exact Hoz.out
                  have hzjl : zj.length = P.length := by rw [hzj]; exact Hzl.out
                  have hzjb : ∀ c, -81 ≤ nthI zj c ∧ nthI zj c ≤ 81 := fun c => by
                    have := Hbz.out c
                    rw [hzj]; omega
                  have hzjs : zTo M R P.length k (j + 1) = addK zj r.x kk := by rw [hzj]; exact Hzs.out
                  have Hoz2 := Lib.hid hoz2; have Hzjl := Lib.hid hzjl; have Hzjb := Lib.hid hzjb; have Hzjs := Lib.hid hzjs
                  clear hzj hoz2 hzjl hzjb hzjs
                  clear ht1 ht2 ht3 ht4 hkk
                  go_loopw [22] (fun t wr => ∃ i : Nat, t = .int .i64 i ∧ i ≤ P.length ∧ OwnI wr wk.heap.size (.slice (some ⟨wk.heap.size, 0, none⟩) P.length P.length) (addTo zj r.x kk i) ∧ Ext wk wr) (fun t _ => P.length - (intOf t).toNat)
                  case atStart => exact ⟨0, rfl, Nat.zero_le _, by rw [addTo_zero]; exact Hoz2.out, Hez.out⟩
                  case round =>
                    obtain ⟨i, rfl, hil, hoz, hez⟩ := hrel
                    have Hoz3 := Lib.hid hoz; have Hez3 := Lib.hid hez; clear hoz hez
                    by_cases hiL : i < P.length
                    · have hix : i < r.x.length := by rw [Hrl.out]; exact hiL
                      obtain ⟨bx, ox, rfl, hcx0⟩ := Hcxx.out i _ (i64s_at hix)
                      have hcx := Hez3.out.cell hcx0
                      have hhd := Hez3.out.cell Hhead.out
                      have hil2 : i < zj.length := by rw [Hzjl.out]; exact hiL
                      have hoz' : OwnI wr wk.heap.size (.slice (some ⟨wk.heap.size, 0, none⟩) (addTo zj r.x kk i).length P.length) (addTo zj r.x kk i) := by rw [addTo_length, Hzjl.out]; exact Hoz3.out
                      have hcz := ownI_cell hoz' i (by rw [addTo_length]; exact hil2)
                      rw [nthI_addTo zj r.x kk hil2 (Nat.le_refl _)] at hcz
                      have hfz : wr.frozen? ⟨wk.heap.size, i, none⟩ = false := World.ownsRow.frozenAt hoz' i
                      have hset := ownI_set hoz' i (nthI zj i + kk * nthI r.x i)
                      rw [addTo_set zj r.x kk hil2, addTo_length, Hzjl.out] at hset
                      have hb1 := Hzjb.out i
                      have hb2 := Hbx.out i
                      have hb3 := mul_27 hkk1 hkk2 hb2.1 hb2.2
                      have hEz : Ext wk (wr.setCell ⟨wk.heap.size, i, none⟩ (.int .i64 (nthI zj i + kk * nthI r.x i))) := Hez3.out.setCell (Nat.le_refl _) _
                      have Hset := Lib.hid hset; have HEz := Lib.hid hEz
                      clear hoz' hset hEz hcx0
                      have hi0 : (0 : Int) ≤ (i : Int) := by omega
                      have hi1 : (i : Int) < (P.length : Int) := by omega
                      have hj0 : (0 : Int) ≤ (j : Int) := by omega
                      have hj1 : (j : Int) < (rs.length : Int) := by omega
                      obtain ⟨hb11, hb12⟩ := hb1
                      obtain ⟨hb31, hb32⟩ := hb3
                      clear hb2
                      generalize nthI zj i = zy at *
                      generalize nthI r.x i = zx at *
                      go_wp2_with fail
                      go_region
                      go_wp2
                      go_roundw
                      case rel => exact ⟨i + 1, by go_num, by omega, ((Ext.refl _).drew).ownI Hset.out, HEz.out.drew⟩
                      case measure => simp [intOf]; omega
                    · obtain rfl : i = P.length := by omega
                      have hoz := Hoz3.out
                      rw [← Hzjl.out, addTo_full, ← Hzjs.out, Hzjl.out] at hoz
                      have Hoz4 := Lib.hid hoz; clear hoz
                      go_wp2
                      go_roundw
                      case rel => exact ⟨j + 1, by go_num, by omega, by rw [← Hdp.out], Hoz4.out, Hez3.out⟩
                      case measure => simp [intOf]; omega
                · obtain rfl : j = R.length := by omega
                  have hoz := Hoz.out
                  have hE : Ext wa wr := (Hx6.out.trans Hext3.out).trans Hez.out
                  have hsgn := Hsg.out wr (.slice ap P.length cp) (.slice (some ⟨wk.heap.size, 0, none⟩) P.length P.length) k (HE2.out.trans (Hext.out.trans hE)) ((Hext.out.trans hE).sl Hvp.out) hoz.sl
                  rw [Hone.out k] at hsgn
                  obtain ⟨sg, hsg⟩ : ∃ sg, sg = signP P (zTo M R P.length k R.length) := ⟨_, rfl⟩
                  rw [← hsg] at hsgn
                  have hzl := zTo_len M R P.length k R.length
                  have Hsgn := Lib.hid hsgn; have Hsgq := Lib.hid hsg; have Hzl := Lib.hid hzl
                  clear hoz hE hsgn hsg hzl
                  have hjn : ¬ (R.length : Int) < (rs.length : Int) := by have := HR.out; omega
                  have hwant : wantTo P (fun j => zTo M R P.length j R.length) (k + 1) = if 0 < sg then insX (zTo M R P.length k R.length) (wantTo P (fun j => zTo M R P.length j R.length) k) else wantTo P (fun j => zTo M R P.length j R.length) k := by rw [Hsgq.out]; rfl
                  have Hwant := Lib.hid hwant; clear hwant
                  obtain ⟨wj, hwj⟩ : ∃ wj : World, wj = wr := ⟨_, rfl⟩
                  subst hwj
                  by_cases hs : 0 < sg
                  · go_wp2_with fail
                    refine Hsgn.out.mono ?_
                    rintro e W8 ⟨rfl, hx8⟩
                    have hE8 := Hez.out.trans hx8
                    have hins := insert_c (b := W6.heap.size) (B := W6.heap.size) aw cw ws ⟨zTo M R P.length k R.length, .slice (some ⟨wk.heap.size, 0, none⟩) P.length P.length, rfl⟩ W8 (Hext3.out.trans hE8).size (hE8.rwM Hws.out) (own_mono (hx8.ownI Hoz.out) Hext3.out.size) (by rw [Hzl.out]; omega) (by omega)
                    have Hins := Lib.hid hins; have HE8 := Lib.hid hE8; clear hins hE8 hx8
                    go_wp2_with fail
                    refine Hins.out.mono ?_
                    rintro e W9 ⟨v9, ws9, rfl, hws9, hwm9, hx9⟩
                    have hmap9 : ws9.map Rw.x = wantTo P (fun j => zTo M R P.length j R.length) (k + 1) := by
                      rw [hwm9, Hwant.out, if_pos hs, Hwm.out]
                    have Hws9 := Lib.hid hws9; have Hmap9 := Lib.hid hmap9; have Hx9 := Lib.hid hx9; clear hws9 hwm9 hmap9 hx9
                    go_wp2
                    go_roundw
                    case rel => exact ⟨k + 1, ws9, by go_num, by omega, Hws9.out, Hmap9.out, Hext3.out.trans (HE8.out.trans Hx9.out)⟩
                    case measure => simp [intOf]; omega
                  · have hmap9 : ws.map Rw.x = wantTo P (fun j => zTo M R P.length j R.length) (k + 1) := by
                      rw [Hwant.out, if_neg hs, Hwm.out]
                    have Hmap9 := Lib.hid hmap9; clear hmap9
                    go_wp2_with fail
                    refine Hsgn.out.mono ?_
                    rintro e W8 ⟨rfl, hx8⟩
                    have hE8 := Hez.out.trans hx8
                    have hw8 := hE8.rwM Hws.out
                    have HE8 := Lib.hid hE8; have Hw8 := Lib.hid hw8; clear hE8 hx8 hw8
                    go_wp2
                    go_roundw
                    case rel => exact ⟨k + 1, ws, by go_num, by omega, Hw8.out, Hmap9.out, Hext3.out.trans HE8.out⟩
                    case measure => simp [intOf]; omega
            · obtain rfl : k = T := by omega
              have hgw : gs.map Rw.x = ws.map Rw.x := by rw [Hgm.out, Hwm.out, HT.out, HR.out]
              have hm1 := (Hext3.out.rwM Hgs.out).mat
              have hm2 := Hws.out.mat
              rw [← hgw] at hm2
              have hgl : (gs.map Rw.x).length ≤ 1000000 := by rw [hgw, List.length_map]; omega
              have hgr : ∀ x ∈ gs.map Rw.x, x.length ≤ 1000 := fun x hx => by
                rw [hgw, Hwm.out] at hx
                obtain ⟨i, _, e, _⟩ := (want_mem _ _ _ _).1 hx
                rw [e, zTo_len]; omega
              have hsm := Hsame.out wk _ _ _ _ hm1 hm2 hgl hgl (small_rows hgr) (small_rows hgr)
              rw [show decide (gs.map Rw.x = gs.map Rw.x) = true from decide_eq_true rfl] at hsm
              have Hsm := Lib.hid hsm
              clear hsm hgw hm1 hm2 hgl hgr
              go_wp2_with fail
              refine Hsm.out.mono ?_
              rintro e W9 ⟨rfl, hq9⟩
              have Hq9 := Lib.hid hq9.ext; clear hq9
              go_wp2
              go_ret
              exact ⟨rfl, HE2.out.trans (Hext.out.trans (Hx6.out.trans (Hext3.out.trans Hq9.out)))⟩

end Go.Proofs.YtkamjjjimbbdmaaGreatDoor
