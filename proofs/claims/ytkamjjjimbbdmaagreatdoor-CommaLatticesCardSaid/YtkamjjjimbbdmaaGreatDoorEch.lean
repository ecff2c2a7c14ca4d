/- Walk: hermite's echelon, at two lines. -/
import Derived.Test.YtkamjjjimbbdmaaGreatDoorFrmC
import Derived.Test.YtkamjjjimbbdmaaGreatDoorSweep
namespace Go.Proofs.YtkamjjjimbbdmaaGreatDoor
open Go.RowKit Go.Lib Go.Shelf

set_option maxRecDepth 100000 in
set_option maxHeartbeats 1000000 in
theorem sweep0_c (a : Option Addr) (cap c : Nat) (w : World) :
    Calls Tryz.prog 100 #[.slice a 0 cap, .int .i64 c] w fun e w' => e = .returned (.bool false) ∧ Ext w w' := by
  go_enter Tryz.func100, Tryz.ntmps100
  go_wp2_with fail
  go_loopg [4] 0 (fun _ v4 wr => v4 = .bool false ∧ Ext w wr)
  case atStart => exact ⟨rfl, Ext.refl _⟩
  case round =>
    obtain ⟨rfl, hE⟩ := hrel
    obtain ⟨wa, hwa⟩ : ∃ wa, wa = wr := ⟨_, rfl⟩
    subst hwa
    have HE := Lib.hid hE; clear hE
    go_wp2_with fail
    go_loopw [5, 6, 16] (fun v5 v6 v16 wr => v5 = .int .i64 (-1) ∧ v6 = .int .i64 0 ∧ v16 = .int .i64 0 ∧ Ext wa wr) (fun _ _ _ _ => 0)
    case atStart => exact ⟨rfl, rfl, rfl, Ext.refl _⟩
    case round =>
      obtain ⟨rfl, rfl, rfl, hE2⟩ := hrel
      have HE2 := Lib.hid (HE.out.trans hE2); clear hE2
      go_wp2
      go_ret
      exact ⟨rfl, HE2.out⟩

def bdE (done : Nat) : Nat := if done = 0 then 3 else if done = 1 then 6003 else 12010
def EchPost (w : World) (B n N gs cap : Nat) (e : Ending) (w' : World) : Prop :=
  ∃ done ls, e = .returned (.int .i64 ((done : Nat) : Int)) ∧ done ≤ 2 ∧ LiT w' B n N gs cap ls ∧ Below B w w' ∧ isFm ((ls.take done).map Li.x) = true ∧ ls.length = 2 ∧ (∀ e ∈ ls, e.x.length = n) ∧ ∀ e ∈ ls, ∀ z ∈ e.x, Fit z
def bdAll (k : Nat) (ls : List Li) : Prop := ∀ e ∈ ls, (∀ z ∈ e.x, z.natAbs < 10 ^ k) ∧ ∀ z ∈ e.b, z.natAbs < 10 ^ k
theorem zip_bound2 {k : Int} {a b : List Int} {K : Nat} (hk : k.natAbs < 10 ^ K) (ha : ∀ z ∈ a, z.natAbs < 10 ^ K) (hb : ∀ z ∈ b, z.natAbs < 10 ^ K) : ∀ z ∈ List.zipWith (fun x y => x - k * y) a b, z.natAbs < 10 ^ (K + K + 4) := by
  intro z hz
  obtain ⟨j, hj, rfl⟩ := List.getElem_of_mem hz
  rw [List.getElem_zipWith]
  have h1 := ha _ (List.getElem_mem (by simp at hj; omega : j < a.length))
  have h2 := hb _ (List.getElem_mem (by simp at hj; omega : j < b.length))
  generalize a[j]'(by simp at hj; omega) = x at *
  generalize b[j]'(by simp at hj; omega) = y at *
  have e1 : 10 ^ (K + K + 4) = 10 ^ K * 10 ^ K * 10000 := by rw [Nat.pow_add, Nat.pow_add]
  rw [e1]
  have hM : 0 < 10 ^ K := Nat.pow_pos (by decide)
  generalize 10 ^ K = M at *
  have h3 : (k * y).natAbs ≤ M * M := by
    rw [Int.natAbs_mul]
    exact Nat.mul_le_mul (Nat.le_of_lt hk) (Nat.le_of_lt h2)
  have h4 : (x - k * y).natAbs ≤ x.natAbs + (k * y).natAbs := by omega
  have h5 : M ≤ M * M := Nat.le_mul_of_pos_left M hM
  generalize M * M = Q at *
  omega
theorem fit_mul6 {q z : Int} {K : Nat} (hK : 0 < K) (hK2 : K ≤ 100000) (hq : q.natAbs < 10 ^ K) (h : z.natAbs < 10 ^ K) : Fit (q * z) := by
  refine fit_of10 (k := K + K) (by omega) (by omega) ?_
  rw [Int.natAbs_mul, Nat.pow_add]
  exact Nat.mul_lt_mul'' hq h
theorem bdE_le {d : Nat} (h : d < 2) : bdE d ≤ bdE 1 := by
  unfold bdE
  split
  · decide
  · split
    · decide
    · omega

set_option maxRecDepth 100000 in
set_option maxHeartbeats 8000000 in
theorem echelon_big (n N gs cap : Nat) (ls0 : List Li) (w0 w : World) (B : Nat) (he : Env w0) (h0 : Ext w0 w) (hB : w0.heap.size ≤ B) (hBw : B ≤ w.heap.size) (hT : LiT w B n N gs cap ls0) (hrow : ∀ e ∈ ls0, e.x.length = n ∧ e.b.length = N) (hl2 : ls0.length = 2) (hc2 : 2 < cap) (hc9 : cap ≤ 9223372036854775807) (hn : n ≤ 12) (hN : N ≤ 12)
    (hx : ∀ e ∈ ls0, (∀ z ∈ e.x, z.natAbs ≤ 999) ∧ ∀ z ∈ e.b, z.natAbs ≤ 999) :
    Calls Tryz.prog 68 #[.slice (some ⟨gs, 0, none⟩) 2 cap, .int .i64 n] w (EchPost w B n N gs cap) := by
  have hcne : ¬ cap = 2 := by omega
  have He := Lib.hid he; have H0 := Lib.hid h0; have HB := Lib.hid hB; have HBw := Lib.hid hBw; have HT := Lib.hid hT; have Hrow := Lib.hid hrow; have Hl2 := Lib.hid hl2; have Hx := Lib.hid hx
  clear he h0 hB hBw hT hrow hl2 hx
  go_enter Tryz.func68, Tryz.ntmps68
  go_wp2_with fail
  go_loopw [5, 14] (fun v5 v14 wr => ∃ (c done : Nat) (pf : Nat → Nat) (ls : List Li), v5 = .int .i64 (done : Int) ∧ v14 = .int .i64 (c : Int) ∧ c ≤ n ∧ done ≤ 2 ∧ LiT wr B n N gs cap ls ∧ Below B w wr ∧ Ech n c done pf ls ∧ ls.length = 2 ∧ (∀ e ∈ ls, e.x.length = n ∧ e.b.length = N) ∧ (done = 0 → ls = ls0) ∧ bdAll (bdE done) ls) (fun _ v14 _ => n - (intOf v14).toNat)
  case atStart =>
    refine ⟨0, 0, fun _ => 0, ls0, rfl, rfl, Nat.zero_le _, Nat.zero_le _, HT.out, Below.refl _ _, Ech.start _ _, Hl2.out, Hrow.out, fun _ => rfl, fun e he => ?_⟩
    have := Hx.out e he
    have e3 : 10 ^ bdE 0 = 1000 := by decide
    rw [e3]
    exact ⟨fun z hz => by have := this.1 z hz; omega, fun z hz => by have := this.2 z hz; omega⟩
  case round =>
    obtain ⟨c, done, pf, ls, rfl, rfl, hc, hd2, hT, hbel, hech, hlen, hrow, hsame, hbd⟩ := hrel
    obtain ⟨wa, hwa⟩ : ∃ wa, wa = wr := ⟨_, rfl⟩
    subst hwa
    have HTa := Lib.hid hT; have Hbel := Lib.hid hbel; have Hech := Lib.hid hech; have Hlen := Lib.hid hlen; have Hrowa := Lib.hid hrow; have Hsame := Lib.hid hsame; have Hbd := Lib.hid hbd
    have hBa : B ≤ wa.heap.size := Nat.le_trans HBw.out hbel.size
    have HEa : Hid (Ext w0 wa) := Lib.hid (Below.trans H0.out (Below.mono hbel HB.out))
    have HBa := Lib.hid hBa
    clear hT hbel hech hlen hrow hsame hbd hBa
    by_cases hcn : c < n
    · have hcn0 : (0 : Int) ≤ (c : Int) := by omega
      have hcn1 : (c : Int) < (n : Int) := by omega
      by_cases hd : done < 2
      · have hsw := sweep_c (bdE done) done c n N gs cap (cap - done) (2 - done) ls w0 wa B He.out HEa.out HB.out HBa.out HTa.out Hrowa.out (by rw [Hlen.out]; omega) (by omega) (by rw [Hlen.out]; omega) hcn hn hN (by unfold bdE; split <;> (try split) <;> omega) (by unfold bdE; split <;> (try split) <;> omega) (by omega) (by omega)
          (by
            rcases Nat.eq_zero_or_pos done with g | g
            · refine .inr fun e he => ?_
              have he2 : e ∈ ls0 := by rw [← Hsame.out g]; exact List.mem_of_mem_drop he
              exact (Hx.out e he2).1 _ (nthI_mem' (by rw [(Hrow.out e he2).1]; exact hcn))
            · left; omega)
          (fun e he => Hbd.out e (List.mem_of_mem_drop he))
        have Hsw := Lib.hid hsw; clear hsw
        have hnc : ¬ cap = done := by omega
        have hd0 : (0 : Int) ≤ (done : Int) := by omega
        go_wp2_with fail
        refine Hsw.out.mono ?_
        rintro e W1 ⟨r, ls1, rfl, hT1, hb1, hend⟩
        have HT1 := Lib.hid hT1; have Hb1 := Lib.hid (Hbel.out.trans hb1); have Hend := Lib.hid hend
        clear hT1 hb1 hend
        cases r with
        | false =>
          obtain ⟨g1, g2⟩ := Hend.out.no rfl
          subst g1
          have hsk := Hech.out.skip g2
          have Hsk := Lib.hid hsk; clear hsk g2
          go_wp2_with fail
          go_roundw
          case rel => exact ⟨c + 1, done, pf, ls1, rfl, by go_num, by omega, hd2, HT1.out, Hb1.out, Hsk.out, Hlen.out, Hrowa.out, Hsame.out, Hbd.out⟩
          case measure => simp [intOf]; omega
        | true =>
          obtain ⟨t0, ht0, hne, hrest⟩ := Hend.out.yes rfl
          have hlen1 : ls1.length = 2 := Hend.out.len.trans Hlen.out
          obtain ⟨K, hK⟩ : ∃ K, K = bdE 1 := ⟨_, rfl⟩
          have hK0 : 0 < K ∧ K ≤ 100000 := by rw [hK]; decide
          have hbd1 : bdAll K ls1 := fun e he => by
            obtain ⟨i, hi⟩ := List.mem_iff_getElem?.1 he
            rcases Nat.lt_or_ge i done with g | g
            · have h1 : ls[i]? = some e := by
                rw [← List.getElem?_take_of_lt g, ← Hend.out.take, List.getElem?_take_of_lt g]; exact hi
              have h2 := Hbd.out e (List.mem_of_getElem? h1)
              have h3 : 10 ^ bdE done ≤ 10 ^ K := Nat.pow_le_pow_right (by decide) (by rw [hK]; exact bdE_le hd)
              exact ⟨fun z hz => Nat.lt_of_lt_of_le (h2.1 z hz) h3, fun z hz => Nat.lt_of_lt_of_le (h2.2 z hz) h3⟩
            · have hm : e ∈ ls1.drop done := mem_drop_iff.2 ⟨i, g, hi⟩
              rcases Nat.eq_zero_or_pos done with g2 | g2
              · have h2 := Hend.out.bd.2 e hm
                rw [g2, show bdE 0 + 6000 = bdE 1 by decide] at h2
                rw [hK]; exact h2
              · have h2 := Hend.out.bd.1 (.inr (by rw [Hlen.out]; omega)) e hm
                have : done = 1 := by omega
                rw [this] at h2
                rw [hK]; exact h2
          have hE1 : Ext w0 W1 := Below.trans H0.out (Below.mono Hb1.out HB.out)
          have hB1 : B ≤ W1.heap.size := Nat.le_trans HBw.out Hb1.out.size
          obtain ⟨hc0, hc1⟩ := HT1.out.at ht0
          have hr0 := HT1.out.rows t0 (List.mem_of_getElem? ht0)
          have hl0 := Hend.out.row t0 (List.mem_of_getElem? ht0)
          have hcz := own_cellAt hr0.1 (strs_at (l := t0.x) (j := c) (by omega))
          have hb0 := hbd1 t0 (List.mem_of_getElem? ht0)
          have hfz : Fit (nthI t0.x c) := fit_of10 hK0.1 (by omega) (hb0.1 _ (nthI_mem' (by omega)))
          have hgh := HT1.out.apart.2 t0 (List.mem_of_getElem? ht0)
          have hrB := HT1.out.rowB (List.mem_of_getElem? ht0)
          have hz0 : ∀ j, j < c → nthI t0.x j = 0 := fun j hj => Hend.out.zero j (fun e he => by
            obtain ⟨i, hi, h1⟩ := mem_drop_iff.1 he
            exact Hech.out.zero i e hi h1 j hj) t0 (mem_drop_iff.2 ⟨done, Nat.le_refl _, ht0⟩)
          unfold Li.u at hc0
          unfold Li.y at hc1
          -- the top line's box
          have hE2 : Ext W1 (W1.alloc (.cells #[.slice (some ⟨t0.g, 0, none⟩) n t0.cg, .slice (some ⟨t0.h, 0, none⟩) N t0.ch] 118)) := (Ext.refl W1).alloc _
          have hbx : LnBox (W1.alloc (.cells #[.slice (some ⟨t0.g, 0, none⟩) n t0.cg, .slice (some ⟨t0.h, 0, none⟩) N t0.ch] 118)) W1.heap.size (.slice (some ⟨t0.g, 0, none⟩) n t0.cg) (.slice (some ⟨t0.h, 0, none⟩) N t0.ch) := LnBox.new _ _ _
          generalize hw2 : W1.alloc (.cells #[.slice (some ⟨t0.g, 0, none⟩) n t0.cg, .slice (some ⟨t0.h, 0, none⟩) N t0.ch] 118) = W2 at *
          have hx0 := hbx.cell0
          have hx1 := hbx.cell1
          have hcz2 := hE2.cell hcz
          have hT2 := HT1.out.ext hE2
          have hb2 : Below B w W2 := Hb1.out.trans (Below.mono hE2 hB1)
          have hsg := fun W => sign_c (nthI t0.x c) W hfz
          have htn := turn_c t0.g t0.h n N t0.cg t0.ch t0.x t0.b W2 B hl0.1 hl0.2 (by omega) (by omega) hgh (hT2.rows t0 (List.mem_of_getElem? ht0)).1 (hT2.rows t0 (List.mem_of_getElem? ht0)).2 (fun z hz => fit_of10 hK0.1 (by omega) (hb0.1 z hz)) (fun z hz => fit_of10 hK0.1 (by omega) (hb0.2 z hz))
          have hB2 : B ≤ W2.heap.size := Nat.le_trans hB1 hE2.size
          have Hsg := Lib.hid hsg; have Htn := Lib.hid htn; have HT2 := Lib.hid hT2; have Hb2 := Lib.hid hb2; have Hbx := Lib.hid hbx; have Hbd1 := Lib.hid hbd1; have Ht0 := Lib.hid ht0; have Hz0 := Lib.hid hz0; have Hl0 := Lib.hid hl0; have Hlen1 := Lib.hid hlen1; have HrB := Lib.hid hrB; have HK := Lib.hid hK; have HB2 := Lib.hid hB2; have Hrest := Lib.hid hrest; have Hgh := Lib.hid hgh
          clear hsg htn hT2 hb2 hbx hbd1 ht0 hz0 hl0 hlen1 hrB hK hB2 hrest hgh hE1 hB1 hr0 hcz hb0 hfz
          have hdi : (done : Int) < 2 := by omega
          have hneg : (nthI t0.x c < 0 ∧ cmpI (nthI t0.x c) 0 < 0) ∨ (0 < nthI t0.x c ∧ ¬ cmpI (nthI t0.x c) 0 < 0) := by
            rcases Int.lt_or_gt_of_ne hne with g | g
            · left; rw [cmpI_lt g]; omega
            · right; rw [cmpI_gt g]; omega
          have hd1 : done ≤ 1 := by omega
          generalize hzz : nthI t0.x c = z0 at *
          have Hzz := Lib.hid hzz; clear hzz
          have HT1r := Lib.hid (fun e (he : e ∈ ls1) => HT1.out.rowB he)
          rcases hneg with ⟨hz1, hcv⟩ | ⟨hz1, hcv⟩
          case' inl =>
            generalize cmpI z0 0 = cv at *
            generalize I z0 = sz at *
            have hdc : decide (cv < 0) = true := decide_eq_true hcv
            go_wp2_with fail
            refine (Hsg.out _).mono ?_
            rintro e W2' ⟨rfl, rfl⟩
            go_wp2_with fail
            refine Htn.out.mono ?_
            rintro e W3 ⟨⟨v3, rfl⟩, hx3, hy3, hd3⟩
            obtain ⟨T, hTd⟩ : ∃ T, T = ({ t0 with x := negv t0.x, b := negv t0.b } : Li) := ⟨_, rfl⟩
            obtain ⟨ls2, hls2⟩ : ∃ l, l = ls1.set done T := ⟨_, rfl⟩
            have hT3 : LiT W3 B n N gs cap ls2 := by rw [hls2, hTd]; exact HT2.out.upd Ht0.out hd3 hx3 hy3
            have hdn : done < ls1.length := by rw [Hlen1.out]; omega
            have hTat : ls2[done]? = some T := by rw [hls2, List.getElem?_set, if_pos rfl, if_pos hdn]
            have hoth : ∀ i, i ≠ done → ls2[i]? = ls1[i]? := fun i hi => by rw [hls2, List.getElem?_set, if_neg (fun g => hi g.symm)]
            have hmem2 : ∀ e ∈ ls2, e = T ∨ e ∈ ls1 := fun e he => by
              rw [hls2] at he
              rcases List.mem_or_eq_of_mem_set he with g | g
              · exact .inr g
              · exact .inl g
            have hlT : T.x.length = n ∧ T.b.length = N := by rw [hTd]; exact ⟨(negv_length _).trans Hl0.out.1, (negv_length _).trans Hl0.out.2⟩
            have hbT : (∀ z ∈ T.x, z.natAbs < 10 ^ K) ∧ ∀ z ∈ T.b, z.natAbs < 10 ^ K := by
              have h1 := Hbd1.out t0 (List.mem_of_getElem? Ht0.out)
              rw [hTd]
              exact ⟨fun z hz => by have := h1.1 _ (negv_mem hz); rwa [Int.natAbs_neg] at this, fun z hz => by have := h1.2 _ (negv_mem hz); rwa [Int.natAbs_neg] at this⟩
            have hTz : ∀ j, j < c → nthI T.x j = 0 := fun j hj => by rw [hTd]; show nthI (negv t0.x) j = 0; rw [negv_at, Hz0.out j hj]; rfl
            have hTp : 0 < nthI T.x c := by rw [hTd]; show 0 < nthI (negv t0.x) c; rw [negv_at, Hzz.out]; omega
            have hbx3 : LnBox W3 W1.heap.size (.slice (some ⟨T.g, 0, none⟩) n T.cg) (.slice (some ⟨T.h, 0, none⟩) N T.ch) := by
              rw [hTd]
              exact hd3.box Hbx.out (by have := HrB.out; show W1.heap.size ≠ t0.g; omega) (by have := HrB.out; show W1.heap.size ≠ t0.h; omega)
            have hb3 : Below B w W3 := Hb2.out.trans (hd3.below HB2.out HrB.out.1 HrB.out.2.1)
            have hrow2 : ∀ e ∈ ls2, e.x.length = n ∧ e.b.length = N := fun e he => by
              rcases hmem2 e he with rfl | g
              · exact hlT
              · exact Hend.out.row e g
            have hbd2 : bdAll K ls2 := fun e he => by
              rcases hmem2 e he with rfl | g
              · exact hbT
              · exact Hbd1.out e g
            have hlen2 : ls2.length = 2 := by rw [hls2, List.length_set]; exact Hlen1.out
            clear hTd hls2 hmem2 hlT hbT hx3 hy3 hd3 hdn
            have HT3 := Lib.hid hT3; have HTat := Lib.hid hTat; have Hoth := Lib.hid hoth; have HTz := Lib.hid hTz; have HTp := Lib.hid hTp; have Hbx3 := Lib.hid hbx3; have Hb3 := Lib.hid hb3; have Hrow2 := Lib.hid hrow2; have Hbd2 := Lib.hid hbd2; have Hlen2 := Lib.hid hlen2
            clear hT3 hTat hoth hTz hTp hbx3 hb3 hrow2 hbd2 hlen2 hx0 hx1 hcz2 hc0 hc1 hz1 hne
            go_wp2_with fail
            clear hdc hcv
          case' inr =>
            generalize cmpI z0 0 = cv at *
            generalize I z0 = sz at *
            have hdc : decide (cv < 0) = false := decide_eq_false hcv
            go_wp2_with fail
            refine (Hsg.out _).mono ?_
            rintro e W2' ⟨rfl, rfl⟩
            generalize W2 = W3 at *
            obtain ⟨T, hTd⟩ : ∃ T, T = t0 := ⟨_, rfl⟩
            obtain ⟨ls2, hls2⟩ : ∃ l, l = ls1 := ⟨_, rfl⟩
            have hT3 : LiT W3 B n N gs cap ls2 := by rw [hls2]; exact HT2.out
            have hTat : ls2[done]? = some T := by rw [hls2, hTd]; exact Ht0.out
            have hoth : ∀ i, i ≠ done → ls2[i]? = ls1[i]? := fun i hi => by rw [hls2]
            have hTz : ∀ j, j < c → nthI T.x j = 0 := by rw [hTd]; exact Hz0.out
            have hTp : 0 < nthI T.x c := by rw [hTd, Hzz.out]; exact hz1
            have hbx3 : LnBox W3 W1.heap.size (.slice (some ⟨T.g, 0, none⟩) n T.cg) (.slice (some ⟨T.h, 0, none⟩) N T.ch) := by rw [hTd]; exact Hbx.out
            have hb3 : Below B w W3 := Hb2.out
            have hrow2 : ∀ e ∈ ls2, e.x.length = n ∧ e.b.length = N := by rw [hls2]; exact Hend.out.row
            have hbd2 : bdAll K ls2 := by rw [hls2]; exact Hbd1.out
            have hlen2 : ls2.length = 2 := by rw [hls2]; exact Hlen1.out
            clear hTd hls2
            have HT3 := Lib.hid hT3; have HTat := Lib.hid hTat; have Hoth := Lib.hid hoth; have HTz := Lib.hid hTz; have HTp := Lib.hid hTp; have Hbx3 := Lib.hid hbx3; have Hb3 := Lib.hid hb3; have Hrow2 := Lib.hid hrow2; have Hbd2 := Lib.hid hbd2; have Hlen2 := Lib.hid hlen2
            clear hT3 hTat hoth hTz hTp hbx3 hb3 hrow2 hbd2 hlen2 hx0 hx1 hcz2 hc0 hc1 hz1 hne
            go_wp2_with fail
            clear hdc hcv
          all_goals
            go_loopw [40] (fun v40 wi => ∃ i : Nat, v40 = .int .i64 (i : Int) ∧ i ≤ done ∧ LiT wi B n N gs cap (upTo c T ls2 i) ∧ Below B w wi ∧ LnBox wi W1.heap.size (.slice (some ⟨T.g, 0, none⟩) n T.cg) (.slice (some ⟨T.h, 0, none⟩) N T.ch)) (fun v40 _ => done - (intOf v40).toNat)
            case atStart => exact ⟨0, rfl, Nat.zero_le _, by rw [upTo_zero]; exact HT3.out, Hb3.out, Hbx3.out⟩
            case round =>
              obtain ⟨i, rfl, hi, hT, hB, hbx⟩ := hrel
              by_cases hid : i < done
              · obtain ⟨e, hle⟩ : ∃ e, ls2[i]? = some e := ⟨_, List.getElem?_eq_getElem (by rw [Hlen2.out]; omega)⟩
                have hq1 : (upTo c T ls2 i)[i]? = some e := by rw [upTo_at hle, if_neg (by omega)]
                have hh : (upTo c T ls2 i)[done]? = some T := by rw [upTo_at HTat.out, if_neg (by omega)]
                obtain ⟨hc0, hc1⟩ := hT.at hq1
                have hrq := hT.rows e (List.mem_of_getElem? hq1)
                have hrf := hT.rows T (List.mem_of_getElem? hh)
                have hlx := Hrow2.out e (List.mem_of_getElem? hle)
                have hfx := Hrow2.out T (List.mem_of_getElem? HTat.out)
                have hbe := Hbd2.out e (List.mem_of_getElem? hle)
                have hbT := Hbd2.out T (List.mem_of_getElem? HTat.out)
                have hap := hT.apart.1 i done e T hq1 hh (by omega)
                have hgh := hT.apart.2 e (List.mem_of_getElem? hq1)
                have hcq := own_cellAt hrq.1 (strs_at (l := e.x) (j := c) (by omega))
                have hcf := own_cellAt hrf.1 (strs_at (l := T.x) (j := c) (by omega))
                have hT0 : nthI T.x c ≠ 0 := by have := HTp.out; omega
                have hq9 : (fdv (nthI e.x c) (nthI T.x c)).natAbs < 10 ^ K := Nat.lt_of_le_of_lt (fdv_abs _ _ hT0) (hbe.1 _ (nthI_mem' (by omega)))
                have hstep := upTo_step (c := c) (t := T) hle
                have hEi : Ext w0 wr := Below.trans H0.out (Below.mono hB HB.out)
                have hBi : B ≤ wr.heap.size := Nat.le_trans HBw.out hB.size
                have hes : e.g < W1.heap.size ∧ e.h < W1.heap.size := by
                  have h1 := Hoth.out i (by omega)
                  rw [hle] at h1
                  have := HT1r.out e (List.mem_of_getElem? h1.symm)
                  omega
                have hE5 : Ext wr (wr.alloc (.cells #[.slice (some ⟨e.g, 0, none⟩) n e.cg, .slice (some ⟨e.h, 0, none⟩) N e.ch] 118)) := (Ext.refl wr).alloc _
                have hb0 := two_new0 wr (.slice (some ⟨e.g, 0, none⟩) n e.cg) (.slice (some ⟨e.h, 0, none⟩) N e.ch) 118
                have hb1 := two_new1 wr (.slice (some ⟨e.g, 0, none⟩) n e.cg) (.slice (some ⟨e.h, 0, none⟩) N e.ch) 118
                generalize hw5 : wr.alloc (.cells #[.slice (some ⟨e.g, 0, none⟩) n e.cg, .slice (some ⟨e.h, 0, none⟩) N e.ch] 118) = W5 at *
                have hlessv : lessLi c T e = { e with x := List.zipWith (fun x y => x - fdv (nthI e.x c) (nthI T.x c) * y) e.x T.x, b := List.zipWith (fun x y => x - fdv (nthI e.x c) (nthI T.x c) * y) e.b T.b } := rfl
                have hdm := fun W (hx : Ext w0 W) => wdivmod_c (nthI e.x c) (nthI T.x c) W (He.out.ext hx) hT0 (fit_of10 hK0.1 (by omega) (hbe.1 _ (nthI_mem' (by omega)))) (fit_of10 hK0.1 (by omega) (hbT.1 _ (nthI_mem' (by omega))))
                have hless := fun W (hx : Ext wr W) => hless2_c e.g e.h n N e.cg e.ch (.slice (some ⟨T.g, 0, none⟩) n T.cg) (.slice (some ⟨T.h, 0, none⟩) N T.ch) (fdv (nthI e.x c) (nthI T.x c)) e.x T.x e.b T.b w0 W B He.out (hEi.trans hx) HB.out hlx.1 hfx.1 hlx.2 hfx.2 (by omega) (by omega) hgh (hx.own hrq.1) (hx.own hrq.2)
                  (fun W2 hd => sl_own (hd.kept (hx.own hrf.1) hap.1.symm hap.2.2.1.symm)) (fun W2 hd => sl_own (hd.kept (hx.own hrf.2) hap.2.1.symm hap.2.2.2.symm))
                  (fit_of10 hK0.1 (by omega) hq9) (fun z hz => fit_of10 hK0.1 (by omega) (hbe.1 z hz)) (fun z hz => fit_of10 hK0.1 (by omega) (hbT.1 z hz)) (fun z hz => fit_mul6 hK0.1 hK0.2 hq9 (hbT.1 z hz))
                  (fun z hz => fit_of10 hK0.1 (by omega) (hbe.2 z hz)) (fun z hz => fit_of10 hK0.1 (by omega) (hbT.2 z hz)) (fun z hz => fit_mul6 hK0.1 hK0.2 hq9 (hbT.2 z hz))
                have hcq5 := hE5.cell hcq
                have hcf5 := hE5.cell hcf
                have hbx5 := LnBox.ext hE5 hbx
                have hd05 := hbx5.cell0
                have hd15 := hbx5.cell1
                unfold Li.u at hc0
                unfold Li.y at hc1
                have HdT := Lib.hid hT; have HE5 := Lib.hid hE5; have Hlq := Lib.hid hq1; have Hstep := Lib.hid hstep; have HBi := Lib.hid hBi; have HB2 := Lib.hid hB; have HEi := Lib.hid hEi; have Hlv := Lib.hid hlessv; have Hbx5 := Lib.hid hbx5; have Hes := Lib.hid hes
                have Hdm := Lib.hid hdm; have Hless := Lib.hid hless
                generalize fdv (nthI e.x c) (nthI T.x c) = qq at *
                generalize fmd (nthI e.x c) (nthI T.x c) = qr at *
                generalize nthI e.x c = zq at *
                generalize nthI T.x c = zf at *
                clear hdm hless hstep hT hE5 hrq hrf hlx hfx hbe hbT hap hgh hcq hcf hT0 hq9 hEi hBi hlessv hle hq1 hh hB hbx hbx5 hes
                have hi0 : (0 : Int) ≤ (i : Int) := by omega
                have hi1 : (i : Int) < (done : Int) := by omega
                have HE05 := Lib.hid (HEi.out.trans HE5.out)
                generalize I zq = sq at *
                generalize I zf = sf at *
                generalize I qq = sqq at *
                generalize I qr = sqr at *
                go_wp2_with fail
                go_region_held3 (fun w' => Ext W5 w' ∧ w'.cell? ⟨wr.heap.size, 0, none⟩ = some (.slice (some ⟨e.g, 0, none⟩) n e.cg) ∧ w'.cell? ⟨e.g, c, none⟩ = some (.string sq) ∧ w'.cell? ⟨W1.heap.size, 0, none⟩ = some (.slice (some ⟨T.g, 0, none⟩) n T.cg) ∧ w'.cell? ⟨T.g, c, none⟩ = some (.string sf))
                  (first | exact held4 ⟨Ext.refl W5, hb0, hcq5, hd05, hcf5⟩ ((Ext.refl W5).drew) | exact held4 (by assumption) hxa)
                  (first
                    | (go_at_call 102; refine (Hdm.out _ (HE05.out.trans (And.left (by assumption)))).mono ?_; rintro e9 V4 ⟨rfl, hxa⟩))
                all_goals
                  have hx9 := And.left (by assumption : Ext W5 V4 ∧ _)
                  have hE4 : Ext wr V4 := HE5.out.trans hx9
                  have hg0 := hx9.cell hb0
                  have hg1 := hx9.cell hb1
                  have hg2 := hx9.cell hd05
                  have hg3 := hx9.cell hd15
                  have Hls := Lib.hid (Hless.out V4 hE4)
                  have HT4 := Lib.hid (HdT.out.ext hE4)
                  have HB4 : Hid (Below B w V4) := Lib.hid (HB2.out.trans (Below.mono hE4 HBi.out))
                  have HB4s := Lib.hid (Nat.le_trans HBi.out hE4.size)
                  have Hbx4 := Lib.hid (LnBox.ext hx9 Hbx5.out)
                  clear hx9 hE4
                  go_wp2_with fail
                  refine Hls.out.mono ?_
                  rintro e V5 ⟨⟨v5, rfl⟩, hx5, hy5, hd5⟩
                  have hfin := HT4.out.upd Hlq.out hd5 hx5 hy5
                  rw [← Hlv.out, ← Hstep.out] at hfin
                  have hrb := HT4.out.rowB (List.mem_of_getElem? Hlq.out)
                  have hbf := HB4.out.trans (hd5.below HB4s.out hrb.1 hrb.2.1)
                  have hbxf := hd5.box Hbx4.out (by have := Hes.out; omega) (by have := Hes.out; omega)
                  have Hfin := Lib.hid hfin; have Hbf := Lib.hid hbf; have Hbxf := Lib.hid hbxf
                  clear hfin hrb hbf hbxf hx5 hy5 hd5
                  go_wp2_with fail
                  go_roundw
                  case rel => first | exact ⟨i + 1, by go_num, by omega, Hfin.out, Hbf.out, Hbxf.out⟩ | ((repeat apply Exists.intro); exact ⟨⟨i + 1, by go_num, by omega, Hfin.out, Hbf.out, Hbxf.out⟩, rfl⟩)
                  case measure => simp [intOf]; omega
              · obtain rfl : i = done := by omega
                have hnx := Hech.out.next (fun e he => (Hrow2.out e he).1) (Hrow2.out T (List.mem_of_getElem? HTat.out)).1 Hend.out.take Hend.out.zero Hrest.out HTat.out Hoth.out HTz.out HTp.out
                have hmem : ∀ q ∈ upTo c T ls2 i, ∃ e ∈ ls2, q = e ∨ (0 < i ∧ q = lessLi c T e) := fun q hq => by
                  obtain ⟨k, hk⟩ := List.mem_iff_getElem?.1 hq
                  cases hk2 : ls2[k]? with
                  | none => rw [upTo_none hk2] at hk; cases hk
                  | some e =>
                    rw [upTo_at hk2] at hk
                    have hk3 := Option.some.inj hk
                    refine ⟨e, List.mem_of_getElem? hk2, ?_⟩
                    by_cases g : k < i
                    · rw [if_pos g] at hk3; exact .inr ⟨by omega, hk3.symm⟩
                    · rw [if_neg g] at hk3; exact .inl hk3.symm
                have hrows : ∀ q ∈ upTo c T ls2 i, q.x.length = n ∧ q.b.length = N := fun q hq => by
                  obtain ⟨e, he, h1⟩ := hmem q hq
                  have hr := Hrow2.out e he
                  have hrT := Hrow2.out T (List.mem_of_getElem? HTat.out)
                  rcases h1 with rfl | ⟨_, rfl⟩
                  · exact hr
                  · unfold lessLi; simp; omega
                have hbds : bdAll (bdE (i + 1)) (upTo c T ls2 i) := fun q hq => by
                  obtain ⟨e, he, h1⟩ := hmem q hq
                  have hb := Hbd2.out e he
                  have hbT := Hbd2.out T (List.mem_of_getElem? HTat.out)
                  have hT0 : nthI T.x c ≠ 0 := by have := HTp.out; omega
                  rcases Nat.eq_zero_or_pos i with g | g
                  · rcases h1 with rfl | ⟨g2, _⟩
                    · rw [g, ← HK.out]; exact hb
                    · omega
                  · have e2 : bdE (i + 1) = K + K + 4 := by
                      rw [HK.out, show i + 1 = 2 by omega]; decide
                    rw [e2]
                    have hpw : 10 ^ K ≤ 10 ^ (K + K + 4) := Nat.pow_le_pow_right (by decide) (by omega)
                    rcases h1 with rfl | ⟨_, rfl⟩
                    · exact ⟨fun z hz => Nat.lt_of_lt_of_le (hb.1 z hz) hpw, fun z hz => Nat.lt_of_lt_of_le (hb.2 z hz) hpw⟩
                    · have hq9 : (fdv (nthI e.x c) (nthI T.x c)).natAbs < 10 ^ K := Nat.lt_of_le_of_lt (fdv_abs _ _ hT0) (hb.1 _ (nthI_mem' (by rw [(Hrow2.out e he).1]; omega)))
                      exact ⟨zip_bound2 hq9 hb.1 hbT.1, zip_bound2 hq9 hb.2 hbT.2⟩
                have Hnx := Lib.hid hnx; have Hrows := Lib.hid hrows; have Hbds := Lib.hid hbds; have HTf := Lib.hid hT; have HBf := Lib.hid hB
                clear hnx hmem hrows hbds hT hB hbx
                go_wp2_with fail
                go_roundw
                case rel => first | exact ⟨c + 1, i + 1, _, upTo c T ls2 i, by go_num, by go_num, by omega, by omega, HTf.out, HBf.out, Hnx.out, (upTo_length _ _ _ _).trans Hlen2.out, Hrows.out, (fun g => by omega), Hbds.out⟩ | ((repeat apply Exists.intro); exact ⟨⟨c + 1, i + 1, _, upTo c T ls2 i, by go_num, by go_num, by omega, by omega, HTf.out, HBf.out, Hnx.out, (upTo_length _ _ _ _).trans Hlen2.out, Hrows.out, (fun g => by omega), Hbds.out⟩, rfl⟩)
                case measure => simp [intOf]; omega
      · obtain rfl : done = 2 := by omega
        have hs0 := fun a cp W => sweep0_c a cp c W
        have Hs0 := Lib.hid hs0; clear hs0
        go_wp2_with fail
        refine (Hs0.out _ _ _).mono ?_
        rintro e W1 ⟨rfl, hx1⟩
        have HT1 := Lib.hid (HTa.out.ext hx1); have Hb1 := Lib.hid (Hbel.out.trans (Below.mono hx1 HBa.out))
        have hsk := Hech.out.skip (fun e he => by rw [List.drop_of_length_le (by rw [Hlen.out]; exact Nat.le_refl _)] at he; cases he)
        have Hsk := Lib.hid hsk; clear hsk hx1
        go_wp2_with fail
        go_roundw
        case rel => first | exact ⟨c + 1, 2, pf, ls, rfl, by go_num, by omega, by omega, HT1.out, Hb1.out, Hsk.out, Hlen.out, Hrowa.out, (fun g => by cases g), Hbd.out⟩ | ((repeat apply Exists.intro); exact ⟨⟨c + 1, 2, pf, ls, rfl, by go_num, by omega, by omega, HT1.out, Hb1.out, Hsk.out, Hlen.out, Hrowa.out, (fun g => by cases g), Hbd.out⟩, rfl⟩)
        case measure => simp [intOf]; omega
    · obtain rfl : c = n := by omega
      have hfm := Hech.out.form (Nat.le_refl _) (fun e he => (Hrowa.out e he).1)
      have Hfm := Lib.hid hfm; clear hfm
      go_wp2
      go_ret
      exact ⟨done, ls, rfl, hd2, HTa.out, Hbel.out, Hfm.out, Hlen.out, fun e he => (Hrowa.out e he).1, fun e he z hz => fit_of10 (k := bdE done) (by unfold bdE; split <;> (try split) <;> omega) (by unfold bdE; split <;> (try split) <;> omega) ((Hbd.out e he).1 z hz)⟩

set_option maxRecDepth 100000 in
set_option maxHeartbeats 8000000 in
theorem echelon_two (n N gs cap : Nat) (ls0 : List Li) (w0 w : World) (B : Nat) (he : Env w0) (h0 : Ext w0 w) (hB : w0.heap.size ≤ B) (hBw : B ≤ w.heap.size) (hT : LiT w B n N gs cap ls0) (hrow : ∀ e ∈ ls0, e.x.length = n ∧ e.b.length = N) (hl2 : ls0.length = 2) (hc2 : cap = 2) (hc9 : cap ≤ 9223372036854775807) (hn : n ≤ 12) (hN : N ≤ 12)
    (hx : ∀ e ∈ ls0, (∀ z ∈ e.x, z.natAbs ≤ 999) ∧ ∀ z ∈ e.b, z.natAbs ≤ 999) :
    Calls Tryz.prog 68 #[.slice (some ⟨gs, 0, none⟩) 2 cap, .int .i64 n] w (EchPost w B n N gs cap) := by
  subst hc2
  have He := Lib.hid he; have H0 := Lib.hid h0; have HB := Lib.hid hB; have HBw := Lib.hid hBw; have HT := Lib.hid hT; have Hrow := Lib.hid hrow; have Hl2 := Lib.hid hl2; have Hx := Lib.hid hx
  clear he h0 hB hBw hT hrow hl2 hx
  go_enter Tryz.func68, Tryz.ntmps68
  go_wp2_with fail
  go_loopw [5, 14] (fun v5 v14 wr => ∃ (c done : Nat) (pf : Nat → Nat) (ls : List Li), v5 = .int .i64 (done : Int) ∧ v14 = .int .i64 (c : Int) ∧ c ≤ n ∧ done ≤ 2 ∧ LiT wr B n N gs 2 ls ∧ Below B w wr ∧ Ech n c done pf ls ∧ ls.length = 2 ∧ (∀ e ∈ ls, e.x.length = n ∧ e.b.length = N) ∧ (done = 0 → ls = ls0) ∧ bdAll (bdE done) ls) (fun _ v14 _ => n - (intOf v14).toNat)
  case atStart =>
    refine ⟨0, 0, fun _ => 0, ls0, rfl, rfl, Nat.zero_le _, Nat.zero_le _, HT.out, Below.refl _ _, Ech.start _ _, Hl2.out, Hrow.out, fun _ => rfl, fun e he => ?_⟩
    have := Hx.out e he
    have e3 : 10 ^ bdE 0 = 1000 := by decide
    rw [e3]
    exact ⟨fun z hz => by have := this.1 z hz; omega, fun z hz => by have := this.2 z hz; omega⟩
  case round =>
    obtain ⟨c, done, pf, ls, rfl, rfl, hc, hd2, hT, hbel, hech, hlen, hrow, hsame, hbd⟩ := hrel
    obtain ⟨wa, hwa⟩ : ∃ wa, wa = wr := ⟨_, rfl⟩
    subst hwa
    have HTa := Lib.hid hT; have Hbel := Lib.hid hbel; have Hech := Lib.hid hech; have Hlen := Lib.hid hlen; have Hrowa := Lib.hid hrow; have Hsame := Lib.hid hsame; have Hbd := Lib.hid hbd
    have hBa : B ≤ wa.heap.size := Nat.le_trans HBw.out hbel.size
    have HEa : Hid (Ext w0 wa) := Lib.hid (Below.trans H0.out (Below.mono hbel HB.out))
    have HBa := Lib.hid hBa
    clear hT hbel hech hlen hrow hsame hbd hBa
    by_cases hcn : c < n
    · have hcn0 : (0 : Int) ≤ (c : Int) := by omega
      have hcn1 : (c : Int) < (n : Int) := by omega
      by_cases hd : done < 2
      · have hsw := sweep_c (bdE done) done c n N gs 2 (2 - done) (2 - done) ls w0 wa B He.out HEa.out HB.out HBa.out HTa.out Hrowa.out (by rw [Hlen.out]; omega) (by omega) (by rw [Hlen.out]; omega) hcn hn hN (by unfold bdE; split <;> (try split) <;> omega) (by unfold bdE; split <;> (try split) <;> omega) (by omega) (by omega)
          (by
            rcases Nat.eq_zero_or_pos done with g | g
            · refine .inr fun e he => ?_
              have he2 : e ∈ ls0 := by rw [← Hsame.out g]; exact List.mem_of_mem_drop he
              exact (Hx.out e he2).1 _ (nthI_mem' (by rw [(Hrow.out e he2).1]; exact hcn))
            · left; omega)
          (fun e he => Hbd.out e (List.mem_of_mem_drop he))
        have Hsw := Lib.hid hsw; clear hsw
        have hnc : ¬ 2 = done := by omega
        have hd0 : (0 : Int) ≤ (done : Int) := by omega
        go_wp2_with fail
        refine Hsw.out.mono ?_
        rintro e W1 ⟨r, ls1, rfl, hT1, hb1, hend⟩
        have HT1 := Lib.hid hT1; have Hb1 := Lib.hid (Hbel.out.trans hb1); have Hend := Lib.hid hend
        clear hT1 hb1 hend
        cases r with
        | false =>
          obtain ⟨g1, g2⟩ := Hend.out.no rfl
          subst g1
          have hsk := Hech.out.skip g2
          have Hsk := Lib.hid hsk; clear hsk g2
          go_wp2_with fail
          go_roundw
          case rel => exact ⟨c + 1, done, pf, ls1, rfl, by go_num, by omega, hd2, HT1.out, Hb1.out, Hsk.out, Hlen.out, Hrowa.out, Hsame.out, Hbd.out⟩
          case measure => simp [intOf]; omega
        | true =>
          obtain ⟨t0, ht0, hne, hrest⟩ := Hend.out.yes rfl
          have hlen1 : ls1.length = 2 := Hend.out.len.trans Hlen.out
          obtain ⟨K, hK⟩ : ∃ K, K = bdE 1 := ⟨_, rfl⟩
          have hK0 : 0 < K ∧ K ≤ 100000 := by rw [hK]; decide
          have hbd1 : bdAll K ls1 := fun e he => by
            obtain ⟨i, hi⟩ := List.mem_iff_getElem?.1 he
            rcases Nat.lt_or_ge i done with g | g
            · have h1 : ls[i]? = some e := by
                rw [← List.getElem?_take_of_lt g, ← Hend.out.take, List.getElem?_take_of_lt g]; exact hi
              have h2 := Hbd.out e (List.mem_of_getElem? h1)
              have h3 : 10 ^ bdE done ≤ 10 ^ K := Nat.pow_le_pow_right (by decide) (by rw [hK]; exact bdE_le hd)
              exact ⟨fun z hz => Nat.lt_of_lt_of_le (h2.1 z hz) h3, fun z hz => Nat.lt_of_lt_of_le (h2.2 z hz) h3⟩
            · have hm : e ∈ ls1.drop done := mem_drop_iff.2 ⟨i, g, hi⟩
              rcases Nat.eq_zero_or_pos done with g2 | g2
              · have h2 := Hend.out.bd.2 e hm
                rw [g2, show bdE 0 + 6000 = bdE 1 by decide] at h2
                rw [hK]; exact h2
              · have h2 := Hend.out.bd.1 (.inr (by rw [Hlen.out]; omega)) e hm
                have : done = 1 := by omega
                rw [this] at h2
                rw [hK]; exact h2
          have hE1 : Ext w0 W1 := Below.trans H0.out (Below.mono Hb1.out HB.out)
          have hB1 : B ≤ W1.heap.size := Nat.le_trans HBw.out Hb1.out.size
          obtain ⟨hc0, hc1⟩ := HT1.out.at ht0
          have hr0 := HT1.out.rows t0 (List.mem_of_getElem? ht0)
          have hl0 := Hend.out.row t0 (List.mem_of_getElem? ht0)
          have hcz := own_cellAt hr0.1 (strs_at (l := t0.x) (j := c) (by omega))
          have hb0 := hbd1 t0 (List.mem_of_getElem? ht0)
          have hfz : Fit (nthI t0.x c) := fit_of10 hK0.1 (by omega) (hb0.1 _ (nthI_mem' (by omega)))
          have hgh := HT1.out.apart.2 t0 (List.mem_of_getElem? ht0)
          have hrB := HT1.out.rowB (List.mem_of_getElem? ht0)
          have hz0 : ∀ j, j < c → nthI t0.x j = 0 := fun j hj => Hend.out.zero j (fun e he => by
            obtain ⟨i, hi, h1⟩ := mem_drop_iff.1 he
            exact Hech.out.zero i e hi h1 j hj) t0 (mem_drop_iff.2 ⟨done, Nat.le_refl _, ht0⟩)
          unfold Li.u at hc0
          unfold Li.y at hc1
          -- the top line's box
          have hE2 : Ext W1 (W1.alloc (.cells #[.slice (some ⟨t0.g, 0, none⟩) n t0.cg, .slice (some ⟨t0.h, 0, none⟩) N t0.ch] 118)) := (Ext.refl W1).alloc _
          have hbx : LnBox (W1.alloc (.cells #[.slice (some ⟨t0.g, 0, none⟩) n t0.cg, .slice (some ⟨t0.h, 0, none⟩) N t0.ch] 118)) W1.heap.size (.slice (some ⟨t0.g, 0, none⟩) n t0.cg) (.slice (some ⟨t0.h, 0, none⟩) N t0.ch) := LnBox.new _ _ _
          generalize hw2 : W1.alloc (.cells #[.slice (some ⟨t0.g, 0, none⟩) n t0.cg, .slice (some ⟨t0.h, 0, none⟩) N t0.ch] 118) = W2 at *
          have hx0 := hbx.cell0
          have hx1 := hbx.cell1
          have hcz2 := hE2.cell hcz
          have hT2 := HT1.out.ext hE2
          have hb2 : Below B w W2 := Hb1.out.trans (Below.mono hE2 hB1)
          have hsg := fun W => sign_c (nthI t0.x c) W hfz
          have htn := turn_c t0.g t0.h n N t0.cg t0.ch t0.x t0.b W2 B hl0.1 hl0.2 (by omega) (by omega) hgh (hT2.rows t0 (List.mem_of_getElem? ht0)).1 (hT2.rows t0 (List.mem_of_getElem? ht0)).2 (fun z hz => fit_of10 hK0.1 (by omega) (hb0.1 z hz)) (fun z hz => fit_of10 hK0.1 (by omega) (hb0.2 z hz))
          have hB2 : B ≤ W2.heap.size := Nat.le_trans hB1 hE2.size
          have Hsg := Lib.hid hsg; have Htn := Lib.hid htn; have HT2 := Lib.hid hT2; have Hb2 := Lib.hid hb2; have Hbx := Lib.hid hbx; have Hbd1 := Lib.hid hbd1; have Ht0 := Lib.hid ht0; have Hz0 := Lib.hid hz0; have Hl0 := Lib.hid hl0; have Hlen1 := Lib.hid hlen1; have HrB := Lib.hid hrB; have HK := Lib.hid hK; have HB2 := Lib.hid hB2; have Hrest := Lib.hid hrest; have Hgh := Lib.hid hgh
          clear hsg htn hT2 hb2 hbx hbd1 ht0 hz0 hl0 hlen1 hrB hK hB2 hrest hgh hE1 hB1 hr0 hcz hb0 hfz
          have hdi : (done : Int) < 2 := by omega
          have hneg : (nthI t0.x c < 0 ∧ cmpI (nthI t0.x c) 0 < 0) ∨ (0 < nthI t0.x c ∧ ¬ cmpI (nthI t0.x c) 0 < 0) := by
            rcases Int.lt_or_gt_of_ne hne with g | g
            · left; rw [cmpI_lt g]; omega
            · right; rw [cmpI_gt g]; omega
          have hd1 : done ≤ 1 := by omega
          generalize hzz : nthI t0.x c = z0 at *
          have Hzz := Lib.hid hzz; clear hzz
          have HT1r := Lib.hid (fun e (he : e ∈ ls1) => HT1.out.rowB he)
          rcases hneg with ⟨hz1, hcv⟩ | ⟨hz1, hcv⟩
          case' inl =>
            generalize cmpI z0 0 = cv at *
            generalize I z0 = sz at *
            have hdc : decide (cv < 0) = true := decide_eq_true hcv
            go_wp2_with fail
            refine (Hsg.out _).mono ?_
            rintro e W2' ⟨rfl, rfl⟩
            go_wp2_with fail
            refine Htn.out.mono ?_
            rintro e W3 ⟨⟨v3, rfl⟩, hx3, hy3, hd3⟩
            obtain ⟨T, hTd⟩ : ∃ T, T = ({ t0 with x := negv t0.x, b := negv t0.b } : Li) := ⟨_, rfl⟩
            obtain ⟨ls2, hls2⟩ : ∃ l, l = ls1.set done T := ⟨_, rfl⟩
            have hT3 : LiT W3 B n N gs 2 ls2 := by rw [hls2, hTd]; exact HT2.out.upd Ht0.out hd3 hx3 hy3
            have hdn : done < ls1.length := by rw [Hlen1.out]; omega
            have hTat : ls2[done]? = some T := by rw [hls2, List.getElem?_set, if_pos rfl, if_pos hdn]
            have hoth : ∀ i, i ≠ done → ls2[i]? = ls1[i]? := fun i hi => by rw [hls2, List.getElem?_set, if_neg (fun g => hi g.symm)]
            have hmem2 : ∀ e ∈ ls2, e = T ∨ e ∈ ls1 := fun e he => by
              rw [hls2] at he
              rcases List.mem_or_eq_of_mem_set he with g | g
              · exact .inr g
              · exact .inl g
            have hlT : T.x.length = n ∧ T.b.length = N := by rw [hTd]; exact ⟨(negv_length _).trans Hl0.out.1, (negv_length _).trans Hl0.out.2⟩
            have hbT : (∀ z ∈ T.x, z.natAbs < 10 ^ K) ∧ ∀ z ∈ T.b, z.natAbs < 10 ^ K := by
              have h1 := Hbd1.out t0 (List.mem_of_getElem? Ht0.out)
              rw [hTd]
              exact ⟨fun z hz => by have := h1.1 _ (negv_mem hz); rwa [Int.natAbs_neg] at this, fun z hz => by have := h1.2 _ (negv_mem hz); rwa [Int.natAbs_neg] at this⟩
            have hTz : ∀ j, j < c → nthI T.x j = 0 := fun j hj => by rw [hTd]; show nthI (negv t0.x) j = 0; rw [negv_at, Hz0.out j hj]; rfl
            have hTp : 0 < nthI T.x c := by rw [hTd]; show 0 < nthI (negv t0.x) c; rw [negv_at, Hzz.out]; omega
            have hbx3 : LnBox W3 W1.heap.size (.slice (some ⟨T.g, 0, none⟩) n T.cg) (.slice (some ⟨T.h, 0, none⟩) N T.ch) := by
              rw [hTd]
              exact hd3.box Hbx.out (by have := HrB.out; show W1.heap.size ≠ t0.g; omega) (by have := HrB.out; show W1.heap.size ≠ t0.h; omega)
            have hb3 : Below B w W3 := Hb2.out.trans (hd3.below HB2.out HrB.out.1 HrB.out.2.1)
            have hrow2 : ∀ e ∈ ls2, e.x.length = n ∧ e.b.length = N := fun e he => by
              rcases hmem2 e he with rfl | g
              · exact hlT
              · exact Hend.out.row e g
            have hbd2 : bdAll K ls2 := fun e he => by
              rcases hmem2 e he with rfl | g
              · exact hbT
              · exact Hbd1.out e g
            have hlen2 : ls2.length = 2 := by rw [hls2, List.length_set]; exact Hlen1.out
            clear hTd hls2 hmem2 hlT hbT hx3 hy3 hd3 hdn
            have HT3 := Lib.hid hT3; have HTat := Lib.hid hTat; have Hoth := Lib.hid hoth; have HTz := Lib.hid hTz; have HTp := Lib.hid hTp; have Hbx3 := Lib.hid hbx3; have Hb3 := Lib.hid hb3; have Hrow2 := Lib.hid hrow2; have Hbd2 := Lib.hid hbd2; have Hlen2 := Lib.hid hlen2
            clear hT3 hTat hoth hTz hTp hbx3 hb3 hrow2 hbd2 hlen2 hx0 hx1 hcz2 hc0 hc1 hz1 hne
            go_wp2_with fail
            clear hdc hcv
          case' inr =>
            generalize cmpI z0 0 = cv at *
            generalize I z0 = sz at *
            have hdc : decide (cv < 0) = false := decide_eq_false hcv
            go_wp2_with fail
            refine (Hsg.out _).mono ?_
            rintro e W2' ⟨rfl, rfl⟩
            generalize W2 = W3 at *
            obtain ⟨T, hTd⟩ : ∃ T, T = t0 := ⟨_, rfl⟩
            obtain ⟨ls2, hls2⟩ : ∃ l, l = ls1 := ⟨_, rfl⟩
            have hT3 : LiT W3 B n N gs 2 ls2 := by rw [hls2]; exact HT2.out
            have hTat : ls2[done]? = some T := by rw [hls2, hTd]; exact Ht0.out
            have hoth : ∀ i, i ≠ done → ls2[i]? = ls1[i]? := fun i hi => by rw [hls2]
            have hTz : ∀ j, j < c → nthI T.x j = 0 := by rw [hTd]; exact Hz0.out
            have hTp : 0 < nthI T.x c := by rw [hTd, Hzz.out]; exact hz1
            have hbx3 : LnBox W3 W1.heap.size (.slice (some ⟨T.g, 0, none⟩) n T.cg) (.slice (some ⟨T.h, 0, none⟩) N T.ch) := by rw [hTd]; exact Hbx.out
            have hb3 : Below B w W3 := Hb2.out
            have hrow2 : ∀ e ∈ ls2, e.x.length = n ∧ e.b.length = N := by rw [hls2]; exact Hend.out.row
            have hbd2 : bdAll K ls2 := by rw [hls2]; exact Hbd1.out
            have hlen2 : ls2.length = 2 := by rw [hls2]; exact Hlen1.out
            clear hTd hls2
            have HT3 := Lib.hid hT3; have HTat := Lib.hid hTat; have Hoth := Lib.hid hoth; have HTz := Lib.hid hTz; have HTp := Lib.hid hTp; have Hbx3 := Lib.hid hbx3; have Hb3 := Lib.hid hb3; have Hrow2 := Lib.hid hrow2; have Hbd2 := Lib.hid hbd2; have Hlen2 := Lib.hid hlen2
            clear hT3 hTat hoth hTz hTp hbx3 hb3 hrow2 hbd2 hlen2 hx0 hx1 hcz2 hc0 hc1 hz1 hne
            go_wp2_with fail
            clear hdc hcv
          all_goals
            go_loopw [40] (fun v40 wi => ∃ i : Nat, v40 = .int .i64 (i : Int) ∧ i ≤ done ∧ LiT wi B n N gs 2 (upTo c T ls2 i) ∧ Below B w wi ∧ LnBox wi W1.heap.size (.slice (some ⟨T.g, 0, none⟩) n T.cg) (.slice (some ⟨T.h, 0, none⟩) N T.ch)) (fun v40 _ => done - (intOf v40).toNat)
            case atStart => exact ⟨0, rfl, Nat.zero_le _, by rw [upTo_zero]; exact HT3.out, Hb3.out, Hbx3.out⟩
            case round =>
              obtain ⟨i, rfl, hi, hT, hB, hbx⟩ := hrel
              by_cases hid : i < done
              · obtain ⟨e, hle⟩ : ∃ e, ls2[i]? = some e := ⟨_, List.getElem?_eq_getElem (by rw [Hlen2.out]; omega)⟩
                have hq1 : (upTo c T ls2 i)[i]? = some e := by rw [upTo_at hle, if_neg (by omega)]
                have hh : (upTo c T ls2 i)[done]? = some T := by rw [upTo_at HTat.out, if_neg (by omega)]
                obtain ⟨hc0, hc1⟩ := hT.at hq1
                have hrq := hT.rows e (List.mem_of_getElem? hq1)
                have hrf := hT.rows T (List.mem_of_getElem? hh)
                have hlx := Hrow2.out e (List.mem_of_getElem? hle)
                have hfx := Hrow2.out T (List.mem_of_getElem? HTat.out)
                have hbe := Hbd2.out e (List.mem_of_getElem? hle)
                have hbT := Hbd2.out T (List.mem_of_getElem? HTat.out)
                have hap := hT.apart.1 i done e T hq1 hh (by omega)
                have hgh := hT.apart.2 e (List.mem_of_getElem? hq1)
                have hcq := own_cellAt hrq.1 (strs_at (l := e.x) (j := c) (by omega))
                have hcf := own_cellAt hrf.1 (strs_at (l := T.x) (j := c) (by omega))
                have hT0 : nthI T.x c ≠ 0 := by have := HTp.out; omega
                have hq9 : (fdv (nthI e.x c) (nthI T.x c)).natAbs < 10 ^ K := Nat.lt_of_le_of_lt (fdv_abs _ _ hT0) (hbe.1 _ (nthI_mem' (by omega)))
                have hstep := upTo_step (c := c) (t := T) hle
                have hEi : Ext w0 wr := Below.trans H0.out (Below.mono hB HB.out)
                have hBi : B ≤ wr.heap.size := Nat.le_trans HBw.out hB.size
                have hes : e.g < W1.heap.size ∧ e.h < W1.heap.size := by
                  have h1 := Hoth.out i (by omega)
                  rw [hle] at h1
                  have := HT1r.out e (List.mem_of_getElem? h1.symm)
                  omega
                have hE5 : Ext wr (wr.alloc (.cells #[.slice (some ⟨e.g, 0, none⟩) n e.cg, .slice (some ⟨e.h, 0, none⟩) N e.ch] 118)) := (Ext.refl wr).alloc _
                have hb0 := two_new0 wr (.slice (some ⟨e.g, 0, none⟩) n e.cg) (.slice (some ⟨e.h, 0, none⟩) N e.ch) 118
                have hb1 := two_new1 wr (.slice (some ⟨e.g, 0, none⟩) n e.cg) (.slice (some ⟨e.h, 0, none⟩) N e.ch) 118
                generalize hw5 : wr.alloc (.cells #[.slice (some ⟨e.g, 0, none⟩) n e.cg, .slice (some ⟨e.h, 0, none⟩) N e.ch] 118) = W5 at *
                have hlessv : lessLi c T e = { e with x := List.zipWith (fun x y => x - fdv (nthI e.x c) (nthI T.x c) * y) e.x T.x, b := List.zipWith (fun x y => x - fdv (nthI e.x c) (nthI T.x c) * y) e.b T.b } := rfl
                have hdm := fun W (hx : Ext w0 W) => wdivmod_c (nthI e.x c) (nthI T.x c) W (He.out.ext hx) hT0 (fit_of10 hK0.1 (by omega) (hbe.1 _ (nthI_mem' (by omega)))) (fit_of10 hK0.1 (by omega) (hbT.1 _ (nthI_mem' (by omega))))
                have hless := fun W (hx : Ext wr W) => hless2_c e.g e.h n N e.cg e.ch (.slice (some ⟨T.g, 0, none⟩) n T.cg) (.slice (some ⟨T.h, 0, none⟩) N T.ch) (fdv (nthI e.x c) (nthI T.x c)) e.x T.x e.b T.b w0 W B He.out (hEi.trans hx) HB.out hlx.1 hfx.1 hlx.2 hfx.2 (by omega) (by omega) hgh (hx.own hrq.1) (hx.own hrq.2)
                  (fun W2 hd => sl_own (hd.kept (hx.own hrf.1) hap.1.symm hap.2.2.1.symm)) (fun W2 hd => sl_own (hd.kept (hx.own hrf.2) hap.2.1.symm hap.2.2.2.symm))
                  (fit_of10 hK0.1 (by omega) hq9) (fun z hz => fit_of10 hK0.1 (by omega) (hbe.1 z hz)) (fun z hz => fit_of10 hK0.1 (by omega) (hbT.1 z hz)) (fun z hz => fit_mul6 hK0.1 hK0.2 hq9 (hbT.1 z hz))
                  (fun z hz => fit_of10 hK0.1 (by omega) (hbe.2 z hz)) (fun z hz => fit_of10 hK0.1 (by omega) (hbT.2 z hz)) (fun z hz => fit_mul6 hK0.1 hK0.2 hq9 (hbT.2 z hz))
                have hcq5 := hE5.cell hcq
                have hcf5 := hE5.cell hcf
                have hbx5 := LnBox.ext hE5 hbx
                have hd05 := hbx5.cell0
                have hd15 := hbx5.cell1
                unfold Li.u at hc0
                unfold Li.y at hc1
                have HdT := Lib.hid hT; have HE5 := Lib.hid hE5; have Hlq := Lib.hid hq1; have Hstep := Lib.hid hstep; have HBi := Lib.hid hBi; have HB2 := Lib.hid hB; have HEi := Lib.hid hEi; have Hlv := Lib.hid hlessv; have Hbx5 := Lib.hid hbx5; have Hes := Lib.hid hes
                have Hdm := Lib.hid hdm; have Hless := Lib.hid hless
                generalize fdv (nthI e.x c) (nthI T.x c) = qq at *
                generalize fmd (nthI e.x c) (nthI T.x c) = qr at *
                generalize nthI e.x c = zq at *
                generalize nthI T.x c = zf at *
                clear hdm hless hstep hT hE5 hrq hrf hlx hfx hbe hbT hap hgh hcq hcf hT0 hq9 hEi hBi hlessv hle hq1 hh hB hbx hbx5 hes
                have hi0 : (0 : Int) ≤ (i : Int) := by omega
                have hi1 : (i : Int) < (done : Int) := by omega
                have HE05 := Lib.hid (HEi.out.trans HE5.out)
                generalize I zq = sq at *
                generalize I zf = sf at *
                generalize I qq = sqq at *
                generalize I qr = sqr at *
                go_wp2_with fail
                go_region_held3 (fun w' => Ext W5 w' ∧ w'.cell? ⟨wr.heap.size, 0, none⟩ = some (.slice (some ⟨e.g, 0, none⟩) n e.cg) ∧ w'.cell? ⟨e.g, c, none⟩ = some (.string sq) ∧ w'.cell? ⟨W1.heap.size, 0, none⟩ = some (.slice (some ⟨T.g, 0, none⟩) n T.cg) ∧ w'.cell? ⟨T.g, c, none⟩ = some (.string sf))
                  (first | exact held4 ⟨Ext.refl W5, hb0, hcq5, hd05, hcf5⟩ ((Ext.refl W5).drew) | exact held4 (by assumption) hxa)
                  (first
                    | (go_at_call 102; refine (Hdm.out _ (HE05.out.trans (And.left (by assumption)))).mono ?_; rintro e9 V4 ⟨rfl, hxa⟩))
                all_goals
                  have hx9 := And.left (by assumption : Ext W5 V4 ∧ _)
                  have hE4 : Ext wr V4 := HE5.out.trans hx9
                  have hg0 := hx9.cell hb0
                  have hg1 := hx9.cell hb1
                  have hg2 := hx9.cell hd05
                  have hg3 := hx9.cell hd15
                  have Hls := Lib.hid (Hless.out V4 hE4)
                  have HT4 := Lib.hid (HdT.out.ext hE4)
                  have HB4 : Hid (Below B w V4) := Lib.hid (HB2.out.trans (Below.mono hE4 HBi.out))
                  have HB4s := Lib.hid (Nat.le_trans HBi.out hE4.size)
                  have Hbx4 := Lib.hid (LnBox.ext hx9 Hbx5.out)
                  clear hx9 hE4
                  go_wp2_with fail
                  refine Hls.out.mono ?_
                  rintro e V5 ⟨⟨v5, rfl⟩, hx5, hy5, hd5⟩
                  have hfin := HT4.out.upd Hlq.out hd5 hx5 hy5
                  rw [← Hlv.out, ← Hstep.out] at hfin
                  have hrb := HT4.out.rowB (List.mem_of_getElem? Hlq.out)
                  have hbf := HB4.out.trans (hd5.below HB4s.out hrb.1 hrb.2.1)
                  have hbxf := hd5.box Hbx4.out (by have := Hes.out; omega) (by have := Hes.out; omega)
                  have Hfin := Lib.hid hfin; have Hbf := Lib.hid hbf; have Hbxf := Lib.hid hbxf
                  clear hfin hrb hbf hbxf hx5 hy5 hd5
                  go_wp2_with fail
                  go_roundw
                  case rel => first | exact ⟨i + 1, by go_num, by omega, Hfin.out, Hbf.out, Hbxf.out⟩ | ((repeat apply Exists.intro); exact ⟨⟨i + 1, by go_num, by omega, Hfin.out, Hbf.out, Hbxf.out⟩, rfl⟩)
                  case measure => simp [intOf]; omega
              · obtain rfl : i = done := by omega
                have hnx := Hech.out.next (fun e he => (Hrow2.out e he).1) (Hrow2.out T (List.mem_of_getElem? HTat.out)).1 Hend.out.take Hend.out.zero Hrest.out HTat.out Hoth.out HTz.out HTp.out
                have hmem : ∀ q ∈ upTo c T ls2 i, ∃ e ∈ ls2, q = e ∨ (0 < i ∧ q = lessLi c T e) := fun q hq => by
                  obtain ⟨k, hk⟩ := List.mem_iff_getElem?.1 hq
                  cases hk2 : ls2[k]? with
                  | none => rw [upTo_none hk2] at hk; cases hk
                  | some e =>
                    rw [upTo_at hk2] at hk
                    have hk3 := Option.some.inj hk
                    refine ⟨e, List.mem_of_getElem? hk2, ?_⟩
                    by_cases g : k < i
                    · rw [if_pos g] at hk3; exact .inr ⟨by omega, hk3.symm⟩
                    · rw [if_neg g] at hk3; exact .inl hk3.symm
                have hrows : ∀ q ∈ upTo c T ls2 i, q.x.length = n ∧ q.b.length = N := fun q hq => by
                  obtain ⟨e, he, h1⟩ := hmem q hq
                  have hr := Hrow2.out e he
                  have hrT := Hrow2.out T (List.mem_of_getElem? HTat.out)
                  rcases h1 with rfl | ⟨_, rfl⟩
                  · exact hr
                  · unfold lessLi; simp; omega
                have hbds : bdAll (bdE (i + 1)) (upTo c T ls2 i) := fun q hq => by
                  obtain ⟨e, he, h1⟩ := hmem q hq
                  have hb := Hbd2.out e he
                  have hbT := Hbd2.out T (List.mem_of_getElem? HTat.out)
                  have hT0 : nthI T.x c ≠ 0 := by have := HTp.out; omega
                  rcases Nat.eq_zero_or_pos i with g | g
                  · rcases h1 with rfl | ⟨g2, _⟩
                    · rw [g, ← HK.out]; exact hb
                    · omega
                  · have e2 : bdE (i + 1) = K + K + 4 := by
                      rw [HK.out, show i + 1 = 2 by omega]; decide
                    rw [e2]
                    have hpw : 10 ^ K ≤ 10 ^ (K + K + 4) := Nat.pow_le_pow_right (by decide) (by omega)
                    rcases h1 with rfl | ⟨_, rfl⟩
                    · exact ⟨fun z hz => Nat.lt_of_lt_of_le (hb.1 z hz) hpw, fun z hz => Nat.lt_of_lt_of_le (hb.2 z hz) hpw⟩
                    · have hq9 : (fdv (nthI e.x c) (nthI T.x c)).natAbs < 10 ^ K := Nat.lt_of_le_of_lt (fdv_abs _ _ hT0) (hb.1 _ (nthI_mem' (by rw [(Hrow2.out e he).1]; omega)))
                      exact ⟨zip_bound2 hq9 hb.1 hbT.1, zip_bound2 hq9 hb.2 hbT.2⟩
                have Hnx := Lib.hid hnx; have Hrows := Lib.hid hrows; have Hbds := Lib.hid hbds; have HTf := Lib.hid hT; have HBf := Lib.hid hB
                clear hnx hmem hrows hbds hT hB hbx
                go_wp2_with fail
                go_roundw
                case rel => first | exact ⟨c + 1, i + 1, _, upTo c T ls2 i, by go_num, by go_num, by omega, by omega, HTf.out, HBf.out, Hnx.out, (upTo_length _ _ _ _).trans Hlen2.out, Hrows.out, (fun g => by omega), Hbds.out⟩ | ((repeat apply Exists.intro); exact ⟨⟨c + 1, i + 1, _, upTo c T ls2 i, by go_num, by go_num, by omega, by omega, HTf.out, HBf.out, Hnx.out, (upTo_length _ _ _ _).trans Hlen2.out, Hrows.out, (fun g => by omega), Hbds.out⟩, rfl⟩)
                case measure => simp [intOf]; omega
      · obtain rfl : done = 2 := by omega
        have hs0 := fun a cp W => sweep0_c a cp c W
        have Hs0 := Lib.hid hs0; clear hs0
        go_wp2_with fail
        refine (Hs0.out _ _ _).mono ?_
        rintro e W1 ⟨rfl, hx1⟩
        have HT1 := Lib.hid (HTa.out.ext hx1); have Hb1 := Lib.hid (Hbel.out.trans (Below.mono hx1 HBa.out))
        have hsk := Hech.out.skip (fun e he => by rw [List.drop_of_length_le (by rw [Hlen.out]; exact Nat.le_refl _)] at he; cases he)
        have Hsk := Lib.hid hsk; clear hsk hx1
        go_wp2_with fail
        go_roundw
        case rel => first | exact ⟨c + 1, 2, pf, ls, rfl, by go_num, by omega, by omega, HT1.out, Hb1.out, Hsk.out, Hlen.out, Hrowa.out, (fun g => by cases g), Hbd.out⟩ | ((repeat apply Exists.intro); exact ⟨⟨c + 1, 2, pf, ls, rfl, by go_num, by omega, by omega, HT1.out, Hb1.out, Hsk.out, Hlen.out, Hrowa.out, (fun g => by cases g), Hbd.out⟩, rfl⟩)
        case measure => simp [intOf]; omega
    · obtain rfl : c = n := by omega
      have hfm := Hech.out.form (Nat.le_refl _) (fun e he => (Hrowa.out e he).1)
      have Hfm := Lib.hid hfm; clear hfm
      go_wp2
      go_ret
      exact ⟨done, ls, rfl, hd2, HTa.out, Hbel.out, Hfm.out, Hlen.out, fun e he => (Hrowa.out e he).1, fun e he z hz => fit_of10 (k := bdE done) (by unfold bdE; split <;> (try split) <;> omega) (by unfold bdE; split <;> (try split) <;> omega) ((Hbd.out e he).1 z hz)⟩

theorem echelon_c (n N gs cap : Nat) (ls0 : List Li) (w0 w : World) (B : Nat) (he : Env w0) (h0 : Ext w0 w) (hB : w0.heap.size ≤ B) (hBw : B ≤ w.heap.size) (hT : LiT w B n N gs cap ls0) (hrow : ∀ e ∈ ls0, e.x.length = n ∧ e.b.length = N) (hl2 : ls0.length = 2) (hc2 : 2 ≤ cap) (hc9 : cap ≤ 9223372036854775807) (hn : n ≤ 12) (hN : N ≤ 12)
    (hx : ∀ e ∈ ls0, (∀ z ∈ e.x, z.natAbs ≤ 999) ∧ ∀ z ∈ e.b, z.natAbs ≤ 999) :
    Calls Tryz.prog 68 #[.slice (some ⟨gs, 0, none⟩) 2 cap, .int .i64 n] w (EchPost w B n N gs cap) := by
  rcases Nat.lt_or_ge 2 cap with g | g
  · exact echelon_big n N gs cap ls0 w0 w B he h0 hB hBw hT hrow hl2 g hc9 hn hN hx
  · exact echelon_two n N gs cap ls0 w0 w B he h0 hB hBw hT hrow hl2 (by omega) hc9 hn hN hx

end Go.Proofs.YtkamjjjimbbdmaaGreatDoor
