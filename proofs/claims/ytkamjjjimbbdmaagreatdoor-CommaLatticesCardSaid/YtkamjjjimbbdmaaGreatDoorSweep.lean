/- Walk: hermite's sweep. -/
import Derived.Test.YtkamjjjimbbdmaaGreatDoorFrmC
import Derived.BigRegion
namespace Go.Proofs.YtkamjjjimbbdmaaGreatDoor
open Go.RowKit Go.Lib Go.Shelf

theorem fit_of10 {z : Int} {k : Nat} (h0 : 0 < k) (h1 : k ≤ 390000) (h : z.natAbs < 10 ^ k) : Fit z := by
  unfold Fit
  have := Dec.nDigits_le (n := z.natAbs) (k := k) h0 h
  omega
theorem fit_mul3 {q z : Int} {k : Nat} (h1 : k ≤ 390000) (hq : q.natAbs ≤ 999) (h : z.natAbs < 10 ^ k) : Fit (q * z) := by
  unfold Fit
  have h2 : (q * z).natAbs < 10 ^ (k + 3) := by
    rw [Int.natAbs_mul, Nat.pow_add, show 10 ^ 3 = 1000 by decide]
    generalize 10 ^ k = M at *
    have := Nat.mul_le_mul hq (Nat.le_of_lt h)
    omega
  have := Dec.nDigits_le (n := (q * z).natAbs) (k := k + 3) (by omega) h2
  omega
theorem minNZ_bd {C : Nat} : ∀ (l : List Int), (∀ z ∈ l, z.natAbs ≤ C) → minNZ l ≤ C
  | [], _ => Nat.zero_le _
  | a :: t, h => by
    have := minNZ_bd t fun z hz => h z (List.mem_cons_of_mem _ hz)
    have := h a (List.mem_cons_self)
    rw [minNZ]
    split
    · assumption
    · split
      · assumption
      · omega
theorem muNZ_bd {C : Nat} {l : List Int} (h : ∀ z ∈ l, z.natAbs ≤ C) : muNZ l ≤ 2 * C + 1 := by
  have := minNZ_bd l h
  unfold muNZ
  split <;> omega

def SwPost (w : World) (B n N gs cap E d c : Nat) (ls0 : List Li) (e : Ending) (w' : World) : Prop :=
  ∃ r ls, e = .returned (.bool r) ∧ LiT w' B n N gs cap ls ∧ Below B w w' ∧ SwEnd E d c n N ls0 r ls

set_option maxRecDepth 100000 in
set_option maxHeartbeats 8000000 in
theorem sweep_c (E d c n N gs cap capd m : Nat) (ls0 : List Li) (w0 w : World) (B : Nat) (he : Env w0) (h0 : Ext w0 w) (hB : w0.heap.size ≤ B) (hBw : B ≤ w.heap.size) (hL : LiT w B n N gs cap ls0) (hrow : ∀ e ∈ ls0, e.x.length = n ∧ e.b.length = N) (hm : ls0.length = d + m) (hm0 : 0 < m) (hln : ls0.length ≤ 12) (hcn : c < n) (hn : n ≤ 12) (hN : N ≤ 12) (hE : E ≤ 50000) (hE0 : 0 < E) (hcd : m ≤ capd) (hcd2 : capd ≤ 9223372036854775807)
    (hcol : m ≤ 1 ∨ ∀ e ∈ ls0.drop d, (nthI e.x c).natAbs ≤ 999) (hbd : ∀ e ∈ ls0.drop d, (∀ z ∈ e.x, z.natAbs < 10 ^ E) ∧ ∀ z ∈ e.b, z.natAbs < 10 ^ E) :
    Calls Tryz.prog 100 #[.slice (some ⟨gs, d * 2, none⟩) m capd, .int .i64 c] w (SwPost w B n N gs cap E d c ls0) := by
  have hinv : SwInv E d c n N 0 ls0 ls0 := ⟨rfl, rfl, hrow, fun j h => h, by rw [Nat.mul_zero, Nat.add_zero]; exact hbd, .inl ⟨rfl, rfl⟩, by rcases hcol with g | g; exact .inl ⟨by omega, rfl⟩; exact .inr g⟩
  have hmu : m ≤ 1 ∨ muNZ (colOf d c ls0) ≤ 1999 := by
    rcases hcol with g | g
    · exact .inl g
    · refine .inr ?_
      have := muNZ_bd (C := 999) (l := colOf d c ls0) fun z hz => by
        obtain ⟨i, e, hi, he, rfl⟩ := colOf_mem hz
        exact g e (mem_drop_iff.2 ⟨i, hi, he⟩)
      omega
  have He := Lib.hid he; have H0 := Lib.hid h0; have HL := Lib.hid hL; have Hinv := Lib.hid hinv; have Hmu := Lib.hid hmu; have Hm := Lib.hid hm
  have HB := Lib.hid hB; have HBw := Lib.hid hBw
  have hm12 : m ≤ 12 := by omega
  clear he h0 hL hinv hmu hrow hm hcol hbd hB hBw hln
  go_enter Tryz.func100, Tryz.ntmps100
  go_wp2_with fail
  go_loopg [4] (muNZ (colOf d c ls0)) (fun gk v4 wr => v4 = .bool false ∧ ∃ (p : Nat) (ls : List Li), LiT wr B n N gs cap ls ∧ Below B w wr ∧ SwInv E d c n N p ls0 ls ∧ gk = muNZ (colOf d c ls) ∧ (m ≤ 1 → p = 0) ∧ ((p = 0 ∧ m ≤ 1) ∨ p + gk ≤ 1999))
  case atStart => exact ⟨rfl, 0, ls0, HL.out, Below.refl _ _, Hinv.out, rfl, fun _ => rfl, Hmu.out.imp (fun g => ⟨rfl, g⟩) (fun g => by omega)⟩
  case round =>
    obtain ⟨rfl, p, ls, hT, hbel, hsw, hgk, hp0, hpg⟩ := hrel
    have Hp0 := Lib.hid hp0; clear hp0
    obtain ⟨wa, hwa⟩ : ∃ wa, wa = wr := ⟨_, rfl⟩
    subst hwa
    have hEa : Ext w0 wa := Below.trans H0.out (Below.mono hbel HB.out)
    have hlen : ls.length = d + m := hsw.len.trans Hm.out
    have HT := Lib.hid hT; have Hbel := Lib.hid hbel; have Hsw := Lib.hid hsw; have Hgk := Lib.hid hgk; have Hpg := Lib.hid hpg; have HEa := Lib.hid hEa; have Hlen := Lib.hid hlen
    have hp : p ≤ 1999 := by rcases hpg with ⟨g, _⟩ | g <;> omega
    have Hfit : Hid (∀ e ∈ ls.drop d, (∀ z ∈ e.x, z.natAbs < 10 ^ (E + 3 * p)) ∧ ∀ z ∈ e.b, z.natAbs < 10 ^ (E + 3 * p)) := Lib.hid hsw.bd
    have Hrow : Hid (∀ e ∈ ls, e.x.length = n ∧ e.b.length = N) := Lib.hid hsw.row
    clear hT hbel hsw hgk hpg hEa hlen
    go_wp2_with fail
    go_loopw [5, 6, 16] (fun v5 v6 v16 wr => ∃ (k rest : Nat) (best : Int), v5 = .int .i64 best ∧ v6 = .int .i64 (rest : Int) ∧ v16 = .int .i64 (k : Int) ∧ k ≤ m ∧ Scan (colOf d c ls) k best rest ∧ Ext wa wr) (fun _ _ v16 _ => m - (intOf v16).toNat)
    case atStart => exact ⟨0, 0, -1, rfl, rfl, rfl, Nat.zero_le _, Scan.zero _, Ext.refl _⟩
    case round =>
      obtain ⟨k, rest, best, rfl, rfl, rfl, hk, hscan, hext⟩ := hrel
      have hrk : rest ≤ 12 := by
        have := hscan.1
        have h2 := cntNZ_le ((colOf d c ls).take k)
        rw [List.length_take] at h2
        omega
      by_cases hkm : k < m
      · obtain ⟨e, he⟩ : ∃ e, ls[d + k]? = some e := ⟨_, List.getElem?_eq_getElem (by rw [Hlen.out]; omega)⟩
        have hcl : k < (colOf d c ls).length := by rw [colOf_length, Hlen.out]; omega
        have hz : (colOf d c ls).getD k 0 = nthI e.x c := colOf_at he
        have hmd : e ∈ ls.drop d := mem_drop_iff.2 ⟨d + k, by omega, he⟩
        have hTr := HT.out.ext hext
        obtain ⟨hc0, hc1⟩ := hTr.at he
        rw [show (d + k) * 2 = d * 2 + k * 2 by omega] at hc0 hc1
        have hr := (hTr.rows e (List.mem_of_getElem? he)).1
        have hxl := (Hrow.out e (List.mem_of_getElem? he)).1
        have hce := own_cellAt hr (strs_at (l := e.x) (j := c) (by omega))
        have hfz : Fit (nthI e.x c) := fit_of10 (k := E + 3 * p) (by omega) (by omega) ((Hfit.out e hmd).1 _ (nthI_mem' (by omega)))
        have hzk := I_is_zero (nthI e.x c)
        unfold Li.u at hc0
        unfold Li.y at hc1
        generalize e.g = eg at *
        generalize e.cg = ecg at *
        generalize e.h = eh at *
        generalize e.ch = ech at *
        rw [← hz] at hce hfz hzk
        have hskip := fun h => hscan.skip hcl h
        have hfirst := fun h1 h2 => hscan.first hcl h1 h2
        have hE5 : Ext wr (wr.alloc (.cells #[.slice (some ⟨eg, 0, none⟩) n ecg, .slice (some ⟨eh, 0, none⟩) N ech] 118)) := (Ext.refl wr).alloc _
        have hcb0 := two_new0 wr (.slice (some ⟨eg, 0, none⟩) n ecg) (.slice (some ⟨eh, 0, none⟩) N ech) 118
        have hcb1 := two_new1 wr (.slice (some ⟨eg, 0, none⟩) n ecg) (.slice (some ⟨eh, 0, none⟩) N ech) 118
        generalize hw5 : wr.alloc (.cells #[.slice (some ⟨eg, 0, none⟩) n ecg, .slice (some ⟨eh, 0, none⟩) N ech] 118) = W5 at *
        have hce5 := hE5.cell hce
        have HE5 := Lib.hid (hext.trans hE5); have Hskip := Lib.hid hskip; have Hfirst := Lib.hid hfirst; have Hscan := Lib.hid hscan; have Hcl := Lib.hid hcl; have Hfz := Lib.hid hfz; have Hext := Lib.hid hext; have HE51 := Lib.hid hE5
        have hk0 : (0 : Int) ≤ (k : Int) := by omega
        have hk1 : (k : Int) < (m : Int) := by omega
        have hcn0 : (0 : Int) ≤ (c : Int) := by omega
        have hcn1 : (c : Int) < (n : Int) := by omega
        clear hE5 hskip hfirst hcl hext hTr hr hxl hmd he hz hce hfz
        by_cases hz0 : (colOf d c ls).getD k 0 = 0
        · have hq1 : ((I ((colOf d c ls).getD k 0)).toList == [48]) = true := by rw [hzk, decide_eq_true hz0]
          have hnext := Hskip.out hz0
          have Hnext := Lib.hid hnext
          generalize (colOf d c ls).getD k 0 = z at *
          clear hzk hz0 hnext hscan
          go_wp2_with fail
          go_roundw
          case rel => exact ⟨k + 1, rest, best, rfl, rfl, by go_num, hkm, Hnext.out, HE5.out⟩
          case measure => simp [intOf]; omega
        · have hq1 : ((I ((colOf d c ls).getD k 0)).toList == [48]) = false := by rw [hzk, decide_eq_false hz0]
          rcases hscan.2 with ⟨hb, hr0⟩ | ⟨j, hb, hjk, hj0, hjm⟩
          · have hnext := Hfirst.out hz0 (by omega)
            have Hnext := Lib.hid hnext
            subst hb
            clear hr0
            generalize (colOf d c ls).getD k 0 = z at *
            clear hzk hz0 hnext hscan
            go_wp2
            go_quiet (fail)
            go_wp2_with fail
            go_roundw
            case rel => exact ⟨k + 1, rest + 1, (k : Int), rfl, by go_num, by go_num, hkm, Hnext.out, HE5.out.drewN nq⟩
            case measure => simp [intOf]; omega
          · subst hb
            obtain ⟨f, hf⟩ : ∃ f, ls[d + j]? = some f := ⟨_, List.getElem?_eq_getElem (by rw [Hlen.out]; omega)⟩
            have hy : (colOf d c ls).getD j 0 = nthI f.x c := colOf_at hf
            have hfd : f ∈ ls.drop d := mem_drop_iff.2 ⟨d + j, by omega, hf⟩
            have hT5 := HT.out.ext HE5.out
            obtain ⟨hf0, _⟩ := hT5.at hf
            rw [show (d + j) * 2 = d * 2 + j * 2 by omega] at hf0
            have hfr := (hT5.rows f (List.mem_of_getElem? hf)).1
            have hfl := (Hrow.out f (List.mem_of_getElem? hf)).1
            have hcf := own_cellAt hfr (strs_at (l := f.x) (j := c) (by omega))
            have hfy : Fit (nthI f.x c) := fit_of10 (k := E + 3 * p) (by omega) (by omega) ((Hfit.out f hfd).1 _ (nthI_mem' (by omega)))
            unfold Li.u at hf0
            generalize f.g = fg at *
            generalize f.cg = fcg at *
            rw [← hy] at hcf hfy
            have hless := fun h => hscan.less Hcl.out hz0 h
            have hkeep := fun h => hscan.keep Hcl.out hz0 h
            generalize (colOf d c ls).getD k 0 = z at *
            generalize (colOf d c ls).getD j 0 = y at *
            have ha1 := fun W => wabs_c z W Hfz.out
            have ha2 := fun W => wabs_c y W hfy
            have hcm := fun W => cmp_c (z.natAbs : Int) (y.natAbs : Int) W (by have := Hfz.out; unfold Fit at *; rwa [Int.natAbs_natCast]) (by unfold Fit at *; rwa [Int.natAbs_natCast])
            have hcv : (z.natAbs < y.natAbs ∧ cmpI (z.natAbs : Int) (y.natAbs : Int) < 0) ∨ (¬ z.natAbs < y.natAbs ∧ ¬ cmpI (z.natAbs : Int) (y.natAbs : Int) < 0) := by
              rcases Nat.lt_trichotomy z.natAbs y.natAbs with g | g | g
              · left; rw [cmpI_lt (by omega)]; omega
              · right; rw [cmpI_eq (by omega)]; omega
              · right; rw [cmpI_gt (by omega)]; omega
            generalize cmpI (z.natAbs : Int) (y.natAbs : Int) = cv at *
            have Ha1 := Lib.hid ha1; have Ha2 := Lib.hid ha2; have Hcm := Lib.hid hcm; have Hless := Lib.hid hless; have Hkeep := Lib.hid hkeep
            clear ha1 ha2 hcm hless hkeep hfy hfl hfr hT5 hfd hy hf hscan hjm hj0 hzk hz0
            generalize I (z.natAbs : Int) = ta at *
            generalize I (y.natAbs : Int) = tb at *
            generalize I z = sa at *
            generalize I y = sb at *
            have hj0 : (0 : Int) ≤ (j : Int) := by omega
            have hj1 : (j : Int) < (m : Int) := by omega
            have hjn : decide ((j : Int) < 0) = false := decide_eq_false (by omega)
            go_wp2
            go_region_held3 (fun w' => Ext W5 w' ∧ w'.cell? ⟨wr.heap.size, 0, none⟩ = some (.slice (some ⟨eg, 0, none⟩) n ecg) ∧ w'.cell? ⟨eg, c, none⟩ = some (.string sa) ∧ w'.cell? ⟨gs, d * 2 + j * 2, none⟩ = some (.slice (some ⟨fg, 0, none⟩) n fcg) ∧ w'.cell? ⟨fg, c, none⟩ = some (.string sb))
              (first | exact held4 ⟨Ext.refl W5, hcb0, hce5, hf0, hcf⟩ ((Ext.refl W5).drew) | exact held4 (by assumption) hxa)
              (first
                | (go_at_call 37; refine (Hcm.out _).mono ?_; rintro e9 V4 ⟨rfl, hxa⟩)
                | (go_at_call_of 143 (Value.string sa); refine (Ha1.out _).mono ?_; rintro e9 V4 ⟨rfl, hxa⟩)
                | (go_at_call_of 143 (Value.string sb); refine (Ha2.out _).mono ?_; rintro e9 V4 ⟨rfl, hxa⟩))
            all_goals
              have hx9 := And.left (by assumption : Ext W5 V4 ∧ _)
              have HE9 := Lib.hid (HE5.out.trans hx9)
              rcases hcv with ⟨hlt, hcv⟩ | ⟨hlt, hcv⟩
              · have hnext := Hless.out hlt
                have Hnext := Lib.hid hnext; clear hnext hlt
                have hdc : decide (cv < 0) = true := decide_eq_true hcv
                go_wp2_with fail
                go_roundw
                case rel => exact ⟨k + 1, rest + 1, (k : Int), rfl, by go_num, by go_num, hkm, Hnext.out, HE9.out⟩
                case measure => simp [intOf]; omega
              · have hnext := Hkeep.out hlt
                have Hnext := Lib.hid hnext; clear hnext hlt
                have hdc : decide (cv < 0) = false := decide_eq_false (by omega)
                go_wp2_with fail
                go_roundw
                case rel => exact ⟨k + 1, rest + 1, (j : Int), rfl, by go_num, by go_num, hkm, Hnext.out, HE9.out⟩
                case measure => simp [intOf]; omega
      · obtain rfl : k = m := by omega
        have hTr := HT.out.ext hext
        have hbr : Below B w wr := Hbel.out.trans (Below.mono hext (Nat.le_trans HBw.out Hbel.out.size))
        have hfull : (colOf d c ls).take k = colOf d c ls := List.take_of_length_le (by rw [colOf_length, Hlen.out]; omega)
        have hrc := hscan.1
        rw [hfull] at hrc
        have HTr := Lib.hid hTr; have Hbr := Lib.hid hbr; have Hrc := Lib.hid hrc; have HEw := Lib.hid (HEa.out.trans hext)
        rcases hscan.2 with ⟨hb, hr0⟩ | ⟨j, hb, hjk, hj0, hjm⟩
        · subst hb
          have hzero : ∀ e ∈ ls.drop d, nthI e.x c = 0 := fun e he => by
            obtain ⟨i, hi, h1⟩ := mem_drop_iff.1 he
            have h2 := (List.getElem?_eq_some_iff.1 h1).1
            rw [← colOf_at (d := d) (i := i - d) (by rw [show d + (i - d) = i by omega]; exact h1)]
            refine cnt_zero (k := k) ?_ _ (by rw [Hlen.out] at h2; omega)
            rw [hfull]; omega
          have hsame : ls = ls0 ∧ p = 0 := by
            rcases Hsw.out.same with ⟨g1, g2⟩ | ⟨e, he, g⟩
            · exact ⟨g2, g1⟩
            · exact absurd (hzero e he) g
          have Hzero := Lib.hid hzero; have Hsame := Lib.hid hsame
          clear hscan hr0 hrc hfull hTr hbr hext hzero hsame
          go_wp2
          go_ret
          refine ⟨false, ls, rfl, HTr.out, Hbr.out, Hsw.out.len, Hsw.out.take, Hsw.out.row, Hsw.out.zero, ⟨fun _ => ?_, ?_⟩, fun _ => ⟨Hsame.out.1, Hzero.out⟩, fun h => by cases h⟩
          · have := Hfit.out
            rw [Hsame.out.2, Nat.mul_zero, Nat.add_zero] at this
            exact this
          · exact fun e he => ⟨fun z hz => Nat.lt_of_lt_of_le ((Hfit.out e he).1 z hz) (Nat.pow_le_pow_right (by decide) (by omega)), fun z hz => Nat.lt_of_lt_of_le ((Hfit.out e he).2 z hz) (Nat.pow_le_pow_right (by decide) (by omega))⟩
        · subst hb
          obtain ⟨f, hf⟩ : ∃ f, ls[d + j]? = some f := ⟨_, List.getElem?_eq_getElem (by rw [Hlen.out]; omega)⟩
          obtain ⟨e, he⟩ : ∃ e, ls[d]? = some e := ⟨_, List.getElem?_eq_getElem (by rw [Hlen.out]; omega)⟩
          have hfc : (colOf d c ls).getD j 0 = nthI f.x c := colOf_at hf
          have h00 : nthI f.x c ≠ 0 := by rw [← hfc]; exact hj0
          obtain ⟨hf0, hf1⟩ := hTr.at hf
          obtain ⟨he0, he1⟩ := hTr.at he
          have hswp := hTr.swap he hf
          rw [show (d + j) * 2 = d * 2 + j * 2 by omega] at hf0 hf1 hswp
          have hinv1 := Hsw.out.swap he hf h00
          have hhead : ((ls.set d f).set (d + j) e)[d]? = some f := by
            rw [liswap_at he hf]
            unfold liSwapAt
            split
            · have : j = 0 := by omega
              subst this
              exact hf
            · rw [if_pos rfl]; exact hf
          have hone : rest = 1 → ∀ q ∈ ((ls.set d f).set (d + j) e).drop (d + 1), nthI q.x c = 0 := fun h1 q hq => by
            obtain ⟨i, hi, h2⟩ := mem_drop_iff.1 hq
            rw [liswap_at he hf] at h2
            have h3 := cnt_one (j := j) (by rw [← hrc]; exact h1) hj0
            have h4 : d ≤ liSwapAt d (d + j) i ∧ liSwapAt d (d + j) i ≠ d + j := by unfold liSwapAt; split <;> (try split) <;> omega
            rw [← colOf_at (d := d) (i := liSwapAt d (d + j) i - d) (by rw [show d + (liSwapAt d (d + j) i - d) = liSwapAt d (d + j) i by omega]; exact h2)]
            exact h3 _ (by omega)
          have hmu1 := fun h2 => pass_mu Hsw.out he hf h00 (fun i hi h => by have := hjm i (by rw [Hlen.out] at hi; omega) h; rw [hfc] at this; exact this) h2
          have hfz : ∀ t, wr.frozen? ⟨gs, t, none⟩ = false := fun t => World.ownsRow.frozenAt hTr.own t
          unfold Li.u at hf0 he0 hswp
          unfold Li.y at hf1 he1 hswp
          obtain ⟨W9, hW9⟩ : ∃ W9, W9 = (((wr.setCell ⟨gs, d * 2, none⟩ (.slice (some ⟨f.g, 0, none⟩) n f.cg)).setCell ⟨gs, d * 2 + 1, none⟩ (.slice (some ⟨f.h, 0, none⟩) N f.ch)).setCell ⟨gs, d * 2 + j * 2, none⟩ (.slice (some ⟨e.g, 0, none⟩) n e.cg)).setCell ⟨gs, d * 2 + j * 2 + 1, none⟩ (.slice (some ⟨e.h, 0, none⟩) N e.ch) := ⟨_, rfl⟩
          rw [← hW9] at hswp
          have HW9 := Lib.hid hW9; clear hW9
          generalize (ls.set d f).set (d + j) e = l1 at *
          have Hswp := Lib.hid hswp; have Hinv1 := Lib.hid hinv1; have Hhead := Lib.hid hhead; have Hone := Lib.hid hone; have Hmu1 := Lib.hid hmu1; have H00 := Lib.hid h00; have Hhf := Lib.hid hf; have Hhe := Lib.hid he
          have hj0' : (0 : Int) ≤ (j : Int) := by omega
          have hj1 : (j : Int) < (k : Int) := by omega
          have hk1 : (0 : Int) < (k : Int) := by omega
          have hrest : 1 ≤ rest := by
            rw [hrc]
            rcases Nat.eq_zero_or_pos (cntNZ (colOf d c ls)) with g | g
            · exact absurd (cnt_zero (k := k) (by rw [hfull]; exact g) j hjk) hj0
            · exact g
          have hrk2 : rest ≤ k := by
            rw [hrc]
            have := cntNZ_le (colOf d c ls)
            rw [colOf_length, Hlen.out] at this
            omega
          clear hswp hinv1 hhead hone hmu1 h00 hscan hjm hj0 hfc hrc hfull hTr hbr hext hf he
          rcases Nat.eq_zero_or_pos j with hj0 | hj0
          case' inl =>
            subst hj0
            have hfe : f = e := by
              have h1 := Hhf.out
              rw [Nat.add_zero, Hhe.out] at h1
              exact (Option.some.inj h1).symm
            subst hfe
            have HW9' := HW9.out
            simp only [Nat.zero_mul, Nat.add_zero] at hf0 hf1 HW9'
            have HW92 := Lib.hid HW9'.symm
            clear HW9'
          case' inr =>
            have hjne : ¬ j = 0 := by omega
            have HW92 := Lib.hid HW9.out.symm
          all_goals
            go_wp2
            go_region
            rw [HW92.out]
            have hT9 := Hswp.out.1.ext ((Ext.refl W9).drew)
            have hB9 : Below B w W9.drew := (Below.grown Hbr.out Hswp.out.2 (Nat.le_trans HBw.out Hbr.out.size) (fun q hq => by injection hq with hq; rw [← hq]; exact Hswp.out.1.gsB.1)).drew
            have hE9 : Ext w0 W9.drew := Below.trans H0.out (Below.mono hB9 HB.out)
            generalize W9.drew = W10 at *
            have HT9 := Lib.hid hT9; have HB9 := Lib.hid hB9; have HE9 := Lib.hid hE9
            clear hT9 hB9 hE9 hf0 hf1 he0 he1 hfz
            by_cases hr1 : rest = 1
            · have hq : ((rest : Int) == 1) = true := by rw [beq_iff_eq]; omega
              have hone := Hone.out hr1
              have Hz := Lib.hid hone
              clear hone hr1
              go_wp2
              go_ret
              refine ⟨true, l1, rfl, HT9.out, HB9.out, Hinv1.out.len, Hinv1.out.take, Hinv1.out.row, Hinv1.out.zero, ⟨fun g => ?_, ?_⟩, (fun h => by cases h), fun _ => ⟨f, Hhead.out, H00.out, Hz.out⟩⟩
              · rcases g with g | g
                · rw [g]
                  have := Hinv.out.bd
                  rw [Nat.mul_zero, Nat.add_zero] at this
                  exact this
                · have := Hinv1.out.bd
                  rw [Hp0.out (by have := Hm.out; omega), Nat.mul_zero, Nat.add_zero] at this
                  exact this
              · exact fun q hq => ⟨fun z hz => Nat.lt_of_lt_of_le ((Hinv1.out.bd q hq).1 z hz) (Nat.pow_le_pow_right (by decide) (by omega)), fun z hz => Nat.lt_of_lt_of_le ((Hinv1.out.bd q hq).2 z hz) (Nat.pow_le_pow_right (by decide) (by omega))⟩
            · have hq : ((rest : Int) == 1) = false := beq_eq_false_iff_ne.2 (by omega)
              have hcap1 : ¬ capd = 1 := by omega
              have hk2 : 2 ≤ k := by omega
              have hcol9 : ∀ e ∈ l1.drop d, (nthI e.x c).natAbs ≤ 999 := by
                rcases Hinv1.out.col with ⟨g, _⟩ | g
                · have := Hm.out; omega
                · exact g
              have Hcol9 := Lib.hid hcol9
              have hl1 : l1.length = d + k := Hinv1.out.len.trans Hm.out
              have Hl1 := Lib.hid hl1
              clear hcol9 hl1
              go_wp2_with fail
              go_loopw [71] (fun v71 wi => ∃ i : Nat, v71 = .int .i64 (i : Int) ∧ i ≤ k - 1 ∧ LiT wi B n N gs cap (passTo d c f l1 i) ∧ Below B w wi) (fun v71 _ => k - 1 - (intOf v71).toNat)
              case atStart => exact ⟨0, rfl, Nat.zero_le _, by rw [passTo_zero]; exact HT9.out, HB9.out⟩
              case round =>
                obtain ⟨i, rfl, hi, hT, hB⟩ := hrel
                by_cases hik : i < k - 1
                · obtain ⟨q, hlq⟩ : ∃ q, l1[d + 1 + i]? = some q := ⟨_, List.getElem?_eq_getElem (by rw [Hl1.out]; omega)⟩
                  have hq1 : (passTo d c f l1 i)[d + 1 + i]? = some q := by rw [passTo_at hlq, if_neg (by omega)]
                  have hh : (passTo d c f l1 i)[d]? = some f := by rw [passTo_at Hhead.out, if_neg (by omega)]
                  obtain ⟨hc0, hc1⟩ := hT.at hq1
                  obtain ⟨hd0, hd1⟩ := hT.at hh
                  have hrq := hT.rows q (List.mem_of_getElem? hq1)
                  have hrf := hT.rows f (List.mem_of_getElem? hh)
                  have hlx := Hinv1.out.row q (List.mem_of_getElem? hlq)
                  have hfx := Hinv1.out.row f (List.mem_of_getElem? Hhead.out)
                  have hqd : q ∈ l1.drop d := mem_drop_iff.2 ⟨d + 1 + i, by omega, hlq⟩
                  have hfd : f ∈ l1.drop d := mem_drop_iff.2 ⟨d, Nat.le_refl _, Hhead.out⟩
                  have hap := hT.apart.1 (d + 1 + i) d q f hq1 hh (by omega)
                  have hgh := hT.apart.2 q (List.mem_of_getElem? hq1)
                  rw [show (d + 1 + i) * 2 = d * 2 + 2 + i * 2 by omega] at hc0 hc1
                  have hcq := own_cellAt hrq.1 (strs_at (l := q.x) (j := c) (by omega))
                  have hcf := own_cellAt hrf.1 (strs_at (l := f.x) (j := c) (by omega))
                  have h000 := H00.out
                  have hfd0 := Hinv1.out.bd f hfd
                  have hqd0 := Hinv1.out.bd q hqd
                  have hq9 := Nat.le_trans (fdv_abs (nthI q.x c) (nthI f.x c) h000) (Hcol9.out q hqd)
                  have hstep := passTo_step (c := c) (t := f) hlq
                  have hEi : Ext w0 wr := Below.trans H0.out (Below.mono hB HB.out)
                  have hBi : B ≤ wr.heap.size := Nat.le_trans HBw.out hB.size
                  -- the line's copy
                  have hE5 : Ext wr (wr.alloc (.cells #[.slice (some ⟨q.g, 0, none⟩) n q.cg, .slice (some ⟨q.h, 0, none⟩) N q.ch] 118)) := (Ext.refl wr).alloc _
                  have hb0 := two_new0 wr (.slice (some ⟨q.g, 0, none⟩) n q.cg) (.slice (some ⟨q.h, 0, none⟩) N q.ch) 118
                  have hb1 := two_new1 wr (.slice (some ⟨q.g, 0, none⟩) n q.cg) (.slice (some ⟨q.h, 0, none⟩) N q.ch) 118
                  generalize hw5 : wr.alloc (.cells #[.slice (some ⟨q.g, 0, none⟩) n q.cg, .slice (some ⟨q.h, 0, none⟩) N q.ch] 118) = W5 at *
                  have hlessv : lessLi c f q = { q with x := List.zipWith (fun x y => x - fdv (nthI q.x c) (nthI f.x c) * y) q.x f.x, b := List.zipWith (fun x y => x - fdv (nthI q.x c) (nthI f.x c) * y) q.b f.b } := rfl
                  have hdm := fun W (hx : Ext w0 W) => wdivmod_c (nthI q.x c) (nthI f.x c) W (He.out.ext hx) h000 (fit_of10 (k := E + 3 * p) (by omega) (by omega) (hqd0.1 _ (nthI_mem' (by omega)))) (fit_of10 (k := E + 3 * p) (by omega) (by omega) (hfd0.1 _ (nthI_mem' (by omega))))
                  have hless := fun W (hx : Ext wr W) => hless2_c q.g q.h n N q.cg q.ch (.slice (some ⟨f.g, 0, none⟩) n f.cg) (.slice (some ⟨f.h, 0, none⟩) N f.ch) (fdv (nthI q.x c) (nthI f.x c)) q.x f.x q.b f.b w0 W B He.out (hEi.trans hx) HB.out hlx.1 hfx.1 hlx.2 hfx.2 (by omega) (by omega) hgh (hx.own hrq.1) (hx.own hrq.2)
                    (fun W2 hd => sl_own (hd.kept (hx.own hrf.1) hap.1.symm hap.2.2.1.symm)) (fun W2 hd => sl_own (hd.kept (hx.own hrf.2) hap.2.1.symm hap.2.2.2.symm))
                    (fit_of10 (k := 3) (by omega) (by omega) (by rw [show 10 ^ 3 = 1000 by decide]; omega)) (fun z hz => fit_of10 (k := E + 3 * p) (by omega) (by omega) (hqd0.1 z hz)) (fun z hz => fit_of10 (k := E + 3 * p) (by omega) (by omega) (hfd0.1 z hz)) (fun z hz => fit_mul3 (by omega) hq9 (hfd0.1 z hz))
                    (fun z hz => fit_of10 (k := E + 3 * p) (by omega) (by omega) (hqd0.2 z hz)) (fun z hz => fit_of10 (k := E + 3 * p) (by omega) (by omega) (hfd0.2 z hz)) (fun z hz => fit_mul3 (by omega) hq9 (hfd0.2 z hz))
                  have hcq5 := hE5.cell hcq
                  have hcf5 := hE5.cell hcf
                  have hd05 := hE5.cell hd0
                  have hd15 := hE5.cell hd1
                  unfold Li.u at hc0 hd0 hd05
                  unfold Li.y at hc1 hd1 hd15
                  have HdT := Lib.hid hT; have HE5 := Lib.hid hE5; have Hlq := Lib.hid hq1; have Hstep := Lib.hid hstep; have HBi := Lib.hid hBi; have HB2 := Lib.hid hB; have HEi := Lib.hid hEi; have Hlv := Lib.hid hlessv
                  have Hdm := Lib.hid hdm; have Hless := Lib.hid hless
                  generalize fdv (nthI q.x c) (nthI f.x c) = qq at *
                  generalize fmd (nthI q.x c) (nthI f.x c) = qr at *
                  generalize nthI q.x c = zq at *
                  generalize nthI f.x c = zf at *
                  clear hdm hless hstep hT hE5 hrq hrf hlx hfx hqd hfd hap hgh hcq hcf h000 hfd0 hqd0 hq9 hEi hBi hlessv hlq hq1 hh hB hd0 hd1
                  have hi0 : (0 : Int) ≤ (i : Int) := by omega
                  have hi1 : (i : Int) < (k : Int) - 1 := by omega
                  have hi2 : i < k - 1 := hik
                  have hcn0 : (0 : Int) ≤ (c : Int) := by omega
                  have hcn1 : (c : Int) < (n : Int) := by omega
                  have HE05 := Lib.hid (HEi.out.trans HE5.out)
                  generalize I zq = sq at *
                  generalize I zf = sf at *
                  generalize hsqq : I qq = sqq at *
                  have Hsqq := Lib.hid hsqq; clear hsqq
                  generalize I qr = sqr at *
                  go_wp2_with fail
                  go_region_held3 (fun w' => Ext W5 w' ∧ w'.cell? ⟨wr.heap.size, 0, none⟩ = some (.slice (some ⟨q.g, 0, none⟩) n q.cg) ∧ w'.cell? ⟨q.g, c, none⟩ = some (.string sq) ∧ w'.cell? ⟨gs, d * 2, none⟩ = some (.slice (some ⟨f.g, 0, none⟩) n f.cg) ∧ w'.cell? ⟨f.g, c, none⟩ = some (.string sf))
                    (first | exact held4 ⟨Ext.refl W5, hb0, hcq5, hd05, hcf5⟩ ((Ext.refl W5).drew) | exact held4 (by assumption) hxa)
                    (first
                      | (go_at_call 102; refine (Hdm.out _ (HE05.out.trans (And.left (by assumption)))).mono ?_; rintro e9 V4 ⟨rfl, hxa⟩))
                  all_goals
                    have hx9 := And.left (by assumption : Ext W5 V4 ∧ _)
                    have hxd : Ext W5 V4.drew := hx9.drew
                    have hE4 : Ext wr V4.drew := HE5.out.trans hxd
                    have hg0 := hxd.cell hb0
                    have hg1 := hxd.cell hb1
                    have hg2 := hxd.cell hd05
                    have hg3 := hxd.cell hd15
                    have hls := Hless.out V4.drew hE4
                    have hT4 := HdT.out.ext hE4
                    have hB4 : Below B w V4.drew := HB2.out.trans (Below.mono hE4 HBi.out)
                    have hB4s : B ≤ V4.drew.heap.size := Nat.le_trans HBi.out hE4.size
                    have Hls := Lib.hid hls; have HT4 := Lib.hid hT4; have HB4 := Lib.hid hB4; have HB4s := Lib.hid hB4s
                    clear hls hT4 hB4 hB4s hx9 hxd hE4
                    go_wp2_with fail
                    go_region_law (go_simp; go_at_call 103; refine Hls.out.mono ?_; rintro e V5 ⟨⟨v5, rfl⟩, hx5, hy5, hd5⟩; have Hx5 := Lib.hid hx5; have Hy5 := Lib.hid hy5; have Hd5 := Lib.hid hd5; clear hx5 hy5 hd5)
                    all_goals
                      have hfin := HT4.out.upd Hlq.out Hd5.out Hx5.out Hy5.out
                      rw [← Hlv.out, ← Hstep.out] at hfin
                      have hrb := HT4.out.rowB (List.mem_of_getElem? Hlq.out)
                      have hbf := HB4.out.trans (Hd5.out.below HB4s.out hrb.1 hrb.2.1)
                      have Hfin := Lib.hid hfin; have Hbf := Lib.hid hbf
                      clear hfin hrb hbf
                      go_wp2_with fail
                      go_roundw
                      case rel => first | exact ⟨i + 1, by go_num, by omega, Hfin.out, Hbf.out⟩ | ((repeat apply Exists.intro); exact ⟨⟨i + 1, by go_num, by omega, Hfin.out, Hbf.out⟩, rfl⟩)
                      case measure => simp [intOf]; omega
                · obtain rfl : i = k - 1 := by omega
                  have hmu := Hmu1.out (by rw [← Hrc.out]; omega)
                  rw [show ls.length - d - 1 = k - 1 by rw [Hlen.out]; omega] at hmu
                  have hps := Hinv1.out.pass Hhead.out H00.out Hcol9.out (k := k - 1)
                  have Hmu2 := Lib.hid hmu; have Hps := Lib.hid hps; have HT2 := Lib.hid hT; have HB2 := Lib.hid hB
                  clear hmu hps hT hB
                  go_wp2_with fail
                  go_roundg (muNZ (colOf d c (passTo d c f l1 (k - 1))))
                  case measure => rw [Hgk.out]; exact Hmu2.out
                  case rel =>
                    refine ⟨rfl, p + 1, _, HT2.out, HB2.out, Hps.out, rfl, fun g => by omega, .inr ?_⟩
                    have h1 := Hmu2.out
                    have h2 := Hgk.out
                    rcases Hpg.out with ⟨_, g⟩ | g
                    · omega
                    · omega

end Go.Proofs.YtkamjjjimbbdmaaGreatDoor
