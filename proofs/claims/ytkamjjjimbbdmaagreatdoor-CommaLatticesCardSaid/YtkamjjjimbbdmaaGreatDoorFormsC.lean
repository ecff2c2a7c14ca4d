/- The law CommaForms for any plan and any matrix. -/
import Derived.Test.YtkamjjjimbbdmaaGreatDoorFormsL
namespace Go.Proofs.YtkamjjjimbbdmaaGreatDoor
open Go.RowKit Go.Lib Go.Shelf Go.Sort

theorem one_rowChk {p x : List Int} (h : oneErr p x = 0) : x.length = p.length ∧ rowChk x = 0 := by
  obtain ⟨h1, h2⟩ := oneErr_zero h
  obtain ⟨d, e⟩ := rowErr_zero h2
  have hn := nice_of h1 h2
  refine ⟨d, ?_⟩
  unfold rowChk
  rw [if_neg]
  rintro (g | g)
  · have := hn.2.1; omega
  · rw [List.any_eq_true] at g
    obtain ⟨z, hz, hf⟩ := g
    obtain ⟨i, hi, rfl⟩ := List.getElem_of_mem hz
    have h3 := (hn.2.2 i hi)
    unfold nthI at h3
    rw [List.getD_eq_getElem?_getD (l := x), List.getElem?_eq_getElem hi] at h3
    unfold fitsI at hf
    simp at hf h3
    omega

set_option maxRecDepth 100000 in
theorem forms_c (n h : Nat) (a b c d : Int) (vm : Value) (m : List (List Int)) (w : World) (he : Env w) (hm : Mat w vm m) (hn : n < 256) (hh : h < 256) (hr : ∀ z ∈ [a, b, c, d], -128 ≤ z ∧ z ≤ 127) :
    Calls Tryz.prog 9 #[.agg #[.int .u8 n, .int .i8 a, .int .i8 b, .int .i8 c, .int .i8 d, .int .u8 h], vm] w fun e w' => e = .returned (.bool true) ∧ Ext w w' := by
  have hm2 : h % 130 < 130 := Nat.mod_lt _ (by omega)
  have hmk := fun W (hE : Ext w W) => make16_c n h a b c d W (he.ext hE) hn hh hr
  have hkn := fun W (hE : Ext w W) => known_c W (he.ext hE)
  obtain ⟨q, hq⟩ : ∃ q, q = 1 + h % 130 := ⟨_, rfl⟩
  rw [← hq] at hmk
  have hq1 : 1 ≤ q := by omega
  have hq2 : q ≤ 130 := by omega
  by_cases hgt : denP (ints (tenP n)) (planX n [a, b, c, d]) < numP (ints (tenP n)) (planX n [a, b, c, d])
  · rw [decide_eq_true hgt] at hmk
    by_cases h14 : 14 < m.length
    · exact forms_long n q h a b c d vm m w hm h14 hmk hkn
    · have hask := plan_askK n q [a, b, c, d] hq1 hq2 hgt
      have hlen2 := rows_len2 (num := numP (ints (tenP n)) (planX n [a, b, c, d])) (den := denP (ints (tenP n)) (planX n [a, b, c, d])) (m := n) hq2
      have ht := ten_len n
      have hrow : (∀ r ∈ m, r.length ≤ 14) → ∀ i, (m.getD i []).length ≤ 1000000 := fun hall i => by
        rw [List.getD_eq_getElem?_getD]
        by_cases g : i < m.length
        · rw [List.getElem?_eq_getElem g]; exact Nat.le_trans (hall _ (List.getElem_mem g)) (by decide)
        · rw [List.getElem?_eq_none (by omega)]; simp
      have hil : (ints (tenP n)).length ≤ 12 := by simp [ints]; omega
      have hck : ∀ W ap cp ax cx, Ext w W → Sl W (.slice ap (ints (tenP n)).length cp) (i64s (ints (tenP n))) → Sl W (.slice ax (planX n [a, b, c, d]).length cx) (i64s (planX n [a, b, c, d])) →
          ∀ W', Ext W W' → Calls Tryz.prog 33 #[.agg #[.slice ap (ints (tenP n)).length cp, .int .i64 (q : Int), .slice ax (planX n [a, b, c, d]).length cx]] W' fun e w' => e = .returned (.int .i64 0) ∧ Ext W' w' := fun W ap cp ax cx hE h1 h2 W' hx => by
        have := ask_c _ _ (q : Int) _ _ W' (he.ext (hE.trans hx)) (hx.sl h1) (hx.sl h2) (by omega) (by have := plan_len n [a, b, c, d]; omega)
        rwa [hask] at this
      by_cases hf : formErr (ints (tenP n)).length m = 0
      · have hin : ∀ W ap cp ax cx, Ext w W → Sl W (.slice ap (ints (tenP n)).length cp) (i64s (ints (tenP n))) → Sl W (.slice ax (planX n [a, b, c, d]).length cx) (i64s (planX n [a, b, c, d])) → (∀ r ∈ m, r.length ≤ 14) → Calls Tryz.prog 30 #[.agg #[.slice ap (ints (tenP n)).length cp, .int .i64 (q : Int), .slice ax (planX n [a, b, c, d]).length cx], vm] W fun e w' => ∃ v rs, e = .returned (.tuple #[v, .int .i64 0]) ∧ RwL w' W.heap.size v rs ∧ rs.map Rw.x = (rowsOf (numP (ints (tenP n)) (planX n [a, b, c, d])) (denP (ints (tenP n)) (planX n [a, b, c, d])) (tenP n) q).filter (inForm m) ∧ Ext W w' := fun W ap cp ax cx hE h1 h2 hall =>
          in_w _ _ vm _ _ m q W (he.ext hE) h1 h2 (hE.mat hm) (hrow hall) (by omega) (hck W ap cp ax cx hE h1 h2) hf _ (by omega) (fun r hr => one_rowChk (rows_sign hq2 hr).1) hil (fun W' hx => listTen_c n q _ _ _ W' (he.ext (hE.trans hx)) (hx.sl h1) (hx.sl h2) hq1 hq2 hask)
        have hfl : ((rowsOf (numP (ints (tenP n)) (planX n [a, b, c, d])) (denP (ints (tenP n)) (planX n [a, b, c, d])) (tenP n) q).filter (inForm m)).length ≤ 1000000 := Nat.le_trans (List.length_filter_le _ _) (by omega)
        refine forms_yes n q h a b c d vm m w hm (by omega) ?_ ?_ hmk hkn
        · intro W ap cp ax cx hE h1 h2 hall
          refine (hin W ap cp ax cx hE h1 h2 hall).mono ?_
          rintro e w' ⟨v, rs, rfl, hrs, hmm, hx⟩
          obtain ⟨a1, c1, rfl⟩ := own_shape hrs.1
          exact ⟨⟨_, by rw [hf], _, _, _, rfl, by rw [← hmm, List.length_map] at hfl; exact hfl, fun g => absurd hf g⟩, hx⟩
        · intro W ap cp ax cx hE h1 h2 hall
          obtain ⟨vs, hvs, hsl, _⟩ := hm
          obtain ⟨am, cm, rfl, _, _, _⟩ := hsl.parts
          refine (leastIn_w ap ax am _ _ _ cp cx cm q W _ hfl fun W' hx => hin W' ap cp ax cx (hE.trans hx) (hx.sl h1) (hx.sl h2) hall).mono ?_
          rintro e w' ⟨u, rfl, hu, hx⟩
          have hsh : ∃ a l c, u = .slice a l c ∧ l ≤ 1000000 := by
            rcases hu with ⟨_, rfl⟩ | ⟨r, t, e1, hu⟩
            · exact ⟨_, _, _, rfl, by omega⟩
            · obtain ⟨a1, c1, rfl⟩ := own_shape hu
              have hmem : r ∈ rowsOf (numP (ints (tenP n)) (planX n [a, b, c, d])) (denP (ints (tenP n)) (planX n [a, b, c, d])) (tenP n) q := (List.mem_filter.1 (e1 ▸ List.mem_cons_self)).1
              exact ⟨_, _, _, rfl, by rw [(one_rowChk (rows_sign hq2 hmem).1).1]; omega⟩
          obtain ⟨a1, l1, c1, rfl, hl1⟩ := hsh
          exact ⟨⟨_, _, by rw [hf], _, _, _, rfl, hl1, fun g => absurd hf g⟩, hx⟩
      · obtain ⟨r, hr⟩ : ∃ r, formErr (ints (tenP n)).length m = r := ⟨_, rfl⟩
        rw [hr] at hf
        have hin : ∀ W ap cp ax cx, Ext w W → Sl W (.slice ap (ints (tenP n)).length cp) (i64s (ints (tenP n))) → Sl W (.slice ax (planX n [a, b, c, d]).length cx) (i64s (planX n [a, b, c, d])) → (∀ r ∈ m, r.length ≤ 14) → Calls Tryz.prog 30 #[.agg #[.slice ap (ints (tenP n)).length cp, .int .i64 (q : Int), .slice ax (planX n [a, b, c, d]).length cx], vm] W fun e w' => e = .returned (.tuple #[.slice none 0 0, .int .i64 r]) ∧ Ext W w' := fun W ap cp ax cx hE h1 h2 hall =>
          inErr_w _ _ vm _ _ m q r W h1 h2 (hE.mat hm) (hrow hall) (by omega) (hck W ap cp ax cx hE h1 h2) hr hf
        refine forms_yes n q h a b c d vm m w hm (by omega) ?_ ?_ hmk hkn
        · intro W ap cp ax cx hE h1 h2 hall
          refine (hin W ap cp ax cx hE h1 h2 hall).mono ?_
          rintro e w' ⟨rfl, hx⟩
          exact ⟨⟨_, by rw [hr], _, _, _, rfl, by omega, fun _ => rfl⟩, hx⟩
        · intro W ap cp ax cx hE h1 h2 hall
          obtain ⟨vs, hvs, hsl, _⟩ := hm
          obtain ⟨am, cm, rfl, _, _, _⟩ := hsl.parts
          refine (leastErr_w ap ax am _ _ _ cp cx cm q r W hf fun W' hx => hin W' ap cp ax cx (hE.trans hx) (hx.sl h1) (hx.sl h2) hall).mono ?_
          rintro e w' ⟨rfl, hx⟩
          exact ⟨⟨_, _, by rw [hr], _, _, _, rfl, by omega, fun _ => ⟨rfl, rfl⟩⟩, hx⟩
  · rw [decide_eq_false hgt] at hmk
    exact forms_no n q h a b c d vm m w hm hmk hkn

end Go.Proofs.YtkamjjjimbbdmaaGreatDoor
