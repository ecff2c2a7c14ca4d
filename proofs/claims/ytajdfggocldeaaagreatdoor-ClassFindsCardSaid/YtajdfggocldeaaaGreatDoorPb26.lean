/- Walks: schismaref03's Make and Frac of one digit. Walks: schismaref03's Add and Mul of small fractions. -/
import Derived.Test.YtajdfggocldeaaaGreatDoorPb25
set_option maxRecDepth 100000
set_option maxHeartbeats 800000
namespace Go.Proofs.YtajdfggocldeaaaGreatDoor
open Go.RowKit Go.Lib Go.Shelf
attribute [local go_sem] Oper.semAt_some
theorem make_c (va vb : Value) (x : Int) (d : Nat) (w : World) (he : Env w) (ha : W1 w va x) (hb : W1 w vb (d : Int)) (hx : x.natAbs < 1000000000) (hd : 0 < d) (hd9 : d < 1000000000) :
    Calls Tryz.prog 71 #[va, vb] w fun e w' => e = .returned (Rv (mkRat x d)) ∧ Ext w w' := by
  have hsg := fun W (hE : Ext w W) => signW_c vb (d : Int) W (hb.ext hE) (by omega)
  have hli := fun W (hE : Ext w W) => little_c va x d W (he.ext hE) (ha.ext hE) hx hd hd9
  unfold Rv at hli ⊢
  generalize I (mkRat x d).num = s1 at *
  generalize I ((mkRat x d).den : Int) = s2 at *
  obtain ⟨bx, aa, la, ca, rfl, hla⟩ : ∃ (bx : Bool) (aa : Option Addr) (la ca : Nat), va = .agg #[.bool bx, .slice aa la ca] ∧ la ≤ 1 := by
    rcases w1_cases ha with ⟨_, a, c, e⟩ | ⟨_, b, o, c, e, _⟩
    · exact ⟨_, a, 0, c, e, by omega⟩
    · exact ⟨_, _, 1, c, e, by omega⟩
  rcases w1_cases hb with ⟨h0, _⟩ | ⟨_, b0, o0, c0, rfl, h1⟩
  · omega
  · rw [decide_eq_false (by omega)] at *
    rw [Int.natAbs_natCast] at h1
    have hk2 := k2_new 110 110 55 w (.bool bx) (.slice aa la ca) (.bool false) (.slice (some ⟨b0, o0, none⟩) 1 c0) (.string ⟨#[]⟩) (.string ⟨#[]⟩)
    generalize hV : ((w.alloc (.cells #[.bool bx, .slice aa la ca] 110)).alloc (.cells #[.bool false, .slice (some ⟨b0, o0, none⟩) 1 c0] 110)).alloc (.cells #[.string ⟨#[]⟩, .string ⟨#[]⟩] 55) = V at *
    obtain ⟨hk, _⟩ := hk2
    have p0 := hk.a.c0; have p1 := hk.a.c1; have q0 := hk.b.c0; have q1 := hk.b.c1
    have hlai : (la : Int) ≤ 1 := by omega
    have Hk := Lib.hid hk; have Hsg := Lib.hid hsg; have Hli := Lib.hid hli; have H1 := Lib.hid h1
    clear hk hsg hli h1 ha hb he hla
    go_enter Tryz.func71, Tryz.ntmps71
    go_wp2_with fail
    refine (Hsg.out V Hk.out.x).mono ?_
    rintro e w1 ⟨rfl, hx1⟩
    have hk1 := Hk.out.ext hx1
    have p0 := hk1.a.c0; have p1 := hk1.a.c1; have q0 := hk1.b.c0; have q1 := hk1.b.c1
    have h1 := hk1.x.cell H1.out
    have Hk1 := Lib.hid hk1
    clear hk1 hx1
    go_wp2_with fail
    go_region_held3 (fun w' => w'.cell? ⟨b0, o0, none⟩ = some (.int .i64 (d : Int)) ∧ K2 110 110 55 w w' w.heap.size (.bool bx) (.slice aa la ca) (w.heap.size + 1) (.bool false) (.slice (some ⟨b0, o0, none⟩) 1 c0) (w.heap.size + 1 + 1) ∧ w'.cell? ⟨w.heap.size, 0, none⟩ = some (.bool bx) ∧ w'.cell? ⟨w.heap.size, 1, none⟩ = some (.slice aa la ca) ∧ w'.cell? ⟨w.heap.size + 1, 0, none⟩ = some (.bool false) ∧ w'.cell? ⟨w.heap.size + 1, 1, none⟩ = some (.slice (some ⟨b0, o0, none⟩) 1 c0) ∧ w'.cell? ⟨w.heap.size + 1 + 1, 0, none⟩ = some (valAt w' (w.heap.size + 1 + 1) 0) ∧ w'.cell? ⟨w.heap.size + 1 + 1, 1, none⟩ = some (valAt w' (w.heap.size + 1 + 1) 1) ∧ w'.frozen? ⟨w.heap.size + 1 + 1, 0, none⟩ = false ∧ w'.frozen? ⟨w.heap.size + 1 + 1, 1, none⟩ = false)
      (first | exact ⟨HkA.out.x.cell H1.out, HkA.out.all⟩ | exact ⟨(Hk1.out.ext ((Ext.refl w1).drew)).x.cell H1.out, (Hk1.out.ext ((Ext.refl w1).drew)).all⟩ | exact ⟨(HkA.out.put (by omega) (by omega) (by omega) (.string s1) (.string s2)).x.cell H1.out, (HkA.out.put (by omega) (by omega) (by omega) (.string s1) (.string s2)).all⟩)
      (first | (go_at_call 107; refine (Hli.out _ Hk1.out.x.drew).mono ?_; rintro e9 VA ⟨rfl, hxa⟩; have HkA := Lib.hid (Hk1.out.ext (((Ext.refl w1).drew).trans hxa)); clear hxa))
    all_goals
      obtain ⟨hb, hfx⟩ := HkA.out.fin (by omega) (.string s1) (.string s2)
      have Hfx := Lib.hid hfx
      clear hfx
      generalize (VA.setCell ⟨w.heap.size + 1 + 1, 0, none⟩ (.string s1)).setCell ⟨w.heap.size + 1 + 1, 1, none⟩ (.string s2) = W5 at *
      have hd0 := hb.c0
      have hd1 := hb.c1
      go_wp2_with fail
      exact bodyPost_ret (v := .agg #[.string s1, .string s2]) (by simp [results, Tryz.results71, go_sem, hd0, hd1]) rfl ⟨rfl, Hfx.out⟩
theorem frac_c (x : Int) (d : Nat) (w : World) (he : Env w) (hx : x.natAbs < 1000000000) (hd : 0 < d) (hd9 : d < 1000000000) :
    Calls Tryz.prog 51 #[.int .i64 x, .int .i64 (d : Int)] w fun e w' => e = .returned (Rv (mkRat x d)) ∧ Ext w w' := by
  have ho1 := fun W (hE : Ext w W) => rOf_c x W (he.ext hE) (by omega) (by omega)
  have ho2 := fun W (hE : Ext w W) => rOf_c (d : Int) W (he.ext hE) (by omega) (by omega)
  have hmk := fun W va vb (hE : Ext w W) (ha : W1 W va x) (hb : W1 W vb (d : Int)) => make_c va vb x d W (he.ext hE) ha hb hx hd hd9
  unfold Rv at hmk ⊢
  generalize I (mkRat x d).num = s1 at *
  generalize I ((mkRat x d).den : Int) = s2 at *
  have hE0 : Ext w (w.alloc (.cells #[.string ⟨#[]⟩, .string ⟨#[]⟩] 55)) := (Ext.refl w).alloc _
  have b1 := BoxT.new 55 w (.string ⟨#[]⟩) (.string ⟨#[]⟩)
  have Ho1 := Lib.hid ho1; have Ho2 := Lib.hid ho2; have Hmk := Lib.hid hmk; have HE0 := Lib.hid hE0; have B1 := Lib.hid b1
  clear ho1 ho2 hmk hE0 b1 he
  go_enter Tryz.func51, Tryz.ntmps51
  go_wp2_with fail
  refine (Ho1.out _ HE0.out).mono ?_
  rintro e w1 ⟨v1, rfl, hw1, hx1⟩
  obtain ⟨b7, a7, l7, c7, rfl, hw1⟩ := w1_let hw1
  have Hx1 := Lib.hid hx1; have Hw1 := Lib.hid hw1
  clear hx1 hw1
  go_wp2_with fail
  refine (Ho2.out w1 (HE0.out.trans Hx1.out)).mono ?_
  rintro e w2 ⟨v2, rfl, hw2, hx2⟩
  obtain ⟨b8, a8, l8, c8, rfl, hw2⟩ := w1_let hw2
  have hm2 := Hmk.out w2 _ _ ((HE0.out.trans Hx1.out).trans hx2) (Hw1.out.ext hx2) hw2
  have Hx2 := Lib.hid (Hx1.out.trans hx2); have Hm2 := Lib.hid hm2
  clear hx2 hw2 hm2
  go_wp2_with fail
  refine Hm2.out.mono ?_
  rintro e w3 ⟨rfl, hx3⟩
  have hx := Hx2.out.trans hx3
  have hk9 : K0 55 w w3 w.heap.size := ⟨HE0.out.trans hx, _, _, B1.out.ext hx⟩
  have k0 := hk9.res.c0; have k1 := hk9.res.c1; have z0 := hk9.res.fz 0; have z1 := hk9.res.fz 1
  obtain ⟨hb5, hx5⟩ := hk9.fin (Nat.le_refl _) (.string s1) (.string s2)
  have Hb5 := Lib.hid hb5; have Hx5 := Lib.hid hx5
  clear hb5 hx5 hk9 hx hx3
  go_wp2_with fail
  have hd0 := Hb5.out.c0
  have hd1 := Hb5.out.c1
  exact bodyPost_ret (v := .agg #[.string s1, .string s2]) (by simp [results, Tryz.results51, go_sem, hd0, hd1]) rfl ⟨rfl, Hx5.out⟩
theorem of_c (x : Int) (d : Nat) (w : World) (he : Env w) (hx : x.natAbs < 1000000000) (hd : 0 < d) (hd9 : d < 1000000000) :
    Calls Tryz.prog 22 #[.int .i64 x, .int .i64 (d : Int)] w fun e w' => e = .returned (Rv (mkRat x d)) ∧ Ext w w' := by
  have hmk := fun W (hE : Ext w W) => frac_c x d W (he.ext hE) hx hd hd9
  unfold Rv at hmk ⊢
  generalize I (mkRat x d).num = s1 at *
  generalize I ((mkRat x d).den : Int) = s2 at *
  have hE0 : Ext w (w.alloc (.cells #[.string ⟨#[]⟩, .string ⟨#[]⟩] 55)) := (Ext.refl w).alloc _
  have b1 := BoxT.new 55 w (.string ⟨#[]⟩) (.string ⟨#[]⟩)
  have Hmk := Lib.hid hmk; have HE0 := Lib.hid hE0; have B1 := Lib.hid b1
  clear hmk hE0 b1 he
  go_enter Tryz.func22, Tryz.ntmps22
  go_wp2_with fail
  refine (Hmk.out _ HE0.out).mono ?_
  rintro e w3 ⟨rfl, hx⟩
  have hk9 : K0 55 w w3 w.heap.size := ⟨HE0.out.trans hx, _, _, B1.out.ext hx⟩
  have k0 := hk9.res.c0; have k1 := hk9.res.c1; have z0 := hk9.res.fz 0; have z1 := hk9.res.fz 1
  obtain ⟨hb5, hx5⟩ := hk9.fin (Nat.le_refl _) (.string s1) (.string s2)
  have Hb5 := Lib.hid hb5; have Hx5 := Lib.hid hx5
  clear hb5 hx5 hk9 hx
  go_wp2_with fail
  have hd0 := Hb5.out.c0
  have hd1 := Hb5.out.c1
  exact bodyPost_ret (v := .agg #[.string s1, .string s2]) (by simp [results, Tryz.results22, go_sem, hd0, hd1]) rfl ⟨rfl, Hx5.out⟩
end Go.Proofs.YtajdfggocldeaaaGreatDoor

namespace Go.Proofs.YtajdfggocldeaaaGreatDoor
open Go.RowKit Go.Lib Go.Shelf
attribute [local go_sem] Oper.semAt_some
theorem rMul_c (a b : Rat) (w : World) (he : Env w) (h1 : a.num.natAbs * b.num.natAbs < 1000000000) (h2 : a.den * b.den < 1000000000) (ha : a.num.natAbs < 1000000000) (hb : b.num.natAbs < 1000000000) (ha2 : a.den < 1000000000) (hb2 : b.den < 1000000000) :
    Calls Tryz.prog 50 #[Rv a, Rv b] w fun e w' => e = .returned (Rv (a * b)) ∧ Ext w w' := by
  have hta := fun W => to_c a.num W (by omega) (by omega)
  have htb := fun W => to_c b.num W (by omega) (by omega)
  have htc := fun W => to_c (a.den : Int) W (by omega) (by omega)
  have htd := fun W => to_c (b.den : Int) W (by omega) (by omega)
  have hm1 := fun W va vb (h : W1 W va a.num) (k : W1 W vb b.num) => mulW_c va vb a.num b.num W h k h1 ha hb
  have hm2 := fun W va vb (h : W1 W va (a.den : Int)) (k : W1 W vb (b.den : Int)) => mulW_c va vb (a.den : Int) (b.den : Int) W h k (by rw [Int.natAbs_natCast, Int.natAbs_natCast]; exact h2) (by omega) (by omega)
  have hmk := fun W va vb (hE : Ext w W) (h : W1 W va (a.num * b.num)) (k : W1 W vb ((a.den : Int) * (b.den : Int))) => make_c va vb (a.num * b.num) (a.den * b.den) W (he.ext hE) h (by rw [Int.natCast_mul]; exact k) (by rw [Int.natAbs_mul]; exact h1) (Nat.mul_pos a.den_pos b.den_pos) h2
  rw [← Rat.mul_def'] at hmk
  unfold Rv at hmk ⊢
  generalize I (a * b).num = s1 at *
  generalize I (((a * b).den : Nat) : Int) = s2 at *
  generalize I a.num = sa at *
  generalize I b.num = sb at *
  generalize I (a.den : Int) = sc at *
  generalize I (b.den : Int) = sd at *
  have hk2 := k2_new 55 55 55 w (.string sa) (.string sc) (.string sb) (.string sd) (.string ⟨#[]⟩) (.string ⟨#[]⟩)
  generalize hV : ((w.alloc (.cells #[.string sa, .string sc] 55)).alloc (.cells #[.string sb, .string sd] 55)).alloc (.cells #[.string ⟨#[]⟩, .string ⟨#[]⟩] 55) = V at *
  have hk := hk2.1
  have p0 := hk.a.c0; have p1 := hk.a.c1; have q0 := hk.b.c0; have q1 := hk.b.c1
  have Hk0 := Lib.hid hk
  clear hk hk2
  have Hta := Lib.hid hta; have Htb := Lib.hid htb; have Htc := Lib.hid htc; have Htd := Lib.hid htd; have Hm1 := Lib.hid hm1; have Hm2 := Lib.hid hm2; have Hmk := Lib.hid hmk
  clear hta htb htc htd hm1 hm2 hmk he h1 h2 ha hb ha2 hb2
  go_enter Tryz.func50, Tryz.ntmps50
  go_wp2_with fail
  go_region_held3 (fun w' => K2 55 55 55 w w' w.heap.size (.string sa) (.string sc) (w.heap.size + 1) (.string sb) (.string sd) (w.heap.size + 1 + 1) ∧ w'.cell? ⟨w.heap.size, 0, none⟩ = some (.string sa) ∧ w'.cell? ⟨w.heap.size, 1, none⟩ = some (.string sc) ∧ w'.cell? ⟨w.heap.size + 1, 0, none⟩ = some (.string sb) ∧ w'.cell? ⟨w.heap.size + 1, 1, none⟩ = some (.string sd) ∧ w'.cell? ⟨w.heap.size + 1 + 1, 0, none⟩ = some (valAt w' (w.heap.size + 1 + 1) 0) ∧ w'.cell? ⟨w.heap.size + 1 + 1, 1, none⟩ = some (valAt w' (w.heap.size + 1 + 1) 1) ∧ w'.frozen? ⟨w.heap.size + 1 + 1, 0, none⟩ = false ∧ w'.frozen? ⟨w.heap.size + 1 + 1, 1, none⟩ = false)
    (first | with_reducible exact Hk7.out.all | with_reducible exact Hk6.out.all | with_reducible exact Hk5.out.all | with_reducible exact Hk4.out.all | with_reducible exact Hk3.out.all | with_reducible exact Hk2.out.all | with_reducible exact Hk1.out.all | with_reducible exact (Hk0.out.ext ((Ext.refl V).drew)).all | with_reducible exact (Hk7.out.put (by omega) (by omega) (by omega) (.string s1) (.string s2)).all)
    (first
      | (have hpv := Hk6; clear hpv; go_at_call 71; refine (Hmk.out _ _ _ Hk6.out.x Hw3_6.out Hw6_6.out).mono ?_; rintro e9 V7 ⟨rfl, hx7⟩; have Hk7 := Lib.hid (Hk6.out.ext hx7); have Hw1_7 := Lib.hid (Hw1_6.out.ext hx7); have Hw2_7 := Lib.hid (Hw2_6.out.ext hx7); have Hw3_7 := Lib.hid (Hw3_6.out.ext hx7); have Hw4_7 := Lib.hid (Hw4_6.out.ext hx7); have Hw5_7 := Lib.hid (Hw5_6.out.ext hx7); have Hw6_7 := Lib.hid (Hw6_6.out.ext hx7); clear hx7)
      | (have hpv := Hk5; clear hpv; go_at_call 72; refine (Hm2.out _ _ _ Hw4_5.out Hw5_5.out).mono ?_; rintro e9 V6 ⟨v6, rfl, hw6, hx6⟩; obtain ⟨b6, a6, l6, c6, rfl, hw6⟩ := w1_let hw6; have Hk6 := Lib.hid (Hk5.out.ext hx6); have Hw1_6 := Lib.hid (Hw1_5.out.ext hx6); have Hw2_6 := Lib.hid (Hw2_5.out.ext hx6); have Hw3_6 := Lib.hid (Hw3_5.out.ext hx6); have Hw4_6 := Lib.hid (Hw4_5.out.ext hx6); have Hw5_6 := Lib.hid (Hw5_5.out.ext hx6); have Hw6_6 := Lib.hid hw6; clear hw6; clear hx6)
      | (have hpv := Hk4; clear hpv; go_at_call 73; refine (Htd.out _).mono ?_; rintro e9 V5 ⟨v5, rfl, hw5, hx5⟩; obtain ⟨b5, a5, l5, c5, rfl, hw5⟩ := w1_let hw5; have Hk5 := Lib.hid (Hk4.out.ext hx5); have Hw1_5 := Lib.hid (Hw1_4.out.ext hx5); have Hw2_5 := Lib.hid (Hw2_4.out.ext hx5); have Hw3_5 := Lib.hid (Hw3_4.out.ext hx5); have Hw4_5 := Lib.hid (Hw4_4.out.ext hx5); have Hw5_5 := Lib.hid hw5; clear hw5; clear hx5)
      | (have hpv := Hk3; clear hpv; go_at_call 73; refine (Htc.out _).mono ?_; rintro e9 V4 ⟨v4, rfl, hw4, hx4⟩; obtain ⟨b4, a4, l4, c4, rfl, hw4⟩ := w1_let hw4; have Hk4 := Lib.hid (Hk3.out.ext hx4); have Hw1_4 := Lib.hid (Hw1_3.out.ext hx4); have Hw2_4 := Lib.hid (Hw2_3.out.ext hx4); have Hw3_4 := Lib.hid (Hw3_3.out.ext hx4); have Hw4_4 := Lib.hid hw4; clear hw4; clear hx4)
      | (have hpv := Hk2; clear hpv; go_at_call 72; refine (Hm1.out _ _ _ Hw1_2.out Hw2_2.out).mono ?_; rintro e9 V3 ⟨v3, rfl, hw3, hx3⟩; obtain ⟨b3, a3, l3, c3, rfl, hw3⟩ := w1_let hw3; have Hk3 := Lib.hid (Hk2.out.ext hx3); have Hw1_3 := Lib.hid (Hw1_2.out.ext hx3); have Hw2_3 := Lib.hid (Hw2_2.out.ext hx3); have Hw3_3 := Lib.hid hw3; clear hw3; clear hx3)
      | (have hpv := Hk1; clear hpv; go_at_call 73; refine (Htb.out _).mono ?_; rintro e9 V2 ⟨v2, rfl, hw2, hx2⟩; obtain ⟨b2, a2, l2, c2, rfl, hw2⟩ := w1_let hw2; have Hk2 := Lib.hid (Hk1.out.ext hx2); have Hw1_2 := Lib.hid (Hw1_1.out.ext hx2); have Hw2_2 := Lib.hid hw2; clear hw2; clear hx2)
      | (have hpv := Hk0; clear hpv; go_at_call 73; refine (Hta.out _).mono ?_; rintro e9 V1 ⟨v1, rfl, hw1, hx1⟩; obtain ⟨b1, a1, l1, c1, rfl, hw1⟩ := w1_let hw1; have Hk1 := Lib.hid (Hk0.out.ext (((Ext.refl V).drew).trans hx1)); have Hw1_1 := Lib.hid hw1; clear hw1; clear hx1))
  all_goals
    obtain ⟨hb, hfx⟩ := Hk7.out.fin (by omega) (.string s1) (.string s2)
    have Hfx := Lib.hid hfx
    clear hfx
    generalize (V7.setCell ⟨w.heap.size + 1 + 1, 0, none⟩ (.string s1)).setCell ⟨w.heap.size + 1 + 1, 1, none⟩ (.string s2) = W5 at *
    have hd0 := hb.c0
    have hd1 := hb.c1
    go_wp2_with fail
    exact bodyPost_ret (v := .agg #[.string s1, .string s2]) (by simp [results, Tryz.results50, go_sem, hd0, hd1]) rfl ⟨rfl, Hfx.out⟩
theorem add_same {a b : Rat} (h : a.den = b.den) : a + b = mkRat (a.num + b.num) a.den := by
  rw [Rat.add_def', ← h, ← Int.add_mul]
  exact Rat.mkRat_mul_right (by have := a.den_pos; omega)
theorem rAdd_c (a b : Rat) (w : World) (he : Env w) (h1 : a.num.natAbs * b.den + b.num.natAbs * a.den < 1000000000) (h2 : a.den * b.den < 1000000000) (h3 : a.num.natAbs + b.num.natAbs < 1000000000) (ha2 : a.den < 1000000000) (hb2 : b.den < 1000000000) :
    Calls Tryz.prog 92 #[Rv a, Rv b] w fun e w' => e = .returned (Rv (a + b)) ∧ Ext w w' := by
  have hta := fun W => to_c a.num W (by omega) (by omega)
  have htb := fun W => to_c b.num W (by omega) (by omega)
  have htc := fun W => to_c (a.den : Int) W (by omega) (by omega)
  have htd := fun W => to_c (b.den : Int) W (by omega) (by omega)
  by_cases hd : a.den = b.den
  · have haw := fun W va vb (h : W1 W va a.num) (k : W1 W vb b.num) => addW_c va vb a.num b.num W h k h3
    have hmk := fun W va vb (hE : Ext w W) (h : W1 W va (a.num + b.num)) (k : W1 W vb (a.den : Int)) => make_c va vb (a.num + b.num) a.den W (he.ext hE) h k (by omega) a.den_pos ha2
    rw [← add_same hd] at hmk
    have hdi : I (b.den : Int) = I (a.den : Int) := by rw [hd]
    unfold Rv at hmk ⊢
    rw [hdi]
    generalize I (a + b).num = s1 at *
    generalize I (((a + b).den : Nat) : Int) = s2 at *
    generalize I a.num = sa at *
    generalize I b.num = sb at *
    generalize I (a.den : Int) = sc at *
    clear htd hdi
    obtain ⟨sd, hsd⟩ : ∃ sd, sd = sc := ⟨_, rfl⟩
    have hk2 := k2_new 55 55 55 w (.string sa) (.string sc) (.string sb) (.string sc) (.string ⟨#[]⟩) (.string ⟨#[]⟩)
    generalize hV : ((w.alloc (.cells #[.string sa, .string sc] 55)).alloc (.cells #[.string sb, .string sc] 55)).alloc (.cells #[.string ⟨#[]⟩, .string ⟨#[]⟩] 55) = V at *
    have hk := hk2.1
    have p0 := hk.a.c0; have p1 := hk.a.c1; have q0 := hk.b.c0; have q1 := hk.b.c1
    have Hk0 := Lib.hid hk
    clear hk hk2
    clear hsd
    have Hta := Lib.hid hta; have Htb := Lib.hid htb; have Htc := Lib.hid htc; have Haw := Lib.hid haw; have Hmk := Lib.hid hmk
    clear hta htb htc haw hmk he h1 h2 h3 ha2 hb2 hd
    go_enter Tryz.func92, Tryz.ntmps92
    go_wp2_with fail
    go_wp2_with fail
    go_region_held3 (fun w' => K2 55 55 55 w w' w.heap.size (.string sa) (.string sc) (w.heap.size + 1) (.string sb) (.string sc) (w.heap.size + 1 + 1) ∧ w'.cell? ⟨w.heap.size, 0, none⟩ = some (.string sa) ∧ w'.cell? ⟨w.heap.size, 1, none⟩ = some (.string sc) ∧ w'.cell? ⟨w.heap.size + 1, 0, none⟩ = some (.string sb) ∧ w'.cell? ⟨w.heap.size + 1, 1, none⟩ = some (.string sc) ∧ w'.cell? ⟨w.heap.size + 1 + 1, 0, none⟩ = some (valAt w' (w.heap.size + 1 + 1) 0) ∧ w'.cell? ⟨w.heap.size + 1 + 1, 1, none⟩ = some (valAt w' (w.heap.size + 1 + 1) 1) ∧ w'.frozen? ⟨w.heap.size + 1 + 1, 0, none⟩ = false ∧ w'.frozen? ⟨w.heap.size + 1 + 1, 1, none⟩ = false)
      (first | with_reducible exact Hk5.out.all | with_reducible exact Hk4.out.all | with_reducible exact Hk3.out.all | with_reducible exact Hk2.out.all | with_reducible exact Hk1.out.all | with_reducible exact (Hk0.out.ext ((Ext.refl V).drew)).all | with_reducible exact (Hk5.out.put (by omega) (by omega) (by omega) (.string s1) (.string s2)).all)
      (first
        | (have hpv := Hk4; clear hpv; go_at_call 71; refine (Hmk.out _ _ _ Hk4.out.x Hw3_4.out Hw4_4.out).mono ?_; rintro e9 V5 ⟨rfl, hx5⟩; have Hk5 := Lib.hid (Hk4.out.ext hx5); have Hw1_5 := Lib.hid (Hw1_4.out.ext hx5); have Hw2_5 := Lib.hid (Hw2_4.out.ext hx5); have Hw3_5 := Lib.hid (Hw3_4.out.ext hx5); have Hw4_5 := Lib.hid (Hw4_4.out.ext hx5); clear hx5)
        | (have hpv := Hk3; clear hpv; go_at_call 73; refine (Htc.out _).mono ?_; rintro e9 V4 ⟨v4, rfl, hw4, hx4⟩; obtain ⟨b4, a4, l4, c4, rfl, hw4⟩ := w1_let hw4; have Hk4 := Lib.hid (Hk3.out.ext hx4); have Hw1_4 := Lib.hid (Hw1_3.out.ext hx4); have Hw2_4 := Lib.hid (Hw2_3.out.ext hx4); have Hw3_4 := Lib.hid (Hw3_3.out.ext hx4); have Hw4_4 := Lib.hid hw4; clear hw4; clear hx4)
        | (have hpv := Hk2; clear hpv; go_at_call 145; refine (Haw.out _ _ _ Hw1_2.out Hw2_2.out).mono ?_; rintro e9 V3 ⟨v3, rfl, hw3, hx3⟩; obtain ⟨b3, a3, l3, c3, rfl, hw3⟩ := w1_let hw3; have Hk3 := Lib.hid (Hk2.out.ext hx3); have Hw1_3 := Lib.hid (Hw1_2.out.ext hx3); have Hw2_3 := Lib.hid (Hw2_2.out.ext hx3); have Hw3_3 := Lib.hid hw3; clear hw3; clear hx3)
        | (have hpv := Hk1; clear hpv; go_at_call 73; refine (Htb.out _).mono ?_; rintro e9 V2 ⟨v2, rfl, hw2, hx2⟩; obtain ⟨b2, a2, l2, c2, rfl, hw2⟩ := w1_let hw2; have Hk2 := Lib.hid (Hk1.out.ext hx2); have Hw1_2 := Lib.hid (Hw1_1.out.ext hx2); have Hw2_2 := Lib.hid hw2; clear hw2; clear hx2)
        | (have hpv := Hk0; clear hpv; go_at_call 73; refine (Hta.out _).mono ?_; rintro e9 V1 ⟨v1, rfl, hw1, hx1⟩; obtain ⟨b1, a1, l1, c1, rfl, hw1⟩ := w1_let hw1; have Hk1 := Lib.hid (Hk0.out.ext (((Ext.refl V).drew).trans hx1)); have Hw1_1 := Lib.hid hw1; clear hw1; clear hx1))
    all_goals
      obtain ⟨hb, hfx⟩ := Hk5.out.fin (by omega) (.string s1) (.string s2)
      have Hfx := Lib.hid hfx
      clear hfx
      generalize (V5.setCell ⟨w.heap.size + 1 + 1, 0, none⟩ (.string s1)).setCell ⟨w.heap.size + 1 + 1, 1, none⟩ (.string s2) = W5 at *
      have hd0 := hb.c0
      have hd1 := hb.c1
      go_wp2_with fail
      exact bodyPost_ret (v := .agg #[.string s1, .string s2]) (by simp [results, Tryz.results92, go_sem, hd0, hd1]) rfl ⟨rfl, Hfx.out⟩
  · have hm1 := fun W va vb (h : W1 W va a.num) (k : W1 W vb (b.den : Int)) => mulW_c va vb a.num (b.den : Int) W h k (by rw [Int.natAbs_natCast]; omega) (by omega) (by omega)
    have hm2 := fun W va vb (h : W1 W va b.num) (k : W1 W vb (a.den : Int)) => mulW_c va vb b.num (a.den : Int) W h k (by rw [Int.natAbs_natCast]; omega) (by omega) (by omega)
    have hm3 := fun W va vb (h : W1 W va (a.den : Int)) (k : W1 W vb (b.den : Int)) => mulW_c va vb (a.den : Int) (b.den : Int) W h k (by rw [Int.natAbs_natCast, Int.natAbs_natCast]; exact h2) (by omega) (by omega)
    have hsum : (a.num * (b.den : Int)).natAbs + (b.num * (a.den : Int)).natAbs < 1000000000 := by rw [Int.natAbs_mul, Int.natAbs_mul, Int.natAbs_natCast, Int.natAbs_natCast]; exact h1
    have haw := fun W va vb (h : W1 W va (a.num * (b.den : Int))) (k : W1 W vb (b.num * (a.den : Int))) => addW_c va vb (a.num * (b.den : Int)) (b.num * (a.den : Int)) W h k hsum
    have hmk := fun W va vb (hE : Ext w W) (h : W1 W va (a.num * (b.den : Int) + b.num * (a.den : Int))) (k : W1 W vb ((a.den : Int) * (b.den : Int))) => make_c va vb (a.num * (b.den : Int) + b.num * (a.den : Int)) (a.den * b.den) W (he.ext hE) h (by rw [Int.natCast_mul]; exact k) (Nat.lt_of_le_of_lt (Int.natAbs_add_le _ _) hsum) (Nat.mul_pos a.den_pos b.den_pos) h2
    rw [← Rat.add_def'] at hmk
    have hnb : ((I (a.den : Int)).toList == (I (b.den : Int)).toList) = false := by rw [I_eq]; exact decide_eq_false (by omega)
    have hne : ¬ (I (a.den : Int)).toList = (I (b.den : Int)).toList := fun e => by rw [e] at hnb; simp at hnb
    unfold Rv at hmk ⊢
    generalize I (a + b).num = s1 at *
    generalize I (((a + b).den : Nat) : Int) = s2 at *
    generalize I a.num = sa at *
    generalize I b.num = sb at *
    generalize I (a.den : Int) = sc at *
    generalize I (b.den : Int) = sd at *
    have hk2 := k2_new 55 55 55 w (.string sa) (.string sc) (.string sb) (.string sd) (.string ⟨#[]⟩) (.string ⟨#[]⟩)
    generalize hV : ((w.alloc (.cells #[.string sa, .string sc] 55)).alloc (.cells #[.string sb, .string sd] 55)).alloc (.cells #[.string ⟨#[]⟩, .string ⟨#[]⟩] 55) = V at *
    have hk := hk2.1
    have p0 := hk.a.c0; have p1 := hk.a.c1; have q0 := hk.b.c0; have q1 := hk.b.c1
    have Hk0 := Lib.hid hk
    clear hk hk2
    have Hta := Lib.hid hta; have Htb := Lib.hid htb; have Htc := Lib.hid htc; have Htd := Lib.hid htd; have Hm1 := Lib.hid hm1; have Hm2 := Lib.hid hm2; have Hm3 := Lib.hid hm3; have Haw := Lib.hid haw; have Hmk := Lib.hid hmk
    clear hta htb htc htd hm1 hm2 hm3 haw hmk he h1 h2 h3 ha2 hb2 hd hsum
    go_enter Tryz.func92, Tryz.ntmps92
    go_wp2_with fail
    go_wp2_with fail
    go_region_held3 (fun w' => K2 55 55 55 w w' w.heap.size (.string sa) (.string sc) (w.heap.size + 1) (.string sb) (.string sd) (w.heap.size + 1 + 1) ∧ w'.cell? ⟨w.heap.size, 0, none⟩ = some (.string sa) ∧ w'.cell? ⟨w.heap.size, 1, none⟩ = some (.string sc) ∧ w'.cell? ⟨w.heap.size + 1, 0, none⟩ = some (.string sb) ∧ w'.cell? ⟨w.heap.size + 1, 1, none⟩ = some (.string sd) ∧ w'.cell? ⟨w.heap.size + 1 + 1, 0, none⟩ = some (valAt w' (w.heap.size + 1 + 1) 0) ∧ w'.cell? ⟨w.heap.size + 1 + 1, 1, none⟩ = some (valAt w' (w.heap.size + 1 + 1) 1) ∧ w'.frozen? ⟨w.heap.size + 1 + 1, 0, none⟩ = false ∧ w'.frozen? ⟨w.heap.size + 1 + 1, 1, none⟩ = false)
      (first | with_reducible exact Hk11.out.all | with_reducible exact Hk10.out.all | with_reducible exact Hk9.out.all | with_reducible exact Hk8.out.all | with_reducible exact Hk7.out.all | with_reducible exact Hk6.out.all | with_reducible exact Hk5.out.all | with_reducible exact Hk4.out.all | with_reducible exact Hk3.out.all | with_reducible exact Hk2.out.all | with_reducible exact Hk1.out.all | with_reducible exact (Hk0.out.ext ((Ext.refl V).drew)).all | with_reducible exact (Hk11.out.put (by omega) (by omega) (by omega) (.string s1) (.string s2)).all)
      (first
        | (have hpv := Hk10; clear hpv; go_at_call 71; refine (Hmk.out _ _ _ Hk10.out.x Hw7_10.out Hw10_10.out).mono ?_; rintro e9 V11 ⟨rfl, hx11⟩; have Hk11 := Lib.hid (Hk10.out.ext hx11); have Hw1_11 := Lib.hid (Hw1_10.out.ext hx11); have Hw2_11 := Lib.hid (Hw2_10.out.ext hx11); have Hw3_11 := Lib.hid (Hw3_10.out.ext hx11); have Hw4_11 := Lib.hid (Hw4_10.out.ext hx11); have Hw5_11 := Lib.hid (Hw5_10.out.ext hx11); have Hw6_11 := Lib.hid (Hw6_10.out.ext hx11); have Hw7_11 := Lib.hid (Hw7_10.out.ext hx11); have Hw8_11 := Lib.hid (Hw8_10.out.ext hx11); have Hw9_11 := Lib.hid (Hw9_10.out.ext hx11); have Hw10_11 := Lib.hid (Hw10_10.out.ext hx11); clear hx11)
        | (have hpv := Hk9; clear hpv; go_at_call 72; refine (Hm3.out _ _ _ Hw8_9.out Hw9_9.out).mono ?_; rintro e9 V10 ⟨v10, rfl, hw10, hx10⟩; obtain ⟨b10, a10, l10, c10, rfl, hw10⟩ := w1_let hw10; have Hk10 := Lib.hid (Hk9.out.ext hx10); have Hw1_10 := Lib.hid (Hw1_9.out.ext hx10); have Hw2_10 := Lib.hid (Hw2_9.out.ext hx10); have Hw3_10 := Lib.hid (Hw3_9.out.ext hx10); have Hw4_10 := Lib.hid (Hw4_9.out.ext hx10); have Hw5_10 := Lib.hid (Hw5_9.out.ext hx10); have Hw6_10 := Lib.hid (Hw6_9.out.ext hx10); have Hw7_10 := Lib.hid (Hw7_9.out.ext hx10); have Hw8_10 := Lib.hid (Hw8_9.out.ext hx10); have Hw9_10 := Lib.hid (Hw9_9.out.ext hx10); have Hw10_10 := Lib.hid hw10; clear hw10; clear hx10)
        | (have hpv := Hk8; clear hpv; go_at_call 73; refine (Htd.out _).mono ?_; rintro e9 V9 ⟨v9, rfl, hw9, hx9⟩; obtain ⟨b9, a9, l9, c9, rfl, hw9⟩ := w1_let hw9; have Hk9 := Lib.hid (Hk8.out.ext hx9); have Hw1_9 := Lib.hid (Hw1_8.out.ext hx9); have Hw2_9 := Lib.hid (Hw2_8.out.ext hx9); have Hw3_9 := Lib.hid (Hw3_8.out.ext hx9); have Hw4_9 := Lib.hid (Hw4_8.out.ext hx9); have Hw5_9 := Lib.hid (Hw5_8.out.ext hx9); have Hw6_9 := Lib.hid (Hw6_8.out.ext hx9); have Hw7_9 := Lib.hid (Hw7_8.out.ext hx9); have Hw8_9 := Lib.hid (Hw8_8.out.ext hx9); have Hw9_9 := Lib.hid hw9; clear hw9; clear hx9)
        | (have hpv := Hk7; clear hpv; go_at_call 73; refine (Htc.out _).mono ?_; rintro e9 V8 ⟨v8, rfl, hw8, hx8⟩; obtain ⟨b8, a8, l8, c8, rfl, hw8⟩ := w1_let hw8; have Hk8 := Lib.hid (Hk7.out.ext hx8); have Hw1_8 := Lib.hid (Hw1_7.out.ext hx8); have Hw2_8 := Lib.hid (Hw2_7.out.ext hx8); have Hw3_8 := Lib.hid (Hw3_7.out.ext hx8); have Hw4_8 := Lib.hid (Hw4_7.out.ext hx8); have Hw5_8 := Lib.hid (Hw5_7.out.ext hx8); have Hw6_8 := Lib.hid (Hw6_7.out.ext hx8); have Hw7_8 := Lib.hid (Hw7_7.out.ext hx8); have Hw8_8 := Lib.hid hw8; clear hw8; clear hx8)
        | (have hpv := Hk6; clear hpv; go_at_call 145; refine (Haw.out _ _ _ Hw3_6.out Hw6_6.out).mono ?_; rintro e9 V7 ⟨v7, rfl, hw7, hx7⟩; obtain ⟨b7, a7, l7, c7, rfl, hw7⟩ := w1_let hw7; have Hk7 := Lib.hid (Hk6.out.ext hx7); have Hw1_7 := Lib.hid (Hw1_6.out.ext hx7); have Hw2_7 := Lib.hid (Hw2_6.out.ext hx7); have Hw3_7 := Lib.hid (Hw3_6.out.ext hx7); have Hw4_7 := Lib.hid (Hw4_6.out.ext hx7); have Hw5_7 := Lib.hid (Hw5_6.out.ext hx7); have Hw6_7 := Lib.hid (Hw6_6.out.ext hx7); have Hw7_7 := Lib.hid hw7; clear hw7; clear hx7)
        | (have hpv := Hk5; clear hpv; go_at_call 72; refine (Hm2.out _ _ _ Hw4_5.out Hw5_5.out).mono ?_; rintro e9 V6 ⟨v6, rfl, hw6, hx6⟩; obtain ⟨b6, a6, l6, c6, rfl, hw6⟩ := w1_let hw6; have Hk6 := Lib.hid (Hk5.out.ext hx6); have Hw1_6 := Lib.hid (Hw1_5.out.ext hx6); have Hw2_6 := Lib.hid (Hw2_5.out.ext hx6); have Hw3_6 := Lib.hid (Hw3_5.out.ext hx6); have Hw4_6 := Lib.hid (Hw4_5.out.ext hx6); have Hw5_6 := Lib.hid (Hw5_5.out.ext hx6); have Hw6_6 := Lib.hid hw6; clear hw6; clear hx6)
        | (have hpv := Hk4; clear hpv; go_at_call 73; refine (Htc.out _).mono ?_; rintro e9 V5 ⟨v5, rfl, hw5, hx5⟩; obtain ⟨b5, a5, l5, c5, rfl, hw5⟩ := w1_let hw5; have Hk5 := Lib.hid (Hk4.out.ext hx5); have Hw1_5 := Lib.hid (Hw1_4.out.ext hx5); have Hw2_5 := Lib.hid (Hw2_4.out.ext hx5); have Hw3_5 := Lib.hid (Hw3_4.out.ext hx5); have Hw4_5 := Lib.hid (Hw4_4.out.ext hx5); have Hw5_5 := Lib.hid hw5; clear hw5; clear hx5)
        | (have hpv := Hk3; clear hpv; go_at_call 73; refine (Htb.out _).mono ?_; rintro e9 V4 ⟨v4, rfl, hw4, hx4⟩; obtain ⟨b4, a4, l4, c4, rfl, hw4⟩ := w1_let hw4; have Hk4 := Lib.hid (Hk3.out.ext hx4); have Hw1_4 := Lib.hid (Hw1_3.out.ext hx4); have Hw2_4 := Lib.hid (Hw2_3.out.ext hx4); have Hw3_4 := Lib.hid (Hw3_3.out.ext hx4); have Hw4_4 := Lib.hid hw4; clear hw4; clear hx4)
        | (have hpv := Hk2; clear hpv; go_at_call 72; refine (Hm1.out _ _ _ Hw1_2.out Hw2_2.out).mono ?_; rintro e9 V3 ⟨v3, rfl, hw3, hx3⟩; obtain ⟨b3, a3, l3, c3, rfl, hw3⟩ := w1_let hw3; have Hk3 := Lib.hid (Hk2.out.ext hx3); have Hw1_3 := Lib.hid (Hw1_2.out.ext hx3); have Hw2_3 := Lib.hid (Hw2_2.out.ext hx3); have Hw3_3 := Lib.hid hw3; clear hw3; clear hx3)
        | (have hpv := Hk1; clear hpv; go_at_call 73; refine (Htd.out _).mono ?_; rintro e9 V2 ⟨v2, rfl, hw2, hx2⟩; obtain ⟨b2, a2, l2, c2, rfl, hw2⟩ := w1_let hw2; have Hk2 := Lib.hid (Hk1.out.ext hx2); have Hw1_2 := Lib.hid (Hw1_1.out.ext hx2); have Hw2_2 := Lib.hid hw2; clear hw2; clear hx2)
        | (have hpv := Hk0; clear hpv; go_at_call 73; refine (Hta.out _).mono ?_; rintro e9 V1 ⟨v1, rfl, hw1, hx1⟩; obtain ⟨b1, a1, l1, c1, rfl, hw1⟩ := w1_let hw1; have Hk1 := Lib.hid (Hk0.out.ext (((Ext.refl V).drew).trans hx1)); have Hw1_1 := Lib.hid hw1; clear hw1; clear hx1))
    all_goals
      obtain ⟨hb, hfx⟩ := Hk11.out.fin (by omega) (.string s1) (.string s2)
      have Hfx := Lib.hid hfx
      clear hfx
      generalize (V11.setCell ⟨w.heap.size + 1 + 1, 0, none⟩ (.string s1)).setCell ⟨w.heap.size + 1 + 1, 1, none⟩ (.string s2) = W5 at *
      have hd0 := hb.c0
      have hd1 := hb.c1
      go_wp2_with fail
      exact bodyPost_ret (v := .agg #[.string s1, .string s2]) (by simp [results, Tryz.results92, go_sem, hd0, hd1]) rfl ⟨rfl, Hfx.out⟩
end Go.Proofs.YtajdfggocldeaaaGreatDoor
