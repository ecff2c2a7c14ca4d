/- Walks: scale.two, scale.Same. Walks: scale.Rotation. Walks: law 31's mode. A scale that reads goes on reading when a fresh box of a scale is filled; where the modes of a scale are another scale. -/
import Derived.Test.YtaakmdjicocjpaaGreatDoorPbM
import Derived.Test.YtaakmdjicocjpaaGreatDoorPbK
import Derived.Test.YtaakmdjicocjpaaGreatDoorPbL
import Derived.Test.YtaakmdjicocjpaaGreatDoorPaK
import Derived.Test.YtaakmdjicocjpaaGreatDoorPbW
import Derived.Test.YtaakmdjicocjpaaGreatDoorPbV
namespace Go.Proofs.YtaakmdjicocjpaaGreatDoor
open Go.RowKit Go.Lib Go.Shelf

attribute [local go_sem] Oper.semAt_some

/-- Two scales in their boxes. -/
theorem two_boxes (w : World) (x y z u : Value) : BoxT 32 ((w.alloc (.cells #[x, y] 32)).alloc (.cells #[z, u] 32)) w.heap.size x y ∧ BoxT 32 ((w.alloc (.cells #[x, y] 32)).alloc (.cells #[z, u] 32)) (w.heap.size + 1) z u ∧ Ext w ((w.alloc (.cells #[x, y] 32)).alloc (.cells #[z, u] 32)) := by
  refine ⟨(BoxT.new 32 w x y).ext ((Ext.refl _).alloc _), ?_, ((Ext.refl w).alloc _).alloc _⟩
  have := BoxT.new 32 (w.alloc (.cells #[x, y] 32)) z u
  rwa [World.size_alloc] at this

set_option maxRecDepth 100000 in
set_option maxHeartbeats 800000 in
theorem scTwo_c (v1 v2 : Value) (p q : List Int) (rs ts : List Qw) (w : World) (he : Env w) (h1 : ScV w v1 p rs) (h2 : ScV w v2 q ts) (g1 : Right p rs) (g2 : Right q ts) :
    Calls Tryz.prog 99 #[v1, v2] w fun e w' => e = .returned (.int .i64 0) ∧ Ext w w' := by
  obtain ⟨a1, c1, b1, d1, rfl, h1⟩ := scv_let h1
  obtain ⟨a2, c2, b2, d2, rfl, h2⟩ := scv_let h2
  have hc1 := fun W (hE : Ext w W) => scCheck_c _ p rs W (he.ext hE) (h1.ext hE) g1
  have hc2 := fun W (hE : Ext w W) => scCheck_c _ q ts W (he.ext hE) (h2.ext hE) g2
  have hb := two_boxes w (.slice a1 p.length c1) (.slice b1 rs.length d1) (.slice a2 q.length c2) (.slice b2 ts.length d2)
  have Hc1 := Lib.hid hc1; have Hc2 := Lib.hid hc2; have Hb := Lib.hid hb
  clear hc1 hc2 hb h1 h2 g1 g2 he
  go_enter Tryz.func99, Tryz.ntmps99
  have q0 := Hb.out.1.c0
  have q1 := Hb.out.1.c1
  go_wp2_with fail
  refine (Hc1.out _ Hb.out.2.2).mono ?_
  rintro e w1 ⟨rfl, hx1⟩
  have r0 := (Hb.out.2.1.ext hx1).c0
  have r1 := (Hb.out.2.1.ext hx1).c1
  have Hx1 := Lib.hid (Hb.out.2.2.trans hx1)
  clear hx1 q0 q1
  go_wp2_with fail
  refine (Hc2.out _ Hx1.out).mono ?_
  rintro e w2 ⟨rfl, hx2⟩
  have Hx2 := Lib.hid (Hx1.out.trans hx2)
  clear hx2
  go_wp2
  go_ret
  exact ⟨rfl, Hx2.out⟩

set_option maxRecDepth 100000 in
set_option maxHeartbeats 800000 in
theorem scSameW_c (v1 v2 : Value) (p q : List Int) (rs ts : List Qw) (w : World) (he : Env w) (h1 : ScV w v1 p rs) (h2 : ScV w v2 q ts) (g1 : Wd p (rs.map Qw.x)) (g2 : Wd q (ts.map Qw.x)) :
    Calls Tryz.prog 46 #[v1, v2] w fun e w' => e = .returned (.tuple #[.bool (decide (p = q) && decide (rs.map Qw.x = ts.map Qw.x)), .int .i64 0]) ∧ Ext w w' := by
  obtain ⟨a1, c1, b1, d1, rfl, h1⟩ := scv_let h1
  obtain ⟨a2, c2, b2, d2, rfl, h2⟩ := scv_let h2
  have hp := pr_one g1.pr
  have hq := pr_one g2.pr
  have hp3 : p.length ≤ 3 := by rcases g1.pr with ⟨e, _⟩ | ⟨e, _⟩ <;> rw [e] <;> decide
  have hq3 : q.length ≤ 3 := by rcases g2.pr with ⟨e, _⟩ | ⟨e, _⟩ <;> rw [e] <;> decide
  have hr := g1.few
  have ht := g2.few
  rw [List.length_map] at hr ht
  have hc1 := fun W (hE : Ext w W) => scTwo_c _ _ p q rs ts W (he.ext hE) (h1.ext hE) (h2.ext hE) g1.right g2.right
  have hc2 := fun W (hE : Ext w W) => scSame_c _ _ p q rs ts W (h1.ext hE) (h2.ext hE) (by omega) (by omega) (by omega) (by omega) (fun r hr => by rw [g1.len _ (List.mem_map_of_mem hr)]; omega) (fun r hr => by rw [g2.len _ (List.mem_map_of_mem hr)]; omega)
  have hb := two_boxes w (.slice a1 p.length c1) (.slice b1 rs.length d1) (.slice a2 q.length c2) (.slice b2 ts.length d2)
  have Hc1 := Lib.hid hc1; have Hc2 := Lib.hid hc2; have Hb := Lib.hid hb
  clear hc1 hc2 hb h1 h2 g1 g2 he hp hq
  generalize (decide (p = q) && decide (rs.map Qw.x = ts.map Qw.x)) = B at *
  go_enter Tryz.func46, Tryz.ntmps46
  have q0 := Hb.out.1.c0
  have q1 := Hb.out.1.c1
  have r0 := Hb.out.2.1.c0
  have r1 := Hb.out.2.1.c1
  go_wp2_with fail
  refine (Hc1.out _ Hb.out.2.2).mono ?_
  rintro e w1 ⟨rfl, hx1⟩
  have q0 := (Hb.out.1.ext hx1).c0
  have q1 := (Hb.out.1.ext hx1).c1
  have r0 := (Hb.out.2.1.ext hx1).c0
  have r1 := (Hb.out.2.1.ext hx1).c1
  have Hx1 := Lib.hid (Hb.out.2.2.trans hx1)
  clear hx1
  go_wp2_with fail
  refine (Hc2.out _ Hx1.out).mono ?_
  rintro e w2 ⟨rfl, hx2⟩
  have Hx2 := Lib.hid (Hx1.out.trans hx2)
  clear hx2
  go_wp2
  go_ret2
  exact ⟨rfl, Hx2.out⟩
end Go.Proofs.YtaakmdjicocjpaaGreatDoor

namespace Go.Proofs.YtaakmdjicocjpaaGreatDoor
open Go.RowKit Go.Lib Go.Shelf

attribute [local go_sem] Oper.semAt_some

/-- Where the mode of a scale is another scale: the first index, if there is one. -/
def RotAt (p q : List Int) (N M : List (List Rat)) (k : Int) (b : Bool) : Prop :=
  (b = false ∧ k = 0 ∧ ∀ i : Nat, i < N.length → ¬ (p = q ∧ md p N (i : Int) = M)) ∨ (b = true ∧ ∃ i : Nat, k = i ∧ i < N.length ∧ p = q ∧ md p N (i : Int) = M ∧ ∀ j : Nat, j < i → ¬ (p = q ∧ md p N (j : Int) = M))

set_option maxRecDepth 100000 in
set_option maxHeartbeats 800000 in
theorem scRot_c (v1 v2 : Value) (p q : List Int) (rs ts : List Qw) (w : World) (he : Env w) (h1 : ScV w v1 p rs) (h2 : ScV w v2 q ts) (g1 : Wd p (rs.map Qw.x)) (g2 : Wd q (ts.map Qw.x)) :
    Calls Tryz.prog 47 #[v1, v2] w fun e w' => ∃ k b, e = .returned (.tuple #[.int .i64 k, .bool b, .int .i64 0]) ∧ RotAt p q (rs.map Qw.x) (ts.map Qw.x) k b ∧ Ext w w' := by
  obtain ⟨a1, c1, b1, d1, rfl, h1⟩ := scv_let h1
  obtain ⟨a2, c2, b2, d2, rfl, h2⟩ := scv_let h2
  have hp := pr_one g1.pr
  have hq := pr_one g2.pr
  have hp3 : p.length ≤ 3 := by rcases g1.pr with ⟨e, _⟩ | ⟨e, _⟩ <;> rw [e] <;> decide
  have hq3 : q.length ≤ 3 := by rcases g2.pr with ⟨e, _⟩ | ⟨e, _⟩ <;> rw [e] <;> decide
  have hr := g1.few
  have ht := g2.few
  have hN : (rs.map Qw.x).length = rs.length := List.length_map ..
  rw [List.length_map] at hr ht
  have hc1 := fun W (hE : Ext w W) => scTwo_c _ _ p q rs ts W (he.ext hE) (h1.ext hE) (h2.ext hE) g1.right g2.right
  have hmo := fun (m : Nat) (hm : m < rs.length) W (hE : Ext w W) => mode_c _ p rs (m : Int) W (he.ext hE) (h1.ext hE) g1 (by omega) (by omega)
  have hsa := fun (m : Nat) W v out (hE : Ext w W) (hv : ScV W v p out) (hm : out.map Qw.x = md p (rs.map Qw.x) (m : Int)) => (show Calls Tryz.prog 100 #[v, .agg #[.slice a2 q.length c2, .slice b2 ts.length d2]] W fun e w' => e = .returned (.bool (decide (p = q) && decide (md p (rs.map Qw.x) (m : Int) = ts.map Qw.x))) ∧ Ext W w' by
    have hw := g1.mode (m : Int)
    have hol : out.length ≤ 10 := by have := hw.few; rw [← hm, List.length_map] at this; exact this
    have := scSame_c v _ p q out ts W hv (h2.ext hE) (by omega) (by omega) (by omega) (by omega) (fun r hr => by rw [hw.len _ (by rw [← hm]; exact List.mem_map_of_mem hr)]; omega) (fun r hr => by rw [g2.len _ (List.mem_map_of_mem hr)]; omega)
    rw [hm] at this
    exact this)
  have hb := two_boxes w (.slice a1 p.length c1) (.slice b1 rs.length d1) (.slice a2 q.length c2) (.slice b2 ts.length d2)
  have hra : RotAt p q (rs.map Qw.x) (ts.map Qw.x) = RotAt p q (rs.map Qw.x) (ts.map Qw.x) := rfl
  have Hc1 := Lib.hid hc1; have Hmo := Lib.hid hmo; have Hsa := Lib.hid hsa; have Hb := Lib.hid hb; have HN := Lib.hid hN
  clear hc1 hmo hsa hb h1 h2 g1 g2 he hp hq hN hra
  generalize hn : rs.length = n at *
  have Hn := Lib.hid hn
  clear hn
  go_enter Tryz.func47, Tryz.ntmps47
  have q0 := Hb.out.1.c0
  have q1 := Hb.out.1.c1
  have r0 := Hb.out.2.1.c0
  have r1 := Hb.out.2.1.c1
  go_wp2_with fail
  refine (Hc1.out _ Hb.out.2.2).mono ?_
  rintro e w1 ⟨rfl, hx1⟩
  have HB1 := Lib.hid (Hb.out.1.ext hx1); have HB2 := Lib.hid (Hb.out.2.1.ext hx1)
  have q1 := HB1.out.c1
  have Hx1 := Lib.hid (Hb.out.2.2.trans hx1)
  clear hx1 q0 r0 r1
  go_wp2_with fail
  go_loopw [8, 9, 10, 20] (fun v8 v9 v10 v20 wr => ∃ k : Nat, v20 = .int .i64 k ∧ k ≤ n ∧ Hid (∀ j : Nat, j < k → ¬ (p = q ∧ md p (rs.map Qw.x) (j : Int) = ts.map Qw.x)) ∧ Ext w1 wr) (fun _ _ _ v20 _ => n - (intOf v20).toNat)
  case atStart => exact ⟨0, rfl, Nat.zero_le _, Lib.hid (fun j h => absurd h (Nat.not_lt_zero j)), Ext.refl _⟩
  case round =>
    obtain ⟨k, rfl, hk, Hj, hEr⟩ := hrel
    by_cases hkn : k < n
    · have hk0 : (0 : Int) ≤ (k : Int) := by omega
      have hk1 : (k : Int) < (n : Int) := by omega
      have hmk := Hmo.out k hkn wr (Hx1.out.trans hEr)
      have q0 := (HB1.out.ext hEr).c0
      have q1 := (HB1.out.ext hEr).c1
      have Hmk := Lib.hid hmk; have HEr := Lib.hid hEr
      clear hmk hEr
      go_wp2_with fail
      refine Hmk.out.mono ?_
      rintro e w2 ⟨u2, out, rfl, ho2, hm2, hx2⟩
      obtain ⟨a5, c5, b5, d5, rfl, hs5⟩ := scv_let ho2.scV
      have hb5 := BoxT.new 32 w2 (.slice a5 p.length c5) (.slice b5 out.length d5)
      have hE5 := (Ext.refl w2).alloc (.cells #[.slice a5 p.length c5, .slice b5 out.length d5] 32)
      have hx5 := HEr.out.trans (hx2.trans hE5)
      have hsa5 := Hsa.out k _ _ out (Hx1.out.trans hx5) (hs5.ext hE5) hm2
      have k0 := hb5.c0
      have k1 := hb5.c1
      have r0 := (HB2.out.ext hx5).c0
      have r1 := (HB2.out.ext hx5).c1
      have Hsa5 := Lib.hid hsa5; have Hx5 := Lib.hid hx5
      clear hsa5 hx5 hb5 hE5 hs5 ho2 hm2 hx2 q0 q1
      go_wp2_with fail
      refine Hsa5.out.mono ?_
      rintro e w6 ⟨rfl, hx6⟩
      have Hx6 := Lib.hid (Hx5.out.trans hx6)
      clear hx6 k0 k1 r0 r1
      by_cases hyes : p = q ∧ md p (rs.map Qw.x) (k : Int) = ts.map Qw.x
      · have hB : (decide (p = q) && decide (md p (rs.map Qw.x) (k : Int) = ts.map Qw.x)) = true := by rw [decide_eq_true hyes.1, decide_eq_true hyes.2]; rfl
        have Hyes := Lib.hid hyes
        rw [hB]
        clear hB hyes
        go_wp2_with fail
        exact bodyPost_ret (v := .tuple #[.int .i64 (k : Int), .bool true, .int .i64 0]) (by simp [results, Tryz.results47, go_sem]) rfl ⟨_, _, rfl, .inr ⟨rfl, k, rfl, by rw [HN.out]; exact hkn, Hyes.out.1, Hyes.out.2, Hj.out⟩, Hx1.out.trans Hx6.out⟩
      · have hB : (decide (p = q) && decide (md p (rs.map Qw.x) (k : Int) = ts.map Qw.x)) = false := by
          rw [Bool.and_eq_false_iff]
          by_cases e : p = q
          · exact .inr (decide_eq_false fun e2 => hyes ⟨e, e2⟩)
          · exact .inl (decide_eq_false e)
        have Hno := Lib.hid hyes
        rw [hB]
        clear hB hyes
        go_wp2_with fail
        go_roundw
        case rel => exact ⟨k + 1, by go_num, by omega, Lib.hid (fun j hj => by
          rcases (by omega : j < k ∨ j = k) with e | e
          · exact Hj.out j e
          · rw [e]; exact Hno.out), Hx6.out⟩
        case measure => simp [intOf]; omega
    · obtain rfl : k = n := by omega
      have HEr := Lib.hid hEr
      clear hEr
      go_wp2_with fail
      exact bodyPost_ret (v := .tuple #[.int .i64 0, .bool false, .int .i64 0]) (by simp [results, Tryz.results47, go_sem]) rfl ⟨_, _, rfl, .inl ⟨rfl, rfl, fun i hi => Hj.out i (by rw [HN.out] at hi; exact hi)⟩, Hx1.out.trans HEr.out⟩
end Go.Proofs.YtaakmdjicocjpaaGreatDoor

namespace Go.Proofs.YtaakmdjicocjpaaGreatDoor
open Go.RowKit Go.Lib Go.Shelf

attribute [local go_sem] Oper.semAt_some

set_option maxRecDepth 100000 in
set_option maxHeartbeats 4000000 in
theorem lMode_c (v : Value) (p : List Int) (rs : List Qw) (m : Int) (w : World) (he : Env w) (hv : ScV w v p rs) (h : Wd p (rs.map Qw.x)) (hm0 : -500 ≤ m) (hm1 : m ≤ 500) :
    Calls Tryz.prog 48 #[v, .int .i64 m] w fun e w' => ∃ a c b d out, e = .returned (.agg #[.slice a p.length c, .slice b out.length d]) ∧ ScV w' (.agg #[.slice a p.length c, .slice b out.length d]) p out ∧ out.map Qw.x = md p (rs.map Qw.x) m ∧ Ext w w' := by
  obtain ⟨j0, hj, hy0, hy1, hy2⟩ := info_parts info_size
  obtain ⟨ap, cp, an, cn, rfl, hv⟩ := scv_let hv
  have hp3 : p.length ≤ 3 := by rcases h.pr with ⟨e, _⟩ | ⟨e, _⟩ <;> rw [e] <;> decide
  have hlt := fun (k : Int) => h.ntlen k
  have hno := fun (k : Int) (h0 : -1000 ≤ k) (h1 : k ≤ 1000) W (hE : Ext w W) => lNote_c _ p rs k W (he.ext hE) (hv.ext hE) h h0 h1
  have hle := fun (k q : Int) (h0 : -1000 ≤ k) (h1 : k ≤ 1000) (g0 : -1000 ≤ q) (g1 : q ≤ 1000) W va vb (hE : Ext w W) (ha : Rd W va (nt p (rs.map Qw.x) k)) (hb : Rd W vb (nt p (rs.map Qw.x) q)) => lLess_c va vb _ _ W (he.ext hE) ha hb ((hlt k).trans (hlt q).symm) (by rw [hlt k]; omega) (h.nt_sn k h0 h1) (h.nt_sn q g0 g1)
  have hls := fun (k q : Int) => (subZ_len (x := nt p (rs.map Qw.x) k) (y := nt p (rs.map Qw.x) q) ((hlt k).trans (hlt q).symm)).trans (hlt k)
  have hmd : ∀ i, i < rs.length → (md p (rs.map Qw.x) m).take (i + 1) = (md p (rs.map Qw.x) m).take i ++ [subZ (nt p (rs.map Qw.x) (m + (i : Int) + 1)) (nt p (rs.map Qw.x) m)] := fun i hi => by
    have := md_at (p := p) (N := rs.map Qw.x) (m := m) (i := i) (by rw [List.length_map]; exact hi)
    obtain ⟨hl, e⟩ := List.getElem?_eq_some_iff.1 this
    rw [List.take_succ_eq_append_getElem hl, e]
  have hmf : (md p (rs.map Qw.x) m).take rs.length = md p (rs.map Qw.x) m := List.take_of_length_le (by rw [md_len, List.length_map]; exact Nat.le_refl _)
  have hml : (md p (rs.map Qw.x) m).length = rs.length := by rw [md_len, List.length_map]
  have hfew := h.few
  rw [List.length_map] at hfew
  generalize hn : rs.length = n at *
  have hpl : ∀ W, Ext w W → Sl W (.slice ap p.length cp) (i64s p) := fun W hE => by
    obtain ⟨vp, vn, e, h1, _⟩ := hv.ext hE
    simp only [Value.agg.injEq, Array.mk.injEq, List.cons.injEq, and_true] at e
    rw [e.1]
    exact h1
  have hb := two_boxes w (.slice ap p.length cp) (.slice an n cn) (.slice none 0 0) (.slice none 0 0)
  obtain ⟨wa, hwa⟩ : ∃ wa, wa = (w.alloc (.cells #[.slice ap p.length cp, .slice an n cn] 32)).alloc (.cells #[.slice none 0 0, .slice none 0 0] 32) := ⟨_, rfl⟩
  have hsz : wa.heap.size = w.heap.size + 2 := by rw [hwa, World.size_alloc, World.size_alloc]
  rw [← hwa] at hb
  obtain ⟨hb1, hb2, hE0⟩ := hb
  have hSQ : ∀ W, Ext wa W → Ext wa W ∧ W.cell? ⟨w.heap.size, 0, none⟩ = some (.slice ap p.length cp) ∧ W.cell? ⟨w.heap.size, 1, none⟩ = some (.slice an n cn) := fun W hE => ⟨hE, (hb1.ext hE).c0, (hb1.ext hE).c1⟩
  have hbs := BoxT.new 32 wa (.slice ap p.length cp) (.slice none 0 0)
  have hsz : wa.heap.size = w.heap.size + 1 + 1 := hsz
  rw [hsz] at hbs
  have hEs : Ext wa (wa.alloc (.cells #[.slice ap p.length cp, .slice none 0 0] 32)) := (Ext.refl wa).alloc _
  have Hno := Lib.hid hno; have Hle := Lib.hid hle; have Hls := Lib.hid hls; have Hlt := Lib.hid hlt; have Hmd := Lib.hid hmd; have Hmf := Lib.hid hmf; have Hml := Lib.hid hml; have Hn := Lib.hid hn; have Hpl := Lib.hid hpl; have HB1 := Lib.hid hb1; have HB2 := Lib.hid hb2; have HE0 := Lib.hid hE0; have HSQ := Lib.hid hSQ; have Hbs := Lib.hid hbs; have HEs := Lib.hid hEs; have Hsz := Lib.hid hsz
  have q0 := hb1.c0
  rw [hwa] at q0
  clear hno hle hls hlt hmd hmf hml hn hpl hb1 hb2 hE0 hSQ hbs hEs h he hv hsz
  go_enter Tryz.func48, Tryz.ntmps48
  go_wp2_with fail
  rw [← hwa] at *
  clear hwa
  generalize hbn : w.heap.size + 1 + 1 = bs at *
  have Hbn := Lib.hid hbn
  clear hbn
  go_loopw [6] (fun v6 wr => ∃ i : Nat, v6 = .int .i64 ((i : Int) + 1) ∧ i ≤ n ∧ NtR wa.heap.size wa bs (.slice ap p.length cp) ((md p (rs.map Qw.x) m).take i) wr) (fun v6 _ => n + 1 - (intOf v6).toNat)
  case atStart => exact ⟨0, rfl, Nat.zero_le _, .slice none 0 0, [], Hbs.out, QwM.nil _ _ _, rfl, HEs.out⟩
  case round =>
    obtain ⟨i, rfl, hi, ⟨vn, nts, hbn, hqn, hmn, hEn⟩⟩ := hrel
    have q0 := (HSQ.out wr hEn).2.1
    have q1 := (HSQ.out wr hEn).2.2
    by_cases hin : i < n
    · have hik : (i : Int) + 1 ≤ (n : Int) := by omega
      have hw1 : IntKind.i64.wrap (m + ((i : Int) + 1)) = m + ((i : Int) + 1) := by rw [IntKind.wrap_i64]; omega
      obtain ⟨avn, cvn, rfl⟩ := own_shape hqn.1
      have hnl : nts.length = i := by
        have := congrArg List.length hmn
        rw [List.length_map, List.length_take, Hml.out] at this
        omega
      have hz0 : -1000 ≤ m + ((i : Int) + 1) := by omega
      have hz1 : m + ((i : Int) + 1) ≤ 1000 := by omega
      have hmx : -1000 ≤ m ∧ m ≤ 1000 := by omega
      have hqo := hqn.1
      have r1 := hbn.c1
      rw [hnl] at r1 hqo
      have r1 := ((Ext.refl wr).drew).cell r1
      have hls := Hls.out (m + ((i : Int) + 1)) m
      have hlz := Hlt.out (m + ((i : Int) + 1))
      have hlx := Hlt.out m
      have hmt := Hmd.out i hin
      rw [show m + (i : Int) + 1 = m + ((i : Int) + 1) by omega] at hmt
      have hm3 : i + 1 ≤ maxLen := by unfold maxLen; omega
      have hm4 : (i + 1) * 24 ≤ 140737488355328 := by omega
      have hEd := hEn.drew
      have hS0 := HSQ.out _ hEd
      have Hbn0 := Lib.hid hbn; have Hqn := Lib.hid hqn; have Hmn := Lib.hid hmn; have HEn := Lib.hid hEn; have Hqo := Lib.hid hqo; have Hnl := Lib.hid hnl; have HEa := Lib.hid hEd; have HYa := Lib.hid ((Ext.refl wr).drew); have Hls0 := Lib.hid hls; have Hlz := Lib.hid hlz; have Hlx0 := Lib.hid hlx; have Hmt := Lib.hid hmt
      clear hbn hqn hmn hEn hqo hnl hEd hls hlz hlx hmt
      go_wp2_with fail
      refine region_Z 14 (fun w' => Ext wa w' ∧ w'.cell? ⟨w.heap.size, 0, none⟩ = some (.slice ap p.length cp) ∧ w'.cell? ⟨w.heap.size, 1, none⟩ = some (.slice an n cn) ∧ w'.cell? ⟨bs, 1, none⟩ = some (.slice avn i cvn)) (by kernel_rfl) (⟨HEa.out, (HSQ.out _ (HEa.out)).2.1, (HSQ.out _ (HEa.out)).2.2, r1⟩) (fun hHeld => ?_)
      refine anyZ_take (i := 0) (v := ?v0) rfl (by kernel_rfl) (by kernel_rfl) (by kernel_rfl) (by kernel_rfl) (fun _ _ _ h => h) (Or.inl ⟨by rfl, ?y0⟩) hHeld ?r0
      case y0 => (intro w hSw; (try dsimp only at hSw); go_simp; try with_reducible rfl)
      case r0 =>
      refine anyZ_take (i := 1) (v := ?v1) rfl (by kernel_rfl) (by kernel_rfl) (by kernel_rfl) (by kernel_rfl) (fun _ _ _ h => h) (Or.inl ⟨by rfl, ?y1⟩) hHeld ?r1
      case y1 => (intro w hSw; (try dsimp only at hSw); go_simp; try with_reducible rfl)
      case r1 =>
      refine anyZ_take (i := 2) (v := ?v2) rfl (by kernel_rfl) (by kernel_rfl) (by kernel_rfl) (by kernel_rfl) (fun _ _ _ h => h) (Or.inl ⟨by rfl, ?y2⟩) hHeld ?r2
      case y2 => (intro w hSw; (try dsimp only at hSw); go_simp; try with_reducible rfl)
      case r2 =>
      refine anyZ_take (i := 3) (v := ?v3) rfl (by kernel_rfl) (by kernel_rfl) (by kernel_rfl) (by kernel_rfl) (fun _ _ _ h => h) (Or.inl ⟨by rfl, ?y3⟩) hHeld ?r3
      case y3 => (intro w hSw; (try dsimp only at hSw); go_simp; try with_reducible rfl)
      case r3 =>
      refine anyZ_take (i := 4) (v := ?v4) rfl (by kernel_rfl) (by kernel_rfl) (by kernel_rfl) (by kernel_rfl) (fun _ _ _ h => h) (Or.inl ⟨by rfl, ?y4⟩) hHeld ?r4
      case y4 => (intro w hSw; (try dsimp only at hSw); go_simp; try with_reducible rfl)
      case r4 =>
      refine anyZ_take (i := 5) (v := ?v5) rfl (by kernel_rfl) (by kernel_rfl) (by kernel_rfl) (by kernel_rfl) (fun _ _ _ h => h) (Or.inl ⟨by rfl, ?y5⟩) hHeld ?r5
      case y5 => (intro w hSw; (try dsimp only at hSw); go_simp; try with_reducible rfl)
      case r5 =>
      refine anyZ_take (i := 7) (v := ?v7) rfl (by kernel_rfl) (by kernel_rfl) (by kernel_rfl) (by kernel_rfl) (fun _ _ _ h => h) (Or.inl ⟨by rfl, ?y7⟩) hHeld ?r7
      case y7 => (intro w hSw; (try dsimp only at hSw); go_simp; try with_reducible rfl)
      case r7 =>
      refine anyZ_take (i := 8) (v := ?v8) rfl (by kernel_rfl) (by kernel_rfl) (by kernel_rfl) (by kernel_rfl) (fun _ _ _ h => h) (Or.inl ⟨by rfl, ?y8⟩) hHeld ?r8
      case y8 => (intro w hSw; (try dsimp only at hSw); go_simp; try with_reducible rfl)
      case r8 =>
      refine anyZ_step (i := 6) (by kernel_rfl) rfl (fun K hK => ?_)
      go_simp; go_at_call 40; refine (Hno.out (m + ((i : Int) + 1)) hz0 hz1 _ (HE0.out.trans HEa.out)).mono ?_; rintro e9 V1 ⟨u1, rfl, ho, hx⟩; obtain ⟨a1, c1, rfl, hrp⟩ := rd_let ho.rd Hlz.out; have q0 := (HSQ.out V1 (HEa.out.trans hx)).2.1; have q1 := (HSQ.out V1 (HEa.out.trans hx)).2.2; have HE1 := Lib.hid (HEa.out.trans hx); have HY1 := Lib.hid (HYa.out.trans hx); have Hr1 := Lib.hid hrp; have r1 := hx.cell r1; clear ho hx hrp
      refine hK.out _ _ (⟨HE1.out, (HSQ.out _ (HE1.out)).2.1, (HSQ.out _ (HE1.out)).2.2, r1⟩) (fun hHeld => ?_)
      clear hK K
      refine anyZ_step (i := 9) (by kernel_rfl) rfl (fun K hK => ?_)
      go_simp; go_at_call 40; refine (Hno.out m hmx.1 hmx.2 V1 (HE0.out.trans HE1.out)).mono ?_; rintro e9 V2 ⟨u2, rfl, ho, hx⟩; obtain ⟨aq, cq, rfl, hrq⟩ := rd_let ho.rd Hlx0.out; have HE2 := Lib.hid (HE1.out.trans hx); have HY2 := Lib.hid (HY1.out.trans hx); have Hr2 := Lib.hid hrq; have Hr1b := Lib.hid (hx.rd Hr1.out); have r1 := hx.cell r1; clear ho hx hrq
      refine hK.out _ _ (⟨HE2.out, (HSQ.out _ (HE2.out)).2.1, (HSQ.out _ (HE2.out)).2.2, r1⟩) (fun hHeld => ?_)
      clear hK K
      refine anyZ_step (i := 10) (by kernel_rfl) rfl (fun K hK => ?_)
      go_simp; go_at_call 39; refine (Hle.out (m + ((i : Int) + 1)) m hz0 hz1 hmx.1 hmx.2 V2 _ _ (HE0.out.trans HE2.out) Hr1b.out Hr2.out).mono ?_; rintro e9 V3 ⟨u3, rfl, ho, hx⟩; obtain ⟨au, cu, rfl, _⟩ := rd_let ho.rd Hls0.out; have HE3 := Lib.hid (HE2.out.trans hx); have HY3 := Lib.hid (HY2.out.trans hx); have Ho3 := Lib.hid (ho.mono HE2.out.size); have r1 := hx.cell r1; have HqoV := Lib.hid (HY3.out.own Hqo.out); have HbV3 : Hid (BoxT 32 V3 bs (.slice ap p.length cp) (.slice avn i cvn)) := Lib.hid (by have := Hbn0.out.ext HY3.out; rw [Hnl.out] at this; exact this); have r1a := ((Ext.refl V3).alloc (.cells #[.slice au p.length cu] 41)).cell r1; clear ho hx
      refine hK.out _ _ (⟨HE3.out, (HSQ.out _ (HE3.out)).2.1, (HSQ.out _ (HE3.out)).2.2, r1⟩) (fun hHeld => ?_)
      clear hK K
      refine anyZ_step (i := 11) (by kernel_rfl) rfl (fun K hK => ?_)
      go_simp
      refine hK.out _ _ (⟨HE3.out.alloc _, (HSQ.out _ (HE3.out.alloc _)).2.1, (HSQ.out _ (HE3.out.alloc _)).2.2, r1a⟩) (fun hHeld => ?_)
      clear hK K
      refine anyZ_step (i := 12) (by kernel_rfl) rfl (fun K hK => ?_)
      refine step_append_lies _ rfl (.tmp 18) (.tmp 28) 30 rfl wa.heap.size 41 j0 (.slice none 0 0) 1 24 Tryz.underlying30 hj hy0 hy1 hy2 rfl (by decide) (.slice avn i cvn) i (qwc nts) (by simp [Act.eval]) (HqoV.out.alloc _) ⟨V3.heap.size, 0, none⟩ 1 1 [.slice au p.length cu] (by simp [Act.eval]) rfl (cell_one_new V3 _ _) (by simp [Value.oneCell']) (by decide) hm3 hm4 (HE3.out.alloc (.cells #[.slice au p.length cu] 41)).size _ rfl ?_; intro g4 c4 V4 hown4 hgrow4 hat4 hlt4; have hE4 := (HE3.out.alloc (.cells #[.slice au p.length cu] 41)).grown hgrow4 fun k hk => (World.ownsRow.lt (HqoV.out.alloc (.cells #[.slice au p.length cu] 41)) k hk).1; have hbV : BoxT 32 V4 bs (.slice ap p.length cp) (.slice avn i cvn) := kept_box (((Ext.refl V3).alloc _).heap HbV3.out) (HqoV.out.alloc (.cells #[.slice au p.length cu] 41)) (by decide) hgrow4; have d1 := hbV.c1; have e1 := hbV.fz 1; have HE4 := Lib.hid hE4; have Hgrow4 := Lib.hid hgrow4; have Hown4 := Lib.hid hown4; have Hbv4 := Lib.hid hbV; clear hE4 hgrow4 hown4 hat4 hlt4 hbV
      refine hK.out _ _ (⟨HE4.out, (HSQ.out _ (HE4.out)).2.1, (HSQ.out _ (HE4.out)).2.2, d1⟩) (fun hHeld => ?_)
      clear hK K
      refine anyZ_step (i := 13) (by kernel_rfl) rfl (fun K hK => ?_)
      go_simp
      refine hK.out _ _ (⟨HE4.out, (HSQ.out _ (HE4.out)).2.1, (HSQ.out _ (HE4.out)).2.2, d1⟩) (fun hHeld => ?_)
      clear hK K
      refine anyZ_last (i := 14) (by kernel_rfl) (by decide) rfl (fun K hK => ?_)
      go_simp
      refine hK.out _ _ ?_
      clear hK K
      refine anyZ_done (by kernel_rfl) ?_
      all_goals
        have hqk := HY3.out.qwM Hqn.out
        rw [Hnl.out] at hqk
        have hR := NtR.more (W6 := wa) (W := V3) (v7 := .slice (some ⟨g4, 0, none⟩) (i + 1) c4) (by have := Hsz.out; have := Hbn.out; omega) HbV3.out hqk Hmn.out HE3.out Ho3.out (by rw [Hnl.out]; exact Hown4.out) Hgrow4.out
        rw [← Hmt.out] at hR
        have HR := Lib.hid hR
        clear hR hqk d1 e1
        generalize V4.setCell ⟨bs, 1, none⟩ (.slice (some ⟨g4, 0, none⟩) (i + 1) c4) = V5 at *
        go_wp2_with fail
        go_roundw
        case rel => exact ⟨i + 1, by go_num, by omega, HR.out⟩
        case measure => simp [intOf]; omega
    · obtain rfl : n = i := by omega
      have hik : ¬ (n : Int) + 1 ≤ (n : Int) := by omega
      have hmn2 := hmn.trans Hmf.out
      obtain ⟨avn, cvn, rfl⟩ := own_shape hqn.1
      have r0 := hbn.c0
      have r1 := hbn.c1
      have hbr := HB2.out.ext hEn
      have hK : K0 32 w wr (w.heap.size + 1) := ⟨HE0.out.trans hEn, _, _, hbr⟩
      have k0 := hK.res.c0; have k1 := hK.res.c1; have z0 := hK.res.fz 0; have z1 := hK.res.fz 1
      have hfin := hK.fin (by omega) (.slice ap p.length cp) (.slice avn nts.length cvn)
      have hq4 := (hqn.set hbr 0 (.slice ap p.length cp)).set (BoxT.put0 hbr (.slice ap p.length cp)) 1 (.slice avn nts.length cvn)
      have Hfin := Lib.hid hfin; have Hq4 := Lib.hid hq4; have Hmn2 := Lib.hid hmn2
      clear hfin hq4 hmn2 hK hbr hqn hbn hmn hEn
      go_wp2_with fail
      obtain ⟨hb5, hx5⟩ := Hfin.out
      have hd0 := hb5.c0
      have hd1 := hb5.c1
      exact bodyPost_ret (v := .agg #[.slice ap p.length cp, .slice avn nts.length cvn]) (by simp [results, Tryz.results48, go_sem, hd0, hd1]) rfl ⟨_, _, _, _, nts, rfl, ⟨_, _, rfl, Hpl.out _ hx5, Hq4.out.rd⟩, Hmn2.out, hx5⟩
end Go.Proofs.YtaakmdjicocjpaaGreatDoor

namespace Go.Proofs.YtaakmdjicocjpaaGreatDoor
open Go.RowKit Go.Lib Go.Shelf

/-- A box of a scale that holds nothing yet. -/
def Empt (w : World) (c : Nat) : Prop := BoxT 32 w c (.slice none 0 0) (.slice none 0 0)
theorem Empt.cell {w : World} {c : Nat} (h : Empt w c) {ad : Addr} {u : Value} (hu : w.cell? ad = some u) (hn : u ≠ .slice none 0 0) (x y : Value) : ((w.setCell ⟨c, 0, none⟩ x).setCell ⟨c, 1, none⟩ y).cell? ad = some u := by
  have n0 : ad ≠ ⟨c, 0, none⟩ := fun e => hn (by rw [e, BoxT.c0 h] at hu; exact (Option.some.inj hu).symm)
  have n1 : ad ≠ ⟨c, 1, none⟩ := fun e => hn (by rw [e, BoxT.c1 h] at hu; exact (Option.some.inj hu).symm)
  rw [World.cell?_setCell_other _ _ _ _ (Ne.symm n1), World.cell?_setCell_other _ _ _ _ (Ne.symm n0)]
  exact hu
theorem Empt.sl {w : World} {c : Nat} (h : Empt w c) {v : Value} {xs : List Value} (hs : Sl w v xs) (hn : ∀ u ∈ xs, u ≠ .slice none 0 0) (x y : Value) : Sl ((w.setCell ⟨c, 0, none⟩ x).setCell ⟨c, 1, none⟩ y) v xs := by
  rcases hs with g | ⟨b, off, cap, hv, h1, h2, hc⟩
  · exact .inl g
  · exact .inr ⟨b, off, cap, hv, h1, h2, fun i u hu => h.cell (hc i u hu) (hn u (List.mem_of_getElem? hu)) x y⟩
theorem Empt.rd {w : World} {c : Nat} (h : Empt w c) {v : Value} {z : List Rat} (hs : Rd w v z) (x y : Value) : Rd ((w.setCell ⟨c, 0, none⟩ x).setCell ⟨c, 1, none⟩ y) v z := by
  rcases hs with g | ⟨b, off, cap, hv, h1, h2, hc⟩
  · exact .inl g
  · exact .inr ⟨b, off, cap, hv, h1, h2, fun i r hr => ⟨h.cell (hc i r hr).1 (by simp) x y, h.cell (hc i r hr).2 (by simp) x y⟩⟩
theorem Empt.scV {w : World} {c : Nat} (h : Empt w c) {v : Value} {p : List Int} {rs : List Qw} (hs : ScV w v p rs) (hl : ∀ r ∈ rs, r.x ≠ []) (x y : Value) : ScV ((w.setCell ⟨c, 0, none⟩ x).setCell ⟨c, 1, none⟩ y) v p rs := by
  obtain ⟨vp, vn, e, h1, h2, h3⟩ := hs
  refine ⟨vp, vn, e, h.sl h1 (fun u hu => ?_) x y, h.sl h2 (fun u hu => ?_) x y, fun r hr => h.rd (h3 r hr) x y⟩
  · unfold i64s at hu
    obtain ⟨z, _, rfl⟩ := List.mem_map.1 hu
    simp
  · unfold qwc at hu
    obtain ⟨r, hr, rfl⟩ := List.mem_map.1 hu
    have hrd := h3 r hr
    have hne := hl r hr
    intro e
    rw [e] at hrd
    rcases hrd with ⟨a, cap, e2, _, e3⟩ | ⟨b, off, cap, e2, _⟩
    · exact hne e3
    · cases e2
theorem Empt.box {w : World} {c d : Nat} {u v : Value} (h : BoxT 32 w d u v) (hne : d ≠ c) (x y : Value) : BoxT 32 ((w.setCell ⟨c, 0, none⟩ x).setCell ⟨c, 1, none⟩ y) d u v := h.past hne x y
/-- Two worlds' scales in boxes of their own. -/
def TwoCut (W : World) (a b : Wl) (v7 v8 : Value) (wx : World) : Prop := ∃ p7 p8 a1 c1 b1 d1 a2 c2 b2 d2, ∃ (o1 o2 : List Qw), v7 = .pointer (some ⟨p7, 0, none⟩) ∧ v8 = .pointer (some ⟨p8, 0, none⟩) ∧ BoxT 32 wx p7 (.slice a1 a.p.length c1) (.slice b1 o1.length d1) ∧ BoxT 32 wx p8 (.slice a2 b.p.length c2) (.slice b2 o2.length d2) ∧
  ScV wx (.agg #[.slice a1 a.p.length c1, .slice b1 o1.length d1]) a.p o1 ∧ ScV wx (.agg #[.slice a2 b.p.length c2, .slice b2 o2.length d2]) b.p o2 ∧ Coll a.p a.sizes (o1.map Qw.x) ∧ Coll b.p b.sizes (o2.map Qw.x) ∧ Ext W wx
theorem wl_ne (a : Wl) {o : List Qw} (h : Coll a.p a.sizes (o.map Qw.x)) : ∀ r ∈ o, r.x ≠ [] := fun r hr e => by
  have h1 := (wl_wd a h).len _ (List.mem_map_of_mem hr)
  have h2 := (pr_one a.pw.pr).2
  rw [e] at h1
  simp at h1
  omega
/-- Both boxes are filled at the end. -/
theorem two_fill {W w : World} {a b : Wl} {p7 p8 : Nat} {a1 b1 a2 b2 : Option Addr} {c1 d1 c2 d2 : Nat} {o1 o2 : List Qw} (h7 : Empt w p7) (h8 : Empt w p8) (hne : p7 ≠ p8) (hW7 : W.heap.size ≤ p7) (hW8 : W.heap.size ≤ p8)
    (s1 : ScV w (.agg #[.slice a1 a.p.length c1, .slice b1 o1.length d1]) a.p o1) (s2 : ScV w (.agg #[.slice a2 b.p.length c2, .slice b2 o2.length d2]) b.p o2) (k1 : Coll a.p a.sizes (o1.map Qw.x)) (k2 : Coll b.p b.sizes (o2.map Qw.x)) (hE : Ext W w) :
    TwoCut W a b (.pointer (some ⟨p7, 0, none⟩)) (.pointer (some ⟨p8, 0, none⟩)) ((((w.setCell ⟨p7, 0, none⟩ (.slice a1 a.p.length c1)).setCell ⟨p7, 1, none⟩ (.slice b1 o1.length d1)).setCell ⟨p8, 0, none⟩ (.slice a2 b.p.length c2)).setCell ⟨p8, 1, none⟩ (.slice b2 o2.length d2)) := by
  have f1 := wl_ne a k1
  have f2 := wl_ne b k2
  have e8 : Empt ((w.setCell ⟨p7, 0, none⟩ (.slice a1 a.p.length c1)).setCell ⟨p7, 1, none⟩ (.slice b1 o1.length d1)) p8 := BoxT.past h8 (Ne.symm hne) _ _
  exact ⟨p7, p8, a1, c1, b1, d1, a2, c2, b2, d2, o1, o2, rfl, rfl, (BoxT.put h7 _ _).past hne _ _, BoxT.put e8 _ _, e8.scV (h7.scV s1 f1 _ _) f1 _ _, e8.scV (h7.scV s2 f2 _ _) f2 _ _, k1, k2, ((hE.setCell hW7 _).setCell hW7 _).setCell hW8 _ |>.setCell hW8 _⟩

/-- The least index from k on at which a mode of the scale is another scale, or -1. -/
def LastAt (p q : List Int) (N M : List (List Rat)) (k : Nat) (z : Int) : Prop :=
  (z = -1 ∧ ∀ j : Nat, k ≤ j → j < N.length → ¬ (p = q ∧ md p N (j : Int) = M)) ∨ ∃ i : Nat, z = i ∧ k ≤ i ∧ i < N.length ∧ (p = q ∧ md p N (i : Int) = M) ∧ ∀ j : Nat, k ≤ j → j < i → ¬ (p = q ∧ md p N (j : Int) = M)
theorem LastAt.start (p q : List Int) (N M : List (List Rat)) : LastAt p q N M N.length (-1) := .inl ⟨rfl, fun j h1 h2 => by omega⟩
theorem LastAt.yes {p q : List Int} {N M : List (List Rat)} {k : Nat} {z : Int} (_h : LastAt p q N M (k + 1) z) (hk : k < N.length) (g : p = q ∧ md p N (k : Int) = M) : LastAt p q N M k k := .inr ⟨k, rfl, Nat.le_refl _, hk, g, fun j h1 h2 => by omega⟩
theorem LastAt.no {p q : List Int} {N M : List (List Rat)} {k : Nat} {z : Int} (h : LastAt p q N M (k + 1) z) (g : ¬ (p = q ∧ md p N (k : Int) = M)) : LastAt p q N M k z := by
  rcases h with ⟨e, h⟩ | ⟨i, e, h1, h2, h3, h4⟩
  · refine .inl ⟨e, fun j h1 h2 => ?_⟩
    by_cases q' : j = k
    · rw [q']; exact g
    · exact h j (by omega) h2
  · refine .inr ⟨i, e, by omega, h2, h3, fun j g1 g2 => ?_⟩
    by_cases q' : j = k
    · rw [q']; exact g
    · exact h4 j (by omega) g2
/-- What the program and the law find is the same. -/
theorem rot_last {p q : List Int} {N M : List (List Rat)} {k z : Int} {b : Bool} (h : RotAt p q N M k b) (g : LastAt p q N M 0 z) : (b = false ∧ k = 0 ∧ z = -1) ∨ (b = true ∧ ∃ i : Nat, k = i ∧ z = i) := by
  rcases h with ⟨e1, e2, h⟩ | ⟨e1, i, e2, h1, h2, h3, h4⟩
  · rcases g with ⟨e3, _⟩ | ⟨j, _, _, g1, g2, _⟩
    · exact .inl ⟨e1, e2, e3⟩
    · exact absurd g2 (h j g1)
  · rcases g with ⟨_, g⟩ | ⟨j, e3, _, g1, g2, g3⟩
    · exact absurd ⟨h2, h3⟩ (g i (Nat.zero_le _) h1)
    · refine .inr ⟨e1, i, e2, ?_⟩
      rcases Nat.lt_trichotomy i j with l | l | l
      · exact absurd ⟨h2, h3⟩ (g3 i (Nat.zero_le _) l)
      · rw [e3, l]
      · exact absurd g2 (h4 j l)
end Go.Proofs.YtaakmdjicocjpaaGreatDoor
