/- Plain: an insertion sort by a key; lists in order. Walks: checkQuotient, Floor, Remainder by the octave. Walk: Remainder by the octave. -/
import Derived.Test.YtaakmdjicocjpaaGreatDoorPaI
import Derived.Test.YtaakmdjicocjpaaGreatDoorPaQ
import Derived.Deep.DeepCutAuto
namespace Go.Proofs.YtaakmdjicocjpaaGreatDoor

section
variable {α : Type} (key : α → Rat)
/-- The first ones, up to i, are in order, but for the one at k. -/
def SAt (ps : List α) (i k : Nat) : Prop := ∀ a b x y, a < b → b ≤ i → b ≠ k → ps[a]? = some x → ps[b]? = some y → key x ≤ key y
def STo (ps : List α) (i : Nat) : Prop := ∀ a b x y, a < b → b < i → ps[a]? = some x → ps[b]? = some y → key x ≤ key y
variable {key}
theorem sTo_one (ps : List α) : STo key ps 1 := fun a b x y h1 h2 => by omega
theorem sTo_zero (ps : List α) : STo key ps 0 := fun a b x y h1 h2 => by omega
theorem s_start {ps : List α} {i : Nat} (h : STo key ps i) : SAt key ps i i := fun a b x y h1 h2 h3 => h a b x y h1 (by omega)
theorem s_end0 {ps : List α} {i : Nat} (h : SAt key ps i 0) : STo key ps (i + 1) := fun a b x y h1 h2 => h a b x y h1 (by omega) (by omega)
theorem s_end {ps : List α} {i k : Nat} {x y : α} (h : SAt key ps i (k + 1)) (hx : ps[k + 1]? = some x) (hy : ps[k]? = some y) (hle : key y ≤ key x) : STo key ps (i + 1) := by
  intro a b u v h1 h2 ha hb
  by_cases hbk : b = k + 1
  · subst hbk
    rw [hx] at hb; cases hb
    by_cases hak : a = k
    · subst hak
      rw [hy] at ha; cases ha; exact hle
    · exact Rat.le_trans (h a k u y (by omega) (by omega) (by omega) ha hy) hle
  · exact h a b u v h1 (by omega) hbk ha hb
theorem s_swap_at {l : List α} {k : Nat} {x y : α} (hx : l[k + 1]? = some x) (j : Nat) : ((l.set (k + 1) y).set k x)[j]? = if j = k then some x else if j = k + 1 then some y else l[j]? := by
  have hl : k + 1 < l.length := (List.getElem?_eq_some_iff.1 hx).1
  rw [List.getElem?_set, List.getElem?_set, List.length_set]
  by_cases h1 : k = j
  · rw [if_pos h1, if_pos h1.symm, if_pos (by omega)]
  · rw [if_neg h1, if_neg (c := j = k) (fun h => h1 h.symm)]
    by_cases h2 : k + 1 = j
    · rw [if_pos h2, if_pos h2.symm, if_pos (by omega)]
    · rw [if_neg h2, if_neg (c := j = k + 1) (fun h => h2 h.symm)]
theorem s_swap {ps : List α} {i k : Nat} {x y : α} (h : SAt key ps i (k + 1)) (hx : ps[k + 1]? = some x) (hy : ps[k]? = some y) (hlt : key x ≤ key y) : SAt key ((ps.set (k + 1) y).set k x) i k := by
  intro a b u v h1 h2 h3 ha hb
  rw [s_swap_at hx] at ha hb
  rw [if_neg h3] at hb
  by_cases hb1 : b = k + 1
  · rw [if_pos hb1] at hb
    cases hb
    by_cases ha1 : a = k
    · rw [if_pos ha1] at ha
      cases ha
      exact hlt
    · rw [if_neg ha1, if_neg (by omega)] at ha
      exact h a k u y (by omega) (by omega) (by omega) ha hy
  · rw [if_neg hb1] at hb
    by_cases ha1 : a = k
    · rw [if_pos ha1] at ha
      cases ha
      exact h (k + 1) b x v (by omega) h2 hb1 hx hb
    · rw [if_neg ha1] at ha
      by_cases ha2 : a = k + 1
      · rw [if_pos ha2] at ha
        cases ha
        exact h k b y v (by omega) h2 hb1 hy hb
      · rw [if_neg ha2] at ha
        exact h a b u v h1 h2 hb1 ha hb
theorem s_swap_perm : ∀ {l : List α} {k : Nat} {x y : α}, l[k + 1]? = some x → l[k]? = some y → ((l.set (k + 1) y).set k x).Perm l
  | [], _, _, _, h, _ => by simp at h
  | [_], 0, _, _, h, _ => by simp at h
  | b :: a :: t, 0, x, y, h1, h2 => by
    simp at h1 h2
    subst h1 h2
    exact List.Perm.swap ..
  | c :: t, k + 1, x, y, h1, h2 => by
    simp only [List.getElem?_cons_succ] at h1 h2
    simp only [List.set_cons_succ]
    exact (s_swap_perm h1 h2).cons c
theorem s_pairwise {ps : List α} (h : STo key ps ps.length) : ps.Pairwise fun x y => key x ≤ key y := by
  rw [List.pairwise_iff_getElem]
  intro i j hi hj hij
  exact h i j _ _ hij hj (List.getElem?_eq_getElem hi) (List.getElem?_eq_getElem hj)
end

/-- Sizes from low to high. -/
def Srt (p : List Int) (N : List (List Rat)) : Prop := N.Pairwise fun x y => sF p x < sF p y
theorem srt_uniq {p : List Int} : ∀ {N M : List (List Rat)}, Srt p N → Srt p M → (∀ x, x ∈ N ↔ x ∈ M) → N = M
  | [], [], _, _, _ => rfl
  | [], b :: M, _, _, h => by have := (h b).2 (List.mem_cons_self ..); cases this
  | a :: N, [], _, _, h => by have := (h a).1 (List.mem_cons_self ..); cases this
  | a :: N, b :: M, h1, h2, h => by
    have h1' := h1; have h2' := h2
    unfold Srt at h1' h2'
    rw [List.pairwise_cons] at h1' h2'
    have e : a = b := by
      rcases List.mem_cons.1 ((h a).1 (List.mem_cons_self ..)) with e | ha
      · exact e
      · rcases List.mem_cons.1 ((h b).2 (List.mem_cons_self ..)) with e | hb
        · exact e.symm
        · have g1 := h2'.1 a ha
          have g2 := h1'.1 b hb
          exfalso
          grind
    subst e
    rw [srt_uniq (N := N) (M := M) h1'.2 h2'.2 fun x => ?_]
    constructor
    · intro hx
      rcases List.mem_cons.1 ((h x).1 (List.mem_cons_of_mem _ hx)) with rfl | g
      · have := h1'.1 x hx
        exfalso
        grind
      · exact g
    · intro hx
      rcases List.mem_cons.1 ((h x).2 (List.mem_cons_of_mem _ hx)) with rfl | g
      · have := h2'.1 x hx
        exfalso
        grind
      · exact g
theorem srt_of_perm {p : List Int} {N M : List (List Rat)} (h : N.Perm M) (h1 : N.Pairwise fun x y => sF p x ≤ sF p y) (h2 : M.Nodup) (h3 : ∀ x ∈ M, ∀ y ∈ M, sF p x = sF p y → x = y) : Srt p N := by
  have hn : N.Nodup := h.nodup_iff.2 h2
  unfold Srt
  have := List.Pairwise.and h1 hn
  refine List.Pairwise.imp_of_mem ?_ this
  intro a b ha hb ⟨g1, g2⟩
  have : sF p a ≠ sF p b := fun e => g2 (h3 a (h.mem_iff.1 ha) b (h.mem_iff.1 hb) e)
  grind
end Go.Proofs.YtaakmdjicocjpaaGreatDoor

namespace Go.Proofs.YtaakmdjicocjpaaGreatDoor
open Go.RowKit Go.Lib

attribute [local go_sem] Oper.semAt_some

theorem sum_k {n : Nat} {x y : List Rat} (k : Rat) (hx : x.length = n) (hy : y.length = n) : sumTo n [x, y] [1, k] 2 = addZ x (mulZ y k) := by
  subst hx
  show stepQ (stepQ (List.replicate x.length 0) x 1) y k = addZ x (mulZ y k)
  unfold stepQ addZ mulZ
  apply List.ext_getElem
  · simp
  · intro i h1 h2
    simp only [List.getElem_zipWith, List.getElem_replicate, List.getElem_map]
    grind

set_option maxRecDepth 100000 in
set_option maxHeartbeats 2000000 in
theorem checkQ_c (vp va vb : Value) (p : List Int) (a : List Rat) (n : Nat) (w : World) (he : Env w) (hp : Sl w vp (i64s p)) (ha : Rd w va a) (hb : Rd w vb (ov n)) (hpe : primesErr p = 0) (hpr : Pr p (n + 1)) (hal : a.length = n + 1) (hf : ∀ q ∈ a, Ft 30 q) :
    Calls Tryz.prog 162 #[vp, va, vb] w fun e w' => e = .returned (.int .i64 0) ∧ Ext w w' := by
  have hpl := pr_len hpr
  have hov := ov_tms hpr
  have hua := rd_one ha
  have hub := rd_one hb
  have hpl3 : p.length ≤ 3 := by rcases hpr with ⟨rfl, _⟩ | ⟨rfl, _⟩ <;> simp
  have h2 := fun W (h : Ext w W) => termsOf_c vp vb p (ov n) W (he.ext h) (h.sl hp) (h.rd hb) (by omega) (by rw [ov_len, hpl]) (fun q h => (ov_ft q h).mono (by omega))
  rw [hov.1, hov.2] at h2
  have hl3 : RdM (w.alloc (.cells #[va, vb] 41)) (.slice (some ⟨w.heap.size, 0, none⟩) 2 2) [⟨a, va, hua⟩, ⟨ov n, vb, hub⟩] :=
    ⟨sl_cells (us := [va, vb]) (World.alloc_heap_new w _) (by unfold maxLen; simp), by
      intro r hr
      rcases List.mem_cons.1 hr with rfl | hr
      · exact ((Ext.refl w).alloc _).rd ha
      · rw [List.mem_singleton] at hr; subst hr; exact ((Ext.refl w).alloc _).rd hb⟩
  have hbl : Ext w (w.alloc (.cells #[va, vb] 41)) := (Ext.refl w).alloc _
  have h1 := sCheckAll_c vp _ p [⟨a, va, hua⟩, ⟨ov n, vb, hub⟩] _ (he.ext hbl) (hbl.sl hp) hl3 hpe (by simp) (by
      intro r hr
      rcases List.mem_cons.1 hr with rfl | hr
      · exact ⟨by rw [hpl]; exact hal, hf⟩
      · rw [List.mem_singleton] at hr; subst hr; exact ⟨by rw [hpl]; exact ov_len n, fun q h => (ov_ft q h).mono (by omega)⟩)
  obtain ⟨ap, cp, rfl, _, _, _⟩ := hp.parts
  obtain ⟨aa, ca, rfl, _, _, _⟩ := ha.parts
  obtain ⟨ab, cb, rfl, _, _, _⟩ := hb.parts
  clear hp ha hb he hpe hpr hf hov hl3 hua hub hpl hpl3 hal
  have H1 := Lib.hid h1; have H2 := Lib.hid h2; have Hbl := Lib.hid hbl; clear h1 h2 hbl
  go_enter Tryz.func162, Tryz.ntmps162
  go_wp2_with fail
  refine H1.out.mono ?_
  rintro e w1 ⟨rfl, hx1⟩
  have Hx1 := Lib.hid (Hbl.out.trans hx1)
  clear hx1
  go_wp2_with fail
  refine (H2.out w1 Hx1.out).mono ?_
  rintro e w2 ⟨tv, rfl, ht, hx2⟩
  have Hx2 := Lib.hid (Hx1.out.trans hx2)
  obtain ⟨vc, vd, rfl, hp1, hf1⟩ := ht
  obtain ⟨ac, cc, rfl, _, _, _⟩ := hp1.parts
  obtain ⟨ad, cd, rfl, _, _, _⟩ := hf1.parts
  rw [show (i64s (([(2, 1)] : List (Int × Int)).map Prod.fst)).length = 1 from rfl]
  clear hp1 hf1 hx2
  have hfield : ∀ (u v x : Value) W, (Instr.field 170 (.agg #[u, v, x]) 0).run Tryz.prog W = .ok u W := fun u v x W => rfl
  rw [show (strs (([(2, 1)] : List (Int × Int)).map Prod.snd)).length = 1 from rfl]
  go_wp2
  go_ret
  exact ⟨rfl, Hx2.out⟩

set_option maxRecDepth 100000 in
set_option maxHeartbeats 1000000 in
theorem sFloor_c (vp va vb : Value) (p : List Int) (a0 : Rat) (tl : List Rat) (w : World) (he : Env w) (hp : Sl w vp (i64s p)) (ha : Rd w va (a0 :: tl)) (hb : Rd w vb (ov tl.length)) (hpe : primesErr p = 0) (hpr : Pr p (tl.length + 1)) (hf : ∀ q ∈ a0 :: tl, Ft 30 q) (hq : QF p (a0 :: tl)) :
    Calls Tryz.prog 130 #[vp, va, vb] w fun e w' => e = .returned (.tuple #[.string (I (flP p (a0 :: tl))), .int .i64 0]) ∧ Ext w w' := by
  have h1 := checkQ_c vp va vb p (a0 :: tl) tl.length w he hp ha hb hpe hpr rfl hf
  have h2 := fun W (h : Ext w W) => floor_c vp va vb p a0 tl W (he.ext h) (h.sl hp) (h.rd ha) (h.rd hb) hpr hf hq
  generalize I (flP p (a0 :: tl)) = sf at *
  obtain ⟨ap, cp, rfl, _, _, _⟩ := hp.parts
  obtain ⟨aa, ca, rfl, _, _, _⟩ := ha.parts
  obtain ⟨ab, cb, rfl, _, _, _⟩ := hb.parts
  clear hp ha hb he hpe hpr hf hq
  have H1 := Lib.hid h1; have H2 := Lib.hid h2; clear h1 h2
  go_enter Tryz.func130, Tryz.ntmps130
  go_wp2_with fail
  refine (H1.out).mono ?_
  rintro e w1 ⟨rfl, hx1⟩
  have Hx1 := Lib.hid hx1; clear hx1
  go_wp2_with fail
  refine (H2.out w1 Hx1.out).mono ?_
  rintro e w2 ⟨rfl, hx2⟩
  have Hx2 := Lib.hid (Hx1.out.trans hx2); clear hx2
  go_wp2
  go_ret2
  exact ⟨rfl, Hx2.out⟩

end Go.Proofs.YtaakmdjicocjpaaGreatDoor

namespace Go.Proofs.YtaakmdjicocjpaaGreatDoor
open Go.RowKit Go.Lib

attribute [local go_sem] Oper.semAt_some

/-- What the last region leaves. -/
def RemC (w : World) (n : Nat) (r : List Rat) (v6 v7 : Value) (wx : World) : Prop := ∃ g, v6 = .slice (some ⟨g, 0, none⟩) n n ∧ v7 = .int .i64 0 ∧ OwnQ wx w.heap.size (.slice (some ⟨g, 0, none⟩) n n) r ∧ Ext w wx

set_option maxRecDepth 100000 in
set_option maxHeartbeats 2000000 in
theorem sRem_c (vp va vb : Value) (p : List Int) (a0 : Rat) (tl : List Rat) (w : World) (he : Env w) (hp : Sl w vp (i64s p)) (ha : Rd w va (a0 :: tl)) (hb : Rd w vb (ov tl.length)) (hpe : primesErr p = 0) (hpr : Pr p (tl.length + 1)) (hf : ∀ q ∈ a0 :: tl, Ft 30 q) (hq : QF p (a0 :: tl)) (hk : Ft 400 ((-flP p (a0 :: tl) : Int) : Rat)) (hfl : Fit (flP p (a0 :: tl)))
    (hres : ∀ q ∈ addZ (a0 :: tl) (mulZ (ov tl.length) ((-flP p (a0 :: tl) : Int) : Rat)), Ft 30 q) :
    Calls Tryz.prog 131 #[vp, va, vb] w fun e w' => ∃ g, e = .returned (.tuple #[.slice (some ⟨g, 0, none⟩) p.length p.length, .int .i64 0]) ∧ OwnQ w' w.heap.size (.slice (some ⟨g, 0, none⟩) p.length p.length) (addZ (a0 :: tl) (mulZ (ov tl.length) ((-flP p (a0 :: tl) : Int) : Rat))) ∧ Ext w w' := by
  have hpl := pr_len hpr
  have hpl3 : p.length ≤ 3 := by rcases hpr with ⟨rfl, _⟩ | ⟨rfl, _⟩ <;> simp
  have hua := rd_one ha
  have hub := rd_one hb
  have h1 := checkQ_c vp va vb p (a0 :: tl) tl.length w he hp ha hb hpe hpr rfl hf
  have h2 := fun W (h : Ext w W) => floor_c vp va vb p a0 tl W (he.ext h) (h.sl hp) (h.rd ha) (h.rd hb) hpr hf hq
  have h3 := fun W => wneg_c (flP p (a0 :: tl)) W hfl
  have hxl : (a0 :: tl).length = p.length := by rw [hpl]; rfl
  have hyl : (ov tl.length).length = p.length := by rw [hpl, ov_len]
  have hsum : sumTo p.length [a0 :: tl, ov tl.length] [1, ((-flP p (a0 :: tl) : Int) : Rat)] 2 = addZ (a0 :: tl) (mulZ (ov tl.length) ((-flP p (a0 :: tl) : Int) : Rat)) := sum_k _ hxl hyl
  have hsl : (addZ (a0 :: tl) (mulZ (ov tl.length) ((-flP p (a0 :: tl) : Int) : Rat))).length = p.length := by unfold addZ mulZ; rw [List.length_zipWith, List.length_map, hxl, hyl, Nat.min_self]
  have hco : ∀ W vl vf, Ext w W → RdM W vl [⟨a0 :: tl, va, hua⟩, ⟨ov tl.length, vb, hub⟩] → Rd W vf [1, ((-flP p (a0 :: tl) : Int) : Rat)] → Calls Tryz.prog 118 #[.int .i64 (p.length : Int), vl, vf] W fun e w' => ∃ g, e = .returned (.slice (some ⟨g, 0, none⟩) p.length p.length) ∧ OwnQ w' W.heap.size (.slice (some ⟨g, 0, none⟩) p.length p.length) (addZ (a0 :: tl) (mulZ (ov tl.length) ((-flP p (a0 :: tl) : Int) : Rat))) ∧ Ext W w' := by
    intro W vl vf hE hl hff
    have := sum_c p.length vl vf [⟨a0 :: tl, va, hua⟩, ⟨ov tl.length, vb, hub⟩] [1, ((-flP p (a0 :: tl) : Int) : Rat)] W (he.ext hE) hl hff (by omega) (by simp) (by simp) (by
      intro r hr
      rcases List.mem_cons.1 hr with rfl | hr
      · exact ⟨hxl, fun q h => (hf q h).mono (by omega)⟩
      · rw [List.mem_singleton] at hr; subst hr; exact ⟨hyl, fun q h => (ov_ft q h).mono (by omega)⟩) (by
      intro f hf
      simp only [List.mem_cons, List.not_mem_nil, or_false] at hf
      rcases hf with rfl | rfl
      · exact ft_one
      · exact hk)
    change Calls _ _ _ _ fun e w' => e = .returned (.slice (some ⟨W.heap.size, 0, none⟩) p.length p.length) ∧ OwnQ w' W.heap.size (.slice (some ⟨W.heap.size, 0, none⟩) p.length p.length) (sumTo p.length [a0 :: tl, ov tl.length] [1, ((-flP p (a0 :: tl) : Int) : Rat)] 2) ∧ Ext W w' at this
    rw [hsum] at this
    exact this.mono fun e w' h => ⟨_, h⟩
  have hre := fun W v (hv : Rd W v (addZ (a0 :: tl) (mulZ (ov tl.length) ((-flP p (a0 :: tl) : Int) : Rat)))) => result_c v _ W hv (by rw [hsl]; omega) hres
  have hn1 := fun W (h : Ext w W) => number_c 1 W (he.ext h) (by omega) (by omega)
  rw [Rv_int] at hn1
  have hone : rcs [1, ((-flP p (a0 :: tl) : Int) : Rat)] = [.string (I 1), .string ⟨#[49]⟩, .string (I (-flP p (a0 :: tl))), .string ⟨#[49]⟩] := by
    show [Value.string (I 1), .string (I ((1 : Nat) : Int)), .string (I _), .string (I _)] = _
    have e := Rv_int (-flP p (a0 :: tl))
    unfold Rv at e
    injection e with e
    have e2 : ([.string (I ((-flP p (a0 :: tl) : Int) : Rat).num), .string (I ((((-flP p (a0 :: tl) : Int) : Rat).den : Nat) : Int))] : List Value) = [.string (I (-flP p (a0 :: tl))), .string ⟨#[49]⟩] := by injection e
    injection e2 with e3 e4
    injection e4 with e4 _
    rw [e3, e4, I_nat, D_one]
  generalize addZ (a0 :: tl) (mulZ (ov tl.length) ((-flP p (a0 :: tl) : Int) : Rat)) = r at *
  generalize ((-flP p (a0 :: tl) : Int) : Rat) = kq at *
  have hra := fun W (h : Ext w W) => h.rd ha
  have hrb := fun W (h : Ext w W) => h.rd hb
  generalize I (-flP p (a0 :: tl)) = sk at *
  generalize I (flP p (a0 :: tl)) = sf at *
  generalize I 1 = s1 at *
  have hol := ov_len tl.length
  obtain ⟨ap, cp, rfl, _, _, _⟩ := hp.parts
  obtain ⟨aa, ca, rfl, _, _, _⟩ := ha.parts
  obtain ⟨ab, cb, rfl, _, _, _⟩ := hb.parts
  rw [i64s_length] at h1 h2 ⊢
  clear hp ha hb he hpe hpr hf hq hk hfl hres hsum hxl hyl hpl hpl3 hol
  generalize (a0 :: tl).length = n1 at *
  generalize (ov tl.length).length = n2 at *
  have H1 := Lib.hid h1; have H2 := Lib.hid h2; have H3 := Lib.hid h3; have Hco := Lib.hid hco; have Hre := Lib.hid hre; have Hn1 := Lib.hid hn1; have Hone := Lib.hid hone; have Hra := Lib.hid hra; have Hrb := Lib.hid hrb; have Hsl := Lib.hid hsl; clear h1 h2 h3 hco hre hn1 hone hra hrb hsl
  go_enter Tryz.func131, Tryz.ntmps131
  go_wp2_with fail
  refine (H1.out).mono ?_
  rintro e w1 ⟨rfl, hx1⟩
  have Hx1 := Lib.hid hx1; clear hx1
  go_wp2_with fail
  refine (H2.out w1 Hx1.out).mono ?_
  rintro e w2 ⟨rfl, hx2⟩
  have Hx2 := Lib.hid (Hx1.out.trans hx2); clear hx2
  go_wp2_with fail
  refine (H3.out w2).mono ?_
  rintro e w3 ⟨rfl, hx3⟩
  have Hx3 := Lib.hid (Hx2.out.trans hx3); clear hx3
  have b9 := Box2.new w3 (.string sk) (.string ⟨#[49]⟩)
  have hE := Hx3.out.alloc (.cells #[.string sk, .string ⟨#[49]⟩] 97)
  have hs3 : w3.heap.size < (w3.alloc (.cells #[.string sk, .string ⟨#[49]⟩] 97)).heap.size := by simp
  go_wp2_with fail
  generalize w3.alloc (.cells #[.string sk, .string ⟨#[49]⟩] 97) = V at *
  generalize w3.heap.size = b at *
  have hc0 := b9.c0
  have hc1 := b9.c1
  have HE := Lib.hid hE
  have B9 := Lib.hid b9
  clear hE b9
  go_upto_region 5 with (fail)
  go_cut [6, 7] (fun v6 v7 wx => RemC w p.length r v6 v7 wx)
  case first =>
    go_region_held3 (fun w' => Ext V w' ∧ w'.cell? ⟨b, 0, none⟩ = some (.string sk) ∧ w'.cell? ⟨b, 1, none⟩ = some (.string ⟨#[49]⟩))
      (first | (with_reducible assumption) | exact ⟨(Ext.refl V).drew, hc0, hc1⟩ | exact ⟨Ext.trans (And.left (by assumption)) hxa, Ext.cell hxa (And.left (And.right (by assumption))), Ext.cell hxa (And.right (And.right (by assumption)))⟩ | exact ⟨Ext.alloc (And.left (by assumption)) _, Ext.cell ((Ext.refl _).alloc _) (And.left (And.right (by assumption))), Ext.cell ((Ext.refl _).alloc _) (And.right (And.right (by assumption)))⟩)
      (first
        | (go_at_call 64; refine (Hn1.out _ (HE.out.trans (And.left (by assumption)))).mono ?_; rintro e9 VA ⟨rfl, hxa⟩; have HxA := Lib.hid hxa)
        | (go_at_call 118
           have hck : Hid (Ext (V.alloc (.cells #[.slice aa n1 ca, .slice ab n2 cb] 41)).drew VA) := by with_reducible assumption
           clear hck
           have hbc : ((V.alloc (.cells #[.slice aa n1 ca, .slice ab n2 cb] 41)).drew).heap[V.heap.size]? = some (.cells ([.slice aa n1 ca, .slice ab n2 cb] : List Value).toArray 41 (0, 0)) := World.alloc_heap_new V _
           have hE0 : Ext V VA := (((Ext.refl V).alloc (.cells #[.slice aa n1 ca, .slice ab n2 cb] 41)).drew).trans HxA.out
           have hx3 : Ext VA (VA.alloc (.cells #[.string s1, .string ⟨#[49]⟩, .string sk, .string ⟨#[49]⟩] 97)) := (Ext.refl VA).alloc _
           have hE3 : Ext w (VA.alloc (.cells #[.string s1, .string ⟨#[49]⟩, .string sk, .string ⟨#[49]⟩] 97)) := (HE.out.trans hE0).trans hx3
           have hl3 : RdM (VA.alloc (.cells #[.string s1, .string ⟨#[49]⟩, .string sk, .string ⟨#[49]⟩] 97)) (.slice (some ⟨V.heap.size, 0, none⟩) 2 2) [⟨a0 :: tl, .slice aa n1 ca, hua⟩, ⟨ov tl.length, .slice ab n2 cb, hub⟩] :=
             ⟨sl_cells ((HxA.out.trans hx3).heap hbc) (by unfold maxLen; simp), by
               intro r hr
               rcases List.mem_cons.1 hr with rfl | hr
               · exact Hra.out _ hE3
               · rw [List.mem_singleton] at hr; subst hr; exact Hrb.out _ hE3⟩
           have hf3 : Rd (VA.alloc (.cells #[.string s1, .string ⟨#[49]⟩, .string sk, .string ⟨#[49]⟩] 97)) (.slice (some ⟨VA.heap.size, 0, none⟩) 2 2) [1, kq] :=
             rd_cells (x := [1, kq]) (by rw [Hone.out]; exact World.alloc_heap_new VA _) (by unfold maxLen; simp)
           refine (Hco.out _ _ _ hE3 hl3 hf3).mono ?_
           rintro e9 VB ⟨g, rfl, ho, hxa⟩
           have HoB := Lib.hid (ho.mono hE3.size)
           have HEB := Lib.hid (hE3.trans hxa)
           have hEV := (hE0.trans hx3).trans hxa
           have hS2 : Ext V VB ∧ VB.cell? ⟨b, 0, none⟩ = some (.string sk) ∧ VB.cell? ⟨b, 1, none⟩ = some (.string ⟨#[49]⟩) := ⟨hEV, hEV.cell hc0, hEV.cell hc1⟩
           have HEV := Lib.hid hEV
           clear hl3 hf3 hbc ho hE0 hx3 hE3 hEV hxa)
        | (go_at_call 118
           have hck2 : Ext V ((VA.alloc (.cells #[.slice aa n1 ca, .slice ab n2 cb] 41)).alloc (.cells #[.string s1, .string ⟨#[49]⟩, .string sk, .string ⟨#[49]⟩] 97)) ∧ ((VA.alloc (.cells #[.slice aa n1 ca, .slice ab n2 cb] 41)).alloc (.cells #[.string s1, .string ⟨#[49]⟩, .string sk, .string ⟨#[49]⟩] 97)).cell? ⟨b, 0, none⟩ = some (.string sk) ∧ ((VA.alloc (.cells #[.slice aa n1 ca, .slice ab n2 cb] 41)).alloc (.cells #[.string s1, .string ⟨#[49]⟩, .string sk, .string ⟨#[49]⟩] 97)).cell? ⟨b, 1, none⟩ = some (.string ⟨#[49]⟩) := by with_reducible assumption
           clear hck2
           have hbc : (VA.alloc (.cells #[.slice aa n1 ca, .slice ab n2 cb] 41)).heap[VA.heap.size]? = some (.cells ([.slice aa n1 ca, .slice ab n2 cb] : List Value).toArray 41 (0, 0)) := World.alloc_heap_new VA _
           have hE0 : Ext V (VA.alloc (.cells #[.slice aa n1 ca, .slice ab n2 cb] 41)) := (((Ext.refl V).drew).trans HxA.out).alloc _
           have hx3 : Ext (VA.alloc (.cells #[.slice aa n1 ca, .slice ab n2 cb] 41)) ((VA.alloc (.cells #[.slice aa n1 ca, .slice ab n2 cb] 41)).alloc (.cells #[.string s1, .string ⟨#[49]⟩, .string sk, .string ⟨#[49]⟩] 97)) := (Ext.refl _).alloc _
           have hE3 : Ext w ((VA.alloc (.cells #[.slice aa n1 ca, .slice ab n2 cb] 41)).alloc (.cells #[.string s1, .string ⟨#[49]⟩, .string sk, .string ⟨#[49]⟩] 97)) := (HE.out.trans hE0).trans hx3
           have hl3 : RdM ((VA.alloc (.cells #[.slice aa n1 ca, .slice ab n2 cb] 41)).alloc (.cells #[.string s1, .string ⟨#[49]⟩, .string sk, .string ⟨#[49]⟩] 97)) (.slice (some ⟨VA.heap.size, 0, none⟩) 2 2) [⟨a0 :: tl, .slice aa n1 ca, hua⟩, ⟨ov tl.length, .slice ab n2 cb, hub⟩] :=
             ⟨sl_cells (hx3.heap hbc) (by unfold maxLen; simp), by
             intro r hr
             rcases List.mem_cons.1 hr with rfl | hr
             · exact Hra.out _ hE3
             · rw [List.mem_singleton] at hr; subst hr; exact Hrb.out _ hE3⟩
           have hf3 : Rd ((VA.alloc (.cells #[.slice aa n1 ca, .slice ab n2 cb] 41)).alloc (.cells #[.string s1, .string ⟨#[49]⟩, .string sk, .string ⟨#[49]⟩] 97)) (.slice (some ⟨VA.heap.size + 1, 0, none⟩) 2 2) [1, kq] :=
             rd_cells (x := [1, kq]) (by rw [Hone.out]; have := World.alloc_heap_new (VA.alloc (.cells #[.slice aa n1 ca, .slice ab n2 cb] 41)) (.cells #[.string s1, .string ⟨#[49]⟩, .string sk, .string ⟨#[49]⟩] 97); rwa [World.size_alloc] at this) (by unfold maxLen; simp)
           refine (Hco.out _ _ _ hE3 hl3 hf3).mono ?_
           rintro e9 VB ⟨g, rfl, ho, hxa⟩
           have HoB2 := Lib.hid (ho.mono hE3.size)
           have HEB2 := Lib.hid (hE3.trans hxa)
           have hEV := (hE0.trans hx3).trans hxa
           have hS2 : Ext V VB ∧ VB.cell? ⟨b, 0, none⟩ = some (.string sk) ∧ VB.cell? ⟨b, 1, none⟩ = some (.string ⟨#[49]⟩) := ⟨hEV, hEV.cell hc0, hEV.cell hc1⟩
           have HEV2 := Lib.hid hEV
           clear hl3 hf3 hbc ho hE0 hx3 hE3 hEV hxa)
        | (go_at_call 118
           have hck2 : Ext V ((VA.alloc (.cells #[.string s1, .string ⟨#[49]⟩, .string sk, .string ⟨#[49]⟩] 97)).alloc (.cells #[.slice aa n1 ca, .slice ab n2 cb] 41)) ∧ ((VA.alloc (.cells #[.string s1, .string ⟨#[49]⟩, .string sk, .string ⟨#[49]⟩] 97)).alloc (.cells #[.slice aa n1 ca, .slice ab n2 cb] 41)).cell? ⟨b, 0, none⟩ = some (.string sk) ∧ ((VA.alloc (.cells #[.string s1, .string ⟨#[49]⟩, .string sk, .string ⟨#[49]⟩] 97)).alloc (.cells #[.slice aa n1 ca, .slice ab n2 cb] 41)).cell? ⟨b, 1, none⟩ = some (.string ⟨#[49]⟩) := by with_reducible assumption
           clear hck2
           have hbc : (VA.alloc (.cells #[.string s1, .string ⟨#[49]⟩, .string sk, .string ⟨#[49]⟩] 97)).heap[VA.heap.size]? = some (.cells (rcs [1, kq]).toArray 97 (0, 0)) := by rw [Hone.out]; exact World.alloc_heap_new VA _
           have hE0 : Ext V (VA.alloc (.cells #[.string s1, .string ⟨#[49]⟩, .string sk, .string ⟨#[49]⟩] 97)) := (((Ext.refl V).drew).trans HxA.out).alloc _
           have hx3 : Ext (VA.alloc (.cells #[.string s1, .string ⟨#[49]⟩, .string sk, .string ⟨#[49]⟩] 97)) ((VA.alloc (.cells #[.string s1, .string ⟨#[49]⟩, .string sk, .string ⟨#[49]⟩] 97)).alloc (.cells #[.slice aa n1 ca, .slice ab n2 cb] 41)) := (Ext.refl _).alloc _
           have hE3 : Ext w ((VA.alloc (.cells #[.string s1, .string ⟨#[49]⟩, .string sk, .string ⟨#[49]⟩] 97)).alloc (.cells #[.slice aa n1 ca, .slice ab n2 cb] 41)) := (HE.out.trans hE0).trans hx3
           have hl3 : RdM ((VA.alloc (.cells #[.string s1, .string ⟨#[49]⟩, .string sk, .string ⟨#[49]⟩] 97)).alloc (.cells #[.slice aa n1 ca, .slice ab n2 cb] 41)) (.slice (some ⟨VA.heap.size + 1, 0, none⟩) 2 2) [⟨a0 :: tl, .slice aa n1 ca, hua⟩, ⟨ov tl.length, .slice ab n2 cb, hub⟩] :=
             ⟨sl_cells (us := [.slice aa n1 ca, .slice ab n2 cb]) (by have := World.alloc_heap_new (VA.alloc (.cells #[.string s1, .string ⟨#[49]⟩, .string sk, .string ⟨#[49]⟩] 97)) (.cells #[.slice aa n1 ca, .slice ab n2 cb] 41); rwa [World.size_alloc] at this) (by unfold maxLen; simp), by
             intro r hr
             rcases List.mem_cons.1 hr with rfl | hr
             · exact Hra.out _ hE3
             · rw [List.mem_singleton] at hr; subst hr; exact Hrb.out _ hE3⟩
           have hf3 : Rd ((VA.alloc (.cells #[.string s1, .string ⟨#[49]⟩, .string sk, .string ⟨#[49]⟩] 97)).alloc (.cells #[.slice aa n1 ca, .slice ab n2 cb] 41)) (.slice (some ⟨VA.heap.size, 0, none⟩) 2 2) [1, kq] :=
             rd_cells (x := [1, kq]) (hx3.heap hbc) (by unfold maxLen; simp)
           refine (Hco.out _ _ _ hE3 hl3 hf3).mono ?_
           rintro e9 VB ⟨g, rfl, ho, hxa⟩
           have HoB2 := Lib.hid (ho.mono hE3.size)
           have HEB2 := Lib.hid (hE3.trans hxa)
           have hEV := (hE0.trans hx3).trans hxa
           have hS2 : Ext V VB ∧ VB.cell? ⟨b, 0, none⟩ = some (.string sk) ∧ VB.cell? ⟨b, 1, none⟩ = some (.string ⟨#[49]⟩) := ⟨hEV, hEV.cell hc0, hEV.cell hc1⟩
           have HEV2 := Lib.hid hEV
           clear hl3 hf3 hbc ho hE0 hx3 hE3 hEV hxa)
        | (go_at_call 117; refine (Hre.out _ _ HoB.out.rd).mono ?_; rintro e9 VC ⟨rfl, hxa⟩; have HoC := Lib.hid (hxa.ownQ HoB.out); have HEC := Lib.hid (HEB.out.trans hxa); have hS3 : Ext V VC ∧ VC.cell? ⟨b, 0, none⟩ = some (.string sk) ∧ VC.cell? ⟨b, 1, none⟩ = some (.string ⟨#[49]⟩) := ⟨HEV.out.trans hxa, (HEV.out.trans hxa).cell hc0, (HEV.out.trans hxa).cell hc1⟩; clear hxa hS2)
        | (go_at_call 117; refine (Hre.out _ _ HoB2.out.rd).mono ?_; rintro e9 VC ⟨rfl, hxa⟩; have HoC := Lib.hid (hxa.ownQ HoB2.out); have HEC := Lib.hid (HEB2.out.trans hxa); have hS3 : Ext V VC ∧ VC.cell? ⟨b, 0, none⟩ = some (.string sk) ∧ VC.cell? ⟨b, 1, none⟩ = some (.string ⟨#[49]⟩) := ⟨HEV2.out.trans hxa, (HEV2.out.trans hxa).cell hc0, (HEV2.out.trans hxa).cell hc1⟩; clear hxa hS2))
    all_goals
      have Hfin : Hid (RemC w p.length r (.slice (some ⟨g, 0, none⟩) p.length p.length) (.int .i64 0) VC) := Lib.hid ⟨g, rfl, rfl, HoC.out, HEC.out⟩
      go_wp2_with fail
      go_meet
      exact Hfin.out
  case rest =>
    obtain ⟨g, rfl, rfl, ho, hx⟩ := hcut
    have Ho := Lib.hid ho; have Hx := Lib.hid hx; clear ho hx
    go_wp2
    go_ret2
    exact ⟨_, rfl, Ho.out, Hx.out⟩
end Go.Proofs.YtaakmdjicocjpaaGreatDoor
