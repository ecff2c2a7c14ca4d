/- Plain: the notes of a collection of sizes. Walk: scale.note of a right scale. Walk: size.Sort of at most twelve sizes. -/
import Derived.Test.YtajdfggocldeaaaGreatDoorPb20
import Derived.Test.YtajdfggocldeaaaGreatDoorPb19
import Derived.Deep.RegionHeld3
import Derived.Test.YtajdfggocldeaaaGreatDoorPb04
import Derived.Test.YtajdfggocldeaaaGreatDoorPb17
import Derived.Test.YtajdfggocldeaaaGreatDoorPb13
set_option maxRecDepth 100000
set_option maxHeartbeats 2000000
namespace Go.Proofs.YtajdfggocldeaaaGreatDoor
/-- A size without its whole octaves. -/
def rst (p : List Int) (x : List Rat) : List Rat := shf (-(flP p x)) x
/-- One more size: its rest, if that is no unison and new. -/
def colS (p : List Int) (out : List (List Rat)) (x : List Rat) : List (List Rat) := if rst p x = zer p.length ∨ rst p x ∈ out then out else out ++ [rst p x]
def colF (p : List Int) (init l : List (List Rat)) : List (List Rat) := l.foldl (colS p) init
theorem colF_snoc (p : List Int) (init l : List (List Rat)) (x : List Rat) : colF p init (l ++ [x]) = colS p (colF p init l) x := by unfold colF; rw [List.foldl_append]; rfl
theorem colF_take {p : List Int} {init l : List (List Rat)} {k : Nat} {x : List Rat} (h : l[k]? = some x) : colF p init (l.take (k + 1)) = colS p (colF p init (l.take k)) x := by
  obtain ⟨hk, rfl⟩ := List.getElem?_eq_some_iff.1 h
  rw [List.take_succ_eq_append_getElem hk, colF_snoc]
theorem colF_len (p : List Int) (init l : List (List Rat)) : (colF p init l).length ≤ init.length + l.length := by
  induction l generalizing init with
  | nil => simp [colF]
  | cons x l ih =>
    have := ih (colS p init x)
    show (colF p (colS p init x) l).length ≤ _
    have h2 : (colS p init x).length ≤ init.length + 1 := by
      unfold colS
      split <;> simp
    simp only [List.length_cons]
    omega
theorem colF_mem {p : List Int} (l : List (List Rat)) : ∀ (init : List (List Rat)) (x : List Rat), x ∈ colF p init l ↔ x ∈ init ∨ (x ≠ zer p.length ∧ ∃ y ∈ l, x = rst p y) := by
  induction l with
  | nil => intro init x; simp [colF]
  | cons z l ih =>
    intro init x
    show x ∈ colF p (colS p init z) l ↔ _
    rw [ih]
    have hs : x ∈ colS p init z ↔ x ∈ init ∨ (x ≠ zer p.length ∧ x = rst p z) := by
      unfold colS
      split
      · rename_i h
        constructor
        · exact .inl
        · rintro (g | ⟨g1, g2⟩)
          · exact g
          · subst g2
            rcases h with h | h
            · exact absurd h g1
            · exact h
      · rename_i h
        rw [List.mem_append, List.mem_singleton]
        constructor
        · rintro (g | g)
          · exact .inl g
          · subst g
            exact .inr ⟨fun e => h (.inl e), rfl⟩
        · rintro (g | ⟨_, g⟩)
          · exact .inl g
          · exact .inr g
    rw [hs]
    constructor
    · rintro ((g | ⟨g1, g2⟩) | ⟨g1, y, hy, g2⟩)
      · exact .inl g
      · exact .inr ⟨g1, z, List.mem_cons_self .., g2⟩
      · exact .inr ⟨g1, y, List.mem_cons_of_mem _ hy, g2⟩
    · rintro (g | ⟨g1, y, hy, g2⟩)
      · exact .inl (.inl g)
      · rcases List.mem_cons.1 hy with rfl | hy
        · exact .inl (.inr ⟨g1, g2⟩)
        · exact .inr ⟨g1, y, hy, g2⟩
theorem colF_nodup {p : List Int} (l : List (List Rat)) : ∀ (init : List (List Rat)), init.Nodup → (colF p init l).Nodup := by
  induction l with
  | nil => intro init h; exact h
  | cons z l ih =>
    intro init h
    refine ih _ ?_
    unfold colS
    split
    · exact h
    · rename_i g
      rw [List.nodup_append]
      refine ⟨h, by simp, fun a ha b hb => ?_⟩
      rw [List.mem_singleton] at hb
      subst hb
      rintro rfl
      exact g (.inr ha)
/-- Sizes whose differences are nice, at most c octaves from zero. -/
structure Lw (p : List Int) (c : Int) (l : List (List Rat)) : Prop where
  pr : Pr p p.length
  len : ∀ x ∈ l, x.length = p.length
  c0 : 0 ≤ c
  c1 : c ≤ 10000
  bd : ∀ x ∈ l, -((c * 67108864 : Int) : Rat) ≤ sF p x ∧ sF p x ≤ ((c * 67108864 : Int) : Rat)
  dif : ∃ n, ∀ x ∈ zer p.length :: l, ∀ y ∈ zer p.length :: l, Nic n (subZ x y)
theorem Lw.nic {p : List Int} {c : Int} {l : List (List Rat)} (h : Lw p c l) : ∃ n, ∀ x ∈ l, Nic n x := by
  obtain ⟨n, hn⟩ := h.dif
  refine ⟨n, fun x hx => ?_⟩
  have := hn x (List.mem_cons_of_mem _ hx) _ (List.mem_cons_self ..)
  rwa [← h.len x hx, subZ_zer] at this
/-- A nice size has a first number and either lies in the box or is a part of the octave. -/
theorem nic_tail {n : Nat} {p : List Int} {x : List Rat} (hp : Pr p x.length) (h : Nic n x) : ∃ a tl, x = a :: tl ∧ tl.length + 1 = p.length ∧ (Bx 256 (a :: tl) ∨ ∀ r ∈ tl, r = 0) := by
  obtain ⟨a, tl, rfl⟩ : ∃ a tl, x = a :: tl := by
    rcases hp with ⟨_, hl⟩ | ⟨_, hl⟩ <;> (cases x with | nil => cases hl | cons a tl => exact ⟨a, tl, rfl⟩)
  refine ⟨a, tl, rfl, (pr_one hp).1.symm, ?_⟩
  rcases h with ⟨_, h⟩ | ⟨_, _, h⟩
  · exact .inl h
  · right
    match tl, h with
    | [b], ⟨hb, _⟩ => intro r hr; simp at hr; rw [hr]; exact hb
    | [b, d], ⟨hb, hd, _⟩ => intro r hr; simp at hr; rcases hr with e | e <;> rw [e] <;> assumption
/-- What stays lies in the first octave. -/
theorem rst_bd {n : Nat} {p : List Int} {x : List Rat} (hp : Pr p x.length) (h : Nic n x) : 0 ≤ sF p (rst p x) ∧ sF p (rst p x) < 67108864 := by
  obtain ⟨a, tl, rfl, hl, hb⟩ := nic_tail hp h
  unfold rst
  rw [sF_shf hp, flP_eq hp hb]
  have h1 := Rat.floor_le (sF p (a :: tl) / 67108864)
  have h2 := Rat.lt_floor_add_one (sF p (a :: tl) / 67108864)
  rw [Rat.intCast_neg]
  grind
/-- The floor is at most as far as the size. -/
theorem fl_bd {n : Nat} {p : List Int} {x : List Rat} {c : Int} (hp : Pr p x.length) (h : Nic n x) (h1 : -((c * 67108864 : Int) : Rat) ≤ sF p x) (h2 : sF p x ≤ ((c * 67108864 : Int) : Rat)) : -c ≤ flP p x ∧ flP p x ≤ c := by
  obtain ⟨a, tl, rfl, hl, hb⟩ := nic_tail hp h
  rw [flP_eq hp hb]
  rw [Rat.intCast_mul, show ((67108864 : Int) : Rat) = 67108864 from rfl] at h1 h2
  constructor
  · rw [Rat.le_floor_iff, Rat.intCast_neg]
    grind
  · have g1 := Rat.floor_le (sF p (a :: tl) / 67108864)
    have : ((sF p (a :: tl) / 67108864).floor : Rat) ≤ (c : Rat) := by grind
    exact Rat.intCast_le_intCast.1 this
theorem Lw.quick {p : List Int} {c : Int} {l : List (List Rat)} (h : Lw p c l) (x : List Rat) (hx : x ∈ l) : Quick p x := by
  obtain ⟨n, hn⟩ := h.nic
  exact nic_quick (by rw [h.len x hx]; exact h.pr) (hn x hx) h.c0 (by have := h.c1; omega) (h.bd x hx).1 (h.bd x hx).2
/-- The notes of a collection. -/
def Coll (p : List Int) (l N : List (List Rat)) : Prop := Srt p N ∧ ∀ x, x ∈ N ↔ x = ov (p.length - 1) ∨ (x ≠ zer p.length ∧ ∃ y ∈ l, x = rst p y)
theorem ov_pr {p : List Int} (hp : Pr p p.length) : ov (p.length - 1) = shf 1 (zer p.length) := by
  rw [ov_shf, show p.length - 1 + 1 = p.length by have := (pr_one hp).2; omega]
theorem sov {p : List Int} (hp : Pr p p.length) : sF p (ov (p.length - 1)) = 67108864 := by
  rw [ov_pr hp, sF_shf (by rw [zer_len]; exact hp), sF_zer]
  show (0 : Rat) + ((1 : Int) : Rat) * 67108864 = _
  rw [show ((1 : Int) : Rat) = 1 from rfl]
  grind
/-- All that is in play are sizes of the list, some octaves off. -/
theorem Lw.play {p : List Int} {c : Int} {l : List (List Rat)} (h : Lw p c l) : ∃ n, ∀ x y, (x = zer p.length ∨ x = ov (p.length - 1) ∨ ∃ z ∈ l, x = rst p z) → (y = zer p.length ∨ y = ov (p.length - 1) ∨ ∃ z ∈ l, y = rst p z) → x.length = p.length ∧ Nic n (subZ x y) := by
  obtain ⟨n, hn⟩ := h.dif
  have key : ∀ x, (x = zer p.length ∨ x = ov (p.length - 1) ∨ ∃ z ∈ l, x = rst p z) → ∃ q, ∃ z ∈ zer p.length :: l, x = shf q z ∧ z.length = p.length := by
    rintro x (rfl | rfl | ⟨z, hz, rfl⟩)
    · exact ⟨0, _, List.mem_cons_self .., (shf_zero _).symm, zer_len _⟩
    · exact ⟨1, _, List.mem_cons_self .., ov_pr h.pr, zer_len _⟩
    · exact ⟨_, z, List.mem_cons_of_mem _ hz, rfl, h.len z hz⟩
  refine ⟨n, fun x y hx hy => ?_⟩
  obtain ⟨q, z, hz, rfl, hl⟩ := key x hx
  obtain ⟨r, u, hu, rfl, hl2⟩ := key y hy
  refine ⟨by rw [shf_len, hl], ?_⟩
  rw [shf_sub (hl.trans hl2.symm)]
  exact nic_shf (hn z hz u hu)
theorem Lw.range {p : List Int} {c : Int} {l : List (List Rat)} (h : Lw p c l) {z : List Rat} (hz : z ∈ l) : 0 ≤ sF p (rst p z) ∧ sF p (rst p z) < 67108864 := by
  obtain ⟨n, hn⟩ := h.nic
  exact rst_bd (by rw [h.len z hz]; exact h.pr) (hn z hz)
theorem Lw.inj {p : List Int} {c : Int} {l : List (List Rat)} (h : Lw p c l) {x y : List Rat} (hx : x = zer p.length ∨ x = ov (p.length - 1) ∨ ∃ z ∈ l, x = rst p z) (hy : y = zer p.length ∨ y = ov (p.length - 1) ∨ ∃ z ∈ l, y = rst p z) (e : sF p x = sF p y) : x = y := by
  obtain ⟨n, hn⟩ := h.play
  have h1 := hn x y hx hy
  have h2 := hn y x hy hx
  exact nice_inj (by rw [h1.1]; exact h.pr) (h1.1.trans h2.1.symm) h1.2.nice e
theorem nodup_len : ∀ {N M : List (List Rat)}, N.Nodup → N ⊆ M → N.length ≤ M.length
  | [], _, _, _ => Nat.zero_le _
  | a :: N, M, h, hs => by
    rw [List.nodup_cons] at h
    have ha : a ∈ M := hs (List.mem_cons_self ..)
    have ih := nodup_len (N := N) (M := M.erase a) h.2 fun x hx => by
      have hxa : x ≠ a := fun e => h.1 (e ▸ hx)
      exact (List.mem_erase_of_ne hxa).2 (hs (List.mem_cons_of_mem _ hx))
    rw [List.length_erase_of_mem ha] at ih
    have := List.length_pos_of_mem ha
    rw [List.length_cons]
    omega
theorem coll_wd {p : List Int} {c : Int} {l N : List (List Rat)} (h : Lw p c l) (hc : Coll p l N) (hl : l.length ≤ 9) : Wd p N := by
  obtain ⟨n, hn⟩ := h.play
  have hin : ∀ x ∈ N, x = zer p.length ∨ x = ov (p.length - 1) ∨ ∃ z ∈ l, x = rst p z := fun x hx => by
    rcases (hc.2 x).1 hx with e | ⟨_, g⟩
    · exact .inr (.inl e)
    · exact .inr (.inr g)
  have hpos : ∀ x ∈ N, 0 < sF p x ∧ sF p x ≤ 67108864 := fun x hx => by
    rcases (hc.2 x).1 hx with e | ⟨g0, z, hz, e⟩
    · rw [e, sov h.pr]
      exact ⟨by decide, Rat.le_refl⟩
    · have hr := h.range hz
      refine ⟨?_, by rw [e]; exact Rat.le_of_lt hr.2⟩
      have : sF p x ≠ 0 := fun e0 => g0 (h.inj (hin x hx) (.inl rfl) (by rw [e0, sF_zer]))
      rw [← e] at hr
      grind
  have hov : ov (p.length - 1) ∈ N := (hc.2 _).2 (.inl rfl)
  have hne : N ≠ [] := fun e => by rw [e] at hov; cases hov
  have hup : Srt p (zer p.length :: N) := by
    unfold Srt
    rw [List.pairwise_cons]
    exact ⟨fun x hx => by rw [sF_zer]; exact (hpos x hx).1, hc.1⟩
  have hnd : N.Nodup := hc.1.imp fun {a b} g e => by rw [e] at g; grind
  refine ⟨h.pr, hne, ?_, fun x hx => (hn x x (hin x hx) (hin x hx)).1, ?_, hup, n, ?_⟩
  · have hsub : N ⊆ colF p [ov (p.length - 1)] l := fun x hx => by
      rw [colF_mem]
      rcases (hc.2 x).1 hx with e | g
      · left; rw [e]; simp
      · exact .inr g
    have h1 := nodup_len hnd hsub
    have h2 := colF_len p [ov (p.length - 1)] l
    simp at h2
    omega
  · have h0 := List.length_pos_iff.2 hne
    rw [List.getElem?_eq_getElem (by omega)]
    congr 1
    obtain ⟨i, hi, e⟩ := List.getElem_of_mem hov
    rcases (by omega : i = N.length - 1 ∨ i < N.length - 1) with g | g
    · subst g; exact e
    · have := hc.1
      unfold Srt at this
      rw [List.pairwise_iff_getElem] at this
      have k := this i (N.length - 1) hi (by omega) g
      rw [e, sov h.pr] at k
      have := (hpos _ (List.getElem_mem (show N.length - 1 < N.length by omega))).2
      grind
  · intro x hx y hy
    refine (hn x y ?_ ?_).2
    · rcases List.mem_cons.1 hx with e | e
      · exact .inl e
      · exact hin x e
    · rcases List.mem_cons.1 hy with e | e
      · exact .inl e
      · exact hin y e
/-- Sorted, the rests with the octave are the collection. -/
theorem coll_law {p : List Int} {c : Int} {l N : List (List Rat)} (h : Lw p c l) (hp : N.Perm (colF p [ov (p.length - 1)] l)) (hs : N.Pairwise fun x y => sF p x ≤ sF p y) : Coll p l N := by
  have hin : ∀ x ∈ colF p [ov (p.length - 1)] l, x = zer p.length ∨ x = ov (p.length - 1) ∨ ∃ z ∈ l, x = rst p z := fun x hx => by
    rcases (colF_mem l _ x).1 hx with e | ⟨_, g⟩
    · exact .inr (.inl (by simpa using e))
    · exact .inr (.inr g)
  refine ⟨srt_of_perm hp hs (colF_nodup _ _ (by simp)) fun x hx y hy e => h.inj (hin x hx) (hin y hy) e, fun x => ?_⟩
  rw [hp.mem_iff, colF_mem]
  simp
/-- Sorted rests, and the octave behind them, are the collection. -/
theorem coll_prog {p : List Int} {c : Int} {l N : List (List Rat)} (h : Lw p c l) (hp : N.Perm (colF p [] l)) (hs : N.Pairwise fun x y => sF p x ≤ sF p y) : Coll p l (N ++ [ov (p.length - 1)]) := by
  have hin : ∀ x ∈ colF p [] l, x ≠ zer p.length ∧ ∃ z ∈ l, x = rst p z := fun x hx => by
    rcases (colF_mem l _ x).1 hx with e | g
    · cases e
    · exact g
  have hin2 : ∀ x ∈ colF p [] l, x = zer p.length ∨ x = ov (p.length - 1) ∨ ∃ z ∈ l, x = rst p z := fun x hx => .inr (.inr (hin x hx).2)
  have h1 := srt_of_perm hp hs (colF_nodup _ _ (by simp)) fun x hx y hy e => h.inj (hin2 x hx) (hin2 y hy) e
  refine ⟨?_, fun x => ?_⟩
  · unfold Srt
    rw [List.pairwise_append]
    refine ⟨h1, by simp, fun a ha b hb => ?_⟩
    rw [List.mem_singleton] at hb
    subst hb
    obtain ⟨_, z, hz, e⟩ := hin a (hp.mem_iff.1 ha)
    rw [e, sov h.pr]
    exact (h.range hz).2
  · rw [List.mem_append, hp.mem_iff, colF_mem]
    simp
    constructor
    · rintro (g | g)
      · exact .inr g
      · exact .inl g
    · rintro (g | g)
      · exact .inr g
      · exact .inl g
end Go.Proofs.YtajdfggocldeaaaGreatDoor

namespace Go.Proofs.YtajdfggocldeaaaGreatDoor
open Go.RowKit Go.Lib
attribute [local go_sem] Oper.semAt_some
theorem note_c (v : Value) (p : List Int) (rs : List Qw) (n : Nat) (k : Int) (r : Qw) (w : World) (he : Env w) (hv : ScV w v p rs) (h : Right p rs) (hn : rs.length = n + 1) (hr : rs[n]? = some r) (hk0 : -100000000 ≤ k) (hk1 : k ≤ 100000000)
    (hq : Ft 400 ((k / ((n : Int) + 1) : Int) : Rat)) (hf1 : ∀ q ∈ mulZ r.x ((k / ((n : Int) + 1) : Int) : Rat), Ft 30 q) (hf2 : ∀ q ∈ noteQ rs n k, Ft 30 q) :
    Calls Tryz.prog 76 #[v, .int .i64 k] w fun e w' => ∃ g, e = .returned (.tuple #[.slice (some ⟨g, 0, none⟩) p.length p.length, .int .i64 0]) ∧ OwnQ w' w.heap.size (.slice (some ⟨g, 0, none⟩) p.length p.length) (noteQ rs n k) ∧ Ext w w' := by
  have h60 := h.most
  have hN : (0 : Int) < (n : Int) + 1 := by omega
  have htf := trunc_floor (k := k) hN
  have h3 := Int.emod_nonneg k (show (n : Int) + 1 ≠ 0 by omega)
  have h4 := Int.emod_lt_of_pos k hN
  have hqb := div_bd (a := k) (b := (n : Int) + 1) (m := 100000000) hN hk0 hk1 (by omega)
  have hpe := fun W (hE : Ext w W) => period_c v p rs n r W (hv.ext hE) hn (by omega) hr
  have hin := fun W (hE : Ext w W) => integer_c (k / ((n : Int) + 1)) W (he.ext hE) (by omega) (by omega)
  obtain ⟨vp, vn, rfl, hp, hs, hm⟩ := hv
  have hmem := List.mem_of_getElem? hr
  have hmr := hm r hmem
  have hsc := fun W (hE : Ext w W) => sScale_c vp r.u p r.x _ W (he.ext hE) (hE.sl hp) (hE.rd hmr) h.pe (h.len r hmem) (h.ft r hmem) hq hf1
  obtain ⟨ap, cp, rfl, _, _, _⟩ := hp.parts
  obtain ⟨an, cn, rfl, _, _, hc⟩ := hs.parts
  rw [i64s_length] at hpe hsc ⊢
  rw [qwc_length, hn] at hpe ⊢
  obtain ⟨b, off, rfl, hc0⟩ := hc n r.u (by unfold qwc; rw [List.getElem?_map, hr]; rfl)
  have hE0 : Ext w (w.alloc (.cells #[.slice ap p.length cp, .slice (some ⟨b, off, none⟩) (n + 1) cn] 35)) := (Ext.refl w).alloc _
  have hzero : k % ((n : Int) + 1) = 0 → noteQ rs n k = mulZ r.x ((k / ((n : Int) + 1) : Int) : Rat) := fun e => by unfold noteQ; rw [hr]; simp only [e, if_true]; rfl
  have hadd : ¬ k % ((n : Int) + 1) = 0 → ∃ (j : Nat) (s : Qw), (j : Int) = k % ((n : Int) + 1) - 1 ∧ (∃ a c, s.u = .slice a p.length c) ∧ w.cell? ⟨b, off + j, none⟩ = some s.u ∧
      ∀ W vb, Ext w W → Rd W vb (mulZ r.x ((k / ((n : Int) + 1) : Int) : Rat)) → Calls Tryz.prog 119 #[.slice ap p.length cp, vb, s.u] W fun e w' => ∃ g, e = .returned (.tuple #[.slice (some ⟨g, 0, none⟩) p.length p.length, .int .i64 0]) ∧ OwnQ w' W.heap.size (.slice (some ⟨g, 0, none⟩) p.length p.length) (noteQ rs n k) ∧ Ext W w' := fun e => by
    obtain ⟨j, hj⟩ : ∃ j : Nat, (j : Int) = k % ((n : Int) + 1) - 1 := ⟨(k % ((n : Int) + 1) - 1).toNat, by omega⟩
    obtain ⟨s, hs1⟩ : ∃ s, rs[j]? = some s := ⟨_, List.getElem?_eq_getElem (by omega)⟩
    have hsm := List.mem_of_getElem? hs1
    have hrs := hm s hsm
    obtain ⟨b2, off2, e2, hcs⟩ := hc j s.u (by unfold qwc; rw [List.getElem?_map, hs1]; rfl)
    cases e2
    have hnq : noteQ rs n k = addZ (mulZ r.x ((k / ((n : Int) + 1) : Int) : Rat)) s.x := by
      unfold noteQ
      rw [hr, if_neg e, show (k % ((n : Int) + 1)).toNat - 1 = j by omega, hs1]
      rfl
    refine ⟨j, s, hj, ?_, hcs, fun W vb hE hb => ?_⟩
    · obtain ⟨a, c, hu, _⟩ := hrs.parts
      rw [h.len s hsm] at hu
      exact ⟨a, c, hu⟩
    · have := sAdd_c (.slice ap (i64s p).length cp) vb s.u p _ s.x W (he.ext hE) (hE.sl hp) hb (hE.rd hrs) h.pe (by unfold mulZ; rw [List.length_map]; exact h.len r hmem) (h.len s hsm) hf1 (h.ft s hsm) (by rw [← hnq]; exact hf2)
      rw [i64s_length, ← hnq] at this
      exact this
  have hcast : ((n + 1 : Nat) : Int) = (n : Int) + 1 := by omega
  have hnz : ((n : Int) + 1) ≠ 0 := by omega
  clear hp hs hm he h hmr hmem hc hc0 hf1 hf2 hq
  have bx : (w.alloc (.cells #[.slice ap p.length cp, .slice (some ⟨b, off, none⟩) (n + 1) cn] 35)).heap[w.heap.size]? = some (.cells #[.slice ap p.length cp, .slice (some ⟨b, off, none⟩) (n + 1) cn] 35 (0, 0)) := World.alloc_heap_new w _
  have hbox : ∀ W, Ext (w.alloc (.cells #[.slice ap p.length cp, .slice (some ⟨b, off, none⟩) (n + 1) cn] 35)) W → W.cell? ⟨w.heap.size, 0, none⟩ = some (.slice ap p.length cp) ∧ W.cell? ⟨w.heap.size, 1, none⟩ = some (.slice (some ⟨b, off, none⟩) (n + 1) cn) := fun W hE => by
    have hb := hE.heap bx
    unfold World.cell?
    dsimp only
    rw [hb]
    exact ⟨rfl, rfl⟩
  clear bx
  have Hpe := Lib.hid hpe; have Hin := Lib.hid hin; have Hsc := Lib.hid hsc; have HE0 := Lib.hid hE0; have Htf := Lib.hid htf; have Hbox := Lib.hid hbox; have Hzero := Lib.hid hzero; have Hadd := Lib.hid hadd; clear hpe hin hsc hE0 htf hbox hzero hadd
  have hdec : k.tmod ((n : Int) + 1) < 0 ∨ ¬ k.tmod ((n : Int) + 1) < 0 := by omega
  rcases hdec with hs | hs
  case' inl => obtain ⟨e1, e2⟩ := Htf.out.1 hs
  case' inr => obtain ⟨e1, e2⟩ := Htf.out.2 hs
  all_goals
    go_enter Tryz.func76, Tryz.ntmps76
    go_wp2_with fail
    go_quiet (fail)
    go_wp2_with fail
    generalize hV : (w.alloc (.cells #[.slice ap p.length cp, .slice (some ⟨b, off, none⟩) (n + 1) cn] 35)).drewN nq = V at *
    have hEV : Ext (w.alloc (.cells #[.slice ap p.length cp, .slice (some ⟨b, off, none⟩) (n + 1) cn] 35)) V := by rw [← hV]; exact (Ext.refl _).drewN _
    obtain ⟨q0, q1⟩ := Hbox.out V hEV
    have HV := Lib.hid (HE0.out.trans hEV)
    have HEV0 := Lib.hid hEV
    clear hV hEV
    go_region_held3 (fun w' => Ext V w' ∧ w'.cell? ⟨w.heap.size, 0, none⟩ = some (.slice ap p.length cp) ∧ w'.cell? ⟨w.heap.size, 1, none⟩ = some (.slice (some ⟨b, off, none⟩) (n + 1) cn))
      (first | (with_reducible assumption) | exact ⟨(Ext.refl V).drew, q0, q1⟩)
      (first
        | (go_at_call 117; refine (Hpe.out _ (HV.out.trans (And.left (by assumption)))).mono ?_; rintro e9 VA ⟨rfl, hxa⟩; have hEA := ((Ext.refl V).drew).trans hxa; have hS2 : Ext V VA ∧ VA.cell? ⟨w.heap.size, 0, none⟩ = some (.slice ap p.length cp) ∧ VA.cell? ⟨w.heap.size, 1, none⟩ = some (.slice (some ⟨b, off, none⟩) (n + 1) cn) := ⟨hEA, hEA.cell q0, hEA.cell q1⟩; have HEA := Lib.hid hEA; clear hxa hEA)
        | (go_at_call 118; refine (Hin.out _ (HV.out.trans HEA.out)).mono ?_; rintro e9 VB ⟨rfl, hxa⟩; have hEB := HEA.out.trans hxa; have hS3 : Ext V VB ∧ VB.cell? ⟨w.heap.size, 0, none⟩ = some (.slice ap p.length cp) ∧ VB.cell? ⟨w.heap.size, 1, none⟩ = some (.slice (some ⟨b, off, none⟩) (n + 1) cn) := ⟨hEB, hEB.cell q0, hEB.cell q1⟩; have HEB := Lib.hid hEB; clear hxa hEB hS2)
        | (go_at_call 116; refine (Hsc.out _ (HV.out.trans HEB.out)).mono ?_; rintro e9 VC ⟨g, rfl, ho, hxa⟩; have hEC := HEB.out.trans hxa; have hS4 : Ext V VC ∧ VC.cell? ⟨w.heap.size, 0, none⟩ = some (.slice ap p.length cp) ∧ VC.cell? ⟨w.heap.size, 1, none⟩ = some (.slice (some ⟨b, off, none⟩) (n + 1) cn) := ⟨hEC, hEC.cell q0, hEC.cell q1⟩; have HEC := Lib.hid hEC; have HoC := Lib.hid (ho.mono (HV.out.trans HEB.out).size); clear hxa hEC ho hS3))
    all_goals
      clear hS4 q0 q1
      by_cases hi : k % ((n : Int) + 1) = 0
      · have hnq := Hzero.out hi
        have Hnq := Lib.hid hnq; clear hnq
        go_wp2
        go_ret2
        exact ⟨_, rfl, by rw [Hnq.out]; exact HoC.out, HV.out.trans HEC.out⟩
      · obtain ⟨j, s, hj, ⟨sa, sc, hsu⟩, hcs, had⟩ := Hadd.out hi
        rw [hsu] at hcs had
        have hEV := HV.out.trans HEC.out
        have hcs2 := hEV.cell hcs
        obtain ⟨q0, q1⟩ := Hbox.out VC (HEV0.out.trans HEC.out)
        have haD := had VC.drew _ hEV.drew HoC.out.rd
        have hj0 : (0 : Int) ≤ (j : Int) := by omega
        have hj1 : (j : Int) < ((n + 1 : Nat) : Int) := by omega
        clear hcs had
        have hj2 : IntKind.i64.wrap (k % ((n : Int) + 1) - 1) = (j : Int) := by rw [IntWalk.i64_in _ (by omega)]; exact hj.symm
        have hj3 : (j : Int) < (n : Int) + 1 := by omega
        have hj4 : k % ((n : Int) + 1) - 1 = (j : Int) := hj.symm
        clear hj
        have HaD := Lib.hid haD; have HEV := Lib.hid hEV; clear haD hEV
        have hjk : k % ((n : Int) + 1) = (j : Int) + 1 := by omega
        clear hj2 hj4
        generalize k % ((n : Int) + 1) = iv at *
        subst hjk
        have hwj : IntKind.i64.wrap ((j : Int) + 1 - 1) = (j : Int) := by rw [show (j : Int) + 1 - 1 = (j : Int) by omega]; exact IntWalk.i64_in _ (by omega)
        have hwj2 : IntKind.i64.wrap (j : Int) = (j : Int) := IntWalk.i64_in _ (by omega)
        have hjn : j < n + 1 := by omega
        go_wp2_with fail
        go_region_held3 (fun w' => Ext VC w' ∧ w'.cell? ⟨w.heap.size, 0, none⟩ = some (.slice ap p.length cp) ∧ w'.cell? ⟨w.heap.size, 1, none⟩ = some (.slice (some ⟨b, off, none⟩) (n + 1) cn) ∧ w'.cell? ⟨b, off + j, none⟩ = some (.slice sa p.length sc))
          (first | (with_reducible assumption) | exact ⟨(Ext.refl VC).drew, q0, q1, hcs2⟩)
          (first
            | (go_at_call 119; refine (HaD.out).mono ?_; rintro e9 VD ⟨g2, rfl, ho2, hxa⟩; have hED := ((Ext.refl VC).drew).trans hxa; have hS5 : Ext VC VD ∧ VD.cell? ⟨w.heap.size, 0, none⟩ = some (.slice ap p.length cp) ∧ VD.cell? ⟨w.heap.size, 1, none⟩ = some (.slice (some ⟨b, off, none⟩) (n + 1) cn) ∧ VD.cell? ⟨b, off + j, none⟩ = some (.slice sa p.length sc) := ⟨hED, hED.cell q0, hED.cell q1, hED.cell hcs2⟩; have HED := Lib.hid hED; have HoD := Lib.hid (ho2.mono HEV.out.size); clear hxa hED ho2))
        all_goals
          clear hS5 q0 q1 hcs2
          go_wp2
          go_ret2
          exact ⟨_, rfl, HoD.out, HEV.out.trans HED.out⟩
end Go.Proofs.YtajdfggocldeaaaGreatDoor

namespace Go.Proofs.YtajdfggocldeaaaGreatDoor
open Go.RowKit Go.Lib Go.Shelf
attribute [local go_sem] Oper.semAt_some
/-- Sizes that compare quickly and rightly. -/
structure Cmpb (p : List Int) (l : List (List Rat)) : Prop where
  pe : primesErr p = 0
  few : p.length ≤ 100
  len : ∀ x ∈ l, x.length = p.length
  ft : ∀ x ∈ l, ∀ q ∈ x, Ft 30 q
  quick : ∀ x ∈ l, ∀ y ∈ l, Quick p (subZ x y)
  sgn : ∀ x ∈ l, ∀ y ∈ l, (sgnT (tms p (dn (subZ x y)) (subZ x y)) < 0 ↔ sF p x < sF p y)
end Go.Proofs.YtajdfggocldeaaaGreatDoor
