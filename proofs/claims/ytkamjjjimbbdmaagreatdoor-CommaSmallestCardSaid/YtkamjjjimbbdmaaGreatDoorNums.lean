/- The walk of comma.numbers. -/
import Derived.Test.YtkamjjjimbbdmaaGreatDoorSmooth
namespace Go.Proofs.YtkamjjjimbbdmaaGreatDoor
open Go.RowKit Go.Lib Go.Shelf Go.Sort

def NumOut (p : List Nat) (lim f : Nat) (F : List (Nat × List Int)) (w0 : World) (v i : Value) (wr : World) : Prop :=
  ∃ (k : Nat) (es : List Sm), i = .int .i64 k ∧ k ≤ p.length ∧ SmL wr w0.heap.size v es ∧ (∀ e ∈ es, Fine p.length e) ∧ growAll lim f (p.drop k) k (es.map Sm.view) = some F ∧ Ext w0 wr
def NumIn (q i lim : Nat) (L : Nat) (F1 : List (Nat × List Int)) (w0 : World) (v j : Value) (wr : World) : Prop :=
  ∃ (m f : Nat) (es : List Sm), j = .int .i64 m ∧ m ≤ es.length ∧ SmL wr w0.heap.size v es ∧ (∀ e ∈ es, Fine L e) ∧ grow1 q i lim f m (es.map Sm.view) = some F1 ∧ Ext w0 wr

theorem growAll_step {lim f q : Nat} {r : List Nat} {i : Nat} {l F : List (Nat × List Int)} (h : growAll lim f (q :: r) i l = some F) : ∃ F1, grow1 q i lim f 0 l = some F1 ∧ growAll lim f r (i + 1) F1 = some F := by
  rw [growAll] at h
  split at h
  · cases h
  · rename_i l' hl'
    exact ⟨l', hl', h⟩
theorem grow1_step {q i lim f k : Nat} {l F : List (Nat × List Int)} {n : Nat} {x : List Int} (h : grow1 q i lim f k l = some F) (hk : l[k]? = some (n, x)) :
    ∃ f', f = f' + 1 ∧ (if n ≤ lim / q then grow1 q i lim f' (k + 1) (l ++ [(n * q, bump x i)]) else grow1 q i lim f' (k + 1) l) = some F := by
  cases f with
  | zero => simp [grow1] at h
  | succ f' => exact ⟨f', rfl, by rw [grow1, hk] at h; exact h⟩
theorem grow1_end {q i lim f k : Nat} {l F : List (Nat × List Int)} (h : grow1 q i lim f k l = some F) (hk : l.length ≤ k) : l = F := by
  cases f with
  | zero => simp [grow1] at h
  | succ f' => rw [grow1, List.getElem?_eq_none hk] at h; simpa using h
theorem row_at {w : World} {B : Nat} {v : Value} {x : List Int} {k : Nat} (h : OwnI w B v x) (hk : k < x.length) :
    ∃ g cap, v = .slice (some ⟨g, 0, none⟩) x.length cap ∧ B ≤ g ∧ w.cell? ⟨g, k, none⟩ = some (.int .i64 (nthI x k)) ∧ w.frozen? ⟨g, k, none⟩ = false ∧ ∀ z, OwnI (w.setCell ⟨g, k, none⟩ (.int .i64 z)) B (.slice (some ⟨g, 0, none⟩) x.length cap) (x.set k z) := by
  have h' : w.ownsRow B 3 1 v x.length (i64s x) := h
  rcases h'.2 with ⟨_, h0⟩ | ⟨g, cap, cur, rfl, hb, _⟩
  · omega
  · exact ⟨g, cap, rfl, hb, ownI_cell h k hk, World.ownsRow.frozenAt h' k, fun z => ownI_set h k z⟩

theorem nthI_zeros (L j : Nat) : nthI (List.replicate L 0) j = 0 := by
  unfold nthI
  rw [List.getD_eq_getElem?_getD, List.getElem?_replicate]
  split <;> rfl
theorem num_same {q i lim L m f : Nat} {F1 : List (Nat × List Int)} {w0 wr W : World} {v : Value} {es : List Sm} (hd : Ext wr W) (hs : SmL wr w0.heap.size v es) (hf : ∀ e ∈ es, Fine L e) (hE : Ext w0 wr)
    (hg : grow1 q i lim f (m + 1) (es.map Sm.view) = some F1) (hm : m < es.length) : NumIn q i lim L F1 w0 v (.int .i64 ((m : Int) + 1)) W :=
  ⟨m + 1, f, es, by simp, by omega, hd.smL hs, hf, hg, hE.trans hd⟩

theorem num_start (w w1 : World) (p : List Nat) (lim f : Nat) (F : List (Nat × List Int)) (u : Value) (hu : OwnI w1 w.heap.size u (List.replicate p.length 0)) (hE : Ext w w1) (hF : growAll lim f p 0 [(1, List.replicate p.length 0)] = some F) :
    NumOut p lim f F w (.slice (some ⟨w1.heap.size, 0, none⟩) 1 1) (.int .i64 0) (w1.alloc (.cells #[.int .i64 1, u] 83)) := by
  have hone : u.oneCell' = true := by
    rcases hu.2 with ⟨rfl, _⟩ | ⟨g, cap, cur, rfl, _⟩ <;> rfl
  refine ⟨0, [⟨1, List.replicate p.length 0, u, by omega, hone⟩], rfl, Nat.zero_le _, ⟨⟨rfl, .inr ⟨w1.heap.size, 1, #[.int .i64 1, u], rfl, hE.size, World.alloc_heap_new _ _, Nat.le_refl _, by decide, rfl, rfl⟩⟩, ?_⟩, ?_, ?_, hE.alloc _⟩
  · intro e he
    simp only [List.mem_singleton] at he
    subst he
    exact ((Ext.refl w1).alloc _).ownI hu
  · intro e he
    simp only [List.mem_singleton] at he
    subst he
    exact ⟨by simp, Nat.le_refl _, fun j => by rw [nthI_zeros]; exact ⟨by omega, by simp⟩⟩
  · rw [List.drop_zero]; exact hF

theorem smc_snoc (es : List Sm) (e : Sm) : smc (es ++ [e]) = smc es ++ [.int .i64 (e.n : Int), e.u] := by simp [smc, Sm.enc]
theorem nthI_set (x : List Int) (k j : Nat) (z : Int) : nthI (x.set k z) j = if j = k ∧ k < x.length then z else nthI x j := by
  unfold nthI
  rw [List.getD_eq_getElem?_getD, List.getD_eq_getElem?_getD, List.getElem?_set]
  by_cases h : k = j
  · subst h
    by_cases h2 : k < x.length
    · simp [h2]
    · simp [h2]
  · rw [if_neg h, if_neg (by omega)]
theorem num_more {q k lim L m f : Nat} {F1 : List (Nat × List Int)} {w0 W6 W7 : World} {v v7 : Value} {es : List Sm} {n : Nat} {x : List Int} {u : Value} {tmp : Obj} (hE : Ext w0 W6) (hs : SmL W6 w0.heap.size v es) (hf : ∀ e ∈ es, Fine L e) (hm : m < es.length)
    (he : x.length = L ∧ 1 ≤ n ∧ ∀ j, 0 ≤ nthI x j ∧ nthI x j ≤ n) (hu : OwnI W6 w0.heap.size u (bump x k)) (hone : u.oneCell' = true) (hq : 2 ≤ q) (hmul : n * q ≤ 5000)
    (hown : W7.ownsRow w0.heap.size 83 2 v7 (es.length + 1) (smc es ++ [.int .i64 ((n : Int) * (q : Int)), u])) (hgrow : (W6.alloc tmp).grownBy W7 v.ownBlock)
    (hg : grow1 q k lim f (m + 1) (es.map Sm.view ++ [(n * q, bump x k)]) = some F1) : NumIn q k lim L F1 w0 v7 (.int .i64 ((m : Int) + 1)) W7 := by
  have hn2 : n + 1 ≤ n * q := by
    have : n * 2 ≤ n * q := Nat.mul_le_mul_left n hq
    omega
  have keep : ∀ u' x', OwnI W6 w0.heap.size u' x' → OwnI W7 w0.heap.size u' x' := fun u' x' ho =>
    World.ownsRow.kept (((Ext.refl W6).alloc tmp).ownI ho) hgrow (own_ne ho hs.1 (by decide))
  have hE7 : Ext w0 W7 := by
    refine (hE.alloc tmp).grown hgrow fun k hk => ?_
    rcases hs.1.2 with ⟨rfl, _⟩ | ⟨g, cap, cur, rfl, hb, _⟩
    · simp [Value.ownBlock] at hk
    · simp [Value.ownBlock] at hk; omega
  refine ⟨m + 1, f, es ++ [⟨n * q, bump x k, u, by omega, hone⟩], by simp, by simp; omega, ⟨?_, ?_⟩, ?_, ?_, hE7⟩
  · rw [List.length_append, smc_snoc]
    rw [← Int.natCast_mul] at hown
    exact hown
  · intro e hmem
    rcases List.mem_append.1 hmem with h | h
    · exact keep _ _ (hs.2 e h)
    · simp only [List.mem_singleton] at h
      subst h
      exact keep _ _ hu
  · intro e hmem
    rcases List.mem_append.1 hmem with h | h
    · exact hf e h
    · simp only [List.mem_singleton] at h
      subst h
      refine ⟨by simp [bump, he.1], by show 1 ≤ n * q; omega, fun j => ?_⟩
      have h1 := he.2.2 j
      have h2 := he.2.2 k
      show 0 ≤ nthI (x.set k (nthI x k + 1)) j ∧ nthI (x.set k (nthI x k + 1)) j ≤ ((n * q : Nat) : Int)
      rw [nthI_set]
      split
      · omega
      · omega
  · rw [List.map_append]; exact hg

set_option maxRecDepth 100000 in
set_option maxHeartbeats 2000000 in
theorem nums_w (vp : Value) (p : List Nat) (lim f : Nat) (F : List (Nat × List Int)) (w : World) (hp : Sl w vp (i64s (ints p))) (hlp : p.length ≤ 64) (hq : ∀ i, i < p.length → 2 ≤ nth p i ∧ nth p i ≤ 100) (hlim : lim ≤ 5000)
    (hF : growAll lim f p 0 [(1, List.replicate p.length 0)] = some F) (hFl : F.length ≤ 1000000) :
    Calls Tryz.prog 39 #[vp, .int .i64 lim] w fun e w' => ∃ v, e = .returned v ∧ ∃ es : List Sm, SmL w' w.heap.size v es ∧ (∀ e ∈ es, Fine p.length e) ∧ (es.map Sm.view).Perm F ∧ es.Pairwise (fun a b => a.n ≤ b.n) ∧ Ext w w' := by
  obtain ⟨i0, hi, hz0, hz1, hz2⟩ := info_parts info_int
  obtain ⟨j0, hj, hy0, hy1, hy2⟩ := info_parts info_smooth
  obtain ⟨aa, ca, rfl, _, _, hcp⟩ := hp.parts
  rw [i64s_length, ints_length] at *
  have Hcp := Lib.hid hcp; clear hcp hp
  have HF := Lib.hid hF; clear hF
  have Hq := Lib.hid hq; clear hq
  go_enter Tryz.func39, Tryz.ntmps39
  go_wp2_with (at_make; refine wpList_make_full _ rfl _ _ 30 rfl w.heap.size 3 i0 (.int .i64 0) 1 Tryz.underlying30 hi hz0 hz1 _ _ _ _ p.length rfl rfl rfl rfl (by rw [hz2]; omega) (by unfold maxLen; omega) (Nat.le_refl _) ?_; intro w1 hown hgrow)
  have hown1 : OwnI w1 w.heap.size (.slice (some ⟨w.heap.size, 0, none⟩) p.length p.length) (List.replicate p.length 0) := by
    unfold OwnI
    rw [List.length_replicate]
    have e : i64s (List.replicate p.length 0) = (madeCells #[Value.int .i64 0] (p.length * 1)).toList := by
      rw [Nat.mul_one, toList_madeCells_one]; simp [i64s]
    rw [e]; exact hown
  have hE1 : Ext w w1 := (Ext.refl w).grown hgrow (by simp)
  have hrel0 := num_start w w1 p lim f F _ hown1 hE1 HF.out
  have Hrel0 := Lib.hid hrel0; clear hrel0 hown1 hE1 hown hgrow
  go_loopw [5, 17] (fun v i wr => NumOut p lim f F w v i wr) (fun _ i _ => p.length - (intOf i).toNat)
  case atStart => exact Hrel0.out
  case round =>
    obtain ⟨k, es, rfl, hk, hsm, hfine, hgr, hext⟩ := hrel
    clear Hrel0
    by_cases hlt : k < p.length
    · obtain ⟨b, off, rfl, hc⟩ := Hcp.out k _ (i64s_at (by rw [ints_length]; exact hlt))
      rw [nthI_ints] at hc
      have hcell := hext.cell hc
      obtain ⟨hq2, hq100⟩ := Hq.out k hlt
      have Hsm := Lib.hid hsm; have Hfine := Lib.hid hfine; have Hgr := Lib.hid hgr; have Hext := Lib.hid hext
      clear hsm hfine hgr hext hc
      generalize hQ : nth p k = q at *
      have HQ := Lib.hid hQ; clear hQ
      rw [show p.drop k = q :: p.drop (k + 1) by rw [← HQ.out, List.drop_eq_getElem_cons hlt]; unfold nth; rw [List.getD_eq_getElem?_getD, List.getElem?_eq_getElem hlt]; rfl] at Hgr
      obtain ⟨F1, hg1, hg2⟩ := growAll_step Hgr.out
      have hF1l := growAll_len lim f _ _ _ _ hg2
      have Hg1 := Lib.hid hg1; have Hg2 := Lib.hid hg2; clear hg1 hg2 Hgr
      go_wp2_with fail
      go_loopw [5, 8] (fun v j wr => NumIn q k lim p.length F1 w v j wr) (fun _ j _ => F1.length - (intOf j).toNat)
      case atStart => exact ⟨0, f, es, rfl, Nat.zero_le _, Hsm.out, Hfine.out, Hg1.out, Hext.out⟩
      case round =>
        obtain ⟨m, f1, es1, rfl, hm, hsm1, hfine1, hgr1, hext1⟩ := hrel
        clear Hsm Hfine Hext Hg1
        have hes1 := grow1_len _ _ _ _ _ _ _ hgr1
        rw [List.length_map] at hes1
        have hown1 := hsm1.1
        by_cases hm1 : m < es1.length
        · obtain ⟨e, he⟩ : ∃ e, es1[m]? = some e := ⟨_, List.getElem?_eq_getElem hm1⟩
          have hmem : e ∈ es1 := List.mem_of_getElem? he
          obtain ⟨f2, rfl, hstep⟩ := grow1_step hgr1 (show (es1.map Sm.view)[m]? = some (e.n, e.x) by rw [List.getElem?_map, he]; rfl)
          obtain ⟨hL, hn1, hxs⟩ := hfine1 e hmem
          have hen := e.hn
          have hu := hsm1.2 e hmem
          obtain ⟨hs1, hs2⟩ := smc_at es1 m e he
          obtain ⟨g, cap, rfl, hsl⟩ := sm_slice hown1 (by omega)
          have hc1 := hsl _ _ hs1
          have hc2 := hsl _ _ hs2
          have Hsm1 := Lib.hid hsm1; have Hfine1 := Lib.hid hfine1; have Hgr1 := Lib.hid hgr1; have Hext1 := Lib.hid hext1
          have Hstep := Lib.hid hstep; have Hxs := Lib.hid hxs; have Hu := Lib.hid hu
          clear hsm1 hfine1 hgr1 hext1 hstep hxs hu hown1 hsl hs1 hs2
          have hquo : (lim : Int).tdiv q = ((lim / q : Nat) : Int) := rfl
          have hQ5 : lim / q ≤ 5000 := Nat.le_trans (Nat.div_le_self _ _) hlim
          generalize hQq : lim / q = Qq at *
          have HQq := Lib.hid hQq; clear hQq
          by_cases hle : e.n ≤ Qq
          · rw [if_pos hle] at Hstep
            have ht : decide ((e.n : Int) ≤ (Qq : Int)) = true := decide_eq_true (by omega)
            go_wp2_with fail
            go_quiet (fail)
            have hd : Ext wr (wr.drewN nq) := (Ext.refl wr).drewN nq
            have hdc1 := hd.cell hc1
            have hdc2 := hd.cell hc2
            have Hd := Lib.hid hd; clear hd
            generalize wr.drewN nq = W4 at *
            go_wp2_with fail
            refine (clone_c e.u e.x W4 (Hd.out.ownI Hu.out).sl (by omega)).mono ?_
            rintro e9 W5 ⟨v5, rfl, hv5, hx5⟩
            obtain ⟨gx, cx, rfl, hgx, hcx, hset⟩ := row_at hv5 (show k < e.x.length by omega)
            obtain ⟨hfr, hset⟩ := hset
            have hx6 : Ext W4 (W5.setCell ⟨gx, k, none⟩ (.int .i64 (nthI e.x k + 1))) := hx5.setCell (p := ⟨gx, k, none⟩) hgx _
            have hc15 := hx5.cell hdc1
            have hc16 := hx6.cell hdc1
            have hxk := Hxs.out k
            have hmul : e.n * q ≤ 5000 := by
              have h1 := Nat.div_mul_le_self lim q
              have h2 : e.n * q ≤ lim / q * q := Nat.mul_le_mul_right q (by rw [HQq.out]; exact hle)
              omega
            have hmul0 : 0 ≤ (e.n : Int) * (q : Int) := by rw [← Int.natCast_mul]; omega
            have hmul1 : (e.n : Int) * (q : Int) ≤ 5000 := by rw [← Int.natCast_mul]; omega
            have hbump : OwnI (W5.setCell ⟨gx, k, none⟩ (.int .i64 (nthI e.x k + 1))) W4.heap.size (.slice (some ⟨gx, 0, none⟩) e.x.length cx) (bump e.x k) := hset _
            rw [hL] at hbump
            have Hx5 := Lib.hid hx5; have Hx6 := Lib.hid hx6; have Hbump := Lib.hid hbump
            clear hx5 hx6 hset hv5 hbump
            have hE6 : Ext wr (W5.setCell ⟨gx, k, none⟩ (.int .i64 (nthI e.x k + 1))) := Hd.out.trans Hx6.out
            have hown6 := hE6.own Hsm1.out.1
            have hsz6 := (Hext1.out.trans hE6).size
            have hm3 : es1.length + 1 ≤ maxLen := by unfold maxLen; omega
            have hm4 : (es1.length + 1) * 32 ≤ 140737488355328 := by omega
            have HE6 := Lib.hid hE6; clear hE6
            generalize hW6 : W5.setCell ⟨gx, k, none⟩ (.int .i64 (nthI e.x k + 1)) = W6 at *
            go_wp2_with (at_builtin; refine wpList_append_own _ rfl _ _ 80 rfl w.heap.size 83 j0 (.agg #[.int .i64 0, .slice none 0 0]) 2 32 Tryz.underlying80 hj hy0 hy1 hy2 rfl (by decide) _ _ _ rfl (hown6.alloc _) ⟨W6.heap.size, 0, none⟩ 1 1 [.int .i64 ((e.n : Int) * (q : Int)), .slice (some ⟨gx, 0, none⟩) p.length cx] rfl rfl (cell_two_new _ _ _ _) (by simp [Value.oneCell']) hm3 hm4 (by rw [World.size_alloc]; omega) ?_; intro v7 W7 hown7 hgrow7 _)
            go_roundw
            case rel =>
              have hsm6 := HE6.out.smL Hsm1.out
              exact num_more (Hext1.out.trans HE6.out) hsm6 Hfine1.out hm1 ⟨hL, hn1, Hxs.out⟩ (own_mono Hbump.out (Hext1.out.trans Hd.out).size) rfl hq2 hmul hown7 hgrow7 Hstep.out
            case measure => simp [intOf]; omega
          · rw [if_neg hle] at Hstep
            go_wp2_with fail
            go_quiet (fail)
            have hd : Ext wr (wr.drewN nq) := (Ext.refl wr).drewN nq
            have hrelN := num_same (F1 := F1) (w0 := w) hd Hsm1.out Hfine1.out Hext1.out Hstep.out hm1
            have HrelN := Lib.hid hrelN; clear hrelN hd
            go_wp2
            go_roundw
            case rel => exact HrelN.out
            case measure => simp [intOf]; omega
        · obtain rfl : m = es1.length := by omega
          obtain ⟨a5, c5, rfl⟩ := own_shape hown1
          have hend := grow1_end hgr1 (by rw [List.length_map]; exact Nat.le_refl _)
          have Hsm1 := Lib.hid hsm1; have Hfine1 := Lib.hid hfine1; have Hend := Lib.hid hend; have Hext1 := Lib.hid hext1
          clear hsm1 hfine1 hend hext1 hown1 hgr1
          go_wp2
          go_roundw
          case rel => exact ⟨k + 1, es1, by go_num, by omega, Hsm1.out, Hfine1.out, by rw [Hend.out]; exact Hg2.out, Hext1.out⟩
          case measure => simp [intOf]; omega
    · obtain rfl : k = p.length := by omega
      obtain ⟨a5, c5, rfl⟩ := own_shape hsm.1
      rw [List.drop_length, growAll] at hgr
      have hview : es.map Sm.view = F := by simpa using hgr
      have hlen : es.length = F.length := by rw [← hview, List.length_map]
      have hpos : 0 < es.length := by
        have := growAll_len lim f _ _ _ _ HF.out
        simp at this; omega
      have hsort := sort_c hsm hpos (by omega)
      have Hsort := Lib.hid hsort; have Hext := Lib.hid hext; have Hfine := Lib.hid hfine; have Hview := Lib.hid hview
      clear hsort hext hfine hsm hgr hlen hview
      go_wp2_with fail
      refine Hsort.out.mono ?_
      rintro e W8 ⟨rfl, es', hsm8, hperm, hpw, hx8⟩
      have Hsm8 := Lib.hid hsm8; have Hx8 := Lib.hid hx8; clear hsm8 hx8
      go_wp2
      go_ret
      exact ⟨_, rfl, es', Hsm8.out, fun e he => Hfine.out e (hperm.mem_iff.1 he), by rw [← Hview.out]; exact hperm.map _, hpw, Hx8.out w Hext.out rfl⟩

end Go.Proofs.YtkamjjjimbbdmaaGreatDoor
