/- The walk of comma.List. -/
import Derived.Test.YtkamjjjimbbdmaaGreatDoorRevs
import Derived.Deep.RegionHeld3
namespace Go.Proofs.YtkamjjjimbbdmaaGreatDoor
open Go.RowKit Go.Lib Go.Shelf Go.Sort

theorem fitsI_small {z : Int} (h1 : -1000000 ≤ z) (h2 : z ≤ 1000000) : fitsI z = true := by
  unfold fitsI; exact decide_eq_true (by omega)

/-- The intervals over one number, from the greatest denominator down. -/
def downs (num den : Nat) (L : List (Nat × List Int)) (n : Nat) (x : List Int) : Nat → List (List Int)
  | 0 => []
  | k + 1 => match L[k]? with
    | none => []
    | some e => if e.1 * num < n * den then [] else if shares x e.2 x.length then downs num den L n x k else diff x e.2 :: downs num den L n x k
def lst (num den : Nat) (L : List (Nat × List Int)) : Nat → List (List Int)
  | 0 => []
  | i + 1 => match L[i]? with
    | none => lst num den L i
    | some e => lst num den L i ++ (downs num den L e.1 e.2 i).reverse

theorem perm_unique : ∀ {l m : List (Nat × List Int)}, l.Perm m → l.Pairwise (fun a b => a.1 ≤ b.1) → m.Pairwise (fun a b => a.1 < b.1) → l = m
  | l, [], h, _, _ => h.eq_nil
  | [], y :: m, h, _, _ => by have := h.length_eq; simp at this
  | x :: l, y :: m, h, h1, h2 => by
    have hy : y ∈ x :: l := h.mem_iff.2 (List.mem_cons_self ..)
    have hx : x ∈ y :: m := h.mem_iff.1 (List.mem_cons_self ..)
    rw [List.pairwise_cons] at h1 h2
    have e : x = y := by
      rcases List.mem_cons.1 hx with e | hx'
      · exact e
      · rcases List.mem_cons.1 hy with e | hy'
        · exact e.symm
        · have := h1.1 y hy'
          have := h2.1 x hx'
          omega
    subst e
    rw [perm_unique (List.Perm.cons_inv h) h1.2 h2.2]

theorem own_cap {w : World} {B : Nat} {a : Option Addr} {E s k c n : Nat} {xs : List Value} (h : w.ownsRow B E s (.slice a k c) n xs) : n ≤ c ∧ k = n := by
  rcases h.2 with ⟨e0, h0⟩ | ⟨g, cap, cur, e0, _, _, h1, _⟩
  · injection e0 with _ e2 e3; omega
  · injection e0 with _ e2 e3; omega

theorem revApp_c {W : World} {B : Nat} {a : Option Addr} {cap : Nat} {rs rs2 : List Rw} (hs : RwL W B (.slice a (rs ++ rs2).length cap) (rs ++ rs2)) (hl : (rs ++ rs2).length ≤ 1000000) (a' : Option Addr) (cap' : Nat) (ha : 0 < rs2.length → ∀ g, a = some ⟨g, 0, none⟩ → a' = some ⟨g, rs.length, none⟩) :
    Calls Tryz.prog 44 #[.slice a' rs2.length cap'] W fun e w' => e = .returned (.tuple #[]) ∧ RwL w' B (.slice a (rs ++ rs2).length cap) (rs ++ rs2.reverse) ∧ ∀ w0 : World, Ext w0 W → w0.heap.size = B → Ext w0 w' := by
  have h := revFrom_c hs rs.length (by simp) hl a' cap' (fun h g hg => ha (by simpa using h) g hg)
  rw [show (rs ++ rs2).length - rs.length = rs2.length by simp] at h
  rw [List.take_left, List.drop_left] at h
  exact h

def OutR (num den : Nat) (L : List (Nat × List Int)) (w0 : World) (v i : Value) (wr : World) : Prop :=
  ∃ (k : Nat) (rs : List Rw), i = .int .i64 k ∧ k ≤ L.length ∧ RwL wr w0.heap.size v rs ∧ rs.map Rw.x = lst num den L k ∧ Ext w0 wr
def InR (num den : Nat) (L : List (Nat × List Int)) (n i : Nat) (x : List Int) (rs0 : List Rw) (w0 : World) (b : Nat) (o : Obj) (v j : Value) (wr : World) : Prop :=
  ∃ (k : Nat) (rs : List Rw), j = .int .i64 ((k : Int) - 1) ∧ k ≤ i ∧ RwL wr w0.heap.size v (rs0 ++ rs) ∧ rs.map Rw.x ++ downs num den L n x k = downs num den L n x i ∧ Ext w0 wr ∧ wr.heap[b]? = some o
theorem box_cells {w : World} {b : Nat} {x y : Value} {t : TypeId} (h : w.heap[b]? = some (.cells #[x, y] t (0, 0))) : w.cell? ⟨b, 0, none⟩ = some x ∧ w.cell? ⟨b, 1, none⟩ = some y := by
  refine ⟨?_, ?_⟩ <;> (unfold World.cell?; rw [h]; rfl)
theorem held4 {V w w' : World} {a1 a2 a3 a4 : Addr} {u1 u2 u3 u4 : Value} (h : Ext V w ∧ w.cell? a1 = some u1 ∧ w.cell? a2 = some u2 ∧ w.cell? a3 = some u3 ∧ w.cell? a4 = some u4) (hx : Ext w w') :
    Ext V w' ∧ w'.cell? a1 = some u1 ∧ w'.cell? a2 = some u2 ∧ w'.cell? a3 = some u3 ∧ w'.cell? a4 = some u4 := ⟨h.1.trans hx, hx.cell h.2.1, hx.cell h.2.2.1, hx.cell h.2.2.2.1, hx.cell h.2.2.2.2⟩
theorem lst_len (num den : Nat) (L : List (Nat × List Int)) {i n : Nat} {x : List Int} (h : L[i]? = some (n, x)) : (lst num den L i).length + (downs num den L n x i).length ≤ (lst num den L L.length).length := by
  have hi := (List.getElem?_eq_some_iff.1 h).1
  have step : ∀ j, (lst num den L (i + 1)).length ≤ (lst num den L (i + 1 + j)).length := by
    intro j
    induction j with
    | zero => exact Nat.le_refl _
    | succ j ih =>
      refine Nat.le_trans ih ?_
      show _ ≤ (lst num den L (i + 1 + j + 1)).length
      rw [lst]
      split
      · exact Nat.le_refl _
      · rw [List.length_append]; omega
  have h1 := step (L.length - (i + 1))
  rw [Nat.add_sub_cancel' (by omega), lst, h] at h1
  simpa using h1
theorem rowChk_small {x : List Int} (hl : x.length ≤ 64) (h : ∀ j, -10000000 ≤ nthI x j ∧ nthI x j ≤ 10000000) : rowChk x = 0 := by
  unfold rowChk
  rw [if_neg]
  rintro (h1 | h1)
  · omega
  · obtain ⟨z, hz, hf⟩ := List.any_eq_true.1 h1
    obtain ⟨k, hk, rfl⟩ := List.getElem_of_mem hz
    have := h k
    unfold nthI at this
    rw [List.getD_eq_getElem?_getD, List.getElem?_eq_getElem hk] at this
    simp only [Option.getD_some] at this
    unfold fitsI at hf
    rw [decide_eq_true (by omega)] at hf
    cases hf
theorem nthI_diff (x y : List Int) (hl : x.length = y.length) (j : Nat) : nthI (diff x y) j = nthI x j - nthI y j := by
  unfold diff
  rcases Nat.lt_or_ge j x.length with h | h
  · show (List.getD _ _ _) = _
    rw [List.getD_eq_getElem?_getD, List.getElem?_map, List.getElem?_range h]
    rfl
  · have e1 : nthI x j = 0 := by unfold nthI; rw [List.getD_eq_getElem?_getD, List.getElem?_eq_none h]; rfl
    have e2 : nthI y j = 0 := by unfold nthI; rw [List.getD_eq_getElem?_getD, List.getElem?_eq_none (by omega)]; rfl
    rw [e1, e2]
    show (List.getD _ _ _) = _
    rw [List.getD_eq_getElem?_getD, List.getElem?_eq_none (by simp; omega)]
    rfl
theorem diff_length (x y : List Int) : (diff x y).length = x.length := by simp [diff]
theorem sub_small (vx vy : Value) (x y : List Int) (w : World) (hx : Sl w vx (i64s x)) (hy : Sl w vy (i64s y)) (hlen : x.length = y.length) (hl : x.length ≤ 64)
    (h1 : ∀ j, -1000000 ≤ nthI x j ∧ nthI x j ≤ 1000000) (h2 : ∀ j, -1000000 ≤ nthI y j ∧ nthI y j ≤ 1000000) :
    Calls Tryz.prog 43 #[vx, vy] w fun e w' => ∃ v, e = .returned (.tuple #[v, .int .i64 0]) ∧ OwnI w' w.heap.size v (diff x y) ∧ Ext w w' := by
  refine sub_c vx vy x y w hx hy hlen hl ?_ ?_ fun i _ => ?_
  · unfold bothErr
    rw [rowChk_small hl (fun j => by have := h1 j; omega), rowChk_small (by omega) (fun j => by have := h2 j; omega), if_neg (by omega), if_neg (by omega), if_neg (by omega)]
  · exact rowChk_small (by rw [diff_length]; exact hl) fun j => by
      rw [nthI_diff x y hlen]
      have := h1 j; have := h2 j; omega
  · have := h1 i; have := h2 i; omega
theorem info_row : (Tryz.prog.info? 30).map (fun i => (i.zero, i.size, i.bytes)) = some (some (.slice none 0 0), 1, 24) := by kernel_rfl
theorem addr_map (g n : Nat) : (some (⟨g, 0, none⟩ : Addr)).map (fun x => x.add n) = some ⟨g, n, none⟩ := by
  simp only [Option.map_some]
  unfold Addr.add
  split
  · rename_i h; rw [h]
  · rw [Nat.zero_add]
theorem lst_more {num den : Nat} {L : List (Nat × List Int)} {i n : Nat} {x : List Int} (h : L[i]? = some (n, x)) : lst num den L (i + 1) = lst num den L i ++ (downs num den L n x i).reverse := by
  rw [lst, h]
theorem out_more {num den i : Nat} {L : List (Nat × List Int)} {w0 W : World} {v : Value} {rs rs2 : List Rw} {n : Nat} {x : List Int} (hL : L[i]? = some (n, x)) (hr : RwL W w0.heap.size v (rs ++ rs2.reverse)) (h1 : rs.map Rw.x = lst num den L i) (h2 : rs2.map Rw.x = downs num den L n x i) (hE : Ext w0 W) :
    OutR num den L w0 v (.int .i64 ((i : Int) + 1)) W := by
  refine ⟨i + 1, rs ++ rs2.reverse, by simp, ?_, hr, ?_, hE⟩
  · have := (List.getElem?_eq_some_iff.1 hL).1; omega
  · rw [lst_more hL, List.map_append, List.map_reverse, h1, h2]

theorem in_more {num den n i k : Nat} {L : List (Nat × List Int)} {x d : List Int} {rs0 rs : List Rw} {w0 W5 W7 : World} {b : Nat} {x0 y0 v v7 u : Value} {tmp : Obj} (hk : k ≤ i) (hE : Ext w0 W5) (hr : RwL W5 w0.heap.size v (rs0 ++ rs)) (hu : OwnI W5 w0.heap.size u d) (hone : u.oneCell' = true)
    (hown : W7.ownsRow w0.heap.size 30 1 v7 (rs0.length + rs.length + 1) (rwc (rs0 ++ rs) ++ [u])) (hgrow : (W5.alloc tmp).grownBy W7 v.ownBlock) (hb : W5.heap[b]? = some (.cells #[x0, y0] 83 (0, 0)))
    (hd : rs.map Rw.x ++ d :: downs num den L n x k = downs num den L n x i) : InR num den L n i x rs0 w0 b (.cells #[x0, y0] 83 (0, 0)) v7 (.int .i64 ((k : Int) - 1)) W7 := by
  have keep : ∀ u' x', OwnI W5 w0.heap.size u' x' → OwnI W7 w0.heap.size u' x' := fun u' x' ho =>
    World.ownsRow.kept (((Ext.refl W5).alloc tmp).ownI ho) hgrow (own_ne ho hr.1 (by decide))
  have hE7 : Ext w0 W7 := by
    refine (hE.alloc tmp).grown hgrow fun k hk => ?_
    rcases hr.1.2 with ⟨rfl, _⟩ | ⟨g, cap, cur, rfl, hb, _⟩
    · simp [Value.ownBlock] at hk
    · simp [Value.ownBlock] at hk; omega
  have hb7 : W7.heap[b]? = some (.cells #[x0, y0] 83 (0, 0)) := by
    have h1 := ((Ext.refl W5).alloc tmp).heap hb
    rw [hgrow.block b (Array.getElem?_eq_some_iff.1 h1).1 ?_]
    · exact h1
    · intro e
      rcases hr.1.2 with ⟨rfl, _⟩ | ⟨g, cap, cur, rfl, _, hg, _⟩
      · simp [Value.ownBlock] at e
      · simp [Value.ownBlock] at e
        subst e
        rw [hb] at hg
        simp at hg
  refine ⟨k, rs ++ [⟨d, u, hone⟩], rfl, hk, ⟨?_, ?_⟩, by simpa using hd, hE7, hb7⟩
  · rw [← List.append_assoc, List.length_append, List.length_append]
    show W7.ownsRow _ _ _ _ _ (rwc ((rs0 ++ rs) ++ [_]))
    rw [show rwc ((rs0 ++ rs) ++ [⟨d, u, hone⟩]) = rwc (rs0 ++ rs) ++ [u] by simp [rwc]]
    exact hown
  · intro r hmem
    rw [← List.append_assoc] at hmem
    rcases List.mem_append.1 hmem with h | h
    · exact keep _ _ (hr.2 r h)
    · simp only [List.mem_singleton] at h
      subst h
      exact keep _ _ hu

set_option maxRecDepth 100000 in
set_option maxHeartbeats 2000000 in
theorem list_w (vp vx : Value) (p : List Nat) (lim f : Nat) (x : List Int) (F : List (Nat × List Int)) (w : World) (he : Env w) (hp : Sl w vp (i64s (ints p))) (hx : Sl w vx (i64s x)) (hask : askErr (ints p) lim x = 0)
    (hq : ∀ i, i < p.length → 2 ≤ nth p i ∧ nth p i ≤ 100) (hlim : lim ≤ 5000)
    (hF : growAll lim f p 0 [(1, List.replicate p.length 0)] = some F) (hFl : F.length ≤ 1000000)
    (L : List (Nat × List Int)) (hLp : L.Perm F) (hLs : L.Pairwise (fun a b => a.1 < b.1)) (hLl : (lst (numP (ints p) x) (denP (ints p) x) L L.length).length ≤ 10000) :
    Calls Tryz.prog 14 #[.agg #[vp, .int .i64 lim, vx]] w fun e w' => ∃ v rs, e = .returned (.tuple #[v, .int .i64 0]) ∧ RwL w' w.heap.size v rs ∧ rs.map Rw.x = lst (numP (ints p) x) (denP (ints p) x) L L.length ∧ Ext w w' := by
  obtain ⟨j0, hj, hy0, hy1, hy2⟩ := info_parts info_row
  have h1 : oneErr (ints p) x = 0 := by
    unfold askErr at hask
    by_cases h : oneErr (ints p) x = 0
    · exact h
    · rw [if_pos h] at hask; exact hask
  have hnice := nice_of (oneErr_zero h1).1 (oneErr_zero h1).2
  have hlp : p.length ≤ 6 := by have := (primesErr_zero (oneErr_zero h1).1).2.1; rwa [ints_length] at this
  have hlx : x.length ≤ 6 := by have := (rowErr_zero (oneErr_zero h1).2).1; rw [ints_length] at this; omega
  have hck := fun W (hE : Ext w W) => ask_c vp vx lim (ints p) x W (he.ext hE) (hE.sl hp) (hE.sl hx) (by rw [ints_length]; omega) (by omega)
  rw [hask] at hck
  have hsd := fun W (hE : Ext w W) => csides_c vp vx (ints p) x W (he.ext hE) (hE.sl hp) (hE.sl hx) hnice
  have hnm := fun W (hE : Ext w W) => nums_w vp p lim f F W (hE.sl hp) (by omega) hq hlim hF hFl
  have hnd := numP_digits hnice
  have hdd := denP_digits hnice
  have HLs := Lib.hid hLs; have HLp := Lib.hid hLp; have HLl := Lib.hid hLl
  clear hLs hLp hLl
  have Hck := Lib.hid hck; have Hsd := Lib.hid hsd; have Hnm := Lib.hid hnm; have He := Lib.hid he
  clear hck hsd hnm he h1 hask hq hF hnice
  obtain ⟨aa, ca, rfl, _, _, _⟩ := hp.parts
  obtain ⟨ab, cb, rfl, _, _, _⟩ := hx.parts
  clear hp hx
  rw [i64s_length, ints_length] at *
  rw [i64s_length] at *
  have hbox := three_new w (.slice aa p.length ca) (.int .i64 lim) (.slice ab x.length cb) 32
  have hE0 : Ext w (w.alloc (.cells #[.slice aa p.length ca, .int .i64 lim, .slice ab x.length cb] 32)) := (Ext.refl w).alloc _
  obtain ⟨hb0, hb1, hb2⟩ := hbox
  generalize hw0 : w.alloc (.cells #[.slice aa p.length ca, .int .i64 lim, .slice ab x.length cb] 32) = W0 at *
  generalize numP (ints p) x = num at *
  generalize denP (ints p) x = den at *
  go_enter Tryz.func14, Tryz.ntmps14
  go_wp2_with fail
  refine (Hck.out W0 hE0).mono ?_
  rintro e W1 ⟨rfl, hx1⟩
  have hE1 := hE0.trans hx1
  have hb01 := hx1.cell hb0
  have hb11 := hx1.cell hb1
  have hb21 := hx1.cell hb2
  go_wp2_with fail
  refine (Hsd.out W1 hE1).mono ?_
  rintro e W2 ⟨rfl, hx2⟩
  have hE2 := hE1.trans hx2
  have hb02 := hx2.cell hb01
  have hb12 := hx2.cell hb11
  go_wp2_with fail
  refine (Hnm.out W2 hE2).mono ?_
  rintro e W3 ⟨v3, rfl, es, hsm, hfine, hperm, hpw, hx3⟩
  have hview := perm_unique (hperm.trans HLp.out.symm) (by rw [List.pairwise_map]; exact hpw) HLs.out
  have hlen : L.length = es.length := by rw [← hview, List.length_map]
  have hsm : SmL W3 w.heap.size v3 es := ⟨own_mono hsm.1 hE2.size, fun e he => own_mono (hsm.2 e he) hE2.size⟩
  obtain ⟨a3, c3, rfl⟩ := own_shape hsm.1
  have hE3 := hE2.trans hx3
  have heslen : es.length ≤ 1000000 := by have := hperm.length_eq; rw [List.length_map] at this; omega
  have Hsm := Lib.hid hsm; have Hfine := Lib.hid hfine; have Hview := Lib.hid hview; have Hlen := Lib.hid hlen; have HE3 := Lib.hid hE3
  clear hsm hfine hview hlen hE3 hx1 hx2 hx3 hE0 hE1 hE2 hperm hpw
  go_wp2_with fail
  go_loopw [8, 36] (fun v i wr => OutR num den L W3 v i wr) (fun _ i _ => L.length - (intOf i).toNat)
  case atStart => exact ⟨0, [], rfl, Nat.zero_le _, RwL.nil _ _, rfl, Ext.refl _⟩
  case round =>
    obtain ⟨i, rs, rfl, hi, hrs, hlst, hext3⟩ := hrel
    rw [Hlen.out] at hi
    obtain ⟨av, cv, rfl⟩ := own_shape hrs.1
    have Hrs := Lib.hid hrs; have Hlst := Lib.hid hlst; have hext := HE3.out.trans hext3; have Hext := Lib.hid hext; have Hext3 := Lib.hid hext3
    clear hrs hlst hext hext3
    by_cases hlt : i < es.length
    · obtain ⟨e, he⟩ : ∃ e, es[i]? = some e := ⟨_, List.getElem?_eq_getElem hlt⟩
      obtain ⟨g, cap, e0, hsl⟩ := sm_slice Hsm.out.1 (by omega)
      injection e0 with e1 _ e3
      subst e1; subst e3
      have hmem : e ∈ es := List.mem_of_getElem? he
      obtain ⟨hs1, hs2⟩ := smc_at es i e he
      have hux := Hsm.out.2 e hmem
      obtain ⟨hex, hn1, hxs⟩ := Hfine.out e hmem
      obtain ⟨n, ex, eu, hn, heu⟩ := e
      dsimp only at hux hex hn1 hxs hs1 hs2
      obtain ⟨au, cu, rfl⟩ := own_shape hux
      have hc1 := Hext3.out.cell (hsl _ _ hs1)
      have hc2 := Hext3.out.cell (hsl _ _ hs2)
      have hLi : L[i]? = some (n, ex) := by rw [← Hview.out, List.getElem?_map, he]; rfl
      have HLi := Lib.hid hLi; clear hLi
      have Hsl := Lib.hid hsl; have Hux := Lib.hid hux; have Hxs := Lib.hid hxs; have Hhe := Lib.hid he; clear hsl hs1 hs2 hux hxs he
      have hE4 : Ext wr (wr.alloc (.cells #[.int .i64 n, .slice au p.length cu] 83)) := (Ext.refl wr).alloc _
      have hbx1 := two_new1 wr (.int .i64 n) (.slice au p.length cu) 83
      have hbx0 := two_new0 wr (.int .i64 n) (.slice au p.length cu) 83
      have hbox4 := World.alloc_heap_new wr (.cells #[.int .i64 n, .slice au p.length cu] 83)
      generalize hbb : wr.heap.size = bb at *
      go_wp2_with fail
      generalize hw4 : wr.alloc (.cells #[.int .i64 n, .slice au p.length cu] 83) = W4 at *
      refine (wholeOf_c n (by omega) (by omega) W4 (He.out.ext (Hext.out.trans hE4))).mono ?_
      rintro e9 W5 ⟨rfl, hx5⟩
      have hfn : Fit (n : Int) := by show nDigits n ≤ 400000; have := nDigits_lt (n := n) (k := 7) (by omega) (by omega); omega
      have hfd : Fit (den : Int) := by show nDigits den ≤ 400000; omega
      have hfu : Fit ((n : Int) * (den : Int)) := by
        rw [← Int.natCast_mul]; show nDigits (n * den) ≤ 400000
        have h1 := nDigits_lt (n := n) (k := 7) (by omega) (by omega)
        have h2 := nDigits_mul n den
        omega
      have Hfu := Lib.hid hfu
      go_wp2_with fail
      refine (mul_c n den W5 (He.out.ext ((Hext.out.trans hE4).trans hx5)) hfn hfd).mono ?_
      rintro e9 W6 ⟨rfl, hx6⟩
      have hE46 : Ext W4 W6 := hx5.trans hx6
      have hE6 : Ext wr W6 := hE4.trans hE46
      have HE6 := Lib.hid hE6; have hbox6 := hE46.heap hbox4; have Hbox6 := Lib.hid hbox6; have HE4 := Lib.hid hE4
      clear hE4 hbx1 hbx0 hE46 hE6 hbox4 hbox6 hfn hfd hfu hx5 hx6 hc1 hc2
      generalize hup : (n : Int) * (den : Int) = up at *
      have Hup := Lib.hid hup; clear hup
      go_wp2_with fail
      go_loopw [8, 13] (fun v j wr2 => InR num den L n i ex rs W3 bb (.cells #[.int .i64 n, .slice au p.length cu] 83) v j wr2) (fun _ j _ => (intOf j + 1).toNat)
      case atStart =>
        exact ⟨i, [], rfl, Nat.le_refl _, by rw [List.append_nil]; exact HE6.out.rwL Hrs.out, rfl, Hext3.out.trans HE6.out, Hbox6.out⟩
      case round =>
        obtain ⟨k, rs2, rfl, hk, hrs2, hd2, hext2, hbox2⟩ := hrel
        obtain ⟨av2, cv2, rfl⟩ := own_shape hrs2.1
        have Hrs2 := Lib.hid hrs2; have Hd2 := Lib.hid hd2; have Hext2 := Lib.hid hext2; have Hbox2 := Lib.hid hbox2
        clear hrs2 hd2 hext2 hbox2
        have hlen12 : rs.length + rs2.length ≤ 1000000 := by
          have h1 := congrArg List.length Hd2.out
          have h2 := congrArg List.length Hlst.out
          have h3 := lst_len num den L HLi.out
          have h4 := HLl.out
          simp at h1 h2
          omega
        cases k with
        | zero =>
          have hdone : rs2.map Rw.x = downs num den L n ex i := by have := Hd2.out; rwa [downs, List.append_nil] at this
          have Hdone := Lib.hid hdone; clear hdone
          go_wp2_with fail
          all_goals
            first
            | refine (revApp_c Hrs2.out (by rw [List.length_append]; omega) _ _ (fun h g hg => by subst hg; exact addr_map _ _)).mono ?_
            | refine (revApp_c Hrs2.out (by rw [List.length_append]; omega) _ _ (fun h g hg => by have hcap := own_cap Hrs2.out.1; rw [List.length_append] at hcap; exfalso; omega)).mono ?_
            rintro e9 W9 ⟨rfl, hr9, hx9⟩
            rw [List.length_append] at hr9
            have Hr9 := Lib.hid hr9; have Hx9 := Lib.hid (hx9 W3 Hext2.out rfl); clear hr9 hx9
            go_wp2
            go_roundw
            case rel =>
              first
              | exact out_more HLi.out Hr9.out Hlst.out Hdone.out Hx9.out
              | (have e : cv2 = rs.length := by omega
                 have h := Hr9.out
                 rw [e] at h
                 exact out_more HLi.out h Hlst.out Hdone.out Hx9.out)
            case measure => have := Hlen.out; simp [intOf]; omega
        | succ k =>
          obtain ⟨e2, he2⟩ : ∃ e, es[k]? = some e := ⟨_, List.getElem?_eq_getElem (by omega)⟩
          have hmem2 : e2 ∈ es := List.mem_of_getElem? he2
          obtain ⟨ht1, ht2⟩ := smc_at es k e2 he2
          have huy := Hsm.out.2 e2 hmem2
          obtain ⟨hey, hm1, hys⟩ := Hfine.out e2 hmem2
          have hL2 : L[k]? = some (e2.n, e2.x) := by rw [← Hview.out, List.getElem?_map, he2]; rfl
          obtain ⟨m, ey, eu2, hm, heu2⟩ := e2
          dsimp only at huy hey hm1 hys ht1 ht2 hL2
          obtain ⟨ay, cy, rfl⟩ := own_shape huy
          have hd1 := Hext2.out.cell (Hsl.out _ _ ht1)
          have hd2 := Hext2.out.cell (Hsl.out _ _ ht2)
          have Huy := Lib.hid huy; have Hys := Lib.hid hys; have HL2 := Lib.hid hL2
          clear huy hys hL2 he2 ht1 ht2 hmem2 heu2
          have hdn : downs num den L n ex (k + 1) = if m * num < n * den then [] else if shares ex ey ex.length then downs num den L n ex k else diff ex ey :: downs num den L n ex k := by
            rw [downs, HL2.out]
          rw [hdn] at Hd2
          clear hdn
          have hfm : Fit (m : Int) := by show nDigits m ≤ 400000; have := nDigits_lt (n := m) (k := 7) (by omega) (by omega); omega
          have hfv : Fit ((m : Int) * (num : Int)) := by
            rw [← Int.natCast_mul]; show nDigits (m * num) ≤ 400000
            have h1 := nDigits_lt (n := m) (k := 7) (by omega) (by omega)
            have h2 := nDigits_mul m num
            omega
          have hfn : Fit (num : Int) := by show nDigits num ≤ 400000; omega
          have hlen2 : (rs ++ rs2).length = rs.length + rs2.length := List.length_append
          have Hfm := Lib.hid hfm; have Hfv := Lib.hid hfv; have Hfn := Lib.hid hfn; clear hfm hfv hfn
          go_wp2_with fail
          refine (wholeOf_c m (by omega) (by omega) wr (He.out.ext (HE3.out.trans Hext2.out))).mono ?_
          rintro e9 V1 ⟨rfl, hv1⟩
          have Hv1 := Lib.hid hv1; clear hv1
          go_wp2_with fail
          refine (mul_c m num V1 (He.out.ext ((HE3.out.trans Hext2.out).trans Hv1.out)) Hfm.out Hfn.out).mono ?_
          rintro e9 V2 ⟨rfl, hv2⟩
          have Hv2 := Lib.hid (Hv1.out.trans hv2); clear hv2
          go_wp2_with fail
          refine (cmp_c up ((m : Int) * (num : Int)) V2 Hfu.out Hfv.out).mono ?_
          rintro e9 V3 ⟨rfl, hv3⟩
          have Hv3 := Lib.hid (Hv2.out.trans hv3); clear hv3
          by_cases hbrk : m * num < n * den
          · rw [if_pos hbrk, List.append_nil] at Hd2
            have Hdone := Hd2
            have hc : cmpI up ((m : Int) * (num : Int)) = 1 := cmpI_gt (by rw [← Hup.out, ← Int.natCast_mul, ← Int.natCast_mul]; omega)
            rw [hc]
            clear hbrk hc
            have hr2 := Hv3.out.rwL Hrs2.out
            have he2 := Hext2.out.trans Hv3.out
            clear Hrs2 Hext2
            have Hrs2 := Lib.hid hr2; have Hext2 := Lib.hid he2; clear hr2 he2
            go_wp2_with fail
            all_goals
              first
              | refine (revApp_c Hrs2.out (by rw [List.length_append]; omega) _ _ (fun h g hg => by subst hg; exact addr_map _ _)).mono ?_
              | refine (revApp_c Hrs2.out (by rw [List.length_append]; omega) _ _ (fun h g hg => by have hcap := own_cap Hrs2.out.1; rw [List.length_append] at hcap; exfalso; omega)).mono ?_
              rintro e9 W9 ⟨rfl, hr9, hx9⟩
              rw [List.length_append] at hr9
              have Hr9 := Lib.hid hr9; have Hx9 := Lib.hid (hx9 W3 Hext2.out rfl); clear hr9 hx9
              go_wp2
              go_roundw
              case rel =>
                first
                | exact out_more HLi.out Hr9.out Hlst.out Hdone.out Hx9.out
                | (have e : cv2 = rs.length := by omega
                   have h := Hr9.out
                   rw [e] at h
                   exact out_more HLi.out h Hlst.out Hdone.out Hx9.out)
              case measure => have := Hlen.out; simp [intOf]; omega
          · rw [if_neg hbrk] at Hd2
            have hc : ¬ 0 < cmpI up ((m : Int) * (num : Int)) := by
              rw [← Hup.out, ← Int.natCast_mul, ← Int.natCast_mul]
              unfold cmpI
              split
              · omega
              · split <;> omega
            generalize cmpI up ((m : Int) * (num : Int)) = cc at *
            clear hbrk
            have hq1 := (box_cells (Hv3.out.heap Hbox2.out)).1
            have hq2 := (box_cells (Hv3.out.heap Hbox2.out)).2
            have hq3 := Hv3.out.cell hd1
            have hq4 := Hv3.out.cell hd2
            rw [hey] at hq4
            have hsx : Sl V3 (.slice au p.length cu) (i64s ex) := by
              have h := Hv3.out.sl (Hext2.out.sl Hux.out.sl)
              rwa [hex] at h
            have hsy : Sl V3 (.slice ay p.length cy) (i64s ey) := by
              have h := Hv3.out.sl (Hext2.out.sl Huy.out.sl)
              rwa [hey] at h
            have Hsx := Lib.hid hsx; have Hsy := Lib.hid hsy; clear hsx hsy
            have hap := fun W (h : Ext V3 W) => apart_c (.slice au p.length cu) (.slice ay p.length cy) n m ex ey W (h.sl Hsx.out) (h.sl Hsy.out) (by omega) (by omega)
            generalize hsh : shares ex ey ex.length = sh at *
            clear hsh
            have Hap := Lib.hid hap; clear hap hd1 hd2
            have hki0 : (0 : Int) ≤ (k : Int) := by omega
            have hki1 : (k : Int) < (es.length : Int) := by omega
            go_wp2_with fail
            go_region_held3 (fun w' => Ext V3 w' ∧ w'.cell? ⟨bb, 0, none⟩ = some (.int .i64 n) ∧ w'.cell? ⟨bb, 1, none⟩ = some (.slice au p.length cu) ∧ w'.cell? ⟨g, k * 2, none⟩ = some (.int .i64 m) ∧ w'.cell? ⟨g, k * 2 + 1, none⟩ = some (.slice ay p.length cy))
              (first | exact held4 ⟨Ext.refl V3, hq1, hq2, hq3, hq4⟩ ((Ext.refl V3).drew) | exact held4 (by assumption) hxa)
              (first | (go_at_call 42; refine (Hap.out _ (And.left (by assumption))).mono ?_; rintro e9 V4 ⟨rfl, hxa⟩))
            have hE34 : Ext V3 V4 := (Ext.refl V3).drew.trans hxa
            have hbx4 := hE34.heap (Hv3.out.heap Hbox2.out)
            have hr4 := hE34.rwL (Hv3.out.rwL Hrs2.out)
            have hex4 := (Hext2.out.trans Hv3.out).trans hE34
            obtain ⟨_, _, hp2, hp3, hp4⟩ := held4 ⟨Ext.refl V3, hq1, hq2, hq3, hq4⟩ hE34
            have HE34 := Lib.hid hE34; have Hbx4 := Lib.hid hbx4; have Hr4 := Lib.hid hr4; have Hex4 := Lib.hid hex4
            clear hxa hE34 hbx4 hr4 hex4 hq1 hq2 hq3 hq4
            cases sh with
            | true =>
              rw [if_pos rfl] at Hd2
              go_wp2_with fail
              go_roundw
              case rel => exact ⟨k, rs2, by go_num, by omega, by rw [← hlen2]; exact Hr4.out, Hd2.out, Hex4.out, Hbx4.out⟩
              case measure => first | (simp [intOf]; done) | (simp [intOf]; omega)
            | false =>
              rw [if_neg (by simp)] at Hd2
              have hcount : rs.length + rs2.length < 10000 := by
                have h1 := congrArg List.length Hd2.out
                have h2 := congrArg List.length Hlst.out
                have h3 := lst_len num den L HLi.out
                have h4 := HLl.out
                simp at h1 h2
                omega
              have hsub := fun W (h : Ext V4 W) => sub_small (.slice au p.length cu) (.slice ay p.length cy) ex ey W (h.sl (HE34.out.sl Hsx.out)) (h.sl (HE34.out.sl Hsy.out)) (by omega) (by omega) (fun j => by have := Hxs.out j; omega) (fun j => by have := Hys.out j; omega)
              have Hsub := Lib.hid hsub; clear hsub
              go_wp2_with fail
              go_region_held3 (fun w' => Ext V4 w' ∧ w'.cell? ⟨bb, 0, none⟩ = some (.int .i64 n) ∧ w'.cell? ⟨bb, 1, none⟩ = some (.slice au p.length cu) ∧ w'.cell? ⟨g, k * 2, none⟩ = some (.int .i64 m) ∧ w'.cell? ⟨g, k * 2 + 1, none⟩ = some (.slice ay p.length cy))
                (first | exact held4 ⟨Ext.refl V4, (box_cells Hbx4.out).1, hp2, hp3, hp4⟩ ((Ext.refl V4).drew) | exact held4 (by assumption) hxa)
                (first | (go_at_call 43; refine (Hsub.out _ (And.left (by assumption))).mono ?_; rintro e9 V5 ⟨v5, rfl, hv5, hxa⟩))
              have hE45 : Ext V4 V5 := (Ext.refl V4).drew.trans hxa
              have hbx5 := hE45.heap Hbx4.out
              have hr5 := hE45.rwL Hr4.out
              have hex5 := Hex4.out.trans hE45
              have hv5 : OwnI V5 W3.heap.size v5 (diff ex ey) := own_mono hv5 (Nat.le_trans Hex4.out.size (Ext.size ((Ext.refl V4).drew)))
              obtain ⟨a5, c5, rfl⟩ := own_shape hv5
              have hown5 := hr5.1
              have hsz5 := hex5.size
              rw [hlen2] at hown5
              have hm3 : rs.length + rs2.length + 1 ≤ maxLen := by unfold maxLen; omega
              have hm4 : (rs.length + rs2.length + 1) * 24 ≤ 140737488355328 := by omega
              have Hbx5 := Lib.hid hbx5; have Hr5 := Lib.hid hr5; have Hex5 := Lib.hid hex5; have Hv5 := Lib.hid hv5
              clear hxa hE45 hbx5 hr5 hex5 hv5
              go_wp2_with (at_builtin; refine wpList_append_own _ rfl _ _ 36 rfl W3.heap.size 30 j0 (.slice none 0 0) 1 24 Tryz.underlying36 hj hy0 hy1 hy2 rfl (by decide) _ _ _ rfl (hown5.alloc _) ⟨V5.heap.size, 0, none⟩ 1 1 [.slice a5 (diff ex ey).length c5] rfl rfl (cell_one_new _ _ _) (by simp [Value.oneCell']) hm3 hm4 (by rw [World.size_alloc]; omega) ?_; intro v7 V7 hown7 hgrow7 _)
              go_roundw
              case rel => exact in_more (by omega) Hex5.out (show RwL V5 W3.heap.size (.slice av2 (rs.length + rs2.length) cv2) (rs ++ rs2) by rw [← hlen2]; exact Hr5.out) Hv5.out rfl hown7 hgrow7 Hbx5.out Hd2.out
              case measure => first | (simp [intOf]; done) | (simp [intOf]; omega)
    · obtain rfl : i = es.length := by omega
      have hfin : rs.map Rw.x = lst num den L L.length := by rw [Hlen.out]; exact Hlst.out
      have Hfin := Lib.hid hfin; clear hfin
      have hrl : RwL wr w.heap.size (.slice av rs.length cv) rs := ⟨own_mono Hrs.out.1 HE3.out.size, fun r hr => own_mono (Hrs.out.2 r hr) HE3.out.size⟩
      have Hrl := Lib.hid hrl; clear hrl
      go_wp2
      go_ret2
      exact ⟨_, rs, rfl, Hrl.out, Hfin.out, Hext.out⟩

end Go.Proofs.YtkamjjjimbbdmaaGreatDoor
