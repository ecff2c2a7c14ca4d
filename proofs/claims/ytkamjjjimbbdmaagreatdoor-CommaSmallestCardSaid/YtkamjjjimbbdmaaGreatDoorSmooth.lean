/- The walk of comma.numbers. -/
import Derived.Test.YtkamjjjimbbdmaaGreatDoorComma
import Derived.Test.YtkamjjjimbbdmaaGreatDoorSame
import Derived.Test.YtkamjjjimbbdmaaGreatDoorTimes
import Derived.Test.YtkamjjjimbbdmaaGreatDoorStr
import Derived.Test.YtkamjjjimbbdmaaGreatDoorShelfB
namespace Go.Proofs.YtkamjjjimbbdmaaGreatDoor
open Go.RowKit Go.Lib Go.Shelf Go.Sort

/-- Clone of a row. -/
theorem clone_c (v : Value) (x : List Int) (w : World) (hx : Sl w v (i64s x)) (hl : x.length ≤ 1000000) :
    Calls Tryz.prog 50 #[v] w fun e w' => ∃ v', e = .returned v' ∧ OwnI w' w.heap.size v' x ∧ Ext w w' := by
  obtain ⟨i0, hi, hz0, hz1, hz2⟩ := info_parts info_int
  rcases hx with ⟨rfl, h0⟩ | ⟨b, off, cap, rfl, h1, h2, hc⟩
  · refine (AnyE.slices_Clone_nil Tryz.lCloneR 0 0 w).mono fun e w' ⟨he, hw⟩ => ⟨_, he, ?_, by rw [hw]; exact Ext.refl w⟩
    have : x = [] := by
      cases x with
      | nil => rfl
      | cons a r => simp [i64s] at h0
    rw [hw, this]
    exact World.ownsRow_nil w _ _ 1
  · refine (AnyE.slices_Clone Tryz.lCloneR i0 (.int .i64 0) 1 8 hi hz0 hz1 hz2 rfl (by decide) Tryz.sizeOf3 b off (i64s x).length cap (i64s x) w (by omega) (by rw [i64s_length]; unfold maxLen; omega) (by rw [i64s_length]; omega) hc (by simp [i64s, Value.oneCell'])).mono fun e w' ⟨v', he, ho, _, hb⟩ => ⟨v', he, ?_, hb⟩
    rw [i64s_length] at ho
    exact ho

theorem ownI_set {w : World} {B g cap : Nat} {o : List Int} (h : OwnI w B (.slice (some ⟨g, 0, none⟩) o.length cap) o) (j : Nat) (x : Int) :
    OwnI (w.setCell ⟨g, j, none⟩ (.int .i64 x)) B (.slice (some ⟨g, 0, none⟩) o.length cap) (o.set j x) := by
  have := (World.ownsRow.stored h j (.int .i64 x)).1
  unfold OwnI
  rw [List.length_set]
  rwa [show (i64s o).set j (.int .i64 x) = i64s (o.set j x) by simp [i64s, List.map_set]] at this
theorem ownI_cell {w : World} {B g cap : Nat} {o : List Int} (h : OwnI w B (.slice (some ⟨g, 0, none⟩) o.length cap) o) (j : Nat) (hj : j < o.length) :
    w.cell? ⟨g, j, none⟩ = some (.int .i64 (nthI o j)) := by
  rw [World.ownsRow.cellAt h j (by omega), i64s_at hj]

/-- A number with its exponents, and the slice that holds these. -/
structure Sm where
  n : Nat
  x : List Int
  u : Value
  hn : n ≤ 1000000
  hu : u.oneCell' = true
instance : Inhabited Sm := ⟨⟨0, [], .slice none 0 0, by omega, rfl⟩⟩
def Sm.enc (e : Sm) : List Value := [.int .i64 (e.n : Int), e.u]
def Sm.view (e : Sm) : Nat × List Int := (e.n, e.x)
def smc (es : List Sm) : List Value := es.flatMap Sm.enc
theorem smc_length (es : List Sm) : (smc es).length = es.length * 2 := by
  induction es with
  | nil => rfl
  | cons e r ih => simp only [smc, List.flatMap_cons, List.length_append, List.length_cons] at *; rw [ih]; simp [Sm.enc]; omega
theorem smc_at : ∀ (es : List Sm) (k : Nat) (e : Sm), es[k]? = some e → (smc es)[k * 2]? = some (.int .i64 (e.n : Int)) ∧ (smc es)[k * 2 + 1]? = some e.u
  | [], k, e, h => by simp at h
  | a :: r, 0, e, h => by simp at h; subst h; exact ⟨rfl, rfl⟩
  | a :: r, k + 1, e, h => by
    have := smc_at r k e (by simpa using h)
    rw [show (k + 1) * 2 = k * 2 + 1 + 1 by omega]
    exact this

/-- A slice of such numbers. -/
def SmL (w : World) (B : Nat) (v : Value) (es : List Sm) : Prop :=
  w.ownsRow B 83 2 v es.length (smc es) ∧ ∀ e ∈ es, OwnI w B e.u e.x

theorem own_ne {w : World} {B B' E E' s s' n n' : Nat} {v u : Value} {xs ys : List Value} (h : w.ownsRow B E s v n xs) (k : w.ownsRow B' E' s' u n' ys) (hE : E ≠ E') : v.ownBlock = none ∨ v.ownBlock ≠ u.ownBlock := by
  rcases h.2 with ⟨rfl, _⟩ | ⟨g, cap, cur, rfl, _, hg, _⟩
  · exact .inl rfl
  · rcases k.2 with ⟨rfl, _⟩ | ⟨g', cap', cur', rfl, _, hg', _⟩
    · exact .inr (by simp [Value.ownBlock])
    · refine .inr fun e => ?_
      obtain rfl : g = g' := by simpa [Value.ownBlock] using e
      rw [hg] at hg'
      simp at hg'
      exact hE hg'.2

theorem Ext.smL {w w' : World} (h : Ext w w') {B : Nat} {v : Value} {es : List Sm} (hs : SmL w B v es) : SmL w' B v es := ⟨h.own hs.1, fun e he => h.ownI (hs.2 e he)⟩

/-- One more of an exponent. -/
def bump (x : List Int) (i : Nat) : List Int := x.set i (nthI x i + 1)
def grow1 (q i lim : Nat) : Nat → Nat → List (Nat × List Int) → Option (List (Nat × List Int))
  | 0, _, _ => none
  | f + 1, k, l => match l[k]? with
    | none => some l
    | some e => if e.1 ≤ lim / q then grow1 q i lim f (k + 1) (l ++ [(e.1 * q, bump e.2 i)]) else grow1 q i lim f (k + 1) l
def growAll (lim f : Nat) : List Nat → Nat → List (Nat × List Int) → Option (List (Nat × List Int))
  | [], _, l => some l
  | q :: r, i, l => match grow1 q i lim f 0 l with
    | none => none
    | some l' => growAll lim f r (i + 1) l'

theorem grow1_len (q i lim : Nat) : ∀ (f k : Nat) (l F : List (Nat × List Int)), grow1 q i lim f k l = some F → l.length ≤ F.length
  | 0, _, _, _, h => by simp [grow1] at h
  | f + 1, k, l, F, h => by
    rw [grow1] at h
    split at h
    · simp at h; rw [h]; exact Nat.le_refl _
    · split at h
      · have := grow1_len q i lim f _ _ _ h
        simp at this; omega
      · exact grow1_len q i lim f _ _ _ h
theorem growAll_len (lim f : Nat) : ∀ (p : List Nat) (i : Nat) (l F : List (Nat × List Int)), growAll lim f p i l = some F → l.length ≤ F.length
  | [], _, _, _, h => by simp [growAll] at h; rw [h]; exact Nat.le_refl _
  | q :: r, i, l, F, h => by
    rw [growAll] at h
    split at h
    · cases h
    · rename_i l' hl'
      exact Nat.le_trans (grow1_len q i lim f 0 l l' hl') (growAll_len lim f r _ _ _ h)

/-- What stays true of each number. -/
def Fine (L : Nat) (e : Sm) : Prop := e.x.length = L ∧ 1 ≤ e.n ∧ ∀ j, 0 ≤ nthI e.x j ∧ nthI e.x j ≤ e.n


theorem info_smooth : (Tryz.prog.info? 83).map (fun i => (i.zero, i.size, i.bytes)) = some (some (.agg #[.int .i64 0, .slice none 0 0]), 2, 32) := by kernel_rfl

theorem sm_slice {w : World} {B : Nat} {v : Value} {E k : Nat} {xs : List Value} (h : w.ownsRow B E 2 v k xs) (hk : 0 < k) : ∃ g cap, v = .slice (some ⟨g, 0, none⟩) k cap ∧ ∀ j u, xs[j]? = some u → w.cell? ⟨g, j, none⟩ = some u := by
  rcases h.2 with ⟨_, h0⟩ | ⟨g, cap, cur, rfl, _⟩
  · omega
  · refine ⟨g, cap, rfl, fun j u hj => ?_⟩
    have := h.cells (g := g) rfl j u hj
    rwa [show ((⟨g, 0, none⟩ : Addr).add j) = ⟨g, j, none⟩ by unfold Addr.add; split <;> simp_all] at this

theorem own_put {w : World} {base : Nat} {e : TypeId} {size g n cap q : Nat} {xs ys : List Value} (h : w.ownsRow base e size (.slice (some ⟨g, 0, none⟩) n cap) n xs) (hy : ys.length = n * size) :
    (putRow id (Sort.ahead w q) g 0 ys.toArray).ownsRow base e size (.slice (some ⟨g, 0, none⟩) n cap) n ys := by
  rcases h.2 with ⟨e0, _⟩ | ⟨g', cap', cur, e0, hb, hg, hn, hm, hs, ht⟩
  · cases e0
  · injection e0 with e1 _ e3
    injection e1 with e1
    injection e1 with e1
    subst e1; subst e3
    have hle : n * size ≤ cap * size := Nat.mul_le_mul_right _ hn
    refine ⟨hy, .inr ⟨g, cap, putCells id 0 ys.toArray cur, rfl, hb, ?_, hn, hm, by simpa [putCells] using hs, ?_⟩⟩
    · simp [putRow, mapBlock, Sort.ahead, Array.getElem?_modify, hg, onCells]
    · apply List.ext_getElem?
      intro j
      rw [List.getElem?_take, Array.getElem?_toList]
      by_cases hj : j < n * size
      · have hjc : j < cur.size := by omega
        simp only [if_pos hj, putCells, Array.getElem?_mapIdx, Array.getElem?_eq_getElem hjc, Option.map_some]
        rw [if_pos (by simp; omega), List.getElem?_eq_getElem (by omega)]
        simp [getElem!_pos, show j < ys.length by omega]
      · rw [if_neg hj, List.getElem?_eq_none (by omega)]
theorem grownBy_put (w : World) (g q : Nat) (F : Array Value) (os : Array Obj) : w.grownBy (grow (putRow id (Sort.ahead w q) g 0 F) os) (some g) :=
  ⟨rfl, rfl, rfl, by simp [grow, putRow, mapBlock, Sort.ahead], fun k hk hne => by
    have hne' : g ≠ k := fun e => hne (by rw [e])
    simp only [grow, putRow, mapBlock, Sort.ahead]
    rw [Array.getElem?_append_left (by simpa using hk), Array.getElem?_modify, if_neg hne']⟩
theorem holds_own {w : World} {base : Nat} {e : TypeId} {size g n cap : Nat} {xs : List Value} (h : w.ownsRow base e size (.slice (some ⟨g, 0, none⟩) n cap) n xs) : Holds id w g 0 xs.toArray := by
  intro j hj
  have hj' : j < xs.length := by simpa using hj
  refine ⟨?_, ?_⟩
  · have := h.cells (g := g) rfl j xs[j] (List.getElem?_eq_getElem hj')
    rw [show ((⟨g, 0, none⟩ : Addr).add j) = ⟨g, 0 + j, none⟩ by unfold Addr.add; split <;> simp_all] at this
    rw [this]
    simp [getElem!_pos, hj']
  · have := World.ownsRow.frozenAt h j
    rwa [Nat.zero_add]
theorem flat_smc (d : Array Sm) : flatK Sm.enc 2 d = (smc d.toList).toArray := by
  apply ext_get!
  · simp only [List.size_toArray, smc_length, size_flatK, Array.length_toList]
  · intro t ht
    rw [size_flatK] at ht
    rw [get_flatK _ _ _ _ ht]
    have hk : t / 2 < d.size := by omega
    have hk' : t / 2 < d.toList.length := by simpa using hk
    obtain ⟨h1, h2⟩ := smc_at d.toList (t / 2) d[t / 2] (by rw [Array.getElem?_toList]; exact Array.getElem?_eq_getElem hk)
    have hg : d[t / 2]! = d[t / 2] := getElem!_pos d _ hk
    have hlen := smc_length d.toList
    have htl : t < (smc d.toList).length := by rw [hlen]; simp; omega
    rw [hg, getElem!_pos _ t (by simpa using htl)]
    rcases Nat.mod_two_eq_zero_or_one t with h | h
    · rw [h]
      rw [show t / 2 * 2 = t by omega, List.getElem?_eq_getElem htl] at h1
      simpa [Sm.enc] using (Option.some.inj h1).symm
    · rw [h]
      rw [show t / 2 * 2 + 1 = t by omega, List.getElem?_eq_getElem htl] at h2
      simpa [Sm.enc] using (Option.some.inj h2).symm

theorem enc_one (x : Sm) (v : Value) (hv : v ∈ x.enc) : v.oneCell' = true := by
  rcases List.mem_cons.1 hv with rfl | hv
  · rfl
  · rw [List.mem_singleton.1 hv]; exact x.hu
def cfN (x y : Sm) : Int := (x.n : Int) - (y.n : Int)
theorem ltN (x y : Sm) : ltOf cfN x y = decide (x.n < y.n) := by
  unfold ltOf cfN
  by_cases h : x.n < y.n
  · rw [decide_eq_true h, decide_eq_true (by omega)]
  · rw [decide_eq_false h, decide_eq_false (by omega)]
theorem swoN : SWO (ltOf cfN) where
  irrefl x := by rw [ltN]; simp
  trans x y z h1 h2 := by rw [ltN] at *; simp at *; omega
  ntrans x y z h1 h2 := by rw [ltN] at *; simp at *; omega
theorem layN (blk off size : Nat) (w : World) : CmpLays Tryz.prog 77 #[] Sm.enc 2 cfN blk off size w := by
  intro m os dk _ x y
  refine (byNumber_c x.u y.u x.n y.n (sortWorldK Sm.enc 2 w blk off m dk os) (by omega) (by have := x.hn; omega) (by omega) (by have := y.hn; omega)).mono ?_
  rintro e w' ⟨rfl, rfl⟩
  refine ⟨rfl, 0, #[.cells #[.int .i64 x.n, x.u] 83, .cells #[.int .i64 y.n, y.u] 83], ?_⟩
  rw [alloc_eq_grow, alloc_eq_grow, grow_grow]
  rfl

set_option maxHeartbeats 1000000 in
theorem sort_c {W : World} {B : Nat} {a : Option Addr} {cap : Nat} {es : List Sm} (hs : SmL W B (.slice a es.length cap) es) (hpos : 0 < es.length) (hl : es.length ≤ 1000000) :
    Calls Tryz.prog 76 #[.slice a es.length cap, .func (.func 77) #[] #[]] W fun e w' => e = .returned (.tuple #[]) ∧ ∃ es' : List Sm, SmL w' B (.slice a es.length cap) es' ∧ es'.Perm es ∧ es'.Pairwise (fun a b => a.n ≤ b.n) ∧ ∀ w0 : World, Ext w0 W → (w0.heap.size = B → Ext w0 w') := by
  obtain ⟨g, cap', e0, hcells⟩ := sm_slice hs.1 hpos
  injection e0 with e1 _ e3
  subst e1; subst e3
  have hH : HoldsK Sm.enc 2 W g 0 es.toArray := by
    show Holds id W g 0 (flatK Sm.enc 2 es.toArray)
    rw [flat_smc]
    exact holds_own hs.1
  have hg : g < W.heap.size := by
    obtain ⟨e, he⟩ : ∃ e, (smc es)[0]? = some e := ⟨_, List.getElem?_eq_getElem (by rw [smc_length]; omega)⟩
    exact World.block_lt_of_cell? _ _ (hcells 0 e he)
  have hgB : B ≤ g := by
    rcases hs.1.2 with ⟨e0, _⟩ | ⟨g', cap', cur, e0, hb, _⟩
    · cases e0
    · injection e0 with e1 _ _
      injection e1 with e1
      injection e1 with e1
      omega
  have eg : ∀ args w, (callFunc 77 args).run Tryz.prog w = .ok (.enter 77 args) w := enters_of Tryz.func77 (by kernel_rfl) rfl
  have hcon := AnyQ.slices_SortFunc Tryz.lSortSmooth 2 Tryz.isAgg83 Tryz.sizeOf83 Sm.enc (fun _ => rfl) enc_one cfN swoN 77 #[] g 0 cap es.toArray W eg (layN g 0 es.toArray.size W) hH hg (by simp; omega)
  rw [List.size_toArray] at hcon
  refine Calls.mono hcon ?_
  rintro e w' ⟨rfl, d', n, os, hp, hso, rfl⟩
  obtain ⟨hd1, _, hd3⟩ := hp
  have hsz : d'.size = es.length := by simpa using hd1
  have hperm : d'.toList.Perm es := by
    have : (d'.extract 0 es.length).toList.Perm (es.toArray.extract 0 es.length).toList := hd3
    simpa [hsz, List.take_of_length_le] using this
  have hgrow := grownBy_put W g n (flatK Sm.enc 2 d') os
  refine ⟨rfl, d'.toList, ⟨?_, ?_⟩, hperm, ?_, ?_⟩
  · have h1 := own_put (q := n) (ys := smc d'.toList) hs.1 (by rw [smc_length]; simp [hsz])
    have h2 : (grow (putRow id (Sort.ahead W n) g 0 (smc d'.toList).toArray) os).ownsRow B 83 2 (.slice (some ⟨g, 0, none⟩) es.length cap) es.length (smc d'.toList) := ((Ext.refl _).grow os).own h1
    show (grow (putRow id (Sort.ahead W n) g 0 (flatK Sm.enc 2 d')) os).ownsRow _ _ _ _ _ _
    rw [flat_smc]
    rw [show d'.toList.length = es.length by simpa using hsz]
    exact h2
  · intro e he
    have ho := hs.2 e (hperm.mem_iff.1 he)
    exact World.ownsRow.kept ho hgrow (own_ne ho hs.1 (by decide))
  · rw [List.pairwise_iff_getElem]
    intro i j hi hj hij
    have := hso i j (Nat.zero_le _) hij (by simpa [hsz] using hj)
    rw [ltN] at this
    have hi' : i < d'.size := by simpa using hi
    have hj' : j < d'.size := by simpa using hj
    rw [getElem!_pos d' j hj', getElem!_pos d' i hi'] at this
    simp at this
    simpa using this
  · intro w0 h0 hB0
    exact h0.grown hgrow fun k hk => by cases hk; omega

end Go.Proofs.YtkamjjjimbbdmaaGreatDoor
