/- The sort of comma.Smallest. -/
import Derived.Test.YtkamjjjimbbdmaaGreatDoorSized
import Derived.Test.YtkamjjjimbbdmaaGreatDoorNums
namespace Go.Proofs.YtkamjjjimbbdmaaGreatDoor
open Go.RowKit Go.Lib Go.Shelf Go.Sort

/-- An interval with its sides, and the slice that holds its row. -/
structure Sz where
  a : Nat
  b : Nat
  x : List Int
  u : Value
  ha : a < 1000000000
  hb : b < 1000000000
  h0 : 0 < b
  hu : u.oneCell' = true
instance : Inhabited Sz := ⟨⟨0, 1, [], .slice none 0 0, by omega, by omega, by omega, rfl⟩⟩
def Sz.enc (e : Sz) : List Value := [.string (I (e.a : Int)), .string (I (e.b : Int)), e.u]
def szc (es : List Sz) : List Value := es.flatMap Sz.enc
theorem szc_length (es : List Sz) : (szc es).length = es.length * 3 := by
  induction es with
  | nil => rfl
  | cons e r ih => simp only [szc, List.flatMap_cons, List.length_append, List.length_cons] at *; rw [ih]; simp [Sz.enc]; omega
theorem szc_at : ∀ (es : List Sz) (k : Nat) (e : Sz), es[k]? = some e → (szc es)[k * 3]? = some (.string (I (e.a : Int))) ∧ (szc es)[k * 3 + 1]? = some (.string (I (e.b : Int))) ∧ (szc es)[k * 3 + 2]? = some e.u
  | [], k, e, h => by simp at h
  | a :: r, 0, e, h => by simp at h; subst h; exact ⟨rfl, rfl, rfl⟩
  | a :: r, k + 1, e, h => by
    have := szc_at r k e (by simpa using h)
    rw [show (k + 1) * 3 = k * 3 + 1 + 1 + 1 by omega]
    exact this
theorem enc_oneS (x : Sz) (v : Value) (hv : v ∈ x.enc) : v.oneCell' = true := by
  rcases List.mem_cons.1 hv with rfl | hv
  · rfl
  · rcases List.mem_cons.1 hv with rfl | hv
    · rfl
    · rw [List.mem_singleton.1 hv]; exact x.hu
def cfS (x y : Sz) : Int := cmpI ((x.a : Int) * (y.b : Int)) ((y.a : Int) * (x.b : Int))
theorem ltS (x y : Sz) : ltOf cfS x y = decide (x.a * y.b < y.a * x.b) := by
  unfold ltOf cfS cmpI
  rw [← Int.natCast_mul, ← Int.natCast_mul]
  by_cases h : x.a * y.b < y.a * x.b
  · rw [if_pos (by omega), decide_eq_true h]; rfl
  · rw [if_neg (by omega), decide_eq_false h]
    split <;> rfl
theorem ratio_trans {a1 b1 a2 b2 a3 b3 : Nat} (h1 : a1 * b2 < a2 * b1) (h2 : a2 * b3 < a3 * b2) (p : 0 < b3) (q : 0 < b1) : a1 * b3 < a3 * b1 := by
  have e1 : a1 * b2 * b3 < a2 * b1 * b3 := Nat.mul_lt_mul_of_pos_right h1 p
  have e2 : a2 * b3 * b1 < a3 * b2 * b1 := Nat.mul_lt_mul_of_pos_right h2 q
  have e3 : a2 * b1 * b3 = a2 * b3 * b1 := Nat.mul_right_comm ..
  have e4 : a1 * b3 * b2 < a3 * b1 * b2 := by
    rw [Nat.mul_right_comm a1 b3 b2, Nat.mul_right_comm a3 b1 b2]; omega
  exact Nat.lt_of_mul_lt_mul_right e4
theorem ratio_ntrans {a1 b1 a2 b2 a3 b3 : Nat} (h1 : a2 * b1 ≤ a1 * b2) (h2 : a3 * b2 ≤ a2 * b3) (r : 0 < b2) : a3 * b1 ≤ a1 * b3 := by
  have e1 : a2 * b1 * b3 ≤ a1 * b2 * b3 := Nat.mul_le_mul_right _ h1
  have e2 : a3 * b2 * b1 ≤ a2 * b3 * b1 := Nat.mul_le_mul_right _ h2
  have e3 : a2 * b1 * b3 = a2 * b3 * b1 := Nat.mul_right_comm ..
  have e4 : a3 * b1 * b2 ≤ a1 * b3 * b2 := by
    rw [Nat.mul_right_comm a1 b3 b2, Nat.mul_right_comm a3 b1 b2]; omega
  exact Nat.le_of_mul_le_mul_right e4 r
theorem swoS : SWO (ltOf cfS) where
  irrefl x := by rw [ltS]; simp
  trans x y z h1 h2 := by
    rw [ltS] at *
    simp only [decide_eq_true_eq] at *
    exact ratio_trans h1 h2 z.h0 x.h0
  ntrans x y z h1 h2 := by
    rw [ltS] at *
    simp only [decide_eq_false_iff_not, Nat.not_lt] at *
    exact ratio_ntrans h1 h2 y.h0

theorem Env.block {w W : World} (h : Env w) (hb : W.heap[2]? = w.heap[2]?) : Env W := by
  have h1 : w.var? Tryz.prog "internal/strconv.uint64pow10" = _ := h
  show W.var? Tryz.prog "internal/strconv.uint64pow10" = _
  rw [← h1]
  unfold World.var?
  rw [globalAt, Option.bind_some, Option.bind_some, hb]
theorem flat_szc (d : Array Sz) : flatK Sz.enc 3 d = (szc d.toList).toArray := by
  apply ext_get!
  · simp only [List.size_toArray, szc_length, size_flatK, Array.length_toList]
  · intro t ht
    rw [size_flatK] at ht
    rw [get_flatK _ _ _ _ ht]
    have hk : t / 3 < d.size := by omega
    obtain ⟨h1, h2, h3⟩ := szc_at d.toList (t / 3) d[t / 3] (by rw [Array.getElem?_toList]; exact Array.getElem?_eq_getElem hk)
    have hg : d[t / 3]! = d[t / 3] := getElem!_pos d _ hk
    have hlen := szc_length d.toList
    have htl : t < (szc d.toList).length := by rw [hlen]; simp; omega
    rw [hg, getElem!_pos _ t (by simpa using htl)]
    rcases (by omega : t % 3 = 0 ∨ t % 3 = 1 ∨ t % 3 = 2) with h | h | h
    · rw [h]
      rw [show t / 3 * 3 = t by omega, List.getElem?_eq_getElem htl] at h1
      simpa [Sz.enc] using (Option.some.inj h1).symm
    · rw [h]
      rw [show t / 3 * 3 + 1 = t by omega, List.getElem?_eq_getElem htl] at h2
      simpa [Sz.enc] using (Option.some.inj h2).symm
    · rw [h]
      rw [show t / 3 * 3 + 2 = t by omega, List.getElem?_eq_getElem htl] at h3
      simpa [Sz.enc] using (Option.some.inj h3).symm
theorem layS (blk off size : Nat) (w : World) (he : Env w) (hne : blk ≠ 2) : CmpLays Tryz.prog 48 #[] Sz.enc 3 cfS blk off size w := by
  intro m os dk _ x y
  have hE : Env (sortWorldK Sz.enc 3 w blk off m dk os) := by
    refine he.block ?_
    have hlt := he.lt
    show (grow (putRow id (Sort.ahead w m) blk off (flatK Sz.enc 3 dk)) os).heap[_]? = _
    simp only [grow, putRow, mapBlock, Sort.ahead]
    rw [Array.getElem?_append_left (by simpa using hlt), Array.getElem?_modify, if_neg hne]
  exact bySize_c x.u y.u x.a x.b y.a y.b (sortWorldK Sz.enc 3 w blk off m dk os) hE x.ha x.hb y.ha y.hb

def SzL (b : Nat) (w : World) (B : Nat) (v : Value) (es : List Sz) : Prop :=
  w.ownsRow B 95 3 v es.length (szc es) ∧ ∀ e ∈ es, OwnI w b e.u e.x
theorem own_slice {w : World} {B s : Nat} {v : Value} {E k : Nat} {xs : List Value} (h : w.ownsRow B E s v k xs) (hk : 0 < k) : ∃ g cap, v = .slice (some ⟨g, 0, none⟩) k cap ∧ ∀ j u, xs[j]? = some u → w.cell? ⟨g, j, none⟩ = some u := by
  rcases h.2 with ⟨_, h0⟩ | ⟨g, cap, cur, rfl, _⟩
  · omega
  · refine ⟨g, cap, rfl, fun j u hj => ?_⟩
    have := h.cells (g := g) rfl j u hj
    rwa [show ((⟨g, 0, none⟩ : Addr).add j) = ⟨g, j, none⟩ by unfold Addr.add; split <;> simp_all] at this

set_option maxHeartbeats 1000000 in
theorem sortS_c {W : World} {b B : Nat} {a : Option Addr} {cap : Nat} {es : List Sz} (hs : SzL b W B (.slice a es.length cap) es) (he : Env W) (hBg : 2 < B) (hpos : 0 < es.length) (hl : es.length ≤ 1000000) :
    Calls Tryz.prog 47 #[.slice a es.length cap, .func (.func 48) #[] #[]] W fun e w' => e = .returned (.tuple #[]) ∧ ∃ es' : List Sz, SzL b w' B (.slice a es.length cap) es' ∧ es'.Perm es ∧ es'.Pairwise (fun a b => a.a * b.b ≤ b.a * a.b) ∧ ∀ w0 : World, Ext w0 W → (w0.heap.size = B → Ext w0 w') := by
  obtain ⟨g, cap', e0, hcells⟩ := own_slice hs.1 hpos
  injection e0 with e1 _ e3
  subst e1; subst e3
  have hH : HoldsK Sz.enc 3 W g 0 es.toArray := by
    show Holds id W g 0 (flatK Sz.enc 3 es.toArray)
    rw [flat_szc]
    exact holds_own hs.1
  have hg : g < W.heap.size := by
    obtain ⟨e, he⟩ : ∃ e, (szc es)[0]? = some e := ⟨_, List.getElem?_eq_getElem (by rw [szc_length]; omega)⟩
    exact World.block_lt_of_cell? _ _ (hcells 0 e he)
  have hgB : B ≤ g := by
    rcases hs.1.2 with ⟨e0, _⟩ | ⟨g', cap', cur, e0, hb, _⟩
    · cases e0
    · injection e0 with e1 _ _
      injection e1 with e1
      injection e1 with e1
      omega
  have hne : g ≠ 2 := by omega
  have eg : ∀ args w, (callFunc 48 args).run Tryz.prog w = .ok (.enter 48 args) w := enters_of Tryz.func48 (by kernel_rfl) rfl
  have hcon := AnyQ.slices_SortFunc Tryz.lSortSized 3 Tryz.isAgg95 Tryz.sizeOf95 Sz.enc (fun _ => rfl) enc_oneS cfS swoS 48 #[] g 0 cap es.toArray W eg (layS g 0 es.toArray.size W he hne) hH hg (by simp; omega)
  rw [List.size_toArray] at hcon
  refine Calls.mono hcon ?_
  rintro e w' ⟨rfl, d', n, os, hp, hso, rfl⟩
  obtain ⟨hd1, _, hd3⟩ := hp
  have hsz : d'.size = es.length := by simpa using hd1
  have hperm : d'.toList.Perm es := by
    have : (d'.extract 0 es.length).toList.Perm (es.toArray.extract 0 es.length).toList := hd3
    simpa [hsz, List.take_of_length_le] using this
  have hgrow := grownBy_put W g n (flatK Sz.enc 3 d') os
  refine ⟨rfl, d'.toList, ⟨?_, ?_⟩, hperm, ?_, ?_⟩
  · have h1 := own_put (q := n) (ys := szc d'.toList) hs.1 (by rw [szc_length]; simp [hsz])
    have h2 : (grow (putRow id (Sort.ahead W n) g 0 (szc d'.toList).toArray) os).ownsRow B 95 3 (.slice (some ⟨g, 0, none⟩) es.length cap) es.length (szc d'.toList) := ((Ext.refl _).grow os).own h1
    show (grow (putRow id (Sort.ahead W n) g 0 (flatK Sz.enc 3 d')) os).ownsRow _ _ _ _ _ _
    rw [flat_szc]
    rw [show d'.toList.length = es.length by simpa using hsz]
    exact h2
  · intro e he
    have ho := hs.2 e (hperm.mem_iff.1 he)
    exact World.ownsRow.kept ho hgrow (own_ne ho hs.1 (by decide))
  · rw [List.pairwise_iff_getElem]
    intro i j hi hj hij
    have := hso i j (Nat.zero_le _) hij (by simpa [hsz] using hj)
    rw [ltS] at this
    have hi' : i < d'.size := by simpa using hi
    have hj' : j < d'.size := by simpa using hj
    rw [getElem!_pos d' j hj', getElem!_pos d' i hi'] at this
    simp at this
    simpa using this
  · intro w0 h0 hB0
    exact h0.grown hgrow fun k hk => by cases hk; omega

end Go.Proofs.YtkamjjjimbbdmaaGreatDoor
