/- Small words for the walks: how worlds extend, how slices read. -/
import Derived.Test.YtkamjjjimbbdmaaGreatDoorProg
import Derived.WalkKit
import Derived.WalkLawsBesides
import Derived.WalkSpells
import Derived.Lib.Hide
import Derived.Lib.LaidTab
import Derived.Lib.ConvBytes
import Derived.Lib.Strings
import Derived.Deep.QuietTactic
import Derived.BigQuiet
import Derived.ShutString
import Derived.Deep.DeepFit
import Derived.WalkSmall
import Derived.Test.YtkamjjjimbbdmaaGreatDoorDec
namespace Go.Proofs.YtkamjjjimbbdmaaGreatDoor
open Go.RowKit Go.Lib

/-- All that was there in w is in w' as it was. -/
def Ext (w w' : World) : Prop := Below w.heap.size w w'
theorem Ext.refl (w : World) : Ext w w := Below.refl _ _
theorem Ext.below {w w' : World} (h : Ext w w') : Below w.heap.size w w' := h
theorem Ext.size {w w' : World} (h : Ext w w') : w.heap.size ≤ w'.heap.size := Below.size h
theorem Ext.trans {a b c : World} (h : Ext a b) (k : Ext b c) : Ext a c := Below.trans h (Below.mono k h.size)
theorem Ext.drew {a w : World} (h : Ext a w) : Ext a w.drew := Below.drew h
theorem Ext.drewN {a w : World} (h : Ext a w) (n : Nat) : Ext a (w.drewN n) := below_drewN h n
theorem Ext.alloc {a w : World} (h : Ext a w) (o : Obj) : Ext a (w.alloc o) := Below.alloc h h.size o
theorem Ext.setCell {a w : World} (h : Ext a w) {p : Addr} (hp : a.heap.size ≤ p.block) (u : Value) : Ext a (w.setCell p u) := Below.setCell h hp u
theorem Ext.grown {a w w' : World} {row : Option Nat} (h : Ext a w) (hg : w.grownBy w' row) (hr : ∀ k, row = some k → a.heap.size ≤ k) : Ext a w' := Below.grown h hg h.size hr
theorem Ext.cell {w w' : World} (h : Ext w w') {p : Addr} {v : Value} (hv : w.cell? p = some v) : w'.cell? p = some v :=
  (Below.cell h (World.block_lt_of_cell? w p hv)).trans hv
theorem Ext.heap {w w' : World} (h : Ext w w') {k : Nat} {o : Obj} (hv : w.heap[k]? = some o) : w'.heap[k]? = some o :=
  (Below.block h k (Array.getElem?_eq_some_iff.1 hv).1).trans hv
theorem Ext.frozen {w w' : World} (h : Ext w w') {p : Addr} (hp : p.block < w.heap.size) : w'.frozen? p = w.frozen? p := Below.frozen h hp
theorem Ext.own {w w' : World} (h : Ext w w') {B : Nat} {E size : Nat} {v : Value} {n : Nat} {xs : List Value} (ho : w.ownsRow B E size v n xs) : w'.ownsRow B E size v n xs := by
  refine ⟨ho.1, ?_⟩
  rcases ho.2 with hn | ⟨g, cap, cur, hv, hb, hg, r⟩
  · exact .inl hn
  · exact .inr ⟨g, cap, cur, hv, hb, h.heap hg, r⟩
theorem own_mono {w : World} {B B' : Nat} {E size : Nat} {v : Value} {n : Nat} {xs : List Value} (ho : w.ownsRow B E size v n xs) (hB : B' ≤ B) : w.ownsRow B' E size v n xs := by
  refine ⟨ho.1, ?_⟩
  rcases ho.2 with hn | ⟨g, cap, cur, hv, hb, hg, r⟩
  · exact .inl hn
  · exact .inr ⟨g, cap, cur, hv, Nat.le_trans hB hb, hg, r⟩

/-- A slice of one cell an element reads as a list of values. -/
def Sl (w : World) (v : Value) (xs : List Value) : Prop :=
  (∃ a cap, v = .slice a 0 cap ∧ cap ≤ maxLen ∧ xs = []) ∨
  ∃ b off cap, v = .slice (some ⟨b, off, none⟩) xs.length cap ∧ xs.length ≤ cap ∧ cap ≤ maxLen ∧ ∀ i u, xs[i]? = some u → w.cell? ⟨b, off + i, none⟩ = some u
theorem Ext.sl {w w' : World} (h : Ext w w') {v : Value} {xs : List Value} (hs : Sl w v xs) : Sl w' v xs := by
  rcases hs with hn | ⟨b, off, cap, hv, h1, h2, hc⟩
  · exact .inl hn
  · exact .inr ⟨b, off, cap, hv, h1, h2, fun i u hu => h.cell (hc i u hu)⟩
theorem sl_own {w : World} {B E : Nat} {v : Value} {n : Nat} {xs : List Value} (ho : w.ownsRow B E 1 v n xs) : Sl w v xs := by
  have hl : xs.length = n := by simpa using ho.1
  rcases ho.2 with ⟨hv, hn⟩ | ⟨g, cap, cur, hv, hb, hg, h1, h2, h3, h4⟩
  · exact .inl ⟨none, 0, hv, Nat.zero_le _, List.eq_nil_of_length_eq_zero (by omega)⟩
  · refine .inr ⟨g, 0, cap, by rw [hl]; exact hv, by omega, h2, fun i u hu => ?_⟩
    have := ho.cells (g := g) (by rw [hv]; rfl) i u hu
    rwa [show ((⟨g, 0, none⟩ : Addr).add i) = ⟨g, 0 + i, none⟩ by unfold Addr.add; split <;> simp_all] at this

/-- A slice that reads, its address a name: at each place that is there the address is known. -/
theorem Sl.parts {w : World} {v : Value} {xs : List Value} (h : Sl w v xs) :
    ∃ a cap, v = .slice a xs.length cap ∧ cap ≤ maxLen ∧ xs.length ≤ cap ∧ ∀ i u, xs[i]? = some u → ∃ b off, a = some ⟨b, off, none⟩ ∧ w.cell? ⟨b, off + i, none⟩ = some u := by
  rcases h with ⟨a, cap, rfl, hm, rfl⟩ | ⟨b, off, cap, hv, h1, h2, hc⟩
  · exact ⟨a, cap, rfl, hm, by simp, fun i u hu => by simp at hu⟩
  · exact ⟨_, cap, hv, h2, h1, fun i u hu => ⟨b, off, rfl, hc i u hu⟩⟩

def u64s (l : List Nat) : List Value := l.map fun (n : Nat) => Value.int .u64 (n : Int)
def i64s (l : List Int) : List Value := l.map fun n => Value.int .i64 n
theorem u64s_length (l : List Nat) : (u64s l).length = l.length := by simp [u64s]
theorem i64s_length (l : List Int) : (i64s l).length = l.length := by simp [i64s]
/-- An element, out of the simplifier's sight. -/
def nth (l : List Nat) (i : Nat) : Nat := l.getD i 0
def nthI (l : List Int) (i : Nat) : Int := l.getD i 0
theorem u64s_at {l : List Nat} {i : Nat} (h : i < l.length) : (u64s l)[i]? = some (.int .u64 (nth l i : Nat)) := by
  simp [u64s, nth, h]
theorem i64s_at {l : List Int} {i : Nat} (h : i < l.length) : (i64s l)[i]? = some (.int .i64 (nthI l i)) := by
  simp [i64s, nthI, h]
theorem nth_mem {l : List Nat} {i : Nat} (h : i < l.length) : nth l i ∈ l := by
  unfold nth; rw [List.getD_eq_getElem?_getD, List.getElem?_eq_getElem h]; simp
theorem nthI_mem {l : List Int} {i : Nat} (h : i < l.length) : nthI l i ∈ l := by
  unfold nthI; rw [List.getD_eq_getElem?_getD, List.getElem?_eq_getElem h]; simp

/-- The length of a slice in a slot: for a loop's measure. -/
def lenOf : Value → Nat | .slice _ k _ => k | _ => 0

theorem Ext.bytes (w : World) (e : TypeId) (s : ByteArray) : Ext w (Lib.bytesWorld w e s) :=
  ⟨rfl, rfl, rfl, by rw [Lib.bytesWorld_size]; omega, fun k hk => Lib.bytesWorld_at_old w e s k hk⟩
theorem bytes_cell (w : World) (e : TypeId) (c : List UInt8) (j : Nat) (hj : j < c.length) : (Lib.bytesWorld w e ⟨c.toArray⟩).cell? ⟨w.heap.size, j, none⟩ = some (.int .u8 ((c.getD j 0).toNat : Int)) :=
  Lib.bytesWorld_cell w e ⟨c.toArray⟩ j (by show j < c.toArray.size; simpa using hj)
theorem extract_list (l : List UInt8) (a e : Nat) : (⟨l.toArray⟩ : ByteArray).extract a e = ⟨((l.take e).drop a).toArray⟩ := by
  have := Lib.extract_data ⟨l.toArray⟩ a e
  apply ByteArray.ext
  apply Array.toList_inj.1
  rw [this]
  simp [List.drop_take]

/-- The decimal numeral of a number. -/
def D (n : Nat) : ByteArray := ⟨(decDigits n).toArray⟩
def I (z : Int) : ByteArray := ⟨(itoa z).toArray⟩
theorem D_size (n : Nat) : (D n).size = nDigits n := by
  show (decDigits n).toArray.size = _
  rw [List.size_toArray, decDigits_length]
theorem I_nat (n : Nat) : I (n : Int) = D n := by
  unfold I D itoa
  rw [if_neg (by omega), Int.toNat_natCast]

/-- What the program's package-level variables hold. -/
def Env (w : World) : Prop := Lib.TabIs Tryz.prog w "internal/strconv.uint64pow10" .u64 Lib.pow10Tab
theorem Env.tab {w : World} (h : Env w) : Lib.TabIs Tryz.prog w "internal/strconv.uint64pow10" .u64 Lib.pow10Tab := h
theorem globalAt : Tryz.prog.globalNamed "internal/strconv.uint64pow10" = some 2 := by kernel_rfl
theorem Env.lt {w : World} (h : Env w) : 2 < w.heap.size := by
  have h1 : w.var? Tryz.prog "internal/strconv.uint64pow10" = _ := h
  unfold World.var? at h1
  rw [globalAt] at h1
  rcases Nat.lt_or_ge 2 w.heap.size with g | g
  · exact g
  · have e : w.heap[2]? = none := Array.getElem?_eq_none g
    simp [e] at h1
theorem Env.ext {w w' : World} (h : Env w) (hx : Ext w w') : Env w' := var?_below hx globalAt h.lt h

end Go.Proofs.YtkamjjjimbbdmaaGreatDoor
