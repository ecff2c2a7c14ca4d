/- Walks: law 31's Size of a world's numbers. Walks: law 31's multiples and primes. Plain: the sizes of a world are sizes that a scale is made of. Walks: law 31's primes of a world. -/
import Derived.Test.YtaakmdjicocjpaaGreatDoorPbE
namespace Go.Proofs.YtaakmdjicocjpaaGreatDoor
open Go.RowKit Go.Lib Go.Shelf

attribute [local go_sem] Oper.semAt_some

/-- Three small numbers, and the size that they spell. -/
structure I3 where
  a : Int
  b : Int
  c : Int
def I3.at (x : I3) : Nat → Int
  | 0 => x.a
  | 1 => x.b
  | _ => x.c
def I3.ok (x : I3) : Prop := ∀ i, -128 ≤ x.at i ∧ x.at i ≤ 127
def I3.v (x : I3) : Value := .agg #[.int .i8 x.a, .int .i8 x.b, .int .i8 x.c]
def dnm (x : I3) (i : Nat) : Nat := if i = 1 ∧ x.b < 0 then 2 else 1
def spell (x : I3) (i : Nat) : Rat := mkRat ((x.at i).tmod 9) (dnm x i)
def szW (n : Nat) (x : I3) : List Rat := (List.range n).map (spell x)
theorem szW_len (n : Nat) (x : I3) : (szW n x).length = n := by unfold szW; simp
theorem szW_take {n : Nat} {x : I3} {k : Nat} (h : k < n) : (szW n x).take (k + 1) = (szW n x).take k ++ [spell x k] := by
  have h2 : (szW n x)[k]? = some (spell x k) := by unfold szW; rw [List.getElem?_map, List.getElem?_range h]; rfl
  obtain ⟨hk, e⟩ := List.getElem?_eq_some_iff.1 h2
  rw [List.take_succ_eq_append_getElem hk, e]
theorem tmod9 (z : Int) : (z.tmod 9).natAbs ≤ 8 := by
  have h1 := Int.tmod_lt_of_pos z (show (0 : Int) < 9 by decide)
  have h2 := Int.lt_tmod_of_pos z (show (0 : Int) < 9 by decide)
  omega

theorem wrap64_8 {z : Int} (h : -128 ≤ z ∧ z ≤ 127) : wrap64 z = z := by
  unfold wrap64
  omega
theorem dnm_eq {x : I3} {k : Nat} (h : -128 ≤ x.at k ∧ x.at k ≤ 127) (hk : k < 3) : wrap64 (1 + wrap64 ((k : Int) % 2 * (x.at k % 256 / 128))) = (dnm x k : Int) := by
  unfold dnm
  obtain rfl | rfl | rfl : k = 0 ∨ k = 1 ∨ k = 2 := by omega
  · simp [wrap64]
  · have e : x.at 1 = x.b := rfl
    rw [e] at h ⊢
    by_cases hb : x.b < 0
    · have : x.b % 256 / 128 = 1 := by omega
      rw [this, if_pos ⟨rfl, hb⟩]; simp [wrap64]
    · have : x.b % 256 / 128 = 0 := by omega
      rw [this, if_neg (fun g => hb g.2)]; simp [wrap64]
  · simp [wrap64]

set_option maxRecDepth 100000 in
set_option maxHeartbeats 800000 in
theorem lSize_c (vp : Value) (p : List Int) (x : I3) (w : World) (he : Env w) (hp : Sl w vp (i64s p)) (hp3 : p.length ≤ 3) (hx : x.ok) :
    Calls Tryz.prog 59 #[vp, x.v] w fun e w' => ∃ u, e = .returned u ∧ OwnQ w' w.heap.size u (szW p.length x) ∧ Ext w w' := by
  obtain ⟨i0, hi, hz0, hz1, hz2⟩ := info_parts info_rat
  have hof := fun (k : Nat) W (hE : Ext w W) => of_c ((x.at k).tmod 9) (dnm x k) W (he.ext hE) (by have := tmod9 (x.at k); omega) (by unfold dnm; split <;> decide) (by unfold dnm; split <;> decide)
  obtain ⟨a, c, rfl, _, _, hc⟩ := hp.parts
  have hcut : ∀ k, k < p.length → (szW p.length x).take (k + 1) = (szW p.length x).take k ++ [spell x k] := fun k hk => szW_take hk
  have hrl := szW_len p.length x
  obtain ⟨W1, hW1⟩ : ∃ W1, W1 = w.alloc (.cells #[.int .i8 x.a, .int .i8 x.b, .int .i8 x.c] 23) := ⟨_, rfl⟩
  have hE0 : Ext w W1 := by rw [hW1]; exact (Ext.refl w).alloc _
  have hb1 : W1.heap[w.heap.size]? = some (.cells #[.int .i8 x.a, .int .i8 x.b, .int .i8 x.c] 23 (0, 0)) := by rw [hW1]; exact World.alloc_heap_new w _
  have hcell : ∀ W, Ext W1 W → ∀ k, k < 3 → W.cell? ⟨w.heap.size, k, none⟩ = some (.int .i8 (x.at k)) := fun W hE k hk => by
    have hb := hE.heap hb1
    unfold World.cell?
    dsimp only
    rw [hb]
    obtain rfl | rfl | rfl : k = 0 ∨ k = 1 ∨ k = 2 := by omega
    · rfl
    · rfl
    · rfl
  unfold I3.v
  rw [i64s_length]
  generalize hn : p.length = n at *
  have Hof := Lib.hid hof; have Hcell := Lib.hid hcell; have Hcut := Lib.hid hcut; have Hrl := Lib.hid hrl; have HE0 := Lib.hid hE0; have Hx := Lib.hid hx
  clear hp hc he hof hcut hcell hrl hE0 hn hb1 hx
  go_enter Tryz.func59, Tryz.ntmps59
  go_wp2_with fail
  rw [← hW1]
  clear hW1
  go_loopw [5, 6, 7, 10] (fun v5 v6 v7 v10 wr => ∃ k : Nat, v10 = .int .i64 k ∧ k ≤ n ∧ wr.ownsRow W1.heap.size 97 2 v5 k (rcs ((szW n x).take k)) ∧ Hid (Ext W1 wr)) (fun _ _ _ v10 _ => n - (intOf v10).toNat)
  case atStart => exact ⟨0, rfl, Nat.zero_le _, World.ownsRow_nil W1 _ _ 2, Lib.hid (Ext.refl _)⟩
  case round =>
    obtain ⟨k, rfl, hk, ho, HE⟩ := hrel
    obtain ⟨a5, c5, rfl⟩ := own_shape ho
    by_cases hkn : k < n
    · have htk := Hcut.out k hkn
      have hcl := fun W (hE : Ext w W) => Hof.out k W hE
      have hsp : mkRat ((x.at k).tmod 9) (dnm x k) = spell x k := rfl
      rw [hsp] at hcl
      unfold Rv at hcl
      generalize hs1 : I (spell x k).num = s1 at *
      generalize hs2 : I (((spell x k).den : Nat) : Int) = s2 at *
      have hrn : rcs ((szW n x).take (k + 1)) = rcs ((szW n x).take k) ++ [.string s1, .string s2] := by rw [htk, rcs_snoc, hs1, hs2]
      have Hrn := Lib.hid hrn
      clear hrn hs1 hs2 htk hsp
      have hk0 : (0 : Int) ≤ (k : Int) := by omega
      have hk1 : (k : Int) < (n : Int) := by omega
      have hk3 : (k : Int) < 3 := by omega
      have c0 := Hcell.out wr HE.out k (by omega)
      have hm3 : k + 1 ≤ maxLen := by unfold maxLen; omega
      have hm4 : (k + 1) * 32 ≤ 140737488355328 := by omega
      have hw : wrap64 (x.at k) = x.at k := wrap64_8 (Hx.out k)
      have hd : wrap64 (1 + wrap64 ((k : Int) % 2 * (x.at k % 256 / 128))) = (dnm x k : Int) := dnm_eq (Hx.out k) (by omega)
      have Hcl := Lib.hid hcl; have Ho := Lib.hid ho; have Hw := Lib.hid hw; have Hd := Lib.hid hd
      clear hcl ho hw hd
      go_wp2_with fail
      rw [Hw.out, Hd.out]
      refine (Hcl.out wr (HE0.out.trans HE.out)).mono ?_
      rintro e VA ⟨rfl, hxa⟩
      have HEA := Lib.hid (HE.out.trans hxa)
      have hoA := hxa.own Ho.out
      have hbase := HEA.out.size
      clear hxa c0
      go_wp2_with (at_builtin; refine wpList_append_own _ rfl _ _ 41 rfl W1.heap.size 97 i0 (.agg #[.string ByteArray.empty, .string ByteArray.empty]) 2 32 Tryz.underlying41 hi hz0 hz1 hz2 rfl (by decide) _ _ _ rfl (hoA.alloc _) ⟨VA.heap.size, 0, none⟩ 1 1 [.string s1, .string s2] rfl rfl (cell_two VA _ _ _) (by simp [Value.oneCell']) hm3 hm4 (by rw [World.size_alloc]; omega) ?_; intro v7 V7 hown7 hgrow7 _)
      go_roundw
      case rel => exact ⟨k + 1, by go_num, by omega, by rw [Hrn.out]; exact hown7, Lib.hid ((HEA.out.alloc _).grown hgrow7 fun j hj => (World.ownsRow.lt (hoA.alloc (.cells #[.string s1, .string s2] 97)) j hj).1)⟩
      case measure => simp [intOf]; omega
    · obtain rfl : n = k := by omega
      rw [List.take_of_length_le (by rw [Hrl.out]; exact Nat.le_refl _)] at ho
      have Ho := Lib.hid ho
      clear ho
      go_wp2
      go_ret
      exact ⟨_, rfl, by unfold OwnQ; rw [Hrl.out]; exact own_mono Ho.out HE0.out.size, HE0.out.trans HE.out⟩
end Go.Proofs.YtaakmdjicocjpaaGreatDoor

namespace Go.Proofs.YtaakmdjicocjpaaGreatDoor
open Go.RowKit Go.Lib Go.Shelf

attribute [local go_sem] Oper.semAt_some



set_option maxRecDepth 100000 in
set_option maxHeartbeats 800000 in
theorem lMult_c (vg : Value) (g : List Rat) (a : Int) (n : Nat) (w : World) (he : Env w) (hg : Rd w vg g) (hgl : g.length ≤ 1000) (hgs : ∀ q ∈ g, Sn q) (ha0 : 0 ≤ a) (ha1 : a + (n : Int) ≤ 100) :
    Calls Tryz.prog 56 #[vg, .int .i64 a, .int .i64 (a + (n : Int) - 1)] w fun e w' => ∃ u rs, e = .returned u ∧ QwM w' w.heap.size w.heap.size u rs ∧ rs.map Qw.x = mulsZ g a n ∧ Ext w w' := by
  obtain ⟨j0, hj, hy0, hy1, hy2⟩ := info_parts info_size
  have hof := fun (z : Int) (h0 : 0 ≤ z) (h1 : z ≤ 100) W (hE : Ext w W) => of_c z 1 W (he.ext hE) (by omega) (by decide) (by decide)
  have hti := fun (z : Int) (h0 : 0 ≤ z) (h1 : z ≤ 100) W (hE : Ext w W) => lTimes_c vg g (z : Rat) W (he.ext hE) (hE.rd hg) hgl hgs (sn_int (by omega))
  have hnl := mulsZ_len g a
  obtain ⟨ag, cg, rfl, _, _, _⟩ := hg.parts
  generalize htz : a + (n : Int) - 1 = tz at *
  have Hof := Lib.hid hof; have Hti := Lib.hid hti; have Hnl := Lib.hid hnl; have Htz := Lib.hid htz
  clear hg he hof hti hgs hnl htz
  go_enter Tryz.func56, Tryz.ntmps56
  go_wp2_with fail
  go_loopw [7, 8] (fun v7 v8 wr => ∃ (k : Nat) (z : Int), v8 = .int .i64 z ∧ z = a + (k : Int) ∧ k ≤ n ∧ QsR w (mulsZ g a k) v7 wr) (fun _ v8 _ => (tz + 1 - intOf v8).toNat)
  case atStart => exact ⟨0, a, rfl, by omega, Nat.zero_le _, [], QwM.nil _ _ _, rfl, Ext.refl _⟩
  case round =>
    obtain ⟨k, z, rfl, hz, hk, ⟨out, hq, hm, hE⟩⟩ := hrel
    have htz := Htz.out
    have hol : out.length = k := by
      have := congrArg List.length hm
      rwa [List.length_map, Hnl.out] at this
    obtain ⟨a6, c6, rfl⟩ := own_shape hq.1
    by_cases hkn : k < n
    · have hzt : z ≤ tz := by omega
      have hofk := Hof.out z (by omega) (by omega) wr hE
      rw [show mkRat z 1 = (z : Rat) from Rat.mkRat_one z] at hofk
      have htik := fun W (hx : Ext wr W) => Hti.out z (by omega) (by omega) W (hE.trans hx)
      unfold Rv at hofk htik
      generalize I ((z : Rat)).num = s1 at *
      generalize I ((((z : Rat)).den : Nat) : Int) = s2 at *
      have Hofk := Lib.hid hofk; have Htik := Lib.hid htik; have Hq := Lib.hid hq; have Hm := Lib.hid hm; have HE := Lib.hid hE; have Hol := Lib.hid hol; have Hz := Lib.hid hz
      have hqo := hq.1
      rw [hol] at hqo ⊢
      have Hqo := Lib.hid hqo
      have hzb : -1000 ≤ z ∧ z ≤ 1000 := by omega
      have hm3 : k + 1 ≤ maxLen := by unfold maxLen; omega
      have hm4 : (k + 1) * 24 ≤ 140737488355328 := by omega
      clear hofk htik hq hm hE hz hol hqo htz
      go_wp2_with fail
      refine Hofk.out.mono ?_
      rintro e VA ⟨rfl, hxa⟩
      have Hxa := Lib.hid hxa
      clear hxa
      go_wp2_with fail
      refine (Htik.out VA Hxa.out).mono ?_
      rintro e VB ⟨u, rfl, ho2, hxb⟩
      have hxab := Hxa.out.trans hxb
      have Ho2 := Lib.hid (ho2.mono (HE.out.trans Hxa.out).size)
      obtain ⟨au, cu, rfl⟩ := own_shape ho2
      have hq3 := hxab.qwM Hq.out
      have hqo := hxab.own Hqo.out
      have hE3 := HE.out.trans hxab
      have hbase := hE3.size
      generalize hml : (mulZ g (z : Rat)).length = ml at *
      have Hq3 := Lib.hid hq3; have HE3 := Lib.hid hE3; have Hml := Lib.hid hml
      clear hq3 hE3 hxb hxab ho2 hml
      go_wp2_with (at_builtin; refine wpList_append_own _ rfl _ _ 30 rfl w.heap.size 41 j0 (.slice none 0 0) 1 24 Tryz.underlying30 hj hy0 hy1 hy2 rfl (by decide) _ _ _ rfl (hqo.alloc _) ⟨VB.heap.size, 0, none⟩ 1 1 [.slice au ml cu] rfl rfl (cell_one_new _ _ _) (by simp [Value.oneCell']) hm3 hm4 (by rw [World.size_alloc]; omega) ?_; intro v7 V7 hown7 hgrow7 _)
      go_roundw
      case rel => exact ⟨k + 1, z + 1, by go_num, by have := Hz.out; omega, by omega, by rw [mulsZ_succ]; exact QsR.more HE3.out Hq3.out Hm.out (by rw [← Hz.out]; exact Ho2.out) (by rw [Hol.out]; exact hown7) (by rw [Hol.out]; exact hgrow7)⟩
      case measure => simp [intOf]; omega
    · have hkn2 : k = n := by omega
      have hzt : ¬ z ≤ tz := by omega
      subst hkn2
      have Hm := Lib.hid hm; have Hq := Lib.hid hq; have HE := Lib.hid hE
      clear hq hm hE hz hol htz
      go_wp2
      go_ret
      exact ⟨_, rfl, out, Hq.out, Hm.out, HE.out⟩

end Go.Proofs.YtaakmdjicocjpaaGreatDoor

namespace Go.Proofs.YtaakmdjicocjpaaGreatDoor
open Go.RowKit Go.Lib

/-- A size over the first two or three primes, the second number in halves. -/
def sz3 (p : List Int) (A B C : Int) : List Rat := if p.length = 2 then [(A : Rat), (B : Rat) / 2] else [(A : Rat), (B : Rat) / 2, (C : Rat)]
theorem half2 (B : Int) : (B : Rat) / 2 * 2 = B := by grind
theorem sz_two (A B C : Int) : sz3 [2, 3] A B C = [(A : Rat), (B : Rat) / 2] := rfl
theorem sz_three (A B C : Int) : sz3 [2, 3, 5] A B C = [(A : Rat), (B : Rat) / 2, (C : Rat)] := rfl
def Pw (p : List Int) : Prop := p = [2, 3] ∨ p = [2, 3, 5]
theorem Pw.pr {p : List Int} (h : Pw p) : Pr p p.length := by
  rcases h with rfl | rfl
  · exact .inl ⟨rfl, rfl⟩
  · exact .inr ⟨rfl, rfl⟩
theorem sz_len {p : List Int} (h : Pw p) (A B C : Int) : (sz3 p A B C).length = p.length := by rcases h with rfl | rfl <;> rfl
theorem sz_zer {p : List Int} (h : Pw p) : zer p.length = sz3 p 0 0 0 := by rcases h with rfl | rfl <;> decide +kernel
theorem sz_sub {p : List Int} (h : Pw p) (A B C A' B' C' : Int) : subZ (sz3 p A B C) (sz3 p A' B' C') = sz3 p (A - A') (B - B') (C - C') := by
  rcases h with rfl | rfl
  · rw [sz_two, sz_two, sz_two, Rat.intCast_sub, Rat.intCast_sub]
    have e : (B : Rat) / 2 - (B' : Rat) / 2 = ((B : Rat) - (B' : Rat)) / 2 := by grind
    simp only [subZ, List.zipWith_cons_cons, List.zipWith_nil_left, e]
  · rw [sz_three, sz_three, sz_three, Rat.intCast_sub, Rat.intCast_sub, Rat.intCast_sub]
    have e : (B : Rat) / 2 - (B' : Rat) / 2 = ((B : Rat) - (B' : Rat)) / 2 := by grind
    simp only [subZ, List.zipWith_cons_cons, List.zipWith_nil_left, e]
theorem sz_mul {p : List Int} (h : Pw p) (A B C k : Int) : mulZ (sz3 p A B C) (k : Rat) = sz3 p (A * k) (B * k) (C * k) := by
  have e : (B : Rat) / 2 * (k : Rat) = (B : Rat) * (k : Rat) / 2 := by grind
  rcases h with rfl | rfl
  · rw [sz_two, sz_two, Rat.intCast_mul, Rat.intCast_mul]
    simp only [mulZ, List.map_cons, List.map_nil, e]
  · rw [sz_three, sz_three, Rat.intCast_mul, Rat.intCast_mul, Rat.intCast_mul]
    simp only [mulZ, List.map_cons, List.map_nil, e]
theorem sz_bx {p : List Int} (h : Pw p) {A B C : Int} (h1 : -256 ≤ B) (h2 : B ≤ 256) (h3 : -128 ≤ C) (h4 : C ≤ 128) : Bx 256 (sz3 p A B C) := by
  rcases h with rfl | rfl
  · exact ⟨A, B, rfl, half2 B, h1, h2⟩
  · exact ⟨A, B, C, rfl, half2 B, rfl, h1, h2, by omega, by omega⟩
theorem sz_sF {p : List Int} (h : Pw p) {A B C : Int} (hA : -64 ≤ A ∧ A ≤ 64) (hB : -128 ≤ B ∧ B ≤ 128) (hC : -64 ≤ C ∧ C ≤ 64) : ∃ m : Int, sF p (sz3 p A B C) = (m : Rat) ∧ -26843545600 ≤ m ∧ m ≤ 26843545600 := by
  have e : (B : Rat) / 2 * (106365032 : Int) = ((B * 53182516 : Int) : Rat) := by
    have e0 : ((106365032 : Int) : Rat) = ((53182516 : Int) : Rat) * 2 := by
      rw [show (2 : Rat) = ((2 : Int) : Rat) from rfl, ← Rat.intCast_mul]; rfl
    rw [Rat.intCast_mul, e0]
    grind
  rcases h with rfl | rfl
  · refine ⟨A * 67108864 + B * 53182516, ?_, by omega, by omega⟩
    rw [sz_two]
    simp only [sF, lgs.1, lgs.2.1, e]
    rw [Rat.intCast_add, Rat.intCast_mul A]
    grind
  · refine ⟨A * 67108864 + B * 53182516 + C * 155821956, ?_, by omega, by omega⟩
    rw [sz_three]
    simp only [sF, lgs.1, lgs.2.1, lgs.2.2, e]
    rw [Rat.intCast_add, Rat.intCast_add, Rat.intCast_mul A, Rat.intCast_mul C]
    grind
/-- Sizes in the box. -/
theorem lw_box {p : List Int} (hp : Pw p) {l : List (List Rat)} (h : ∀ x ∈ l, ∃ A B C : Int, (-64 ≤ A ∧ A ≤ 64) ∧ (-128 ≤ B ∧ B ≤ 128) ∧ (-64 ≤ C ∧ C ≤ 64) ∧ x = sz3 p A B C) : Lw p 400 l := by
  have h2 : ∀ x ∈ zer p.length :: l, ∃ A B C : Int, (-64 ≤ A ∧ A ≤ 64) ∧ (-128 ≤ B ∧ B ≤ 128) ∧ (-64 ≤ C ∧ C ≤ 64) ∧ x = sz3 p A B C := fun x hx => by
    rcases List.mem_cons.1 hx with e | e
    · exact ⟨0, 0, 0, by omega, by omega, by omega, by rw [e, sz_zer hp]⟩
    · exact h x e
  refine ⟨hp.pr, fun x hx => ?_, by omega, by omega, fun x hx => ?_, 0, fun x hx y hy => ?_⟩
  · obtain ⟨A, B, C, _, _, _, rfl⟩ := h x hx
    exact sz_len hp ..
  · obtain ⟨A, B, C, hA, hB, hC, rfl⟩ := h x hx
    obtain ⟨m, e, m0, m1⟩ := sz_sF hp hA hB hC
    rw [e, ← Rat.intCast_neg]
    exact ⟨Rat.intCast_le_intCast.2 (by omega), Rat.intCast_le_intCast.2 (by omega)⟩
  · obtain ⟨A, B, C, hA, hB, hC, rfl⟩ := h2 x hx
    obtain ⟨A', B', C', hA', hB', hC', rfl⟩ := h2 y hy
    rw [sz_sub hp]
    exact .inl ⟨rfl, sz_bx hp (by omega) (by omega) (by omega) (by omega)⟩
/-- A part of the octave. -/
def oc3 (p : List Int) (n : Nat) (i : Int) : List Rat := if p.length = 2 then [(i : Rat) / (n : Rat), 0] else [(i : Rat) / (n : Rat), 0, 0]
theorem oc_two (n : Nat) (i : Int) : oc3 [2, 3] n i = [(i : Rat) / (n : Rat), 0] := rfl
theorem oc_three (n : Nat) (i : Int) : oc3 [2, 3, 5] n i = [(i : Rat) / (n : Rat), 0, 0] := rfl
theorem oc_len {p : List Int} (h : Pw p) (n : Nat) (i : Int) : (oc3 p n i).length = p.length := by rcases h with rfl | rfl <;> rfl
theorem nat_ne {n : Nat} (hn : 0 < n) : (n : Rat) ≠ 0 := fun h => by
  have := Rat.natCast_inj.1 (show ((n : Nat) : Rat) = ((0 : Nat) : Rat) from h)
  omega
theorem oc_zer {p : List Int} (h : Pw p) (n : Nat) : zer p.length = oc3 p n 0 := by
  have e : ((0 : Int) : Rat) / (n : Rat) = 0 := by rw [Rat.div_def, show ((0 : Int) : Rat) = 0 from rfl, Rat.zero_mul]
  rcases h with rfl | rfl
  · rw [oc_two, e]; rfl
  · rw [oc_three, e]; rfl
theorem oc3_sub {p : List Int} (h : Pw p) (n : Nat) (i j : Int) : subZ (oc3 p n i) (oc3 p n j) = oc3 p n (i - j) := by
  have e : (i : Rat) / (n : Rat) - (j : Rat) / (n : Rat) = ((i : Rat) - (j : Rat)) / (n : Rat) := by grind
  have z : (0 : Rat) - 0 = 0 := by decide +kernel
  rcases h with rfl | rfl
  · rw [oc_two, oc_two, oc_two, Rat.intCast_sub]
    simp only [subZ, List.zipWith_cons_cons, List.zipWith_nil_left, e, z]
  · rw [oc_three, oc_three, oc_three, Rat.intCast_sub]
    simp only [subZ, List.zipWith_cons_cons, List.zipWith_nil_left, e, z]
theorem oc_oc {p : List Int} (h : Pw p) {n : Nat} (hn : 0 < n) (i : Int) : Oc n (oc3 p n i) := by
  have e : (i : Rat) / (n : Rat) * (n : Rat) = (i : Rat) := Rat.div_mul_cancel (nat_ne hn)
  rcases h with rfl | rfl
  · exact ⟨rfl, i, e⟩
  · exact ⟨rfl, rfl, i, e⟩
theorem oc_sF {p : List Int} (h : Pw p) (n : Nat) (i : Int) : sF p (oc3 p n i) = (i : Rat) / (n : Rat) * ((67108864 : Int) : Rat) := by
  rcases h with rfl | rfl
  · rw [oc_two]; simp only [sF, lgs.1, lgs.2.1]; grind
  · rw [oc_three]; simp only [sF, lgs.1, lgs.2.1, lgs.2.2]; grind
theorem oc_mul {p : List Int} (h : Pw p) (n : Nat) (i : Int) : mulZ (mulZ (ov (p.length - 1)) (mkRat 1 n)) (i : Rat) = oc3 p n i := by
  have e : (1 : Rat) * mkRat 1 n * (i : Rat) = (i : Rat) / (n : Rat) := by
    rw [Rat.mkRat_eq_div]
    show (1 : Rat) * (((1 : Int) : Rat) / (n : Rat)) * (i : Rat) = _
    rw [show ((1 : Int) : Rat) = 1 from rfl]
    grind
  have z : (0 : Rat) * mkRat 1 n * (i : Rat) = 0 := by rw [Rat.zero_mul, Rat.zero_mul]
  rcases h with rfl | rfl
  · rw [oc_two]
    show [(1 : Rat) * mkRat 1 n * (i : Rat), (0 : Rat) * mkRat 1 n * (i : Rat)] = _
    rw [e, z]
  · rw [oc_three]
    show [(1 : Rat) * mkRat 1 n * (i : Rat), (0 : Rat) * mkRat 1 n * (i : Rat), (0 : Rat) * mkRat 1 n * (i : Rat)] = _
    rw [e, z]
theorem lw_parts {p : List Int} (hp : Pw p) {n : Nat} (hn : 0 < n) (hn9 : n ≤ 9) : Lw p 400 (mulsZ (mulZ (ov (p.length - 1)) (mkRat 1 n)) 1 n) := by
  have h : ∀ x ∈ mulsZ (mulZ (ov (p.length - 1)) (mkRat 1 n)) 1 n, ∃ i : Int, 0 ≤ i ∧ i ≤ (n : Int) ∧ x = oc3 p n i := fun x hx => by
    unfold mulsZ at hx
    rw [List.mem_map] at hx
    obtain ⟨i, hi, rfl⟩ := hx
    rw [List.mem_range] at hi
    exact ⟨1 + (i : Int), by omega, by omega, oc_mul hp n _⟩
  have h2 : ∀ x ∈ zer p.length :: mulsZ (mulZ (ov (p.length - 1)) (mkRat 1 n)) 1 n, ∃ i : Int, 0 ≤ i ∧ i ≤ (n : Int) ∧ x = oc3 p n i := fun x hx => by
    rcases List.mem_cons.1 hx with e | e
    · exact ⟨0, by omega, by omega, by rw [e, oc_zer hp n]⟩
    · exact h x e
  refine ⟨hp.pr, fun x hx => ?_, by omega, by omega, fun x hx => ?_, n, fun x hx y hy => ?_⟩
  · obtain ⟨i, _, _, rfl⟩ := h x hx
    exact oc_len hp ..
  · obtain ⟨i, i0, i1, rfl⟩ := h x hx
    rw [oc_sF hp]
    have hnp : (0 : Rat) < (n : Rat) := Rat.intCast_lt_intCast.2 (show (0 : Int) < (n : Int) by omega)
    have hq : (n : Rat) * ((i : Rat) / (n : Rat)) = (i : Rat) := by rw [Rat.mul_comm]; exact Rat.div_mul_cancel (nat_ne hn)
    have q0 : (0 : Rat) ≤ (i : Rat) / (n : Rat) := Rat.le_of_mul_le_mul_left (by rw [hq, Rat.mul_zero]; exact Rat.intCast_le_intCast.2 i0) hnp
    have q1 : (i : Rat) / (n : Rat) ≤ 1 := Rat.le_of_mul_le_mul_left (by rw [hq, Rat.mul_one]; exact Rat.intCast_le_intCast.2 i1) hnp
    generalize (i : Rat) / (n : Rat) = q at *
    have e1 : ((400 * 67108864 : Int) : Rat) = 400 * ((67108864 : Int) : Rat) := by
      rw [show (400 : Rat) = ((400 : Int) : Rat) from rfl, ← Rat.intCast_mul]
    have e2 : (0 : Rat) < ((67108864 : Int) : Rat) := Rat.intCast_lt_intCast.2 (show (0 : Int) < 67108864 by decide)
    rw [e1]
    generalize ((67108864 : Int) : Rat) = t at *
    have m0 := Rat.mul_nonneg q0 (Rat.le_of_lt e2)
    have m1 := Rat.mul_le_mul_of_nonneg_right q1 (Rat.le_of_lt e2)
    constructor <;> grind
  · obtain ⟨i, _, _, rfl⟩ := h2 x hx
    obtain ⟨j, _, _, rfl⟩ := h2 y hy
    rw [oc3_sub hp]
    exact .inr ⟨hn, hn9, oc_oc hp hn _⟩

/-- The size of three numbers, in the box. -/
theorem szW_eq {p : List Int} (hp : Pw p) (x : I3) : ∃ A B C : Int, (-8 ≤ A ∧ A ≤ 8) ∧ (-16 ≤ B ∧ B ≤ 16) ∧ (-8 ≤ C ∧ C ≤ 8) ∧ szW p.length x = sz3 p A B C := by
  have ha := tmod9 x.a
  have hb := tmod9 x.b
  have hc := tmod9 x.c
  have e0 : spell x 0 = ((x.a.tmod 9 : Int) : Rat) := Rat.mkRat_one _
  have e2 : spell x 2 = ((x.c.tmod 9 : Int) : Rat) := Rat.mkRat_one _
  have e1 : spell x 1 = (((if x.b < 0 then x.b.tmod 9 else x.b.tmod 9 * 2) : Int) : Rat) / 2 := by
    unfold spell dnm
    rw [show x.at 1 = x.b from rfl]
    by_cases h : x.b < 0
    · rw [if_pos ⟨rfl, h⟩, if_pos h, Rat.mkRat_eq_div]; rfl
    · rw [if_neg (fun g => h g.2), if_neg h, Rat.mkRat_one, Rat.intCast_mul, show ((2 : Int) : Rat) = 2 from rfl]
      grind
  refine ⟨x.a.tmod 9, if x.b < 0 then x.b.tmod 9 else x.b.tmod 9 * 2, x.c.tmod 9, by omega, by split <;> omega, by omega, ?_⟩
  rcases hp with rfl | rfl
  · rw [sz_two]
    show [spell x 0, spell x 1] = _
    rw [e0, e1]
  · rw [sz_three]
    show [spell x 0, spell x 1, spell x 2] = _
    rw [e0, e1, e2]
theorem lw_mults {p : List Int} (hp : Pw p) (x : I3) {n : Nat} (hn9 : n ≤ 9) : Lw p 400 (mulsZ (szW p.length x) 0 n) := by
  obtain ⟨A, B, C, hA, hB, hC, e⟩ := szW_eq hp x
  rw [e]
  refine lw_box hp fun y hy => ?_
  unfold mulsZ at hy
  rw [List.mem_map] at hy
  obtain ⟨i, hi, rfl⟩ := hy
  rw [List.mem_range] at hi
  have hk : 0 ≤ (0 + (i : Int)) ∧ (0 + (i : Int)) ≤ 8 := by omega
  generalize 0 + (i : Int) = k at *
  have mb : ∀ z b : Int, -b ≤ z → z ≤ b → 0 ≤ b → -(b * 8) ≤ z * k ∧ z * k ≤ b * 8 := fun z b h1 h2 h3 => by
    have a1 : z * k ≤ b * k := Int.mul_le_mul_of_nonneg_right h2 hk.1
    have a2 : b * k ≤ b * 8 := Int.mul_le_mul_of_nonneg_left hk.2 h3
    have a3 : -b * k ≤ z * k := Int.mul_le_mul_of_nonneg_right h1 hk.1
    rw [Int.neg_mul] at a3
    omega
  have m1 := mb A 8 hA.1 hA.2 (by omega)
  have m2 := mb B 16 hB.1 hB.2 (by omega)
  have m3 := mb C 8 hC.1 hC.2 (by omega)
  exact ⟨A * k, B * k, C * k, by omega, by omega, by omega, sz_mul hp ..⟩
theorem lw_any {p : List Int} (hp : Pw p) (xs : Nat → I3) (n : Nat) : Lw p 400 ((List.range n).map fun i => szW p.length (xs i)) := by
  refine lw_box hp fun y hy => ?_
  rw [List.mem_map] at hy
  obtain ⟨i, _, rfl⟩ := hy
  obtain ⟨A, B, C, hA, hB, hC, e⟩ := szW_eq hp (xs i)
  exact ⟨A, B, C, by omega, by omega, by omega, e⟩
/-- A world. -/
structure Wl where
  three : Bool
  kind : Nat
  num : Nat
  xs : Nat → I3
namespace Wl
def p (a : Wl) : List Int := if a.three then [2, 3, 5] else [2, 3]
def n (a : Wl) : Nat := 1 + a.num % 9
def sizes (a : Wl) : List (List Rat) := if a.kind % 3 = 0 then mulsZ (mulZ (ov (a.p.length - 1)) (mkRat 1 a.n)) 1 a.n else if a.kind % 3 = 1 then mulsZ (szW a.p.length (a.xs 0)) 0 a.n else (List.range (min a.n 8)).map fun i => szW a.p.length (a.xs i)
structure Ok (a : Wl) : Prop where
  kind : a.kind < 256
  num : a.num < 256
  xs : ∀ i, (a.xs i).ok
theorem pw (a : Wl) : Pw a.p := by unfold p; split <;> first | exact .inl rfl | exact .inr rfl
theorem n9 (a : Wl) : 0 < a.n ∧ a.n ≤ 9 := by unfold n; omega
theorem lw (a : Wl) : Lw a.p 400 a.sizes := by
  unfold sizes
  split
  · exact lw_parts a.pw a.n9.1 a.n9.2
  · split
    · exact lw_mults a.pw _ a.n9.2
    · exact lw_any a.pw _ _
theorem few (a : Wl) : a.sizes.length ≤ 9 := by
  have := a.n9
  unfold sizes
  split
  · rw [mulsZ_len]; omega
  · split
    · rw [mulsZ_len]; omega
    · rw [List.length_map, List.length_range]; omega
end Wl
end Go.Proofs.YtaakmdjicocjpaaGreatDoor

namespace Go.Proofs.YtaakmdjicocjpaaGreatDoor
open Go.RowKit Go.Lib Go.Shelf

attribute [local go_sem] Oper.semAt_some

/-- A world as the program holds it. -/
def Wl.cs (a : Wl) : Array Value := #[.bool a.three, .int .u8 a.kind, .int .u8 a.num, .int .i8 (a.xs 0).a, .int .i8 (a.xs 0).b, .int .i8 (a.xs 0).c, .int .i8 (a.xs 1).a, .int .i8 (a.xs 1).b, .int .i8 (a.xs 1).c, .int .i8 (a.xs 2).a, .int .i8 (a.xs 2).b, .int .i8 (a.xs 2).c, .int .i8 (a.xs 3).a, .int .i8 (a.xs 3).b, .int .i8 (a.xs 3).c, .int .i8 (a.xs 4).a, .int .i8 (a.xs 4).b, .int .i8 (a.xs 4).c, .int .i8 (a.xs 5).a, .int .i8 (a.xs 5).b, .int .i8 (a.xs 5).c, .int .i8 (a.xs 6).a, .int .i8 (a.xs 6).b, .int .i8 (a.xs 6).c, .int .i8 (a.xs 7).a, .int .i8 (a.xs 7).b, .int .i8 (a.xs 7).c]
def Wl.v (a : Wl) : Value := .agg a.cs

theorem own_lit {w : World} {B : Nat} (T : TypeId) (xs : Array Value) (hB : B ≤ w.heap.size) (hm : xs.size ≤ maxLen) : (w.alloc (.cells xs T)).ownsRow B T 1 (.slice (some ⟨w.heap.size, 0, none⟩) xs.size xs.size) xs.size xs.toList :=
  ⟨by simp, .inr ⟨w.heap.size, xs.size, xs, rfl, hB, World.alloc_heap_new w _, Nat.le_refl _, hm, by simp, by rw [Nat.mul_one, ← Array.length_toList, List.take_length]⟩⟩

set_option maxRecDepth 100000 in
set_option maxHeartbeats 800000 in
theorem lPrimes_c (a : Wl) (w : World) :
    Calls Tryz.prog 53 #[a.v] w fun e w' => ∃ u, e = .returned u ∧ w'.ownsRow w.heap.size 3 1 u a.p.length (i64s a.p) ∧ Ext w w' := by
  obtain ⟨W1, hW1⟩ : ∃ W1, W1 = w.alloc (.cells a.cs 26) := ⟨_, rfl⟩
  have hE : Ext w W1 := by rw [hW1]; exact (Ext.refl w).alloc _
  have hc : W1.cell? ⟨w.heap.size, 0, none⟩ = some (.bool a.three) := by
    unfold World.cell?
    rw [hW1]
    dsimp only
    rw [World.alloc_heap_new w _]
    rfl
  have HE := Lib.hid hE
  unfold Wl.v
  unfold Wl.p
  clear hE
  cases h3 : a.three
  · rw [h3] at hc
    unfold Wl.cs at hW1 ⊢
    rw [h3] at hW1 ⊢
    clear h3
    go_enter Tryz.func53, Tryz.ntmps53
    go_wp2_with fail
    go_ret
    rw [← hW1]
    have hon := own_lit (w := W1) (B := w.heap.size) 3 #[.int .i64 2, .int .i64 3] HE.out.size (by unfold maxLen; simp)
    have hsz : W1.heap.size = w.heap.size + 1 := by rw [hW1, World.size_alloc]
    rw [hsz] at hon
    exact ⟨_, rfl, hon, HE.out.alloc _⟩
  · rw [h3] at hc
    unfold Wl.cs at hW1 ⊢
    rw [h3] at hW1 ⊢
    clear h3
    go_enter Tryz.func53, Tryz.ntmps53
    go_wp2_with fail
    go_ret
    rw [← hW1]
    have hon := own_lit (w := W1) (B := w.heap.size) 3 #[.int .i64 2, .int .i64 3, .int .i64 5] HE.out.size (by unfold maxLen; simp)
    have hsz : W1.heap.size = w.heap.size + 1 := by rw [hW1, World.size_alloc]
    rw [hsz] at hon
    exact ⟨_, rfl, hon, HE.out.alloc _⟩
end Go.Proofs.YtaakmdjicocjpaaGreatDoor
