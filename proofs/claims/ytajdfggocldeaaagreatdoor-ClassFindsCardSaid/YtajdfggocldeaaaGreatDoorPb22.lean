/- Walks: slices.IndexFunc and slices.ContainsFunc at lists of sizes, with a closure that makes memory. What the reduction asks of sizes; the closure of scale.collect. scale.note over a plain right scale. Plain: modes again, the subset of all notes, the collection of a scale's own notes, the sum of the steps. Plain: the classes of a right scale: the intervals of so many steps, their different sizes in order. Blocks of two cells of any type: results and boxes. Walk: scale.collect of at most nine sizes. Walk: scale.Note of a right scale. -/
import Derived.Test.YtajdfggocldeaaaGreatDoorPb12
import Derived.Shelf.Abstract
import Derived.Test.YtajdfggocldeaaaGreatDoorPb21
import Derived.Test.YtajdfggocldeaaaGreatDoorPb19
import Derived.Test.YtajdfggocldeaaaGreatDoorPb20
import Derived.Test.YtajdfggocldeaaaGreatDoorShelfF
import Derived.Test.YtajdfggocldeaaaGreatDoorPb10
set_option maxRecDepth 100000
set_option maxHeartbeats 1000000
namespace Go.Proofs.YtajdfggocldeaaaGreatDoor
open Go.RowKit Go.Lib Go.Shelf
/-- Where IndexFunc finds the first one. -/
def IdxAt (P : List Rat → Bool) (rs : List Qw) (z : Int) : Prop := (z = -1 ∧ ∀ r ∈ rs, P r.x = false) ∨ ∃ (k : Nat) (r : Qw), z = k ∧ rs[k]? = some r ∧ P r.x = true ∧ ∀ s ∈ rs.take k, P s.x = false
theorem IdxAt.any {P : List Rat → Bool} {rs : List Qw} {z : Int} (h : IdxAt P rs z) : rs.any (fun r => P r.x) = decide (0 ≤ z) := by
  rcases h with ⟨rfl, h⟩ | ⟨k, r, rfl, h1, h2, _⟩
  · rw [show decide ((0 : Int) ≤ -1) = false by decide, List.any_eq_false]
    intro r hr
    rw [h r hr]
    simp
  · rw [show decide ((0 : Int) ≤ (k : Int)) = true from decide_eq_true (by omega), List.any_eq_true]
    exact ⟨r, List.mem_of_getElem? h1, h2⟩
theorem idxQ_c (g : Nat) (cb : Array Value) (v : Value) (rs : List Qw) (P : List Rat → Bool) (w : World) (hv : Sl w v (qwc rs)) (hl : rs.length ≤ 1000)
    (eg : ∀ args w, (callFunc g args).run Tryz.prog w = .ok (.enter g args) w)
    (hp : ∀ W, Ext w W → ∀ r ∈ rs, Calls Tryz.prog g (#[r.u] ++ cb) W fun e w' => e = .returned (.bool (P r.x)) ∧ Ext W w') :
    Calls Tryz.prog 55 #[v, .func (.func g) #[] cb] w fun e w' => ∃ z : Int, e = .returned (.int .i64 z) ∧ IdxAt P rs z ∧ Ext w w' := by
  obtain ⟨a, c, rfl, _, _, hc⟩ := hv.parts
  rw [qwc_length]
  have hcell : ∀ k r, rs[k]? = some r → ∃ b off, a = some ⟨b, off, none⟩ ∧ w.cell? ⟨b, off + k, none⟩ = some r.u := fun k r hr => hc k r.u (by unfold qwc; rw [List.getElem?_map, hr]; rfl)
  generalize hn : rs.length = n at *
  have Hn := Lib.hid hn; have Hp := Lib.hid hp; have Hc := Lib.hid hcell
  clear hv hc hn hp hcell
  go_enter Tryz.func55, Tryz.ntmps55
  go_wp2_with fail
  go_loopw [5, 8] (fun v5 v8 wr => ∃ k : Nat, v8 = .int .i64 k ∧ k ≤ n ∧ (∀ s ∈ rs.take k, P s.x = false) ∧ Ext w wr) (fun _ v8 _ => n - (intOf v8).toNat)
  case atStart => exact ⟨0, rfl, Nat.zero_le _, fun r h => by simp at h, Ext.refl _⟩
  case round =>
    obtain ⟨k, rfl, hk, hall, hE⟩ := hrel
    have Hall := Lib.hid hall
    clear hall
    by_cases hlt : k < n
    · obtain ⟨r, hr⟩ : ∃ r, rs[k]? = some r := ⟨_, List.getElem?_eq_getElem (by rw [Hn.out]; exact hlt)⟩
      obtain ⟨b, off, rfl, h0⟩ := Hc.out k r hr
      have hc0 := hE.cell h0
      have hd := Hp.out wr hE r (List.mem_of_getElem? hr)
      have HE := Lib.hid hE
      have Hr := Lib.hid hr
      clear hr h0 hE
      generalize r.u = u at *
      generalize hdx : P r.x = dx at *
      have Hd := Lib.hid hd; have Hdx := Lib.hid hdx; clear hd hdx
      have hk0 : (0 : Int) ≤ (k : Int) := by omega
      have hk1 : (k : Int) < (n : Int) := by omega
      go_wp2_with fail
      refine Hd.out.mono ?_
      rintro e W2 ⟨rfl, hx2⟩
      have HE2 := Lib.hid (HE.out.trans hx2); clear hx2
      cases dx with
      | true =>
        go_wp2
        go_ret
        exact ⟨_, rfl, .inr ⟨k, r, rfl, Hr.out, Hdx.out, Hall.out⟩, HE2.out⟩
      | false =>
        go_wp2_with fail
        go_roundw
        case rel => exact ⟨k + 1, by go_num, hlt, fun s hs => by
          obtain ⟨hl2, e⟩ := List.getElem?_eq_some_iff.1 Hr.out
          rw [List.take_succ_eq_append_getElem hl2] at hs
          rcases List.mem_append.1 hs with h | h
          · exact Hall.out s h
          · rw [List.mem_singleton] at h; rw [h, e]; exact Hdx.out, HE2.out⟩
        case measure => simp [intOf]; omega
    · have hkk : ¬ (k : Int) < (n : Int) := by omega
      have hkl : k = n := by omega
      have Hkl := Lib.hid hkl; clear hkl
      have HE := Lib.hid hE
      clear hE
      go_wp2
      go_ret
      exact ⟨-1, rfl, .inl ⟨rfl, fun r hr => Hall.out r (by rw [Hkl.out, ← Hn.out, List.take_length]; exact hr)⟩, HE.out⟩
theorem containsQ_c (g : Nat) (cb : Array Value) (v : Value) (rs : List Qw) (P : List Rat → Bool) (w : World) (hv : Sl w v (qwc rs)) (hl : rs.length ≤ 1000)
    (eg : ∀ args w, (callFunc g args).run Tryz.prog w = .ok (.enter g args) w)
    (hp : ∀ W, Ext w W → ∀ r ∈ rs, Calls Tryz.prog g (#[r.u] ++ cb) W fun e w' => e = .returned (.bool (P r.x)) ∧ Ext W w') :
    Calls Tryz.prog 26 #[v, .func (.func g) #[] cb] w fun e w' => e = .returned (.bool (rs.any fun r => P r.x)) ∧ Ext w w' := by
  have hi := idxQ_c g cb v rs P w hv hl eg hp
  obtain ⟨a, c, rfl, _, _, _⟩ := hv.parts
  have Hi := Lib.hid hi
  clear hi hp hv
  go_enter Tryz.func26, Tryz.ntmps26
  go_wp2_with fail
  refine Hi.out.mono ?_
  rintro e w1 ⟨z, rfl, hz, hx⟩
  have Hz := Lib.hid hz.any; have Hx := Lib.hid hx
  clear hz hx
  go_wp2
  go_ret
  exact ⟨by rw [Hz.out]; rfl, Hx.out⟩
end Go.Proofs.YtajdfggocldeaaaGreatDoor

namespace Go.Proofs.YtajdfggocldeaaaGreatDoor
open Go.RowKit Go.Lib Go.Shelf
theorem int_ft {k : Nat} {z : Int} (h : z.natAbs < 10 ^ k) (hk : 0 < k) : Ft k (z : Rat) := by
  refine ⟨?_, ?_⟩
  · rw [Rat.num_intCast]; exact Dec.nDigits_le hk h
  · rw [Rat.den_intCast]; exact Dec.nDigits_le hk (Nat.one_lt_pow (by omega) (by decide))
/-- What the reduction asks. -/
structure RedOk (p : List Int) (a : Rat) (tl : List Rat) : Prop where
  len : tl.length + 1 = p.length
  pr : Pr p (tl.length + 1)
  ft : ∀ q ∈ a :: tl, Ft 30 q
  qf : QF p (a :: tl)
  fk : Ft 400 ((-flP p (a :: tl) : Int) : Rat)
  fit : Fit (flP p (a :: tl))
  res : ∀ q ∈ rst p (a :: tl), Ft 30 q
theorem Lw.red {p : List Int} {c : Int} {l : List (List Rat)} (h : Lw p c l) {x : List Rat} (hx : x ∈ l) : ∃ a tl, x = a :: tl ∧ RedOk p a tl := by
  obtain ⟨n, hn⟩ := h.nic
  have hl := h.len x hx
  have hp : Pr p x.length := by rw [hl]; exact h.pr
  have hq := h.quick x hx
  have hr := h.range hx
  have hni := hn x hx
  have hfl := fl_bd hp hni (h.bd x hx).1 (h.bd x hx).2
  have hc := h.c1
  have hrq : Quick p (rst p x) := nic_quick (c := 1) (by unfold rst; rw [shf_len]; exact hp) (nic_shf hni) (by omega) (by omega) (by
    rw [show ((1 * 67108864 : Int) : Rat) = 67108864 from rfl]; grind) (by
    rw [show ((1 * 67108864 : Int) : Rat) = 67108864 from rfl]; grind)
  obtain ⟨a, tl, rfl, htl, hb⟩ := nic_tail hp hni
  refine ⟨a, tl, rfl, htl, hp, hq.1, ?_, ?_, ?_, hrq.1⟩
  · by_cases hz : ∀ r ∈ tl, r = 0
    · left; rw [List.tail_cons, List.all_eq_true]; simpa using hz
    · have hbx := hb.resolve_right hz
      have hA := head_bd hp hbx (h.bd _ hx).1 (h.bd _ hx).2
      exact (bx_ok (m := 100000) hp hbx (by omega) (by omega) (fun a' ha' => by cases ha'; omega)).qf hp hbx
  · exact (int_ft (k := 5) (by show _ < 100000; omega) (by omega)).mono (by omega)
  · show nDigits _ ≤ _
    have := Dec.nDigits_le (n := (flP p (a :: tl)).natAbs) (k := 5) (by omega) (by show _ < 100000; omega)
    omega
end Go.Proofs.YtajdfggocldeaaaGreatDoor

namespace Go.Proofs.YtajdfggocldeaaaGreatDoor
open Go.RowKit Go.Lib
section
variable {p : List Int} {N : List (List Rat)} (h : Wd p N)
include h
theorem Wd.nt_bd (k : Int) : ((k / (N.length : Int) : Int) : Rat) * 67108864 ≤ sF p (nt p N k) ∧ sF p (nt p N k) ≤ ((k / (N.length : Int) : Int) : Rat) * 67108864 + 67108864 := by
  have h0 := h.pos
  have hN : (0 : Int) < (N.length : Int) := by omega
  have a1 := Int.emod_nonneg k (show (N.length : Int) ≠ 0 by omega)
  have a2 := Int.emod_lt_of_pos k hN
  rw [h.sF_nt]
  have := h.zbd (i := (k % (N.length : Int)).toNat) (by omega)
  grind
theorem Wd.nt_sub_quick (k l : Int) (hk0 : -1000 ≤ k) (hk1 : k ≤ 1000) (hl0 : -1000 ≤ l) (hl1 : l ≤ 1000) : Quick p (subZ (nt p N k) (nt p N l)) := by
  obtain ⟨n, hn⟩ := h.dif
  have h0 := h.pos
  have hN : (0 : Int) < (N.length : Int) := by omega
  have e1 := div_bd (a := k) (b := (N.length : Int)) (m := 1000) hN hk0 hk1 (by omega)
  have e2 := div_bd (a := l) (b := (N.length : Int)) (m := 1000) hN hl0 hl1 (by omega)
  have b1 := h.nt_bd k
  have b2 := h.nt_bd l
  have c1 : (-1000 : Rat) ≤ ((k / (N.length : Int) : Int) : Rat) := Rat.intCast_le_intCast.2 e1.1
  have c2 : ((k / (N.length : Int) : Int) : Rat) ≤ 1000 := Rat.intCast_le_intCast.2 e1.2
  have c3 : (-1000 : Rat) ≤ ((l / (N.length : Int) : Int) : Rat) := Rat.intCast_le_intCast.2 e2.1
  have c4 : ((l / (N.length : Int) : Int) : Rat) ≤ 1000 := Rat.intCast_le_intCast.2 e2.2
  have hs := sF_sub p (nt p N k) (nt p N l) (by rw [h.ntlen, h.ntlen])
  have hl := (subZ_len (x := nt p N k) (y := nt p N l) (by rw [h.ntlen, h.ntlen])).trans (h.ntlen k)
  have hc : ((2001 * 67108864 : Int) : Rat) = 2001 * 67108864 := by rw [Rat.intCast_mul]; rfl
  exact nic_quick (c := 2001) (by rw [hl]; exact h.pr) (h.nt_nic hn k l) (by omega) (by omega) (by rw [hc]; grind) (by rw [hc]; grind)
theorem Wd.nt_quick (k : Int) (hk0 : -1000 ≤ k) (hk1 : k ≤ 1000) : Quick p (nt p N k) := by
  have := h.nt_sub_quick k 0 hk0 hk1 (by omega) (by omega)
  rw [h.nt_zero, ← h.ntlen k, subZ_zer] at this
  exact this
end
theorem mul_ov_ft {n : Nat} {q : Int} (h0 : -100000 < q) (h1 : q < 100000) : ∀ x ∈ mulZ (ov n) (q : Rat), Ft 30 x := by
  rw [mul_ov]
  unfold zer
  rw [List.replicate_succ]
  intro x hx
  simp only [shf, List.mem_cons] at hx
  rcases hx with rfl | hx
  · rw [show (0 : Rat) + (q : Rat) = (q : Rat) by grind]
    exact (int_ft (k := 5) (by show _ < 100000; omega) (by omega)).mono (by omega)
  · rw [List.eq_of_mem_replicate hx]
    exact ft_zero.mono (by omega)
end Go.Proofs.YtajdfggocldeaaaGreatDoor

namespace Go.Proofs.YtajdfggocldeaaaGreatDoor
section
variable {p : List Int} {N : List (List Rat)} (h : Wd p N)
include h
omit h in
theorem zat_mem {i : Nat} (hi : i < N.length) : N[i]? = some (zat p N (i + 1)) := by
  unfold zat
  rw [List.getElem?_cons_succ, List.getElem?_eq_getElem hi, Option.getD_some]
theorem Wd.lw : Lw p 1 N := by
  obtain ⟨n, hn⟩ := h.dif
  refine ⟨h.pr, h.len, by omega, by omega, fun x hx => ?_, n, hn⟩
  obtain ⟨i, hi, e⟩ := List.getElem_of_mem hx
  have hz := zat_mem (p := p) hi
  rw [List.getElem?_eq_getElem hi, e] at hz
  rw [Option.some.inj hz, show ((1 * 67108864 : Int) : Rat) = 67108864 from rfl]
  rcases Nat.lt_or_ge (i + 1) N.length with g | g
  · have := h.zbd g
    constructor <;> grind
  · rw [show i + 1 = N.length by omega, h.zlast, h.sov]
    constructor <;> grind
end
end Go.Proofs.YtajdfggocldeaaaGreatDoor

namespace Go.Proofs.YtajdfggocldeaaaGreatDoor
/-- In the half box (n = 0), or a part of the octave. -/
def Nic2 (n : Nat) (x : List Rat) : Prop := (n = 0 ∧ Bx 128 x) ∨ (0 < n ∧ n ≤ 9 ∧ Oc n x)
theorem Nic2.nic {n : Nat} {x : List Rat} (h : Nic2 n x) : Nic n x := by
  rcases h with ⟨e, h⟩ | h
  · exact .inl ⟨e, bx_mono h (by omega)⟩
  · exact .inr h
theorem nic2_shf {n : Nat} {q : Int} {x : List Rat} (h : Nic2 n x) : Nic2 n (shf q x) := by
  rcases h with ⟨e, h⟩ | ⟨h1, h2, h⟩
  · exact .inl ⟨e, bx_shf h⟩
  · exact .inr ⟨h1, h2, oc_shf h⟩
theorem nic2_sub {n : Nat} {x y : List Rat} (hx : Nic2 n x) (hy : Nic2 n y) (hl : x.length = y.length) : Nic n (subZ x y) := by
  rcases hx with ⟨e, hx⟩ | ⟨h1, h2, hx⟩
  · rcases hy with ⟨_, hy⟩ | ⟨g, _⟩
    · exact .inl ⟨e, bx_sub hx hy hl⟩
    · omega
  · rcases hy with ⟨g, _⟩ | ⟨_, _, hy⟩
    · omega
    · exact .inr ⟨h1, h2, oc_sub hx hy hl⟩
/-- The differences of a list of sizes lie in the half box. -/
def Dif2 (p : List Int) (l : List (List Rat)) : Prop := ∃ n, ∀ x ∈ zer p.length :: l, ∀ y ∈ zer p.length :: l, Nic2 n (subZ x y)
/-- A right scale with classes whose differences are nice. -/
structure Wc (p : List Int) (N : List (List Rat)) : Prop where
  wd : Wd p N
  d2 : Dif2 p N
theorem coll_wc {p : List Int} {c : Int} {l N : List (List Rat)} (h : Lw p c l) (h2 : Dif2 p l) (hc : Coll p l N) (hl : l.length ≤ 9) : Wc p N := by
  refine ⟨coll_wd h hc hl, ?_⟩
  obtain ⟨n, hn⟩ := h2
  have key : ∀ x ∈ zer p.length :: N, ∃ q, ∃ z ∈ zer p.length :: l, x = shf q z ∧ z.length = p.length := fun x hx => by
    rcases List.mem_cons.1 hx with rfl | hx
    · exact ⟨0, _, List.mem_cons_self .., (shf_zero _).symm, zer_len _⟩
    · rcases (hc.2 x).1 hx with rfl | ⟨_, z, hz, rfl⟩
      · exact ⟨1, _, List.mem_cons_self .., ov_pr h.pr, zer_len _⟩
      · exact ⟨_, z, List.mem_cons_of_mem _ hz, rfl, h.len z hz⟩
  refine ⟨n, fun x hx y hy => ?_⟩
  obtain ⟨q, z, hz, rfl, hl⟩ := key x hx
  obtain ⟨r, u, hu, rfl, hl2⟩ := key y hy
  rw [shf_sub (hl.trans hl2.symm)]
  exact nic2_shf (hn z hz u hu)
/-- An interval: the note d steps above the note i, less the note i. -/
def iv (p : List Int) (N : List (List Rat)) (i d : Int) : List Rat := subZ (nt p N (i + d)) (nt p N i)
section
variable {p : List Int} {N : List (List Rat)} (h : Wc p N)
include h
theorem Wc.ivlen (i d : Int) : (iv p N i d).length = p.length := by
  unfold iv
  rw [subZ_len (by rw [h.wd.ntlen, h.wd.ntlen]), h.wd.ntlen]
theorem Wc.sF_iv (i d : Int) : sF p (iv p N i d) = sF p (nt p N (i + d)) - sF p (nt p N i) := by
  unfold iv
  exact sF_sub _ _ _ (by rw [h.wd.ntlen, h.wd.ntlen])
theorem Wc.iv_nic : ∃ n, ∀ i d, Nic2 n (iv p N i d) := by
  obtain ⟨n, hn⟩ := h.d2
  refine ⟨n, fun i d => ?_⟩
  have h0 := h.wd.pos
  have hN : (0 : Int) < (N.length : Int) := by omega
  have a1 := Int.emod_nonneg (i + d) (show (N.length : Int) ≠ 0 by omega)
  have a2 := Int.emod_lt_of_pos (i + d) hN
  have b1 := Int.emod_nonneg i (show (N.length : Int) ≠ 0 by omega)
  have b2 := Int.emod_lt_of_pos i hN
  unfold iv nt
  rw [shf_sub (by rw [h.wd.zlen (by omega), h.wd.zlen (by omega)])]
  exact nic2_shf (hn _ (h.wd.zmem (by omega)) _ (h.wd.zmem (by omega)))
theorem Wc.iv_sub_nic : ∃ n, ∀ i d j e, Nic n (subZ (iv p N i d) (iv p N j e)) := by
  obtain ⟨n, hn⟩ := h.iv_nic
  exact ⟨n, fun i d j e => nic2_sub (hn i d) (hn j e) (by rw [h.ivlen, h.ivlen])⟩
theorem Wc.iv_inj {i d j e : Int} (g : sF p (iv p N i d) = sF p (iv p N j e)) : iv p N i d = iv p N j e := by
  obtain ⟨n, hn⟩ := h.iv_sub_nic
  exact nice_inj (by rw [h.ivlen]; exact h.wd.pr) (by rw [h.ivlen, h.ivlen]) (hn i d j e).nice g
theorem Wc.iv_shift (i d q : Int) : iv p N (i + q * (N.length : Int)) d = iv p N i d := by
  unfold iv
  rw [show i + q * (N.length : Int) + d = (i + d) + q * (N.length : Int) by generalize q * (N.length : Int) = t; omega, h.wd.nt_shift, h.wd.nt_shift, shf_sub (by rw [h.wd.ntlen, h.wd.ntlen]), Int.sub_self, shf_zero]
theorem Wc.iv_rem (i d : Int) : iv p N (i % (N.length : Int)) d = iv p N i d := by
  have := h.iv_shift (i % (N.length : Int)) d (i / (N.length : Int))
  rw [← this]
  congr 1
  have := Int.emod_add_mul_ediv i (N.length : Int)
  rw [Int.mul_comm] at this
  exact this
/-- All steps: the period. -/
theorem Wc.iv_full (i : Int) : iv p N i (N.length : Int) = ov (p.length - 1) := by
  have e := h.wd.nt_shift i 1
  rw [Int.one_mul] at e
  have e2 := shf_sub (q := 1) (r := 0) (x := nt p N i) (y := nt p N i) rfl
  rw [shf_zero, subZ_self, h.wd.ntlen] at e2
  unfold iv
  rw [e, e2, ov_pr h.wd.pr]
  rfl
theorem Wc.iv_none (i : Int) : iv p N i 0 = zer p.length := by
  unfold iv
  rw [Int.add_zero, subZ_self, h.wd.ntlen]
theorem Wc.iv_bd {i d : Int} (h0 : 0 ≤ d) (h1 : d ≤ (N.length : Int)) : 0 ≤ sF p (iv p N i d) ∧ sF p (iv p N i d) ≤ 67108864 := by
  have e := h.sF_iv i d
  have ef := h.sF_iv i (N.length : Int)
  rw [h.iv_full, h.wd.sov] at ef
  constructor
  · rcases (by omega : d = 0 ∨ 0 < d) with g | g
    · rw [g, h.iv_none, sF_zer]
      exact Rat.le_refl
    · have := h.wd.nt_lt (k := i) (l := i + d) (by omega)
      grind
  · rcases (by omega : d = (N.length : Int) ∨ d < (N.length : Int)) with g | g
    · rw [g, h.iv_full, h.wd.sov]
      exact Rat.le_refl
    · have := h.wd.nt_lt (k := i + d) (l := i + (N.length : Int)) (by omega)
      grind
theorem Wc.iv_quick {i d : Int} (h0 : 0 ≤ d) (h1 : d ≤ (N.length : Int)) : Quick p (iv p N i d) := by
  obtain ⟨n, hn⟩ := h.iv_nic
  have hb := h.iv_bd (i := i) h0 h1
  refine nic_quick (c := 1) (by rw [h.ivlen]; exact h.wd.pr) (hn i d).nic (by omega) (by omega) ?_ ?_
  · rw [show ((1 * 67108864 : Int) : Rat) = 67108864 from rfl]; grind
  · rw [show ((1 * 67108864 : Int) : Rat) = 67108864 from rfl]; exact hb.2
theorem Wc.iv_sub_quick {i d j e : Int} (h0 : 0 ≤ d) (h1 : d ≤ (N.length : Int)) (g0 : 0 ≤ e) (g1 : e ≤ (N.length : Int)) : Quick p (subZ (iv p N i d) (iv p N j e)) := by
  obtain ⟨n, hn⟩ := h.iv_sub_nic
  have hl : (iv p N i d).length = (iv p N j e).length := by rw [h.ivlen, h.ivlen]
  have hb := h.iv_bd (i := i) h0 h1
  have hc := h.iv_bd (i := j) g0 g1
  have hs := sF_sub p _ _ hl
  refine nic_quick (c := 1) (by rw [subZ_len hl, h.ivlen]; exact h.wd.pr) (hn i d j e) (by omega) (by omega) ?_ ?_
  · rw [show ((1 * 67108864 : Int) : Rat) = 67108864 from rfl]; grind
  · rw [show ((1 * 67108864 : Int) : Rat) = 67108864 from rfl]; grind
/-- What the comparison of two intervals answers. -/
theorem Wc.iv_sgn (i d j e : Int) : sgnT (tms p (dn (subZ (iv p N i d) (iv p N j e))) (subZ (iv p N i d) (iv p N j e))) = sgQ (sF p (iv p N i d) - sF p (iv p N j e)) := by
  obtain ⟨n, hn⟩ := h.iv_sub_nic
  have hl : (iv p N i d).length = (iv p N j e).length := by rw [h.ivlen, h.ivlen]
  rw [nice_sgn (by rw [subZ_len hl, h.ivlen]; exact h.wd.pr) (hn i d j e).nice, sF_sub p _ _ hl]
end
/-- Put in order, once. -/
def insQ (p : List Int) (x : List Rat) : List (List Rat) → List (List Rat)
  | [] => [x]
  | y :: t => if sF p y < sF p x then y :: insQ p x t else if y = x then y :: t else x :: y :: t
theorem insQ_mem {p : List Int} {x z : List Rat} : ∀ {l : List (List Rat)}, z ∈ insQ p x l ↔ z = x ∨ z ∈ l
  | [] => by simp [insQ]
  | y :: t => by
    unfold insQ
    split
    · rw [List.mem_cons, insQ_mem (l := t), List.mem_cons]
      constructor
      · rintro (e | e | e) <;> simp [e]
      · rintro (e | e | e) <;> simp [e]
    · split
      · rename_i e
        rw [List.mem_cons]
        constructor
        · exact fun g => .inr g
        · rintro (g | g)
          · exact .inl (g.trans e.symm)
          · exact g
      · rw [List.mem_cons]
theorem insQ_srt {p : List Int} {x : List Rat} : ∀ {l : List (List Rat)}, Srt p l → (∀ y ∈ l, sF p x = sF p y → x = y) → Srt p (insQ p x l)
  | [], _, _ => by unfold insQ Srt; simp
  | y :: t, hs, hi => by
    have hs' := hs
    unfold Srt at hs'
    rw [List.pairwise_cons] at hs'
    unfold insQ
    split
    · rename_i hlt
      unfold Srt
      rw [List.pairwise_cons]
      refine ⟨fun z hz => ?_, insQ_srt (l := t) hs'.2 fun z hz => hi z (List.mem_cons_of_mem _ hz)⟩
      rcases insQ_mem.1 hz with rfl | hz
      · exact hlt
      · exact hs'.1 z hz
    · split
      · exact hs
      · rename_i h1 h2
        have hlt : sF p x < sF p y := by
          have : sF p x ≠ sF p y := fun e => h2 (hi y (List.mem_cons_self ..) e).symm
          grind
        unfold Srt
        rw [List.pairwise_cons]
        refine ⟨fun z hz => ?_, hs⟩
        rcases List.mem_cons.1 hz with rfl | hz
        · exact hlt
        · have := hs'.1 z hz
          grind
theorem insQ_len {p : List Int} {x : List Rat} : ∀ (l : List (List Rat)), (insQ p x l).length ≤ l.length + 1
  | [] => by simp [insQ]
  | y :: t => by
    have := insQ_len (p := p) (x := x) t
    unfold insQ
    split
    · simp only [List.length_cons]; omega
    · split <;> simp
/-- The different sizes of a class, among the first n notes. -/
def clsN (p : List Int) (N : List (List Rat)) (d : Int) : Nat → List (List Rat)
  | 0 => []
  | n + 1 => insQ p (iv p N (n : Int) d) (clsN p N d n)
def cls (p : List Int) (N : List (List Rat)) (d : Int) : List (List Rat) := clsN p N d N.length
theorem clsN_mem {p : List Int} {N : List (List Rat)} {d : Int} {x : List Rat} : ∀ {n : Nat}, x ∈ clsN p N d n ↔ ∃ i : Nat, i < n ∧ x = iv p N (i : Int) d
  | 0 => by simp [clsN]
  | n + 1 => by
    unfold clsN
    rw [insQ_mem, clsN_mem (n := n)]
    constructor
    · rintro (e | ⟨i, hi, e⟩)
      · exact ⟨n, by omega, e⟩
      · exact ⟨i, by omega, e⟩
    · rintro ⟨i, hi, e⟩
      rcases (by omega : i = n ∨ i < n) with g | g
      · left; rw [e, g]
      · exact .inr ⟨i, g, e⟩
theorem clsN_len {p : List Int} {N : List (List Rat)} {d : Int} : ∀ (n : Nat), (clsN p N d n).length ≤ n
  | 0 => by simp [clsN]
  | n + 1 => by
    have := clsN_len (p := p) (N := N) (d := d) n
    have := insQ_len (p := p) (x := iv p N (n : Int) d) (clsN p N d n)
    unfold clsN
    omega
section
variable {p : List Int} {N : List (List Rat)} (h : Wc p N)
include h
theorem Wc.clsN_srt (d : Int) : ∀ n, Srt p (clsN p N d n)
  | 0 => by unfold clsN Srt; simp
  | n + 1 => by
    unfold clsN
    refine insQ_srt (Wc.clsN_srt d n) fun y hy e => ?_
    obtain ⟨i, _, rfl⟩ := clsN_mem.1 hy
    exact h.iv_inj e
theorem Wc.cls_srt (d : Int) : Srt p (cls p N d) := h.clsN_srt d _
omit h in
theorem cls_len {d : Int} : (cls p N d).length ≤ N.length := clsN_len _
theorem Wc.cls_mem {d : Int} {x : List Rat} : x ∈ cls p N d ↔ ∃ i : Int, x = iv p N i d := by
  unfold cls
  rw [clsN_mem]
  constructor
  · rintro ⟨i, _, e⟩
    exact ⟨_, e⟩
  · rintro ⟨i, e⟩
    have h0 := h.wd.pos
    have a1 := Int.emod_nonneg i (show (N.length : Int) ≠ 0 by omega)
    have a2 := Int.emod_lt_of_pos i (show (0 : Int) < (N.length : Int) by omega)
    refine ⟨(i % (N.length : Int)).toNat, by omega, ?_⟩
    rw [Int.toNat_of_nonneg a1, h.iv_rem]
    exact e
theorem Wc.cls_pos (d : Int) : 0 < (cls p N d).length := List.length_pos_of_mem (h.cls_mem.2 ⟨0, rfl⟩)
/-- A list in order with the same members is the class. -/
theorem Wc.cls_uniq {d : Int} {L : List (List Rat)} (hs : Srt p L) (hm : ∀ x, x ∈ L ↔ ∃ i : Nat, i < N.length ∧ x = iv p N (i : Int) d) : L = cls p N d :=
  srt_uniq hs (h.cls_srt d) fun x => by rw [hm, cls, clsN_mem]
theorem Wc.cls_lt {d : Int} {x : List Rat} (hx : x ∈ cls p N d) : x.length = p.length := by
  obtain ⟨i, e⟩ := h.cls_mem.1 hx
  rw [e, h.ivlen]
end
end Go.Proofs.YtajdfggocldeaaaGreatDoor

namespace Go.Proofs.YtajdfggocldeaaaGreatDoor
open Go.RowKit Go.Lib
/-- A block of two cells. -/
def BoxT (T : TypeId) (w : World) (b : Nat) (u v : Value) : Prop := w.heap[b]? = some (.cells #[u, v] T (0, 0))
section
variable {T : TypeId} {w w' : World} {b c : Nat} {u v : Value}
theorem BoxT.new (T : TypeId) (w : World) (u v : Value) : BoxT T (w.alloc (.cells #[u, v] T)) w.heap.size u v := World.alloc_heap_new w _
theorem BoxT.ext (hx : Ext w w') (h : BoxT T w b u v) : BoxT T w' b u v := hx.heap h
theorem BoxT.c0 (h : BoxT T w b u v) : w.cell? ⟨b, 0, none⟩ = some u := by unfold World.cell?; dsimp only; rw [h]; rfl
theorem BoxT.c1 (h : BoxT T w b u v) : w.cell? ⟨b, 1, none⟩ = some v := by unfold World.cell?; dsimp only; rw [h]; rfl
theorem BoxT.fz (h : BoxT T w b u v) (k : Nat) : w.frozen? ⟨b, k, none⟩ = false := frozen_of_row w b k #[u, v] _ h
theorem BoxT.lt (h : BoxT T w b u v) : b < w.heap.size := (Array.getElem?_eq_some_iff.1 h).1
theorem BoxT.put (h : BoxT T w c u v) (x y : Value) : BoxT T ((w.setCell ⟨c, 0, none⟩ x).setCell ⟨c, 1, none⟩ y) c x y :=
  heap_setCell_same _ c 1 _ _ y (heap_setCell_same w c 0 _ _ x h)
theorem BoxT.put0 (h : BoxT T w c u v) (x : Value) : BoxT T (w.setCell ⟨c, 0, none⟩ x) c x v := heap_setCell_same w c 0 _ _ x h
theorem BoxT.put1 (h : BoxT T w c u v) (x : Value) : BoxT T (w.setCell ⟨c, 1, none⟩ x) c u x := heap_setCell_same w c 1 _ _ x h
theorem BoxT.past1 (h : BoxT T w b u v) (k : Nat) (hne : b ≠ c) (x : Value) : BoxT T (w.setCell ⟨c, k, none⟩ x) b u v := (heap_setCell_other w ⟨c, k, none⟩ b x hne).trans h
theorem BoxT.past (h : BoxT T w b u v) (hne : b ≠ c) (x y : Value) : BoxT T ((w.setCell ⟨c, 0, none⟩ x).setCell ⟨c, 1, none⟩ y) b u v := (h.past1 0 hne x).past1 1 hne y
end
/-- The two cells of a result. -/
def ResT (T : TypeId) (w : World) (c : Nat) : Prop := ∃ u v, BoxT T w c u v
section
variable {T : TypeId} {w w' w2 : World} {b c : Nat} {u v : Value}
theorem ResT.ext (hx : Ext w w') (h : ResT T w c) : ResT T w' c := by
  obtain ⟨u, v, h⟩ := h; exact ⟨u, v, h.ext hx⟩
theorem ResT.c0 (h : ResT T w c) : w.cell? ⟨c, 0, none⟩ = some (valAt w c 0) := by
  obtain ⟨u, v, h⟩ := h; unfold valAt; rw [h.c0]; rfl
theorem ResT.c1 (h : ResT T w c) : w.cell? ⟨c, 1, none⟩ = some (valAt w c 1) := by
  obtain ⟨u, v, h⟩ := h; unfold valAt; rw [h.c1]; rfl
theorem ResT.fz (h : ResT T w c) (k : Nat) : w.frozen? ⟨c, k, none⟩ = false := by
  obtain ⟨u, v, h⟩ := h; exact h.fz k
/-- The world has grown, and the result's cells are there. -/
structure K0 (T : TypeId) (w w' : World) (c : Nat) : Prop where
  x : Ext w w'
  res : ResT T w' c
theorem K0.ext (h : K0 T w w' c) (hx : Ext w' w2) : K0 T w w2 c := ⟨h.x.trans hx, h.res.ext hx⟩
theorem K0.fin (h : K0 T w w' c) (hc : w.heap.size ≤ c) (x y : Value) : BoxT T ((w'.setCell ⟨c, 0, none⟩ x).setCell ⟨c, 1, none⟩ y) c x y ∧ Ext w ((w'.setCell ⟨c, 0, none⟩ x).setCell ⟨c, 1, none⟩ y) := by
  obtain ⟨u', v', h'⟩ := h.res
  exact ⟨h'.put x y, (h.x.setCell hc _).setCell hc _⟩
theorem K0.set (h : K0 T w w' c) {b : Nat} (hb : w.heap.size ≤ b) (hne : c ≠ b) (k : Nat) (x : Value) : K0 T w (w'.setCell ⟨b, k, none⟩ x) c := by
  obtain ⟨u', v', h'⟩ := h.res
  exact ⟨h.x.setCell hb _, u', v', h'.past1 k hne x⟩
end
/-- Two boxes, and the cells of a result. -/
structure K2 (T1 T2 TR : TypeId) (w w' : World) (b1 : Nat) (u1 v1 : Value) (b2 : Nat) (u2 v2 : Value) (c : Nat) : Prop where
  x : Ext w w'
  a : BoxT T1 w' b1 u1 v1
  b : BoxT T2 w' b2 u2 v2
  res : ResT TR w' c
section
variable {T1 T2 TR : TypeId} {w w' w2 : World} {b1 b2 c : Nat} {u1 v1 u2 v2 : Value}
theorem K2.ext (h : K2 T1 T2 TR w w' b1 u1 v1 b2 u2 v2 c) (hx : Ext w' w2) : K2 T1 T2 TR w w2 b1 u1 v1 b2 u2 v2 c := ⟨h.x.trans hx, h.a.ext hx, h.b.ext hx, h.res.ext hx⟩
theorem K2.put (h : K2 T1 T2 TR w w' b1 u1 v1 b2 u2 v2 c) (hc : w.heap.size ≤ c) (h1 : b1 ≠ c) (h2 : b2 ≠ c) (x y : Value) : K2 T1 T2 TR w ((w'.setCell ⟨c, 0, none⟩ x).setCell ⟨c, 1, none⟩ y) b1 u1 v1 b2 u2 v2 c := by
  obtain ⟨u, v, hr⟩ := h.res
  exact ⟨(h.x.setCell hc _).setCell hc _, h.a.past h1 x y, h.b.past h2 x y, x, y, hr.put x y⟩
theorem K2.fin (h : K2 T1 T2 TR w w' b1 u1 v1 b2 u2 v2 c) (hc : w.heap.size ≤ c) (x y : Value) : BoxT TR ((w'.setCell ⟨c, 0, none⟩ x).setCell ⟨c, 1, none⟩ y) c x y ∧ Ext w ((w'.setCell ⟨c, 0, none⟩ x).setCell ⟨c, 1, none⟩ y) := by
  obtain ⟨u', v', h'⟩ := h.res
  exact ⟨h'.put x y, (h.x.setCell hc _).setCell hc _⟩
theorem K2.all (h : K2 T1 T2 TR w w' b1 u1 v1 b2 u2 v2 c) : K2 T1 T2 TR w w' b1 u1 v1 b2 u2 v2 c ∧ w'.cell? ⟨b1, 0, none⟩ = some u1 ∧ w'.cell? ⟨b1, 1, none⟩ = some v1 ∧ w'.cell? ⟨b2, 0, none⟩ = some u2 ∧ w'.cell? ⟨b2, 1, none⟩ = some v2 ∧ w'.cell? ⟨c, 0, none⟩ = some (valAt w' c 0) ∧ w'.cell? ⟨c, 1, none⟩ = some (valAt w' c 1) ∧ w'.frozen? ⟨c, 0, none⟩ = false ∧ w'.frozen? ⟨c, 1, none⟩ = false :=
  ⟨h, h.a.c0, h.a.c1, h.b.c0, h.b.c1, h.res.c0, h.res.c1, h.res.fz 0, h.res.fz 1⟩
end
theorem k2_new (T1 T2 TR : TypeId) (w : World) (u1 v1 u2 v2 r1 r2 : Value) : K2 T1 T2 TR w (((w.alloc (.cells #[u1, v1] T1)).alloc (.cells #[u2, v2] T2)).alloc (.cells #[r1, r2] TR)) w.heap.size u1 v1 (w.heap.size + 1) u2 v2 (w.heap.size + 1 + 1) ∧ BoxT TR (((w.alloc (.cells #[u1, v1] T1)).alloc (.cells #[u2, v2] T2)).alloc (.cells #[r1, r2] TR)) (w.heap.size + 1 + 1) r1 r2 := by
  have b1 := BoxT.new T1 w u1 v1
  have b2 := BoxT.new T2 (w.alloc (.cells #[u1, v1] T1)) u2 v2
  have b3 := BoxT.new TR ((w.alloc (.cells #[u1, v1] T1)).alloc (.cells #[u2, v2] T2)) r1 r2
  rw [World.size_alloc] at b2
  rw [World.size_alloc, World.size_alloc] at b3
  exact ⟨⟨(((Ext.refl w).alloc _).alloc _).alloc _, (b1.ext ((Ext.refl _).alloc _)).ext ((Ext.refl _).alloc _), b2.ext ((Ext.refl _).alloc _), r1, r2, b3⟩, b3⟩
end Go.Proofs.YtajdfggocldeaaaGreatDoor

namespace Go.Proofs.YtajdfggocldeaaaGreatDoor
open Go.RowKit Go.Lib Go.Shelf
attribute [local go_sem] Oper.semAt_some
theorem sgQ_neg (r : Rat) : sgQ r < 0 ↔ r < 0 := by
  unfold sgQ
  constructor
  · intro h
    by_cases g : r < 0
    · exact g
    · rw [if_neg g] at h
      split at h <;> omega
  · intro h; rw [if_pos h]; decide
theorem Lw.cmpb {p : List Int} {c : Int} {l N : List (List Rat)} (h : Lw p c l) (hN : ∀ x ∈ N, x = zer p.length ∨ x = ov (p.length - 1) ∨ ∃ z ∈ l, x = rst p z) : Cmpb p N := by
  obtain ⟨n, hn⟩ := h.play
  have hlen : ∀ x ∈ N, x.length = p.length := fun x hx => (hn x x (hN x hx) (hN x hx)).1
  have hb : ∀ x ∈ N, 0 ≤ sF p x ∧ sF p x ≤ 67108864 := fun x hx => by
    rcases hN x hx with e | e | ⟨z, hz, e⟩
    · rw [e, sF_zer]; exact ⟨Rat.le_refl, by decide⟩
    · rw [e, sov h.pr]; exact ⟨by decide, Rat.le_refl⟩
    · rw [e]; have := h.range hz; exact ⟨this.1, Rat.le_of_lt this.2⟩
  have hpe : primesErr p = 0 ∧ p.length ≤ 100 := by rcases h.pr with ⟨e, _⟩ | ⟨e, _⟩ <;> rw [e] <;> decide
  have hpx : ∀ x : List Rat, x.length = p.length → Pr p x.length := fun x e => by rw [e]; exact h.pr
  have h1 : ((1 * 67108864 : Int) : Rat) = 67108864 := rfl
  refine ⟨hpe.1, hpe.2, hlen, fun x hx => ?_, fun x hx y hy => ?_, fun x hx y hy => ?_⟩
  · have hz := (hn x (zer p.length) (hN x hx) (.inl rfl)).2
    rw [← hlen x hx, subZ_zer] at hz
    have b := hb x hx
    exact (nic_quick (c := 1) (hpx x (hlen x hx)) hz (by omega) (by omega) (by rw [h1]; grind) (by rw [h1]; exact b.2)).1
  · have b1 := hb x hx
    have b2 := hb y hy
    have hl := hlen x hx
    have hl2 := hlen y hy
    have hs := sF_sub p x y (hl.trans hl2.symm)
    exact nic_quick (c := 1) (hpx _ ((subZ_len (hl.trans hl2.symm)).trans hl)) (hn x y (hN x hx) (hN y hy)).2 (by omega) (by omega) (by rw [h1]; grind) (by rw [h1]; grind)
  · have hl := hlen x hx
    have hl2 := hlen y hy
    rw [nice_sgn (hpx _ ((subZ_len (hl.trans hl2.symm)).trans hl)) (hn x y (hN x hx) (hN y hy)).2.nice, sgQ_neg, sF_sub p x y (hl.trans hl2.symm)]
    constructor <;> intro g <;> grind
/-- A scale that a call made. -/
def ScO (w : World) (B : Nat) (v : Value) (p : List Int) (rs : List Qw) : Prop := ∃ vp vn, v = .agg #[vp, vn] ∧ OwnI w B vp p ∧ QwM w B B vn rs
theorem ScO.ext {w w' : World} {B : Nat} {v : Value} {p : List Int} {rs : List Qw} (hx : Ext w w') (h : ScO w B v p rs) : ScO w' B v p rs := by
  obtain ⟨vp, vn, e, a, b⟩ := h
  exact ⟨vp, vn, e, hx.own a, hx.qwM b⟩
theorem ScO.mono {w : World} {B B' : Nat} {v : Value} {p : List Int} {rs : List Qw} (h : ScO w B v p rs) (hB : B' ≤ B) : ScO w B' v p rs := by
  obtain ⟨vp, vn, e, a, b⟩ := h
  exact ⟨vp, vn, e, own_mono a hB, b.mono hB hB⟩
theorem QwM.set {W : World} {b B : Nat} {v : Value} {rs : List Qw} (h : QwM W b B v rs) {c : Nat} {cs : Array Value} (hc : W.heap[c]? = some (.cells cs 35 (0, 0))) (k : Nat) (u : Value) : QwM (W.setCell ⟨c, k, none⟩ u) b B v rs :=
  ⟨own_set_apart hc h.1 (by decide) k u, fun r hr => own_set_apart hc (h.2 r hr) (by decide) k u⟩
theorem QwM.more2 {w0 W V : World} {b B : Nat} {o : Obj} {v v7 : Value} {rs : List Qw} {r : Qw} (hE : Ext w0 W) (hB : w0.heap.size ≤ B) (h : QwM W b B v rs) (hr : OwnQ W b r.u r.x)
    (hown : V.ownsRow B 28 1 v7 (rs.length + 1) (qwc rs ++ [r.u])) (hgrow : (W.alloc o).grownBy V v.ownBlock) : QwM V b B v7 (rs ++ [r]) ∧ Ext w0 V := by
  have hal := h.1.alloc o
  have hkeep : ∀ s : Qw, OwnQ W b s.u s.x → OwnQ V b s.u s.x := fun s hs => World.ownsRow.kept (World.ownsRow.alloc hs o) hgrow (own_ne (World.ownsRow.alloc hs o) hal (by decide))
  refine ⟨⟨?_, fun s hs => ?_⟩, (hE.alloc o).grown hgrow fun k hk => Nat.le_trans hB (World.ownsRow.lt hal k hk).1⟩
  · rw [List.length_append, List.length_singleton, qwc_snoc]; exact hown
  · rcases List.mem_append.1 hs with g | g
    · exact hkeep s (h.2 s g)
    · rw [List.mem_singleton] at g
      subst g
      exact hkeep s hr
/-- The notes of a scale under way: its box, and the list in it. -/
def NtR (b : Nat) (W6 : World) (bs : Nat) (vp : Value) (xs : List (List Rat)) (wr : World) : Prop := ∃ (vn : Value) (nts : List Qw), BoxT 35 wr bs vp vn ∧ QwM wr b W6.heap.size vn nts ∧ nts.map Qw.x = xs ∧ Ext W6 wr
theorem NtR.more {b : Nat} {W6 W V : World} {bs : Nat} {vp vn v7 u : Value} {x : List Rat} {nts : List Qw} {xs : List (List Rat)} {o : Obj} (hbs : W6.heap.size ≤ bs) (hb : BoxT 35 W bs vp vn) (hq : QwM W b W6.heap.size vn nts) (hm : nts.map Qw.x = xs) (hE : Ext W6 W) (ho : OwnQ W b u x)
    (hown : V.ownsRow W6.heap.size 28 1 v7 (nts.length + 1) (qwc nts ++ [u])) (hgrow : (W.alloc o).grownBy V vn.ownBlock) : NtR b W6 bs vp (xs ++ [x]) (V.setCell ⟨bs, 1, none⟩ v7) := by
  have h1 := QwM.more2 (r := ⟨_, u, rd_one ho.rd⟩) hE (Nat.le_refl _) hq ho hown hgrow
  have hbV : BoxT 35 V bs vp vn := kept_box (((Ext.refl W).alloc o).heap hb) (World.ownsRow.alloc hq.1 o) (by decide) hgrow
  exact ⟨v7, _, hbV.put1 v7, h1.1.set hbV 1 v7, by rw [List.map_append, hm]; rfl, h1.2.setCell hbs v7⟩
theorem NtR.ext {b : Nat} {W6 wr w' : World} {bs : Nat} {vp : Value} {xs : List (List Rat)} (h : NtR b W6 bs vp xs wr) (hx : Ext wr w') : NtR b W6 bs vp xs w' := by
  obtain ⟨vn, nts, h1, h2, h3, h4⟩ := h
  exact ⟨vn, nts, h1.ext hx, hx.qwM h2, h3, h4.trans hx⟩
theorem s6 {w6 w' : World} {a : Addr} {u : Value} (h6 : w6.cell? a = some u) (h : Ext w6 w') : Ext w6 w' ∧ w'.cell? a = some u := ⟨h, h.cell h6⟩
/-- The rests so far. -/
def CoR (W : World) (p : List Int) (l : List (List Rat)) (k : Nat) (v : Value) (wr : World) : Prop := ∃ out : List Qw, QwM wr W.heap.size W.heap.size v out ∧ out.map Qw.x = colF p [] (l.take k) ∧ out.length ≤ k ∧ Ext W wr
theorem CoR.skip {W wr w' : World} {p : List Int} {l : List (List Rat)} {k : Nat} {v : Value} {x : List Rat} {out : List Qw} (hq : QwM wr W.heap.size W.heap.size v out) (hm : out.map Qw.x = colF p [] (l.take k)) (hl : out.length ≤ k) (hE : Ext W wr) (hx : Ext wr w') (hr : l[k]? = some x) (hs : rst p x = zer p.length ∨ rst p x ∈ out.map Qw.x) : CoR W p l (k + 1) v w' :=
  ⟨out, hx.qwM hq, by rw [colF_take hr, colS, if_pos (by rw [← hm]; exact hs)]; exact hm, by omega, hE.trans hx⟩
theorem CoR.more {W wr V : World} {p : List Int} {l : List (List Rat)} {k : Nat} {v v7 u : Value} {x : List Rat} {out : List Qw} {o : Obj} (hE : Ext W wr) (hq : QwM wr W.heap.size W.heap.size v out) (hm : out.map Qw.x = colF p [] (l.take k)) (hl : out.length ≤ k) (hr : l[k]? = some x) (hs : ¬ (rst p x = zer p.length ∨ rst p x ∈ out.map Qw.x)) (ho : OwnQ wr W.heap.size u (rst p x))
    (hown : V.ownsRow W.heap.size 28 1 v7 (out.length + 1) (qwc out ++ [u])) (hgrow : (wr.alloc o).grownBy V v.ownBlock) : CoR W p l (k + 1) v7 V := by
  have := QwM.more (r := ⟨_, u, rd_one ho.rd⟩) hE hq ho hown hgrow
  exact ⟨_, this.1, by rw [colF_take hr, colS, if_neg (by rw [← hm]; exact hs), List.map_append, hm]; rfl, by rw [List.length_append]; simp; omega, this.2⟩
end Go.Proofs.YtajdfggocldeaaaGreatDoor

namespace Go.Proofs.YtajdfggocldeaaaGreatDoor
open Go.RowKit Go.Lib
attribute [local go_sem] Oper.semAt_some
theorem scNote_c (v : Value) (p : List Int) (rs : List Qw) (n : Nat) (k : Int) (r : Qw) (w : World) (he : Env w) (hv : ScV w v p rs) (h : Right p rs) (hn : rs.length = n + 1) (hr : rs[n]? = some r) (hk0 : -1000000 ≤ k) (hk1 : k ≤ 1000000)
    (hq : Ft 400 ((k / ((n : Int) + 1) : Int) : Rat)) (hf1 : ∀ q ∈ mulZ r.x ((k / ((n : Int) + 1) : Int) : Rat), Ft 30 q) (hf2 : ∀ q ∈ noteQ rs n k, Ft 30 q) :
    Calls Tryz.prog 53 #[v, .int .i64 k] w fun e w' => ∃ g, e = .returned (.tuple #[.slice (some ⟨g, 0, none⟩) p.length p.length, .int .i64 0]) ∧ OwnQ w' w.heap.size (.slice (some ⟨g, 0, none⟩) p.length p.length) (noteQ rs n k) ∧ Ext w w' := by
  have h1 := fun W (hE : Ext w W) => scCheck_c v p rs W (he.ext hE) (hv.ext hE) h
  have h2 := fun W (hE : Ext w W) => note_c v p rs n k r W (he.ext hE) (hv.ext hE) h hn hr (by omega) (by omega) hq hf1 hf2
  obtain ⟨vp, vn, rfl, hp, hs, hm⟩ := hv
  obtain ⟨ap, cp, rfl, _, _, _⟩ := hp.parts
  obtain ⟨an, cn, rfl, _, _, _⟩ := hs.parts
  generalize (i64s p).length = n1 at *
  generalize (qwc rs).length = n2 at *
  have bx : (w.alloc (.cells #[.slice ap n1 cp, .slice an n2 cn] 35)).heap[w.heap.size]? = some (.cells #[.slice ap n1 cp, .slice an n2 cn] 35 (0, 0)) := World.alloc_heap_new w _
  have hE0 : Ext w (w.alloc (.cells #[.slice ap n1 cp, .slice an n2 cn] 35)) := (Ext.refl w).alloc _
  have hbox : ∀ W, Ext (w.alloc (.cells #[.slice ap n1 cp, .slice an n2 cn] 35)) W → W.cell? ⟨w.heap.size, 0, none⟩ = some (.slice ap n1 cp) ∧ W.cell? ⟨w.heap.size, 1, none⟩ = some (.slice an n2 cn) := fun W hE => by
    have hb := hE.heap bx
    unfold World.cell?
    dsimp only
    rw [hb]
    exact ⟨rfl, rfl⟩
  clear hp hs hm he h bx hq hf1 hf2 hn hr
  have H1 := Lib.hid h1; have H2 := Lib.hid h2; have HE0 := Lib.hid hE0; have Hbox := Lib.hid hbox; clear h1 h2 hE0 hbox
  go_enter Tryz.func53, Tryz.ntmps53
  go_wp2_with fail
  refine (H1.out _ HE0.out).mono ?_
  rintro e w1 ⟨rfl, hx1⟩
  obtain ⟨q0, q1⟩ := Hbox.out w1 hx1
  have Hx1 := Lib.hid (HE0.out.trans hx1); clear hx1
  go_wp2_with fail
  refine (H2.out w1 Hx1.out).mono ?_
  rintro e w2 ⟨g, rfl, ho, hx2⟩
  have Ho := Lib.hid (ho.mono Hx1.out.size)
  have Hx2 := Lib.hid (Hx1.out.trans hx2)
  clear ho hx2 q0 q1
  go_wp2
  go_ret2
  exact ⟨g, rfl, Ho.out, Hx2.out⟩
end Go.Proofs.YtajdfggocldeaaaGreatDoor
