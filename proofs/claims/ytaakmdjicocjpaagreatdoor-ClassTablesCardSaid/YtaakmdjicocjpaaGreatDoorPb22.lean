/- Plain: classes of modes, inversion, moments of symmetry; strict scales are the proper ones that are constant. Walk: slices.insertionSortCmpFunc and SortFunc at sizes, with a bound method as the compare. Blocks of two cells of any type: results and boxes. Walk: scale.collect of at most nine sizes. Walk: scale.Note of a right scale. -/
import Derived.Test.YtaakmdjicocjpaaGreatDoorPb21
import Derived.Test.YtaakmdjicocjpaaGreatDoorPb20
import Derived.Shelf.RegionOpenPlain
import Derived.Shelf.Abstract
import Derived.Shelf.SlicesE.Kit
import Derived.Deep.RegionHeld3
import Derived.Test.YtaakmdjicocjpaaGreatDoorPb06
import Derived.Test.YtaakmdjicocjpaaGreatDoorPb16
import Derived.Test.YtaakmdjicocjpaaGreatDoorPb19
set_option maxRecDepth 100000
set_option maxHeartbeats 4000000
namespace Go.Proofs.YtaakmdjicocjpaaGreatDoor
section
variable {p : List Int} {N : List (List Rat)} (h : Wc p N)
include h
theorem Wc.mode (m : Int) : Wc p (md p N m) := by
  refine ⟨h.wd.mode m, ?_⟩
  obtain ⟨n, hn⟩ := h.iv_nic
  have key : ∀ x ∈ zer p.length :: md p N m, ∃ k : Int, x = subZ (nt p N k) (nt p N m) := fun x hx => by
    rcases List.mem_cons.1 hx with rfl | hx
    · exact ⟨m, by rw [subZ_self, h.wd.ntlen]⟩
    · unfold md at hx
      obtain ⟨k, _, rfl⟩ := List.mem_map.1 hx
      exact ⟨k, rfl⟩
  refine ⟨n, fun x hx y hy => ?_⟩
  obtain ⟨k, rfl⟩ := key x hx
  obtain ⟨l, rfl⟩ := key y hy
  rw [subZ_subZ (by rw [h.wd.ntlen, h.wd.ntlen]) (by rw [h.wd.ntlen, h.wd.ntlen])]
  have := hn l (k - l)
  unfold iv at this
  rwa [show l + (k - l) = k by omega] at this
theorem Wc.iv_md (m i d : Int) : iv p (md p N m) i d = iv p N (m + i) d := by
  unfold iv
  rw [h.wd.nt_md, h.wd.nt_md, subZ_subZ (by rw [h.wd.ntlen, h.wd.ntlen]) (by rw [h.wd.ntlen, h.wd.ntlen]), show m + (i + d) = m + i + d by omega]
theorem Wc.cls_md (m d : Int) : cls p (md p N m) d = cls p N d := by
  refine srt_uniq ((h.mode m).cls_srt d) (h.cls_srt d) fun x => ?_
  rw [(h.mode m).cls_mem, h.cls_mem]
  constructor
  · rintro ⟨i, e⟩
    exact ⟨m + i, by rw [e, h.iv_md]⟩
  · rintro ⟨i, e⟩
    exact ⟨i - m, by rw [e, h.iv_md, show m + (i - m) = i by omega]⟩
/-- The rest to the period. -/
theorem Wc.iv_inv (i d : Int) : iv p N (i + d) ((N.length : Int) - d) = subZ (ov (p.length - 1)) (iv p N i d) := by
  have e := h.iv_full i
  rw [← e]
  unfold iv
  rw [show i + d + ((N.length : Int) - d) = i + (N.length : Int) by omega]
  exact (subZ_subZ (x := nt p N (i + (N.length : Int))) (y := nt p N (i + d)) (z := nt p N i) (by rw [h.wd.ntlen, h.wd.ntlen]) (by rw [h.wd.ntlen, h.wd.ntlen])).symm
theorem Wc.cls_inv (d : Int) : cls p N ((N.length : Int) - d) = ((cls p N d).map (subZ (ov (p.length - 1)))).reverse := by
  have hov : (ov (p.length - 1)).length = p.length := by rw [← h.iv_full 0, h.ivlen]
  refine srt_uniq (h.cls_srt _) ?_ fun x => ?_
  · unfold Srt
    rw [List.pairwise_reverse, List.pairwise_map]
    have := h.cls_srt d
    unfold Srt at this
    refine this.imp_of_mem fun {a b} ha hb g => ?_
    rw [sF_sub p _ a (by rw [hov, h.cls_lt ha]), sF_sub p _ b (by rw [hov, h.cls_lt hb])]
    grind
  · rw [List.mem_reverse, List.mem_map, h.cls_mem]
    constructor
    · rintro ⟨i, e⟩
      refine ⟨iv p N (i - d) d, h.cls_mem.2 ⟨_, rfl⟩, ?_⟩
      rw [e, ← h.iv_inv, show i - d + d = i by omega]
    · rintro ⟨y, hy, e⟩
      obtain ⟨i, rfl⟩ := h.cls_mem.1 hy
      exact ⟨i + d, by rw [← e, h.iv_inv]⟩
/-- The next interval of a class: a step more above, a step less below. -/
theorem Wc.iv_next (i d : Int) : subZ (iv p N (i + 1) d) (iv p N i d) = subZ (iv p N (i + d) 1) (iv p N i 1) := by
  unfold iv
  rw [show i + d + 1 = i + 1 + d by omega]
  have hl := h.wd.ntlen
  refine List.ext_getElem ?_ fun j h1 h2 => ?_
  · simp only [subZ, List.length_zipWith, hl]
  · simp only [subZ, List.getElem_zipWith]
    grind
/-- In a class with two sizes there is a place where they meet. -/
theorem Wc.cls_turn {d : Int} {a b : List Rat} (hc : cls p N d = [a, b]) : ∃ i, (iv p N i d = a ∧ iv p N (i + 1) d = b) := by
  obtain ⟨j, hj⟩ := h.cls_mem.1 (show a ∈ cls p N d by rw [hc]; simp)
  obtain ⟨k, hk⟩ := h.cls_mem.1 (show b ∈ cls p N d by rw [hc]; simp)
  have hs := h.cls_srt d
  rw [hc] at hs
  unfold Srt at hs
  have hab : sF p a < sF p b := by simpa using hs
  have hne : a ≠ b := fun e => by rw [e] at hab; grind
  -- the note k lies behind j, some periods later
  have h0 := h.wd.pos
  have hk2 : b = iv p N (k + (j - k).natAbs * (N.length : Int)) d := by rw [h.iv_shift]; exact hk
  have hle : j ≤ k + (j - k).natAbs * (N.length : Int) := by
    have : ((j - k).natAbs : Int) * 1 ≤ (j - k).natAbs * (N.length : Int) := Int.mul_le_mul_of_nonneg_left (by omega) (by omega)
    omega
  generalize hK : k + (j - k).natAbs * (N.length : Int) = K at *
  obtain ⟨m, hm⟩ : ∃ m : Nat, K = j + m := ⟨(K - j).toNat, by omega⟩
  subst hm
  clear hK hle hk
  -- the last one that is a
  have key : ∀ m : Nat, b = iv p N (j + (m : Int)) d → ∃ i, (iv p N i d = a ∧ iv p N (i + 1) d = b) := by
    intro m
    induction m with
    | zero =>
      intro e
      rw [show j + ((0 : Nat) : Int) = j by omega, ← hj] at e
      exact absurd e.symm hne
    | succ m ih =>
      intro e
      have hmem := (h.cls_mem (d := d)).2 ⟨j + (m : Int), rfl⟩
      rw [hc] at hmem
      simp only [List.mem_cons, List.not_mem_nil, or_false] at hmem
      rcases hmem with g | g
      · exact ⟨j + (m : Int), g, by rw [e, show j + (m : Int) + 1 = j + ((m + 1 : Nat) : Int) by omega]⟩
      · exact ih g.symm
  exact key m hk2
/-- In a moment of symmetry the two sizes of a class differ by a large step less a small one. -/
theorem Wc.mos {d : Int} {a b s l : List Rat} (h1 : cls p N 1 = [s, l]) (hc : cls p N d = [a, b]) : subZ b a = subZ l s := by
  obtain ⟨i, e1, e2⟩ := h.cls_turn hc
  have hn := h.iv_next i d
  rw [e1, e2] at hn
  have hs := h.cls_srt d
  rw [hc] at hs
  have ht := h.cls_srt 1
  rw [h1] at ht
  unfold Srt at hs ht
  have hab : sF p a < sF p b := by simpa using hs
  have hsl : sF p s < sF p l := by simpa using ht
  have m1 := (h.cls_mem (d := 1)).2 ⟨i + d, rfl⟩
  have m2 := (h.cls_mem (d := 1)).2 ⟨i, rfl⟩
  have la := h.cls_lt (show a ∈ cls p N d by rw [hc]; simp)
  have lb := h.cls_lt (show b ∈ cls p N d by rw [hc]; simp)
  have ll := h.cls_lt (show l ∈ cls p N 1 by rw [h1]; simp)
  have ls := h.cls_lt (show s ∈ cls p N 1 by rw [h1]; simp)
  rw [h1] at m1 m2
  simp only [List.mem_cons, List.not_mem_nil, or_false] at m1 m2
  have hd := congrArg (sF p) hn
  rw [sF_sub _ _ _ (by rw [la, lb])] at hd
  rw [hn]
  rcases m1 with e | e <;> rcases m2 with g | g <;> rw [e, g] at hd ⊢
  · rw [sF_sub _ _ _ rfl] at hd
    grind
  · rw [sF_sub _ _ _ (by rw [ls, ll])] at hd
    grind
  · rw [sF_sub _ _ _ rfl] at hd
    grind
/-- No size of a class is above one of the next class; none is equal either; none is in two classes. -/
def Pro (p : List Int) (N : List (List Rat)) : Prop := ∀ d : Nat, d < N.length → ∀ x ∈ cls p N (d : Int), ∀ y ∈ cls p N ((d + 1 : Nat) : Int), sF p x ≤ sF p y
def Str (p : List Int) (N : List (List Rat)) : Prop := ∀ d : Nat, d < N.length → ∀ x ∈ cls p N (d : Int), ∀ y ∈ cls p N ((d + 1 : Nat) : Int), sF p x < sF p y
def Cst (p : List Int) (N : List (List Rat)) : Prop := ∀ d u : Nat, d < u → u ≤ N.length → ∀ x ∈ cls p N (d : Int), x ∉ cls p N (u : Int)
theorem Wc.str_up (hs : Str p N) : ∀ m d : Nat, d + m + 1 ≤ N.length → ∀ x ∈ cls p N (d : Int), ∀ y ∈ cls p N ((d + m + 1 : Nat) : Int), sF p x < sF p y
  | 0, d, hd, x, hx, y, hy => hs d (by omega) x hx y hy
  | m + 1, d, hd, x, hx, y, hy => by
    have hz : iv p N 0 ((d + m + 1 : Nat) : Int) ∈ cls p N ((d + m + 1 : Nat) : Int) := h.cls_mem.2 ⟨0, rfl⟩
    have h1 := Wc.str_up hs m d (by omega) x hx _ hz
    have h2 := hs (d + m + 1) (by omega) _ hz y hy
    grind
theorem Wc.str_iff : Str p N ↔ Cst p N ∧ Pro p N := by
  constructor
  · intro hs
    refine ⟨fun d u hdu hu x hx hy => ?_, fun d hd x hx y hy => Rat.le_of_lt (hs d hd x hx y hy)⟩
    obtain ⟨m, rfl⟩ : ∃ m, u = d + m + 1 := ⟨u - d - 1, by omega⟩
    have := h.str_up hs m d hu x hx x hy
    grind
  · rintro ⟨hc, hp⟩ d hd x hx y hy
    have h1 := hp d hd x hx y hy
    have h2 : sF p x ≠ sF p y := fun e => by
      obtain ⟨i, rfl⟩ := h.cls_mem.1 hx
      obtain ⟨j, rfl⟩ := h.cls_mem.1 hy
      have := h.iv_inj e
      exact hc d (d + 1) (by omega) (by omega) _ hx (by rw [this]; exact hy)
    grind
/-- Equal steps. -/
theorem Wc.even {s : List Rat} (h1 : cls p N 1 = [s]) : Str p N := by
  have hst : ∀ i, iv p N i 1 = s := fun i => by
    have := (h.cls_mem (d := 1)).2 ⟨i, rfl⟩
    rw [h1] at this
    simpa using this
  have hall : ∀ (d : Int) (n : Nat), sF p (iv p N (n : Int) d) = sF p (iv p N 0 d) := by
    intro d n
    induction n with
    | zero => rfl
    | succ n ih =>
      have hn := congrArg (sF p) (h.iv_next (n : Int) d)
      rw [hst, hst, sF_sub _ _ _ (by rw [h.ivlen, h.ivlen]), sF_sub _ _ _ rfl, ih] at hn
      rw [show ((n + 1 : Nat) : Int) = (n : Int) + 1 by omega]
      grind
  intro d hd x hx y hy
  unfold cls at hx hy
  obtain ⟨i, _, rfl⟩ := clsN_mem.1 hx
  obtain ⟨j, _, rfl⟩ := clsN_mem.1 hy
  rw [hall, hall]
  exact h.iv_lt (by omega)
end
theorem pro_md {p : List Int} {N : List (List Rat)} (h : Wc p N) (m : Int) : (Pro p (md p N m) ↔ Pro p N) ∧ (Str p (md p N m) ↔ Str p N) ∧ (Cst p (md p N m) ↔ Cst p N) := by
  unfold Pro Str Cst
  simp only [md_len, h.cls_md]
  exact ⟨trivial, trivial, trivial⟩
end Go.Proofs.YtaakmdjicocjpaaGreatDoor

namespace Go.Proofs.YtaakmdjicocjpaaGreatDoor
open Go.RowKit Go.Lib Go.Shelf
theorem insV_c {α : Type} (enc : α → Value) (key : α → Rat) (g : Nat) (u : Value) (B blk cap : Nat) (d0 d : List α) (W0 w : World) (hR : InR 41 W0 B blk cap enc d0 w d) (hl : d0.length ≤ 1000) (h1 : OneCell enc)
    (eg : ∀ args w, (callFunc g args).run Tryz.prog w = .ok (.enter g args) w)
    (hcmp : ∀ W, W0.grownBy W (some blk) → ∀ x ∈ d0, ∀ y ∈ d0, Calls Tryz.prog g #[u, enc x, enc y] W fun e w' => (∃ z : Int, e = .returned (.int .i64 z) ∧ (z < 0 ↔ key x < key y)) ∧ Ext W w') :
    Calls Tryz.prog 184 #[.slice (some ⟨blk, 0, none⟩) d0.length cap, .int .i64 0, .int .i64 d0.length, .func (.func g) #[u] #[]] w fun e w' => e = .returned (.tuple #[]) ∧ ∃ d', InR 41 W0 B blk cap enc d0 w' d' ∧ d'.Pairwise fun x y => key x ≤ key y := by
  have mixed : Tryz.prog.follows .mixedOrders = true := by kernel_rfl
  have hcl0 := h1.cells
  simp only [Value.cells] at hcl0
  have hst := h1.store Tryz.prog
  generalize hn : d0.length = n at *
  have HR := Lib.hid hR; have Hcmp := Lib.hid hcmp; have Hn := Lib.hid hn
  clear hR hcmp hn
  go_enter Tryz.func184, Tryz.ntmps184
  go_wp2_with fail
  go_loopw [8] (fun vi wr => ∃ (i : Nat) (dk : List α), vi = .int .i64 i ∧ 1 ≤ i ∧ (i ≤ n ∨ i = 1) ∧ Hid (STo key dk i) ∧ Hid (InR 41 W0 B blk cap enc d0 wr dk)) (fun vi _ => n + 1 - (intOf vi).toNat)
  case atStart => exact ⟨1, d, rfl, Nat.le_refl _, .inr rfl, Lib.hid (sTo_one d), HR⟩
  case round =>
    clear HR
    obtain ⟨i, dk, rfl, hi1, hin, HS, HR⟩ := hrel
    by_cases hlt : i < n
    · have hltz : (i : Int) < (n : Int) := by omega
      go_wp2_with fail
      obtain ⟨wa, hwa⟩ : ∃ wa, wa = wr := ⟨_, rfl⟩
      subst hwa
      go_loopw [9] (fun vj wr => ∃ (j : Nat) (dj : List α), vj = .int .i64 j ∧ j ≤ i ∧ Hid (SAt key dj i j) ∧ Hid (InR 41 W0 B blk cap enc d0 wr dj)) (fun vj _ => (intOf vj).toNat)
      case atStart => exact ⟨i, dk, rfl, Nat.le_refl _, Lib.hid (s_start HS.out), HR⟩
      case round =>
        clear HR
        obtain ⟨j, dj, rfl, hji, HA, HR⟩ := hrel
        by_cases hja : 0 < j
        · obtain ⟨jp, hjp⟩ : ∃ q, q + 1 = j := ⟨j - 1, by omega⟩
          have hjl : dj.length = n := HR.out.len.trans Hn.out
          obtain ⟨x, hx⟩ : ∃ x, dj[jp + 1]? = some x := ⟨_, List.getElem?_eq_getElem (by omega)⟩
          obtain ⟨y, hy⟩ : ∃ y, dj[jp]? = some y := ⟨_, List.getElem?_eq_getElem (by omega)⟩
          obtain ⟨iN, hiN⟩ : ∃ q, q = j := ⟨_, rfl⟩
          obtain ⟨jN, hjN⟩ : ∃ q, q = jp := ⟨_, rfl⟩
          have c1 := HR.out.cell hx
          have c2 := HR.out.cell hy
          rw [hjp, ← hiN] at c1
          rw [← hjN] at c2
          have hcm := fun W (hE : Ext wr W) => Hcmp.out W (only_ext HR.out.only hE) x (HR.out.mem hx) y (HR.out.mem hy)
          have hsw := fun W (hE : Ext wr W) => (HR.out.ext hE).swap hx hy
          have hcf := fun W (hE : Ext wr W) => (⟨(HR.out.ext hE).cell hx, (HR.out.ext hE).cell hy, (HR.out.ext hE).frozen (jp + 1), (HR.out.ext hE).frozen jp⟩ : _ ∧ _ ∧ _ ∧ _)
          have hex := fun W (hE : Ext wr W) => HR.out.ext hE
          have hij : jN < iN := by omega
          rw [hjp, ← hiN, ← hjN] at hcf
          have hsw2 := fun W (hE : Ext wr W) => (show InR 41 W0 B blk cap enc d0 ((W.setCell ⟨blk, iN, none⟩ (enc y)).setCell ⟨blk, jN, none⟩ (enc x)) ((dj.set (jp + 1) y).set jp x) by rw [hiN, hjN, ← hjp]; exact hsw W hE)
          have zjp : (j : Int) = (jp : Int) + 1 := by omega
          have hjad : decide ((jp : Int) + 1 > (0 : Int)) = true := decide_eq_true (by omega)
          have hjaz : (0 : Int) < (jp : Int) + 1 := by omega
          have ea : ((jp : Int) + 1).toNat = iN := by omega
          have pa : (0 : Int) ≤ (jp : Int) + 1 := by omega
          have ba : (jp : Int) + 1 < (n : Int) := by omega
          have ra : IntKind.i64.wrap ((jp : Int) + 1) = (jp : Int) + 1 := by rw [IntKind.wrap_i64]; omega
          have ec : ((jp : Int)).toNat = jN := by omega
          have pc : (0 : Int) ≤ (jp : Int) := by omega
          have bc : (jp : Int) < (n : Int) := by omega
          have rc : IntKind.i64.wrap ((jp : Int)) = (jp : Int) := by rw [IntKind.wrap_i64]; omega
          have Hx := Lib.hid hx; have Hy := Lib.hid hy; have Hcm := Lib.hid hcm; have Hsw := Lib.hid hsw2; have Hcf := Lib.hid hcf; have Hex := Lib.hid hex; have HiN := Lib.hid hiN; have HjN := Lib.hid hjN
          clear hx hy hcm hsw hsw2 hcf hex hjl hiN hjN HR
          by_cases hxy : key x < key y
          · have hxy2 : key x ≤ key y := Rat.le_of_lt hxy
            have Hxy := Lib.hid hxy; have Hxy2 := Lib.hid hxy2; clear hxy hxy2
            go_wp2_with fail
            go_region_held3 (fun w' => Ext wr w' ∧ w'.cell? ⟨blk, iN, none⟩ = some (enc x) ∧ w'.cell? ⟨blk, jN, none⟩ = some (enc y))
              (first | (with_reducible assumption) | exact ⟨(Ext.refl wr).drew, c1, c2⟩)
              (first | (go_at_fn g; refine (Hcm.out _ (And.left (by assumption))).mono ?_; rintro e9 VA ⟨⟨z, rfl, hz⟩, hxa⟩; have hEA := ((Ext.refl wr).drew).trans hxa; have hS2 : Ext wr VA ∧ VA.cell? ⟨blk, iN, none⟩ = some (enc x) ∧ VA.cell? ⟨blk, jN, none⟩ = some (enc y) := ⟨hEA, hEA.cell c1, hEA.cell c2⟩; have hz1 : z < 0 := hz.2 Hxy.out; have hz2 : decide (z < 0) = true := decide_eq_true hz1; have HEA := Lib.hid hEA; clear hxa hEA hz))
            all_goals
              clear hS2 c1 c2
              obtain ⟨k1, k2, k3, k4⟩ := Hcf.out VA HEA.out
              have S3 := Lib.hid (Hsw.out VA HEA.out)
              have c3 : ∃ u, (VA.setCell ⟨blk, iN, none⟩ (enc y)).cell? ⟨blk, jN, none⟩ = some u := by
                rw [World.cell?_setCell_other _ _ _ _ (by intro e'; simp only [Addr.mk.injEq] at e'; omega)]
                exact ⟨_, k2⟩
              obtain ⟨u3, c3⟩ := c3
              go_wp2_with fail
              go_big_region_o
              have S4 := Lib.hid (S3.out.ext ((Ext.refl _).drew))
              have HA2 := Lib.hid (s_swap (show SAt key dj i (jp + 1) by rw [hjp]; exact HA.out) Hx.out Hy.out Hxy2.out)
              clear c3 k1 k2 k3 k4 S3
              generalize ((VA.setCell ⟨blk, iN, none⟩ (enc y)).setCell ⟨blk, jN, none⟩ (enc x)).drew = w3 at S4 ⊢
              clear ea ec
              go_wp2_with fail
              go_roundw
              case rel => exact ⟨jp, (dj.set (jp + 1) y).set jp x, by first | rfl | go_num | (congr 1; omega), by omega, HA2, S4⟩
              case measure => simp [intOf]; omega
          · have Hxy := Lib.hid (Rat.not_lt.1 hxy); have hxy2 := Lib.hid hxy; clear hxy
            go_wp2_with fail
            go_region_held3 (fun w' => Ext wr w' ∧ w'.cell? ⟨blk, iN, none⟩ = some (enc x) ∧ w'.cell? ⟨blk, jN, none⟩ = some (enc y))
              (first | (with_reducible assumption) | exact ⟨(Ext.refl wr).drew, c1, c2⟩)
              (first | (go_at_fn g; refine (Hcm.out _ (And.left (by assumption))).mono ?_; rintro e9 VA ⟨⟨z, rfl, hz⟩, hxa⟩; have hEA := ((Ext.refl wr).drew).trans hxa; have hS2 : Ext wr VA ∧ VA.cell? ⟨blk, iN, none⟩ = some (enc x) ∧ VA.cell? ⟨blk, jN, none⟩ = some (enc y) := ⟨hEA, hEA.cell c1, hEA.cell c2⟩; have hz1 : ¬ z < 0 := fun h => hxy2.out (hz.1 h); have hz2 : decide (z < 0) = false := decide_eq_false hz1; have HEA := Lib.hid hEA; clear hxa hEA hz))
            all_goals
              clear hS2 c1 c2
              have S4 := Lib.hid (Hex.out VA HEA.out)
              have HS2 := Lib.hid (s_end (show SAt key dj i (jp + 1) by rw [hjp]; exact HA.out) Hx.out Hy.out Hxy.out)
              clear ea ec
              go_wp2_with fail
              go_roundw
              case rel => exact ⟨i + 1, dj, by go_num, by omega, .inl (by omega), HS2, S4⟩
              case measure => simp [intOf]; omega
        · obtain rfl : j = 0 := by omega
          have hjaz : decide (((0 : Nat) : Int) > (0 : Int)) = false := by decide
          have hjaz' : ¬ ((0 : Nat) : Int) > (0 : Int) := by decide
          have HS2 := Lib.hid (s_end0 HA.out)
          go_wp2_with fail
          go_big_region_o
          have S4 := Lib.hid (HR.out.ext ((Ext.refl _).drew))
          clear HR
          generalize wr.drew = w3 at S4 ⊢
          go_wp2_with fail
          go_roundw
          case rel => exact ⟨i + 1, dj, by go_num, by omega, .inl (by omega), HS2, S4⟩
          case measure => simp [intOf]; omega
    · have hkk : ¬ (i : Int) < (n : Int) := by omega
      go_wp2
      go_end0
      refine ⟨rfl, dk, HR.out, ?_⟩
      have hS : STo key dk dk.length := by
        rw [HR.out.len, Hn.out]
        intro a b x y h1 h2
        exact HS.out a b x y h1 (by omega)
      exact s_pairwise hS
theorem sortV_c {α : Type} (enc : α → Value) (key : α → Rat) (g : Nat) (u : Value) (B blk cap : Nat) (d : List α) (w : World) (hR : w.ownsRow B 41 1 (.slice (some ⟨blk, 0, none⟩) d.length cap) d.length (d.map enc)) (hl : d.length ≤ 12) (h1 : OneCell enc)
    (eg : ∀ args w, (callFunc g args).run Tryz.prog w = .ok (.enter g args) w)
    (hcmp : ∀ W, w.grownBy W (some blk) → ∀ x ∈ d, ∀ y ∈ d, Calls Tryz.prog g #[u, enc x, enc y] W fun e w' => (∃ z : Int, e = .returned (.int .i64 z) ∧ (z < 0 ↔ key x < key y)) ∧ Ext W w') :
    Calls Tryz.prog 108 #[.slice (some ⟨blk, 0, none⟩) d.length cap, .func (.func g) #[u] #[]] w fun e w' => e = .returned (.tuple #[]) ∧ ∃ d', InR 41 w B blk cap enc d w' d' ∧ d'.Pairwise fun x y => key x ≤ key y := by
  have hi := fun W (hE : Ext w W) => insV_c enc key g u B blk cap d d w W ⟨List.Perm.refl _, hE.own hR, only_ext (only_refl _ _) hE⟩ (by omega) h1 eg hcmp
  have h2 : ∀ W (lim : Int), Ext w W → Calls Tryz.prog 142 #[.slice (some ⟨blk, 0, none⟩) d.length cap, .int .i64 0, .int .i64 d.length, .int .i64 lim, .func (.func g) #[u] #[]] W fun e w' => e = .returned (.tuple #[]) ∧ ∃ d', InR 41 w B blk cap enc d w' d' ∧ d'.Pairwise fun x y => key x ≤ key y := by
    intro W lim hE
    have Hi := Lib.hid (hi W hE)
    generalize hn : d.length = n at *
    clear hi hR hcmp hn hE
    have t1 : (n : Int) ≤ 12 := by omega
    go_enter Tryz.func142, Tryz.ntmps142
    go_wp2_with fail
    refine wp_loop_rounds 1 ?_
    rw [rounds_succ]
    go_wp2_with fail
    refine Hi.out.mono ?_
    rintro e w1 ⟨rfl, hd⟩
    have Hd := Lib.hid hd
    clear hd
    go_wp2
    (try simp only [Exit.inBlock, Exit.then])
    refine bodyPost_ret (results_none rfl _ _ _) rfl ?_
    exact ⟨rfl, Hd.out⟩
  generalize hn : d.length = n at *
  have H2 := Lib.hid h2
  clear hi hR hcmp hn h2
  go_enter Tryz.func108, Tryz.ntmps108
  have hln := fun W => len_c n (by omega) W
  have Hln := Lib.hid hln; clear hln
  have hw : IntKind.u64.wrap (n : Int) = (n : Int) := by rw [IntKind.wrap_u64]; omega
  go_wp2_with fail
  refine (Hln.out _).mono ?_
  rintro e w1 ⟨rfl, rfl⟩
  go_wp2_with fail
  refine (H2.out w _ (Ext.refl w)).mono ?_
  rintro e w1 ⟨rfl, hd⟩
  have Hd := Lib.hid hd
  clear hd
  go_wp2
  go_end0
  exact ⟨rfl, Hd.out⟩
end Go.Proofs.YtaakmdjicocjpaaGreatDoor

namespace Go.Proofs.YtaakmdjicocjpaaGreatDoor
open Go.RowKit Go.Lib
/-- A block of two cells. -/
def BoxT (T : TypeId) (w : World) (b : Nat) (u v : Value) : Prop := w.heap[b]? = some (.cells #[u, v] T (0, 0))
section
variable {T : TypeId} {w w' : World} {b c : Nat} {u v : Value}
theorem BoxT.new (T : TypeId) (w : World) (u v : Value) : BoxT T (w.alloc (.cells #[u, v] T)) w.heap.size u v := World.alloc_heap_new w _
theorem BoxT.ext (hx : Ext w w') (h : BoxT T w b u v) : BoxT T w' b u v := hx.heap h
theorem BoxT.c0 (h : BoxT T w b u v) : w.cell? ⟨b, 0, none⟩ = some u := by unfold World.cell?; dsimp only; rw [h]; rfl
theorem BoxT.c1 (h : BoxT T w b u v) : w.cell? ⟨b, 1, none⟩ = some v := by unfold World.cell?; dsimp only; rw [h]; rfl
theorem BoxT.fz (h : BoxT T w b u v) (k : Nat) : w.frozen? ⟨b, k, none⟩ = false := frozen_of_row w b k #[u, v] _ h
theorem BoxT.lt (h : BoxT T w b u v) : b < w.heap.size := (Array.getElem?_eq_some_iff.1 h).1
theorem BoxT.put (h : BoxT T w c u v) (x y : Value) : BoxT T ((w.setCell ⟨c, 0, none⟩ x).setCell ⟨c, 1, none⟩ y) c x y :=
  heap_setCell_same _ c 1 _ _ y (heap_setCell_same w c 0 _ _ x h)
theorem BoxT.put0 (h : BoxT T w c u v) (x : Value) : BoxT T (w.setCell ⟨c, 0, none⟩ x) c x v := heap_setCell_same w c 0 _ _ x h
theorem BoxT.put1 (h : BoxT T w c u v) (x : Value) : BoxT T (w.setCell ⟨c, 1, none⟩ x) c u x := heap_setCell_same w c 1 _ _ x h
theorem BoxT.past1 (h : BoxT T w b u v) (k : Nat) (hne : b ≠ c) (x : Value) : BoxT T (w.setCell ⟨c, k, none⟩ x) b u v := (heap_setCell_other w ⟨c, k, none⟩ b x hne).trans h
theorem BoxT.past (h : BoxT T w b u v) (hne : b ≠ c) (x y : Value) : BoxT T ((w.setCell ⟨c, 0, none⟩ x).setCell ⟨c, 1, none⟩ y) b u v := (h.past1 0 hne x).past1 1 hne y
end
/-- The two cells of a result. -/
def ResT (T : TypeId) (w : World) (c : Nat) : Prop := ∃ u v, BoxT T w c u v
section
variable {T : TypeId} {w w' w2 : World} {b c : Nat} {u v : Value}
theorem ResT.ext (hx : Ext w w') (h : ResT T w c) : ResT T w' c := by
  obtain ⟨u, v, h⟩ := h; exact ⟨u, v, h.ext hx⟩
theorem ResT.c0 (h : ResT T w c) : w.cell? ⟨c, 0, none⟩ = some (valAt w c 0) := by
  obtain ⟨u, v, h⟩ := h; unfold valAt; rw [h.c0]; rfl
theorem ResT.c1 (h : ResT T w c) : w.cell? ⟨c, 1, none⟩ = some (valAt w c 1) := by
  obtain ⟨u, v, h⟩ := h; unfold valAt; rw [h.c1]; rfl
theorem ResT.fz (h : ResT T w c) (k : Nat) : w.frozen? ⟨c, k, none⟩ = false := by
  obtain ⟨u, v, h⟩ := h; exact h.fz k
/-- The world has grown, and the result's cells are there. -/
structure K0 (T : TypeId) (w w' : World) (c : Nat) : Prop where
  x : Ext w w'
  res : ResT T w' c
theorem K0.ext (h : K0 T w w' c) (hx : Ext w' w2) : K0 T w w2 c := ⟨h.x.trans hx, h.res.ext hx⟩
theorem K0.fin (h : K0 T w w' c) (hc : w.heap.size ≤ c) (x y : Value) : BoxT T ((w'.setCell ⟨c, 0, none⟩ x).setCell ⟨c, 1, none⟩ y) c x y ∧ Ext w ((w'.setCell ⟨c, 0, none⟩ x).setCell ⟨c, 1, none⟩ y) := by
  obtain ⟨u', v', h'⟩ := h.res
  exact ⟨h'.put x y, (h.x.setCell hc _).setCell hc _⟩
theorem K0.set (h : K0 T w w' c) {b : Nat} (hb : w.heap.size ≤ b) (hne : c ≠ b) (k : Nat) (x : Value) : K0 T w (w'.setCell ⟨b, k, none⟩ x) c := by
  obtain ⟨u', v', h'⟩ := h.res
  exact ⟨h.x.setCell hb _, u', v', h'.past1 k hne x⟩
end
/-- Two boxes, and the cells of a result. -/
structure K2 (T1 T2 TR : TypeId) (w w' : World) (b1 : Nat) (u1 v1 : Value) (b2 : Nat) (u2 v2 : Value) (c : Nat) : Prop where
  x : Ext w w'
  a : BoxT T1 w' b1 u1 v1
  b : BoxT T2 w' b2 u2 v2
  res : ResT TR w' c
section
variable {T1 T2 TR : TypeId} {w w' w2 : World} {b1 b2 c : Nat} {u1 v1 u2 v2 : Value}
theorem K2.ext (h : K2 T1 T2 TR w w' b1 u1 v1 b2 u2 v2 c) (hx : Ext w' w2) : K2 T1 T2 TR w w2 b1 u1 v1 b2 u2 v2 c := ⟨h.x.trans hx, h.a.ext hx, h.b.ext hx, h.res.ext hx⟩
theorem K2.put (h : K2 T1 T2 TR w w' b1 u1 v1 b2 u2 v2 c) (hc : w.heap.size ≤ c) (h1 : b1 ≠ c) (h2 : b2 ≠ c) (x y : Value) : K2 T1 T2 TR w ((w'.setCell ⟨c, 0, none⟩ x).setCell ⟨c, 1, none⟩ y) b1 u1 v1 b2 u2 v2 c := by
  obtain ⟨u, v, hr⟩ := h.res
  exact ⟨(h.x.setCell hc _).setCell hc _, h.a.past h1 x y, h.b.past h2 x y, x, y, hr.put x y⟩
theorem K2.fin (h : K2 T1 T2 TR w w' b1 u1 v1 b2 u2 v2 c) (hc : w.heap.size ≤ c) (x y : Value) : BoxT TR ((w'.setCell ⟨c, 0, none⟩ x).setCell ⟨c, 1, none⟩ y) c x y ∧ Ext w ((w'.setCell ⟨c, 0, none⟩ x).setCell ⟨c, 1, none⟩ y) := by
  obtain ⟨u', v', h'⟩ := h.res
  exact ⟨h'.put x y, (h.x.setCell hc _).setCell hc _⟩
theorem K2.all (h : K2 T1 T2 TR w w' b1 u1 v1 b2 u2 v2 c) : K2 T1 T2 TR w w' b1 u1 v1 b2 u2 v2 c ∧ w'.cell? ⟨b1, 0, none⟩ = some u1 ∧ w'.cell? ⟨b1, 1, none⟩ = some v1 ∧ w'.cell? ⟨b2, 0, none⟩ = some u2 ∧ w'.cell? ⟨b2, 1, none⟩ = some v2 ∧ w'.cell? ⟨c, 0, none⟩ = some (valAt w' c 0) ∧ w'.cell? ⟨c, 1, none⟩ = some (valAt w' c 1) ∧ w'.frozen? ⟨c, 0, none⟩ = false ∧ w'.frozen? ⟨c, 1, none⟩ = false :=
  ⟨h, h.a.c0, h.a.c1, h.b.c0, h.b.c1, h.res.c0, h.res.c1, h.res.fz 0, h.res.fz 1⟩
end
theorem k2_new (T1 T2 TR : TypeId) (w : World) (u1 v1 u2 v2 r1 r2 : Value) : K2 T1 T2 TR w (((w.alloc (.cells #[u1, v1] T1)).alloc (.cells #[u2, v2] T2)).alloc (.cells #[r1, r2] TR)) w.heap.size u1 v1 (w.heap.size + 1) u2 v2 (w.heap.size + 1 + 1) ∧ BoxT TR (((w.alloc (.cells #[u1, v1] T1)).alloc (.cells #[u2, v2] T2)).alloc (.cells #[r1, r2] TR)) (w.heap.size + 1 + 1) r1 r2 := by
  have b1 := BoxT.new T1 w u1 v1
  have b2 := BoxT.new T2 (w.alloc (.cells #[u1, v1] T1)) u2 v2
  have b3 := BoxT.new TR ((w.alloc (.cells #[u1, v1] T1)).alloc (.cells #[u2, v2] T2)) r1 r2
  rw [World.size_alloc] at b2
  rw [World.size_alloc, World.size_alloc] at b3
  exact ⟨⟨(((Ext.refl w).alloc _).alloc _).alloc _, (b1.ext ((Ext.refl _).alloc _)).ext ((Ext.refl _).alloc _), b2.ext ((Ext.refl _).alloc _), r1, r2, b3⟩, b3⟩
end Go.Proofs.YtaakmdjicocjpaaGreatDoor

namespace Go.Proofs.YtaakmdjicocjpaaGreatDoor
open Go.RowKit Go.Lib Go.Shelf
attribute [local go_sem] Oper.semAt_some
theorem sgQ_neg (r : Rat) : sgQ r < 0 ↔ r < 0 := by
  unfold sgQ
  constructor
  · intro h
    by_cases g : r < 0
    · exact g
    · rw [if_neg g] at h
      split at h <;> omega
  · intro h; rw [if_pos h]; decide
theorem Lw.cmpb {p : List Int} {c : Int} {l N : List (List Rat)} (h : Lw p c l) (hN : ∀ x ∈ N, x = zer p.length ∨ x = ov (p.length - 1) ∨ ∃ z ∈ l, x = rst p z) : Cmpb p N := by
  obtain ⟨n, hn⟩ := h.play
  have hlen : ∀ x ∈ N, x.length = p.length := fun x hx => (hn x x (hN x hx) (hN x hx)).1
  have hb : ∀ x ∈ N, 0 ≤ sF p x ∧ sF p x ≤ 67108864 := fun x hx => by
    rcases hN x hx with e | e | ⟨z, hz, e⟩
    · rw [e, sF_zer]; exact ⟨Rat.le_refl, by decide⟩
    · rw [e, sov h.pr]; exact ⟨by decide, Rat.le_refl⟩
    · rw [e]; have := h.range hz; exact ⟨this.1, Rat.le_of_lt this.2⟩
  have hpe : primesErr p = 0 ∧ p.length ≤ 100 := by rcases h.pr with ⟨e, _⟩ | ⟨e, _⟩ <;> rw [e] <;> decide
  have hpx : ∀ x : List Rat, x.length = p.length → Pr p x.length := fun x e => by rw [e]; exact h.pr
  have h1 : ((1 * 67108864 : Int) : Rat) = 67108864 := rfl
  refine ⟨hpe.1, hpe.2, hlen, fun x hx => ?_, fun x hx y hy => ?_, fun x hx y hy => ?_⟩
  · have hz := (hn x (zer p.length) (hN x hx) (.inl rfl)).2
    rw [← hlen x hx, subZ_zer] at hz
    have b := hb x hx
    exact (nic_quick (c := 1) (hpx x (hlen x hx)) hz (by omega) (by omega) (by rw [h1]; grind) (by rw [h1]; exact b.2)).1
  · have b1 := hb x hx
    have b2 := hb y hy
    have hl := hlen x hx
    have hl2 := hlen y hy
    have hs := sF_sub p x y (hl.trans hl2.symm)
    exact nic_quick (c := 1) (hpx _ ((subZ_len (hl.trans hl2.symm)).trans hl)) (hn x y (hN x hx) (hN y hy)).2 (by omega) (by omega) (by rw [h1]; grind) (by rw [h1]; grind)
  · have hl := hlen x hx
    have hl2 := hlen y hy
    rw [nice_sgn (hpx _ ((subZ_len (hl.trans hl2.symm)).trans hl)) (hn x y (hN x hx) (hN y hy)).2.nice, sgQ_neg, sF_sub p x y (hl.trans hl2.symm)]
    constructor <;> intro g <;> grind
/-- A scale that a call made. -/
def ScO (w : World) (B : Nat) (v : Value) (p : List Int) (rs : List Qw) : Prop := ∃ vp vn, v = .agg #[vp, vn] ∧ OwnI w B vp p ∧ QwM w B B vn rs
theorem ScO.ext {w w' : World} {B : Nat} {v : Value} {p : List Int} {rs : List Qw} (hx : Ext w w') (h : ScO w B v p rs) : ScO w' B v p rs := by
  obtain ⟨vp, vn, e, a, b⟩ := h
  exact ⟨vp, vn, e, hx.own a, hx.qwM b⟩
theorem ScO.mono {w : World} {B B' : Nat} {v : Value} {p : List Int} {rs : List Qw} (h : ScO w B v p rs) (hB : B' ≤ B) : ScO w B' v p rs := by
  obtain ⟨vp, vn, e, a, b⟩ := h
  exact ⟨vp, vn, e, own_mono a hB, b.mono hB hB⟩
theorem QwM.set {W : World} {b B : Nat} {v : Value} {rs : List Qw} (h : QwM W b B v rs) {c : Nat} {cs : Array Value} (hc : W.heap[c]? = some (.cells cs 32 (0, 0))) (k : Nat) (u : Value) : QwM (W.setCell ⟨c, k, none⟩ u) b B v rs :=
  ⟨own_set_apart hc h.1 (by decide) k u, fun r hr => own_set_apart hc (h.2 r hr) (by decide) k u⟩
theorem QwM.more2 {w0 W V : World} {b B : Nat} {o : Obj} {v v7 : Value} {rs : List Qw} {r : Qw} (hE : Ext w0 W) (hB : w0.heap.size ≤ B) (h : QwM W b B v rs) (hr : OwnQ W b r.u r.x)
    (hown : V.ownsRow B 41 1 v7 (rs.length + 1) (qwc rs ++ [r.u])) (hgrow : (W.alloc o).grownBy V v.ownBlock) : QwM V b B v7 (rs ++ [r]) ∧ Ext w0 V := by
  have hal := h.1.alloc o
  have hkeep : ∀ s : Qw, OwnQ W b s.u s.x → OwnQ V b s.u s.x := fun s hs => World.ownsRow.kept (World.ownsRow.alloc hs o) hgrow (own_ne (World.ownsRow.alloc hs o) hal (by decide))
  refine ⟨⟨?_, fun s hs => ?_⟩, (hE.alloc o).grown hgrow fun k hk => Nat.le_trans hB (World.ownsRow.lt hal k hk).1⟩
  · rw [List.length_append, List.length_singleton, qwc_snoc]; exact hown
  · rcases List.mem_append.1 hs with g | g
    · exact hkeep s (h.2 s g)
    · rw [List.mem_singleton] at g
      subst g
      exact hkeep s hr
/-- The notes of a scale under way: its box, and the list in it. -/
def NtR (b : Nat) (W6 : World) (bs : Nat) (vp : Value) (xs : List (List Rat)) (wr : World) : Prop := ∃ (vn : Value) (nts : List Qw), BoxT 32 wr bs vp vn ∧ QwM wr b W6.heap.size vn nts ∧ nts.map Qw.x = xs ∧ Ext W6 wr
theorem NtR.more {b : Nat} {W6 W V : World} {bs : Nat} {vp vn v7 u : Value} {x : List Rat} {nts : List Qw} {xs : List (List Rat)} {o : Obj} (hbs : W6.heap.size ≤ bs) (hb : BoxT 32 W bs vp vn) (hq : QwM W b W6.heap.size vn nts) (hm : nts.map Qw.x = xs) (hE : Ext W6 W) (ho : OwnQ W b u x)
    (hown : V.ownsRow W6.heap.size 41 1 v7 (nts.length + 1) (qwc nts ++ [u])) (hgrow : (W.alloc o).grownBy V vn.ownBlock) : NtR b W6 bs vp (xs ++ [x]) (V.setCell ⟨bs, 1, none⟩ v7) := by
  have h1 := QwM.more2 (r := ⟨_, u, rd_one ho.rd⟩) hE (Nat.le_refl _) hq ho hown hgrow
  have hbV : BoxT 32 V bs vp vn := kept_box (((Ext.refl W).alloc o).heap hb) (World.ownsRow.alloc hq.1 o) (by decide) hgrow
  exact ⟨v7, _, hbV.put1 v7, h1.1.set hbV 1 v7, by rw [List.map_append, hm]; rfl, h1.2.setCell hbs v7⟩
theorem NtR.ext {b : Nat} {W6 wr w' : World} {bs : Nat} {vp : Value} {xs : List (List Rat)} (h : NtR b W6 bs vp xs wr) (hx : Ext wr w') : NtR b W6 bs vp xs w' := by
  obtain ⟨vn, nts, h1, h2, h3, h4⟩ := h
  exact ⟨vn, nts, h1.ext hx, hx.qwM h2, h3, h4.trans hx⟩
theorem s6 {w6 w' : World} {a : Addr} {u : Value} (h6 : w6.cell? a = some u) (h : Ext w6 w') : Ext w6 w' ∧ w'.cell? a = some u := ⟨h, h.cell h6⟩
/-- The rests so far. -/
def CoR (W : World) (p : List Int) (l : List (List Rat)) (k : Nat) (v : Value) (wr : World) : Prop := ∃ out : List Qw, QwM wr W.heap.size W.heap.size v out ∧ out.map Qw.x = colF p [] (l.take k) ∧ out.length ≤ k ∧ Ext W wr
theorem CoR.skip {W wr w' : World} {p : List Int} {l : List (List Rat)} {k : Nat} {v : Value} {x : List Rat} {out : List Qw} (hq : QwM wr W.heap.size W.heap.size v out) (hm : out.map Qw.x = colF p [] (l.take k)) (hl : out.length ≤ k) (hE : Ext W wr) (hx : Ext wr w') (hr : l[k]? = some x) (hs : rst p x = zer p.length ∨ rst p x ∈ out.map Qw.x) : CoR W p l (k + 1) v w' :=
  ⟨out, hx.qwM hq, by rw [colF_take hr, colS, if_pos (by rw [← hm]; exact hs)]; exact hm, by omega, hE.trans hx⟩
theorem CoR.more {W wr V : World} {p : List Int} {l : List (List Rat)} {k : Nat} {v v7 u : Value} {x : List Rat} {out : List Qw} {o : Obj} (hE : Ext W wr) (hq : QwM wr W.heap.size W.heap.size v out) (hm : out.map Qw.x = colF p [] (l.take k)) (hl : out.length ≤ k) (hr : l[k]? = some x) (hs : ¬ (rst p x = zer p.length ∨ rst p x ∈ out.map Qw.x)) (ho : OwnQ wr W.heap.size u (rst p x))
    (hown : V.ownsRow W.heap.size 41 1 v7 (out.length + 1) (qwc out ++ [u])) (hgrow : (wr.alloc o).grownBy V v.ownBlock) : CoR W p l (k + 1) v7 V := by
  have := QwM.more (r := ⟨_, u, rd_one ho.rd⟩) hE hq ho hown hgrow
  exact ⟨_, this.1, by rw [colF_take hr, colS, if_neg (by rw [← hm]; exact hs), List.map_append, hm]; rfl, by rw [List.length_append]; simp; omega, this.2⟩
end Go.Proofs.YtaakmdjicocjpaaGreatDoor

namespace Go.Proofs.YtaakmdjicocjpaaGreatDoor
open Go.RowKit Go.Lib
attribute [local go_sem] Oper.semAt_some
theorem scNote_c (v : Value) (p : List Int) (rs : List Qw) (n : Nat) (k : Int) (r : Qw) (w : World) (he : Env w) (hv : ScV w v p rs) (h : Right p rs) (hn : rs.length = n + 1) (hr : rs[n]? = some r) (hk0 : -1000000 ≤ k) (hk1 : k ≤ 1000000)
    (hq : Ft 400 ((k / ((n : Int) + 1) : Int) : Rat)) (hf1 : ∀ q ∈ mulZ r.x ((k / ((n : Int) + 1) : Int) : Rat), Ft 30 q) (hf2 : ∀ q ∈ noteQ rs n k, Ft 30 q) :
    Calls Tryz.prog 41 #[v, .int .i64 k] w fun e w' => ∃ g, e = .returned (.tuple #[.slice (some ⟨g, 0, none⟩) p.length p.length, .int .i64 0]) ∧ OwnQ w' w.heap.size (.slice (some ⟨g, 0, none⟩) p.length p.length) (noteQ rs n k) ∧ Ext w w' := by
  have h1 := fun W (hE : Ext w W) => scCheck_c v p rs W (he.ext hE) (hv.ext hE) h
  have h2 := fun W (hE : Ext w W) => note_c v p rs n k r W (he.ext hE) (hv.ext hE) h hn hr (by omega) (by omega) hq hf1 hf2
  obtain ⟨vp, vn, rfl, hp, hs, hm⟩ := hv
  obtain ⟨ap, cp, rfl, _, _, _⟩ := hp.parts
  obtain ⟨an, cn, rfl, _, _, _⟩ := hs.parts
  generalize (i64s p).length = n1 at *
  generalize (qwc rs).length = n2 at *
  have bx : (w.alloc (.cells #[.slice ap n1 cp, .slice an n2 cn] 32)).heap[w.heap.size]? = some (.cells #[.slice ap n1 cp, .slice an n2 cn] 32 (0, 0)) := World.alloc_heap_new w _
  have hE0 : Ext w (w.alloc (.cells #[.slice ap n1 cp, .slice an n2 cn] 32)) := (Ext.refl w).alloc _
  have hbox : ∀ W, Ext (w.alloc (.cells #[.slice ap n1 cp, .slice an n2 cn] 32)) W → W.cell? ⟨w.heap.size, 0, none⟩ = some (.slice ap n1 cp) ∧ W.cell? ⟨w.heap.size, 1, none⟩ = some (.slice an n2 cn) := fun W hE => by
    have hb := hE.heap bx
    unfold World.cell?
    dsimp only
    rw [hb]
    exact ⟨rfl, rfl⟩
  clear hp hs hm he h bx hq hf1 hf2 hn hr
  have H1 := Lib.hid h1; have H2 := Lib.hid h2; have HE0 := Lib.hid hE0; have Hbox := Lib.hid hbox; clear h1 h2 hE0 hbox
  go_enter Tryz.func41, Tryz.ntmps41
  go_wp2_with fail
  refine (H1.out _ HE0.out).mono ?_
  rintro e w1 ⟨rfl, hx1⟩
  obtain ⟨q0, q1⟩ := Hbox.out w1 hx1
  have Hx1 := Lib.hid (HE0.out.trans hx1); clear hx1
  go_wp2_with fail
  refine (H2.out w1 Hx1.out).mono ?_
  rintro e w2 ⟨g, rfl, ho, hx2⟩
  have Ho := Lib.hid (ho.mono Hx1.out.size)
  have Hx2 := Lib.hid (Hx1.out.trans hx2)
  clear ho hx2 q0 q1
  go_wp2
  go_ret2
  exact ⟨g, rfl, Ho.out, Hx2.out⟩
end Go.Proofs.YtaakmdjicocjpaaGreatDoor
