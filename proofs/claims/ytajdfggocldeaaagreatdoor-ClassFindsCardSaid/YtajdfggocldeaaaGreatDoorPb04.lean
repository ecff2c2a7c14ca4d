/- Walk: slices.insertionSortCmpFunc at sizes, with a compare that makes memory. Walk: size.fast at 2, 3 and 5. Walks: slices.SortStableFunc at ints and slices.SortFunc at sizes, at most twelve elements, with a compare that makes memory. -/
import Derived.Test.YtajdfggocldeaaaGreatDoorPb03
import Derived.Shelf.RegionOpenPlain
import Derived.Shelf.Abstract
import Derived.Shelf.SlicesE.Kit
import Derived.Deep.RegionHeld3
import Derived.Test.YtajdfggocldeaaaGreatDoorPb00
set_option maxRecDepth 100000
set_option maxHeartbeats 4000000
namespace Go.Proofs.YtajdfggocldeaaaGreatDoor
open Go.RowKit Go.Lib Go.Shelf
theorem insQ_c {α : Type} (enc : α → Value) (key : α → Rat) (g : Nat) (cb : Array Value) (B blk cap : Nat) (d0 d : List α) (W0 w : World) (hR : InR 28 W0 B blk cap enc d0 w d) (hl : d0.length ≤ 1000) (h1 : OneCell enc)
    (eg : ∀ args w, (callFunc g args).run Tryz.prog w = .ok (.enter g args) w)
    (hcmp : ∀ W, W0.grownBy W (some blk) → ∀ x ∈ d0, ∀ y ∈ d0, Calls Tryz.prog g (#[enc x, enc y] ++ cb) W fun e w' => (∃ z : Int, e = .returned (.int .i64 z) ∧ (z < 0 ↔ key x < key y)) ∧ Ext W w') :
    Calls Tryz.prog 93 #[.slice (some ⟨blk, 0, none⟩) d0.length cap, .int .i64 0, .int .i64 d0.length, .func (.func g) #[] cb] w fun e w' => e = .returned (.tuple #[]) ∧ ∃ d', InR 28 W0 B blk cap enc d0 w' d' ∧ d'.Pairwise fun x y => key x ≤ key y := by
  have mixed : Tryz.prog.follows .mixedOrders = true := by kernel_rfl
  have hcl0 := h1.cells
  simp only [Value.cells] at hcl0
  have hst := h1.store Tryz.prog
  generalize hn : d0.length = n at *
  have HR := Lib.hid hR; have Hcmp := Lib.hid hcmp; have Hn := Lib.hid hn
  clear hR hcmp hn
  go_enter Tryz.func93, Tryz.ntmps93
  go_wp2_with fail
  go_loopw [8] (fun vi wr => ∃ (i : Nat) (dk : List α), vi = .int .i64 i ∧ 1 ≤ i ∧ (i ≤ n ∨ i = 1) ∧ Hid (STo key dk i) ∧ Hid (InR 28 W0 B blk cap enc d0 wr dk)) (fun vi _ => n + 1 - (intOf vi).toNat)
  case atStart => exact ⟨1, d, rfl, Nat.le_refl _, .inr rfl, Lib.hid (sTo_one d), HR⟩
  case round =>
    clear HR
    obtain ⟨i, dk, rfl, hi1, hin, HS, HR⟩ := hrel
    by_cases hlt : i < n
    · have hltz : (i : Int) < (n : Int) := by omega
      go_wp2_with fail
      obtain ⟨wa, hwa⟩ : ∃ wa, wa = wr := ⟨_, rfl⟩
      subst hwa
      go_loopw [9] (fun vj wr => ∃ (j : Nat) (dj : List α), vj = .int .i64 j ∧ j ≤ i ∧ Hid (SAt key dj i j) ∧ Hid (InR 28 W0 B blk cap enc d0 wr dj)) (fun vj _ => (intOf vj).toNat)
      case atStart => exact ⟨i, dk, rfl, Nat.le_refl _, Lib.hid (s_start HS.out), HR⟩
      case round =>
        clear HR
        obtain ⟨j, dj, rfl, hji, HA, HR⟩ := hrel
        by_cases hja : 0 < j
        · obtain ⟨jp, hjp⟩ : ∃ q, q + 1 = j := ⟨j - 1, by omega⟩
          have hjl : dj.length = n := HR.out.len.trans Hn.out
          obtain ⟨x, hx⟩ : ∃ x, dj[jp + 1]? = some x := ⟨_, List.getElem?_eq_getElem (by omega)⟩
          obtain ⟨y, hy⟩ : ∃ y, dj[jp]? = some y := ⟨_, List.getElem?_eq_getElem (by omega)⟩
          obtain ⟨iN, hiN⟩ : ∃ q, q = j := ⟨_, rfl⟩
          obtain ⟨jN, hjN⟩ : ∃ q, q = jp := ⟨_, rfl⟩
          have c1 := HR.out.cell hx
          have c2 := HR.out.cell hy
          rw [hjp, ← hiN] at c1
          rw [← hjN] at c2
          have hcm := fun W (hE : Ext wr W) => Hcmp.out W (only_ext HR.out.only hE) x (HR.out.mem hx) y (HR.out.mem hy)
          have hsw := fun W (hE : Ext wr W) => (HR.out.ext hE).swap hx hy
          have hcf := fun W (hE : Ext wr W) => (⟨(HR.out.ext hE).cell hx, (HR.out.ext hE).cell hy, (HR.out.ext hE).frozen (jp + 1), (HR.out.ext hE).frozen jp⟩ : _ ∧ _ ∧ _ ∧ _)
          have hex := fun W (hE : Ext wr W) => HR.out.ext hE
          have hij : jN < iN := by omega
          rw [hjp, ← hiN, ← hjN] at hcf
          have hsw2 := fun W (hE : Ext wr W) => (show InR 28 W0 B blk cap enc d0 ((W.setCell ⟨blk, iN, none⟩ (enc y)).setCell ⟨blk, jN, none⟩ (enc x)) ((dj.set (jp + 1) y).set jp x) by rw [hiN, hjN, ← hjp]; exact hsw W hE)
          have zjp : (j : Int) = (jp : Int) + 1 := by omega
          have hjad : decide ((jp : Int) + 1 > (0 : Int)) = true := decide_eq_true (by omega)
          have hjaz : (0 : Int) < (jp : Int) + 1 := by omega
          have ea : ((jp : Int) + 1).toNat = iN := by omega
          have pa : (0 : Int) ≤ (jp : Int) + 1 := by omega
          have ba : (jp : Int) + 1 < (n : Int) := by omega
          have ra : IntKind.i64.wrap ((jp : Int) + 1) = (jp : Int) + 1 := by rw [IntKind.wrap_i64]; omega
          have ec : ((jp : Int)).toNat = jN := by omega
          have pc : (0 : Int) ≤ (jp : Int) := by omega
          have bc : (jp : Int) < (n : Int) := by omega
          have rc : IntKind.i64.wrap ((jp : Int)) = (jp : Int) := by rw [IntKind.wrap_i64]; omega
          have Hx := Lib.hid hx; have Hy := Lib.hid hy; have Hcm := Lib.hid hcm; have Hsw := Lib.hid hsw2; have Hcf := Lib.hid hcf; have Hex := Lib.hid hex; have HiN := Lib.hid hiN; have HjN := Lib.hid hjN
          clear hx hy hcm hsw hsw2 hcf hex hjl hiN hjN HR
          by_cases hxy : key x < key y
          · have hxy2 : key x ≤ key y := Rat.le_of_lt hxy
            have Hxy := Lib.hid hxy; have Hxy2 := Lib.hid hxy2; clear hxy hxy2
            go_wp2_with fail
            go_region_held3 (fun w' => Ext wr w' ∧ w'.cell? ⟨blk, iN, none⟩ = some (enc x) ∧ w'.cell? ⟨blk, jN, none⟩ = some (enc y))
              (first | (with_reducible assumption) | exact ⟨(Ext.refl wr).drew, c1, c2⟩)
              (first | (go_at_fn g; refine (Hcm.out _ (And.left (by assumption))).mono ?_; rintro e9 VA ⟨⟨z, rfl, hz⟩, hxa⟩; have hEA := ((Ext.refl wr).drew).trans hxa; have hS2 : Ext wr VA ∧ VA.cell? ⟨blk, iN, none⟩ = some (enc x) ∧ VA.cell? ⟨blk, jN, none⟩ = some (enc y) := ⟨hEA, hEA.cell c1, hEA.cell c2⟩; have hz1 : z < 0 := hz.2 Hxy.out; have hz2 : decide (z < 0) = true := decide_eq_true hz1; have HEA := Lib.hid hEA; clear hxa hEA hz))
            all_goals
              clear hS2 c1 c2
              obtain ⟨k1, k2, k3, k4⟩ := Hcf.out VA HEA.out
              have S3 := Lib.hid (Hsw.out VA HEA.out)
              have c3 : ∃ u, (VA.setCell ⟨blk, iN, none⟩ (enc y)).cell? ⟨blk, jN, none⟩ = some u := by
                rw [World.cell?_setCell_other _ _ _ _ (by intro e'; simp only [Addr.mk.injEq] at e'; omega)]
                exact ⟨_, k2⟩
              obtain ⟨u3, c3⟩ := c3
              go_wp2_with fail
              go_big_region_o
              have S4 := Lib.hid (S3.out.ext ((Ext.refl _).drew))
              have HA2 := Lib.hid (s_swap (show SAt key dj i (jp + 1) by rw [hjp]; exact HA.out) Hx.out Hy.out Hxy2.out)
              clear c3 k1 k2 k3 k4 S3
              generalize ((VA.setCell ⟨blk, iN, none⟩ (enc y)).setCell ⟨blk, jN, none⟩ (enc x)).drew = w3 at S4 ⊢
              clear ea ec
              go_wp2_with fail
              go_roundw
              case rel => exact ⟨jp, (dj.set (jp + 1) y).set jp x, by first | rfl | go_num | (congr 1; omega), by omega, HA2, S4⟩
              case measure => simp [intOf]; omega
          · have Hxy := Lib.hid (Rat.not_lt.1 hxy); have hxy2 := Lib.hid hxy; clear hxy
            go_wp2_with fail
            go_region_held3 (fun w' => Ext wr w' ∧ w'.cell? ⟨blk, iN, none⟩ = some (enc x) ∧ w'.cell? ⟨blk, jN, none⟩ = some (enc y))
              (first | (with_reducible assumption) | exact ⟨(Ext.refl wr).drew, c1, c2⟩)
              (first | (go_at_fn g; refine (Hcm.out _ (And.left (by assumption))).mono ?_; rintro e9 VA ⟨⟨z, rfl, hz⟩, hxa⟩; have hEA := ((Ext.refl wr).drew).trans hxa; have hS2 : Ext wr VA ∧ VA.cell? ⟨blk, iN, none⟩ = some (enc x) ∧ VA.cell? ⟨blk, jN, none⟩ = some (enc y) := ⟨hEA, hEA.cell c1, hEA.cell c2⟩; have hz1 : ¬ z < 0 := fun h => hxy2.out (hz.1 h); have hz2 : decide (z < 0) = false := decide_eq_false hz1; have HEA := Lib.hid hEA; clear hxa hEA hz))
            all_goals
              clear hS2 c1 c2
              have S4 := Lib.hid (Hex.out VA HEA.out)
              have HS2 := Lib.hid (s_end (show SAt key dj i (jp + 1) by rw [hjp]; exact HA.out) Hx.out Hy.out Hxy.out)
              clear ea ec
              go_wp2_with fail
              go_roundw
              case rel => exact ⟨i + 1, dj, by go_num, by omega, .inl (by omega), HS2, S4⟩
              case measure => simp [intOf]; omega
        · obtain rfl : j = 0 := by omega
          have hjaz : decide (((0 : Nat) : Int) > (0 : Int)) = false := by decide
          have hjaz' : ¬ ((0 : Nat) : Int) > (0 : Int) := by decide
          have HS2 := Lib.hid (s_end0 HA.out)
          go_wp2_with fail
          go_big_region_o
          have S4 := Lib.hid (HR.out.ext ((Ext.refl _).drew))
          clear HR
          generalize wr.drew = w3 at S4 ⊢
          go_wp2_with fail
          go_roundw
          case rel => exact ⟨i + 1, dj, by go_num, by omega, .inl (by omega), HS2, S4⟩
          case measure => simp [intOf]; omega
    · have hkk : ¬ (i : Int) < (n : Int) := by omega
      go_wp2
      go_end0
      refine ⟨rfl, dk, HR.out, ?_⟩
      have hS : STo key dk dk.length := by
        rw [HR.out.len, Hn.out]
        intro a b x y h1 h2
        exact HS.out a b x y h1 (by omega)
      exact s_pairwise hS
end Go.Proofs.YtajdfggocldeaaaGreatDoor

namespace Go.Proofs.YtajdfggocldeaaaGreatDoor
open Go.RowKit Go.Lib
theorem mul64_c (x y : Nat) (hx : x < 18446744073709551616) (hy : y < 18446744073709551616) (w : World) :
    Calls Tryz.prog 212 #[.int .u64 x, .int .u64 y] w fun e w' => e = .returned (.tuple #[.int .u64 ((x * y / 18446744073709551616 : Nat) : Int), .int .u64 ((x * y % 18446744073709551616 : Nat) : Int)]) ∧ w = w' :=
  (Any.bits_Mul64 Tryz.lMul64 x y hx hy w).mono fun _ _ ⟨h1, h2⟩ => ⟨h1, h2.symm⟩
theorem len_c (x : Nat) (h : x ≤ 1000) (w : World) :
    Calls Tryz.prog 69 #[.int .u64 x] w fun e w' => e = .returned (.int .i64 (Lib.bitLen x)) ∧ w = w' :=
  (Any.bits_Len Tryz.lLen (x : Int) w (by omega) (by omega)).mono fun _ _ ⟨h1, h2⟩ => ⟨by rw [h1, Int.toNat_natCast], h2.symm⟩
/-- One squaring, as the program's operations give it. -/
def mixF (h l : Int) : Int := bits BinOp.or .u64 (IntKind.u64.wrap (h * 4)) (l / 4611686018427387904)
def sqF (a : Nat) : Int := mixF ((a * a / 18446744073709551616 : Nat) : Int) ((a * a % 18446744073709551616 : Nat) : Int)
def upF (b : Nat) : Int := IntKind.u64.wrap (sqF b + 1)
def geF (z : Int) : Bool := decide ((9223372036854775808 : Int) ≤ z)
/-- The three numbers behind a round. -/
def rdF (s : Nat × Nat × Nat) : Nat × Nat × Nat :=
  if geF (sqF s.1) then ((sqF s.1 / 2).toNat, (IntKind.u64.wrap (upF s.2.1 / 2 + 1)).toNat, s.2.2 * 2 + 1) else ((sqF s.1).toNat, (upF s.2.1).toNat, s.2.2 * 2)
def stF (s : Nat × Nat × Nat) : Nat → Nat × Nat × Nat
  | 0 => s
  | k + 1 => rdF (stF s k)
/-- What a round asks. -/
def okF (s : Nat × Nat × Nat) : Bool :=
  decide (s.1 < 18446744073709551616) && decide (s.2.1 < 18446744073709551616) && decide (s.2.2 ≤ 1000000000) && decide (0 ≤ sqF s.1) && decide (0 ≤ upF s.2.1) && (geF (sqF s.1) || !geF (upF s.2.1)) && decide (0 ≤ IntKind.u64.wrap (upF s.2.1 / 2 + 1))
def allF (s : Nat × Nat × Nat) (n : Nat) : Bool := (List.range n).all fun k => okF (stF s k)
def s2 : Nat × Nat × Nat := (4611686018427387904, 4611686018427387904, 1)
def s3 : Nat × Nat × Nat := (6917529027641081856, 6917529027641081856, 1)
def s5 : Nat × Nat × Nat := (5764607523034234880, 5764607523034234880, 2)
theorem ok2 : allF s2 26 = true ∧ (stF s2 26).2.2 = 67108864 := by decide +kernel
theorem ok3 : allF s3 26 = true ∧ (stF s3 26).2.2 = 106365032 := by decide +kernel
theorem ok5 : allF s5 26 = true ∧ (stF s5 26).2.2 = 155821956 := by decide +kernel
theorem all_at {s : Nat × Nat × Nat} {n k : Nat} (h : allF s n = true) (hk : k < n) : okF (stF s k) = true := List.all_eq_true.1 h k (List.mem_range.2 hk)
theorem ok_parts {s : Nat × Nat × Nat} (h : okF s = true) : s.1 < 18446744073709551616 ∧ s.2.1 < 18446744073709551616 ∧ s.2.2 ≤ 1000000000 ∧ 0 ≤ sqF s.1 ∧ 0 ≤ upF s.2.1 ∧ 0 ≤ IntKind.u64.wrap (upF s.2.1 / 2 + 1) ∧ ((geF (sqF s.1) = true ∧ rdF s = ((sqF s.1 / 2).toNat, (IntKind.u64.wrap (upF s.2.1 / 2 + 1)).toNat, s.2.2 * 2 + 1)) ∨ (geF (sqF s.1) = false ∧ geF (upF s.2.1) = false ∧ rdF s = ((sqF s.1).toNat, (upF s.2.1).toNat, s.2.2 * 2))) := by
  unfold okF at h
  simp only [Bool.and_eq_true, decide_eq_true_eq] at h
  obtain ⟨⟨⟨⟨⟨⟨h1, h2⟩, h3⟩, h4⟩, h5⟩, h6⟩, h7⟩ := h
  refine ⟨h1, h2, h3, h4, h5, h7, ?_⟩
  unfold rdF
  cases hg : geF (sqF s.1) with
  | true => left; exact ⟨rfl, by simp⟩
  | false =>
    right
    rw [hg] at h6
    refine ⟨rfl, by simpa using h6, by simp⟩
theorem toNat_u {z : Int} (h : 0 ≤ z) : Value.int .u64 z = .int .u64 ((z.toNat : Nat) : Int) := by rw [Int.toNat_of_nonneg h]
theorem fast2_c (w : World) :
    Calls Tryz.prog 206 #[.int .i64 2] w fun e w' => e = .returned (.tuple #[.int .i64 67108864, .bool true]) ∧ w = w' := by
  have hb : Lib.bitLen 2 = 2 := by decide
  have hl := len_c 2 (by omega) w
  rw [hb] at hl
  have hl2 : Calls Tryz.prog 69 #[.int .u64 2] w fun e w' => e = .returned (.int .i64 2) ∧ w = w' := hl
  have hst : s2 = stF s2 0 := rfl
  have hal := ok2
  obtain ⟨S, hS⟩ : ∃ S : Nat → Nat × Nat × Nat, S = stF s2 := ⟨_, rfl⟩
  have hok : ∀ k, k < 26 → okF (S k) = true := fun k hk => by rw [hS]; exact all_at hal.1 hk
  have hnx : ∀ k, S (k + 1) = rdF (S k) := fun k => by rw [hS]; rfl
  have h0 : Value.int .u64 4611686018427387904 = .int .u64 (((S 0).1 : Nat) : Int) ∧ Value.int .u64 4611686018427387904 = .int .u64 (((S 0).2.1 : Nat) : Int) ∧ Value.int .i64 1 = .int .i64 (((S 0).2.2 : Nat) : Int) := by rw [hS]; exact ⟨rfl, rfl, rfl⟩
  have hend : (S 26).2.2 = 67108864 := by rw [hS]; exact hal.2
  have Hl2 := Lib.hid hl2; have Hok := Lib.hid hok; have Hnx := Lib.hid hnx; have H0 := Lib.hid h0; have Hend := Lib.hid hend; clear hl2 hok hnx h0 hend
  clear hl hb hst hal hS
  go_enter Tryz.func206, Tryz.ntmps206
  go_wp2_with fail
  refine Hl2.out.mono ?_
  rintro e W ⟨rfl, rfl⟩
  go_wp2_with fail
  go_loop [5, 6, 7, 8, 9, 21] (fun v5 v6 v7 v8 v9 v21 => ∃ k : Nat, v21 = .int .i64 k ∧ k ≤ 26 ∧ v5 = .int .u64 (((S k).1 : Nat) : Int) ∧ v6 = .int .u64 (((S k).2.1 : Nat) : Int) ∧ v7 = .int .i64 (((S k).2.2 : Nat) : Int)) (fun _ _ _ _ _ v21 => 26 - (intOf v21).toNat)
  case atStart => exact ⟨0, rfl, by omega, H0.out.1, H0.out.2.1, H0.out.2.2⟩
  case round =>
    obtain ⟨k, rfl, hk, rfl, rfl, rfl⟩ := hrel
    by_cases hk26 : k < 26
    · obtain ⟨ha, hb, hc, p1, p2, p3, hcs⟩ := ok_parts (Hok.out k hk26)
      have hn := Hnx.out k
      have hm1 := mul64_c (S k).1 (S k).1 ha ha w
      have hm2 := mul64_c (S k).2.1 (S k).2.1 hb hb w
      have e1 : bits BinOp.or .u64 (IntKind.u64.wrap (((((S k).1 * (S k).1 / 18446744073709551616 : Nat) : Int)) * 4)) ((((S k).1 * (S k).1 % 18446744073709551616 : Nat) : Int) / 4611686018427387904) = sqF (S k).1 := rfl
      have e2 : bits BinOp.or .u64 (IntKind.u64.wrap (((((S k).2.1 * (S k).2.1 / 18446744073709551616 : Nat) : Int)) * 4)) ((((S k).2.1 * (S k).2.1 % 18446744073709551616 : Nat) : Int) / 4611686018427387904) = sqF (S k).2.1 := rfl
      have e3 : IntKind.u64.wrap (sqF (S k).2.1 + 1) = upF (S k).2.1 := rfl
      generalize (S k).1 * (S k).1 / 18446744073709551616 = ah at *
      generalize (S k).1 * (S k).1 % 18446744073709551616 = al at *
      generalize (S k).2.1 * (S k).2.1 / 18446744073709551616 = bh at *
      generalize (S k).2.1 * (S k).2.1 % 18446744073709551616 = bl at *
      generalize sqF (S k).1 = m1 at *
      generalize sqF (S k).2.1 = m2 at *
      generalize upF (S k).2.1 = m3 at *
      generalize rdF (S k) = sn at *
      generalize (S k).1 = a at *
      generalize (S k).2.1 = b at *
      generalize (S k).2.2 = c at *
      clear ha hb
      rcases hcs with ⟨hg, hr⟩ | ⟨hg, hg2, hr⟩
      · have t1 : decide ((9223372036854775808 : Int) ≤ m1) = true := hg
        have e4 : ∃ m4, IntKind.u64.wrap (m3 / 2 + 1) = m4 := ⟨_, rfl⟩
        obtain ⟨m4, e4⟩ := e4
        rw [e4] at hr p3
        have Hm1 := Lib.hid hm1; have Hm2 := Lib.hid hm2; have Hr := Lib.hid hr; have Hn := Lib.hid hn; have P1 := Lib.hid p1; have P2 := Lib.hid p2; have P3 := Lib.hid p3; clear hm1 hm2 hr hn p1 p2 p3
        clear hg
        go_wp2_with fail
        refine Hm1.out.mono ?_
        rintro e W ⟨rfl, rfl⟩
        go_wp2_with fail
        refine Hm2.out.mono ?_
        rintro e W ⟨rfl, rfl⟩
        go_wp2_with fail
        go_round
        case rel =>
          refine ⟨k + 1, by go_num, by omega, ?_, ?_, ?_⟩
          · rw [Hn.out, Hr.out, toNat_u (by have := P1.out; omega)]
          · rw [Hn.out, Hr.out, toNat_u P3.out]
          · rw [Hn.out, Hr.out]; go_num
        case measure => simp [intOf]; omega
      · have t1 : decide ((9223372036854775808 : Int) ≤ m1) = false := hg
        have t2 : decide ((9223372036854775808 : Int) ≤ m3) = false := hg2
        have Hm1 := Lib.hid hm1; have Hm2 := Lib.hid hm2; have Hr := Lib.hid hr; have Hn := Lib.hid hn; have P1 := Lib.hid p1; have P2 := Lib.hid p2; clear hm1 hm2 hr hn p1 p2
        clear hg hg2 p3
        go_wp2_with fail
        refine Hm1.out.mono ?_
        rintro e W ⟨rfl, rfl⟩
        go_wp2_with fail
        refine Hm2.out.mono ?_
        rintro e W ⟨rfl, rfl⟩
        go_wp2_with fail
        go_round
        case rel =>
          refine ⟨k + 1, by go_num, by omega, ?_, ?_, ?_⟩
          · rw [Hn.out, Hr.out, toNat_u P1.out]
          · rw [Hn.out, Hr.out, toNat_u P2.out]
          · rw [Hn.out, Hr.out]; go_num
        case measure => simp [intOf]; omega
    · obtain rfl : k = 26 := by omega
      have he := Hend.out
      generalize (S 26).2.2 = c at *
      generalize (S 26).2.1 = b at *
      generalize (S 26).1 = a at *
      subst he
      go_wp2
      go_ret2
      exact ⟨rfl, rfl⟩
theorem fast3_c (w : World) :
    Calls Tryz.prog 206 #[.int .i64 3] w fun e w' => e = .returned (.tuple #[.int .i64 106365032, .bool true]) ∧ w = w' := by
  have hb : Lib.bitLen 3 = 2 := by decide
  have hl := len_c 3 (by omega) w
  rw [hb] at hl
  have hl2 : Calls Tryz.prog 69 #[.int .u64 3] w fun e w' => e = .returned (.int .i64 2) ∧ w = w' := hl
  have hst : s3 = stF s3 0 := rfl
  have hal := ok3
  obtain ⟨S, hS⟩ : ∃ S : Nat → Nat × Nat × Nat, S = stF s3 := ⟨_, rfl⟩
  have hok : ∀ k, k < 26 → okF (S k) = true := fun k hk => by rw [hS]; exact all_at hal.1 hk
  have hnx : ∀ k, S (k + 1) = rdF (S k) := fun k => by rw [hS]; rfl
  have h0 : Value.int .u64 6917529027641081856 = .int .u64 (((S 0).1 : Nat) : Int) ∧ Value.int .u64 6917529027641081856 = .int .u64 (((S 0).2.1 : Nat) : Int) ∧ Value.int .i64 1 = .int .i64 (((S 0).2.2 : Nat) : Int) := by rw [hS]; exact ⟨rfl, rfl, rfl⟩
  have hend : (S 26).2.2 = 106365032 := by rw [hS]; exact hal.2
  have Hl2 := Lib.hid hl2; have Hok := Lib.hid hok; have Hnx := Lib.hid hnx; have H0 := Lib.hid h0; have Hend := Lib.hid hend; clear hl2 hok hnx h0 hend
  clear hl hb hst hal hS
  go_enter Tryz.func206, Tryz.ntmps206
  go_wp2_with fail
  refine Hl2.out.mono ?_
  rintro e W ⟨rfl, rfl⟩
  go_wp2_with fail
  go_loop [5, 6, 7, 8, 9, 21] (fun v5 v6 v7 v8 v9 v21 => ∃ k : Nat, v21 = .int .i64 k ∧ k ≤ 26 ∧ v5 = .int .u64 (((S k).1 : Nat) : Int) ∧ v6 = .int .u64 (((S k).2.1 : Nat) : Int) ∧ v7 = .int .i64 (((S k).2.2 : Nat) : Int)) (fun _ _ _ _ _ v21 => 26 - (intOf v21).toNat)
  case atStart => exact ⟨0, rfl, by omega, H0.out.1, H0.out.2.1, H0.out.2.2⟩
  case round =>
    obtain ⟨k, rfl, hk, rfl, rfl, rfl⟩ := hrel
    by_cases hk26 : k < 26
    · obtain ⟨ha, hb, hc, p1, p2, p3, hcs⟩ := ok_parts (Hok.out k hk26)
      have hn := Hnx.out k
      have hm1 := mul64_c (S k).1 (S k).1 ha ha w
      have hm2 := mul64_c (S k).2.1 (S k).2.1 hb hb w
      have e1 : bits BinOp.or .u64 (IntKind.u64.wrap (((((S k).1 * (S k).1 / 18446744073709551616 : Nat) : Int)) * 4)) ((((S k).1 * (S k).1 % 18446744073709551616 : Nat) : Int) / 4611686018427387904) = sqF (S k).1 := rfl
      have e2 : bits BinOp.or .u64 (IntKind.u64.wrap (((((S k).2.1 * (S k).2.1 / 18446744073709551616 : Nat) : Int)) * 4)) ((((S k).2.1 * (S k).2.1 % 18446744073709551616 : Nat) : Int) / 4611686018427387904) = sqF (S k).2.1 := rfl
      have e3 : IntKind.u64.wrap (sqF (S k).2.1 + 1) = upF (S k).2.1 := rfl
      generalize (S k).1 * (S k).1 / 18446744073709551616 = ah at *
      generalize (S k).1 * (S k).1 % 18446744073709551616 = al at *
      generalize (S k).2.1 * (S k).2.1 / 18446744073709551616 = bh at *
      generalize (S k).2.1 * (S k).2.1 % 18446744073709551616 = bl at *
      generalize sqF (S k).1 = m1 at *
      generalize sqF (S k).2.1 = m2 at *
      generalize upF (S k).2.1 = m3 at *
      generalize rdF (S k) = sn at *
      generalize (S k).1 = a at *
      generalize (S k).2.1 = b at *
      generalize (S k).2.2 = c at *
      clear ha hb
      rcases hcs with ⟨hg, hr⟩ | ⟨hg, hg2, hr⟩
      · have t1 : decide ((9223372036854775808 : Int) ≤ m1) = true := hg
        have e4 : ∃ m4, IntKind.u64.wrap (m3 / 2 + 1) = m4 := ⟨_, rfl⟩
        obtain ⟨m4, e4⟩ := e4
        rw [e4] at hr p3
        have Hm1 := Lib.hid hm1; have Hm2 := Lib.hid hm2; have Hr := Lib.hid hr; have Hn := Lib.hid hn; have P1 := Lib.hid p1; have P2 := Lib.hid p2; have P3 := Lib.hid p3; clear hm1 hm2 hr hn p1 p2 p3
        clear hg
        go_wp2_with fail
        refine Hm1.out.mono ?_
        rintro e W ⟨rfl, rfl⟩
        go_wp2_with fail
        refine Hm2.out.mono ?_
        rintro e W ⟨rfl, rfl⟩
        go_wp2_with fail
        go_round
        case rel =>
          refine ⟨k + 1, by go_num, by omega, ?_, ?_, ?_⟩
          · rw [Hn.out, Hr.out, toNat_u (by have := P1.out; omega)]
          · rw [Hn.out, Hr.out, toNat_u P3.out]
          · rw [Hn.out, Hr.out]; go_num
        case measure => simp [intOf]; omega
      · have t1 : decide ((9223372036854775808 : Int) ≤ m1) = false := hg
        have t2 : decide ((9223372036854775808 : Int) ≤ m3) = false := hg2
        have Hm1 := Lib.hid hm1; have Hm2 := Lib.hid hm2; have Hr := Lib.hid hr; have Hn := Lib.hid hn; have P1 := Lib.hid p1; have P2 := Lib.hid p2; clear hm1 hm2 hr hn p1 p2
        clear hg hg2 p3
        go_wp2_with fail
        refine Hm1.out.mono ?_
        rintro e W ⟨rfl, rfl⟩
        go_wp2_with fail
        refine Hm2.out.mono ?_
        rintro e W ⟨rfl, rfl⟩
        go_wp2_with fail
        go_round
        case rel =>
          refine ⟨k + 1, by go_num, by omega, ?_, ?_, ?_⟩
          · rw [Hn.out, Hr.out, toNat_u P1.out]
          · rw [Hn.out, Hr.out, toNat_u P2.out]
          · rw [Hn.out, Hr.out]; go_num
        case measure => simp [intOf]; omega
    · obtain rfl : k = 26 := by omega
      have he := Hend.out
      generalize (S 26).2.2 = c at *
      generalize (S 26).2.1 = b at *
      generalize (S 26).1 = a at *
      subst he
      go_wp2
      go_ret2
      exact ⟨rfl, rfl⟩
theorem fast5_c (w : World) :
    Calls Tryz.prog 206 #[.int .i64 5] w fun e w' => e = .returned (.tuple #[.int .i64 155821956, .bool true]) ∧ w = w' := by
  have hb : Lib.bitLen 5 = 3 := by decide
  have hl := len_c 5 (by omega) w
  rw [hb] at hl
  have hl2 : Calls Tryz.prog 69 #[.int .u64 5] w fun e w' => e = .returned (.int .i64 3) ∧ w = w' := hl
  have hst : s5 = stF s5 0 := rfl
  have hal := ok5
  obtain ⟨S, hS⟩ : ∃ S : Nat → Nat × Nat × Nat, S = stF s5 := ⟨_, rfl⟩
  have hok : ∀ k, k < 26 → okF (S k) = true := fun k hk => by rw [hS]; exact all_at hal.1 hk
  have hnx : ∀ k, S (k + 1) = rdF (S k) := fun k => by rw [hS]; rfl
  have h0 : Value.int .u64 5764607523034234880 = .int .u64 (((S 0).1 : Nat) : Int) ∧ Value.int .u64 5764607523034234880 = .int .u64 (((S 0).2.1 : Nat) : Int) ∧ Value.int .i64 2 = .int .i64 (((S 0).2.2 : Nat) : Int) := by rw [hS]; exact ⟨rfl, rfl, rfl⟩
  have hend : (S 26).2.2 = 155821956 := by rw [hS]; exact hal.2
  have Hl2 := Lib.hid hl2; have Hok := Lib.hid hok; have Hnx := Lib.hid hnx; have H0 := Lib.hid h0; have Hend := Lib.hid hend; clear hl2 hok hnx h0 hend
  clear hl hb hst hal hS
  go_enter Tryz.func206, Tryz.ntmps206
  go_wp2_with fail
  refine Hl2.out.mono ?_
  rintro e W ⟨rfl, rfl⟩
  go_wp2_with fail
  go_loop [5, 6, 7, 8, 9, 21] (fun v5 v6 v7 v8 v9 v21 => ∃ k : Nat, v21 = .int .i64 k ∧ k ≤ 26 ∧ v5 = .int .u64 (((S k).1 : Nat) : Int) ∧ v6 = .int .u64 (((S k).2.1 : Nat) : Int) ∧ v7 = .int .i64 (((S k).2.2 : Nat) : Int)) (fun _ _ _ _ _ v21 => 26 - (intOf v21).toNat)
  case atStart => exact ⟨0, rfl, by omega, H0.out.1, H0.out.2.1, H0.out.2.2⟩
  case round =>
    obtain ⟨k, rfl, hk, rfl, rfl, rfl⟩ := hrel
    by_cases hk26 : k < 26
    · obtain ⟨ha, hb, hc, p1, p2, p3, hcs⟩ := ok_parts (Hok.out k hk26)
      have hn := Hnx.out k
      have hm1 := mul64_c (S k).1 (S k).1 ha ha w
      have hm2 := mul64_c (S k).2.1 (S k).2.1 hb hb w
      have e1 : bits BinOp.or .u64 (IntKind.u64.wrap (((((S k).1 * (S k).1 / 18446744073709551616 : Nat) : Int)) * 4)) ((((S k).1 * (S k).1 % 18446744073709551616 : Nat) : Int) / 4611686018427387904) = sqF (S k).1 := rfl
      have e2 : bits BinOp.or .u64 (IntKind.u64.wrap (((((S k).2.1 * (S k).2.1 / 18446744073709551616 : Nat) : Int)) * 4)) ((((S k).2.1 * (S k).2.1 % 18446744073709551616 : Nat) : Int) / 4611686018427387904) = sqF (S k).2.1 := rfl
      have e3 : IntKind.u64.wrap (sqF (S k).2.1 + 1) = upF (S k).2.1 := rfl
      generalize (S k).1 * (S k).1 / 18446744073709551616 = ah at *
      generalize (S k).1 * (S k).1 % 18446744073709551616 = al at *
      generalize (S k).2.1 * (S k).2.1 / 18446744073709551616 = bh at *
      generalize (S k).2.1 * (S k).2.1 % 18446744073709551616 = bl at *
      generalize sqF (S k).1 = m1 at *
      generalize sqF (S k).2.1 = m2 at *
      generalize upF (S k).2.1 = m3 at *
      generalize rdF (S k) = sn at *
      generalize (S k).1 = a at *
      generalize (S k).2.1 = b at *
      generalize (S k).2.2 = c at *
      clear ha hb
      rcases hcs with ⟨hg, hr⟩ | ⟨hg, hg2, hr⟩
      · have t1 : decide ((9223372036854775808 : Int) ≤ m1) = true := hg
        have e4 : ∃ m4, IntKind.u64.wrap (m3 / 2 + 1) = m4 := ⟨_, rfl⟩
        obtain ⟨m4, e4⟩ := e4
        rw [e4] at hr p3
        have Hm1 := Lib.hid hm1; have Hm2 := Lib.hid hm2; have Hr := Lib.hid hr; have Hn := Lib.hid hn; have P1 := Lib.hid p1; have P2 := Lib.hid p2; have P3 := Lib.hid p3; clear hm1 hm2 hr hn p1 p2 p3
        clear hg
        go_wp2_with fail
        refine Hm1.out.mono ?_
        rintro e W ⟨rfl, rfl⟩
        go_wp2_with fail
        refine Hm2.out.mono ?_
        rintro e W ⟨rfl, rfl⟩
        go_wp2_with fail
        go_round
        case rel =>
          refine ⟨k + 1, by go_num, by omega, ?_, ?_, ?_⟩
          · rw [Hn.out, Hr.out, toNat_u (by have := P1.out; omega)]
          · rw [Hn.out, Hr.out, toNat_u P3.out]
          · rw [Hn.out, Hr.out]; go_num
        case measure => simp [intOf]; omega
      · have t1 : decide ((9223372036854775808 : Int) ≤ m1) = false := hg
        have t2 : decide ((9223372036854775808 : Int) ≤ m3) = false := hg2
        have Hm1 := Lib.hid hm1; have Hm2 := Lib.hid hm2; have Hr := Lib.hid hr; have Hn := Lib.hid hn; have P1 := Lib.hid p1; have P2 := Lib.hid p2; clear hm1 hm2 hr hn p1 p2
        clear hg hg2 p3
        go_wp2_with fail
        refine Hm1.out.mono ?_
        rintro e W ⟨rfl, rfl⟩
        go_wp2_with fail
        refine Hm2.out.mono ?_
        rintro e W ⟨rfl, rfl⟩
        go_wp2_with fail
        go_round
        case rel =>
          refine ⟨k + 1, by go_num, by omega, ?_, ?_, ?_⟩
          · rw [Hn.out, Hr.out, toNat_u P1.out]
          · rw [Hn.out, Hr.out, toNat_u P2.out]
          · rw [Hn.out, Hr.out]; go_num
        case measure => simp [intOf]; omega
    · obtain rfl : k = 26 := by omega
      have he := Hend.out
      generalize (S 26).2.2 = c at *
      generalize (S 26).2.1 = b at *
      generalize (S 26).1 = a at *
      subst he
      go_wp2
      go_ret2
      exact ⟨rfl, rfl⟩
end Go.Proofs.YtajdfggocldeaaaGreatDoor

namespace Go.Proofs.YtajdfggocldeaaaGreatDoor
open Go.RowKit Go.Lib Go.Shelf
theorem sortF_c {α : Type} (enc : α → Value) (key : α → Rat) (g : Nat) (cb : Array Value) (B blk cap : Nat) (d : List α) (w : World) (hR : w.ownsRow B 28 1 (.slice (some ⟨blk, 0, none⟩) d.length cap) d.length (d.map enc)) (hl : d.length ≤ 12) (h1 : OneCell enc)
    (eg : ∀ args w, (callFunc g args).run Tryz.prog w = .ok (.enter g args) w)
    (hcmp : ∀ W, w.grownBy W (some blk) → ∀ x ∈ d, ∀ y ∈ d, Calls Tryz.prog g (#[enc x, enc y] ++ cb) W fun e w' => (∃ z : Int, e = .returned (.int .i64 z) ∧ (z < 0 ↔ key x < key y)) ∧ Ext W w') :
    Calls Tryz.prog 47 #[.slice (some ⟨blk, 0, none⟩) d.length cap, .func (.func g) #[] cb] w fun e w' => e = .returned (.tuple #[]) ∧ ∃ d', InR 28 w B blk cap enc d w' d' ∧ d'.Pairwise fun x y => key x ≤ key y := by
  have hi := fun W (hE : Ext w W) => insQ_c enc key g cb B blk cap d d w W ⟨List.Perm.refl _, hE.own hR, only_ext (only_refl _ _) hE⟩ (by omega) h1 eg hcmp
  have h2 : ∀ W (lim : Int), Ext w W → Calls Tryz.prog 68 #[.slice (some ⟨blk, 0, none⟩) d.length cap, .int .i64 0, .int .i64 d.length, .int .i64 lim, .func (.func g) #[] cb] W fun e w' => e = .returned (.tuple #[]) ∧ ∃ d', InR 28 w B blk cap enc d w' d' ∧ d'.Pairwise fun x y => key x ≤ key y := by
    intro W lim hE
    have Hi := Lib.hid (hi W hE)
    generalize hn : d.length = n at *
    clear hi hR hcmp hn hE
    have t1 : (n : Int) ≤ 12 := by omega
    go_enter Tryz.func68, Tryz.ntmps68
    go_wp2_with fail
    refine wp_loop_rounds 1 ?_
    rw [rounds_succ]
    go_wp2_with fail
    refine Hi.out.mono ?_
    rintro e w1 ⟨rfl, hd⟩
    have Hd := Lib.hid hd
    clear hd
    go_wp2
    (try simp only [Exit.inBlock, Exit.then])
    refine bodyPost_ret (results_none rfl _ _ _) rfl ?_
    exact ⟨rfl, Hd.out⟩
  generalize hn : d.length = n at *
  have H2 := Lib.hid h2
  clear hi hR hcmp hn h2
  go_enter Tryz.func47, Tryz.ntmps47
  have hln := fun W => len_c n (by omega) W
  have Hln := Lib.hid hln; clear hln
  have hw : IntKind.u64.wrap (n : Int) = (n : Int) := by rw [IntKind.wrap_u64]; omega
  go_wp2_with fail
  refine (Hln.out _).mono ?_
  rintro e w1 ⟨rfl, rfl⟩
  go_wp2_with fail
  refine (H2.out w _ (Ext.refl w)).mono ?_
  rintro e w1 ⟨rfl, hd⟩
  have Hd := Lib.hid hd
  clear hd
  go_wp2
  go_end0
  exact ⟨rfl, Hd.out⟩
end Go.Proofs.YtajdfggocldeaaaGreatDoor
