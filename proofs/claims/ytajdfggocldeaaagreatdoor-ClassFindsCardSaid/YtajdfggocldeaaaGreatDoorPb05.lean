/- Walk: slices.insertionSortCmpFunc and SortFunc at sizes, with a bound method as the compare. -/
import Derived.Test.YtajdfggocldeaaaGreatDoorPb04
import Derived.Shelf.RegionOpenPlain
import Derived.Shelf.Abstract
import Derived.Shelf.SlicesE.Kit
import Derived.Deep.RegionHeld3
set_option maxRecDepth 100000
set_option maxHeartbeats 4000000
namespace Go.Proofs.YtajdfggocldeaaaGreatDoor
open Go.RowKit Go.Lib Go.Shelf
theorem insV_c {α : Type} (enc : α → Value) (key : α → Rat) (g : Nat) (u : Value) (B blk cap : Nat) (d0 d : List α) (W0 w : World) (hR : InR 28 W0 B blk cap enc d0 w d) (hl : d0.length ≤ 1000) (h1 : OneCell enc)
    (eg : ∀ args w, (callFunc g args).run Tryz.prog w = .ok (.enter g args) w)
    (hcmp : ∀ W, W0.grownBy W (some blk) → ∀ x ∈ d0, ∀ y ∈ d0, Calls Tryz.prog g #[u, enc x, enc y] W fun e w' => (∃ z : Int, e = .returned (.int .i64 z) ∧ (z < 0 ↔ key x < key y)) ∧ Ext W w') :
    Calls Tryz.prog 93 #[.slice (some ⟨blk, 0, none⟩) d0.length cap, .int .i64 0, .int .i64 d0.length, .func (.func g) #[u] #[]] w fun e w' => e = .returned (.tuple #[]) ∧ ∃ d', InR 28 W0 B blk cap enc d0 w' d' ∧ d'.Pairwise fun x y => key x ≤ key y := by
  have mixed : Tryz.prog.follows .mixedOrders = true := by kernel_rfl
  have hcl0 := h1.cells
  simp only [Value.cells] at hcl0
  have hst := h1.store Tryz.prog
  generalize hn : d0.length = n at *
  have HR := Lib.hid hR; have Hcmp := Lib.hid hcmp; have Hn := Lib.hid hn
  clear hR hcmp hn
  go_enter Tryz.func93, Tryz.ntmps93
  go_wp2_with fail
  go_loopw [8] (fun vi wr => ∃ (i : Nat) (dk : List α), vi = .int .i64 i ∧ 1 ≤ i ∧ (i ≤ n ∨ i = 1) ∧ Hid (STo key dk i) ∧ Hid (InR 28 W0 B blk cap enc d0 wr dk)) (fun vi _ => n + 1 - (intOf vi).toNat)
  case atStart => exact ⟨1, d, rfl, Nat.le_refl _, .inr rfl, Lib.hid (sTo_one d), HR⟩
  case round =>
    clear HR
    obtain ⟨i, dk, rfl, hi1, hin, HS, HR⟩ := hrel
    by_cases hlt : i < n
    · have hltz : (i : Int) < (n : Int) := by omega
      go_wp2_with fail
      obtain ⟨wa, hwa⟩ : ∃ wa, wa = wr := ⟨_, rfl⟩
      subst hwa
      go_loopw [9] (fun vj wr => ∃ (j : Nat) (dj : List α), vj = .int .i64 j ∧ j ≤ i ∧ Hid (SAt key dj i j) ∧ Hid (InR 28 W0 B blk cap enc d0 wr dj)) (fun vj _ => (intOf vj).toNat)
      case atStart => exact ⟨i, dk, rfl, Nat.le_refl _, Lib.hid (s_start HS.out), HR⟩
      case round =>
        clear HR
        obtain ⟨j, dj, rfl, hji, HA, HR⟩ := hrel
        by_cases hja : 0 < j
        · obtain ⟨jp, hjp⟩ : ∃ q, q + 1 = j := ⟨j - 1, by omega⟩
          have hjl : dj.length = n := HR.out.len.trans Hn.out
          obtain ⟨x, hx⟩ : ∃ x, dj[jp + 1]? = some x := ⟨_, List.getElem?_eq_getElem (by omega)⟩
          obtain ⟨y, hy⟩ : ∃ y, dj[jp]? = some y := ⟨_, List.getElem?_eq_getElem (by omega)⟩
          obtain ⟨iN, hiN⟩ : ∃ q, q = j := ⟨_, rfl⟩
          obtain ⟨jN, hjN⟩ : ∃ q, q = jp := ⟨_, rfl⟩
          have c1 := HR.out.cell hx
          have c2 := HR.out.cell hy
          rw [hjp, ← hiN] at c1
          rw [← hjN] at c2
          have hcm := fun W (hE : Ext wr W) => Hcmp.out W (only_ext HR.out.only hE) x (HR.out.mem hx) y (HR.out.mem hy)
          have hsw := fun W (hE : Ext wr W) => (HR.out.ext hE).swap hx hy
          have hcf := fun W (hE : Ext wr W) => (⟨(HR.out.ext hE).cell hx, (HR.out.ext hE).cell hy, (HR.out.ext hE).frozen (jp + 1), (HR.out.ext hE).frozen jp⟩ : _ ∧ _ ∧ _ ∧ _)
          have hex := fun W (hE : Ext wr W) => HR.out.ext hE
          have hij : jN < iN := by omega
          rw [hjp, ← hiN, ← hjN] at hcf
          have hsw2 := fun W (hE : Ext wr W) => (show InR 28 W0 B blk cap enc d0 ((W.setCell ⟨blk, iN, none⟩ (enc y)).setCell ⟨blk, jN, none⟩ (enc x)) ((dj.set (jp + 1) y).set jp x) by rw [hiN, hjN, ← hjp]; exact hsw W hE)
          have zjp : (j : Int) = (jp : Int) + 1 := by omega
          have hjad : decide ((jp : Int) + 1 > (0 : Int)) = true := decide_eq_true (by omega)
          have hjaz : (0 : Int) < (jp : Int) + 1 := by omega
          have ea : ((jp : Int) + 1).toNat = iN := by omega
          have pa : (0 : Int) ≤ (jp : Int) + 1 := by omega
          have ba : (jp : Int) + 1 < (n : Int) := by omega
          have ra : IntKind.i64.wrap ((jp : Int) + 1) = (jp : Int) + 1 := by rw [IntKind.wrap_i64]; omega
          have ec : ((jp : Int)).toNat = jN := by omega
          have pc : (0 : Int) ≤ (jp : Int) := by omega
          have bc : (jp : Int) < (n : Int) := by omega
          have rc : IntKind.i64.wrap ((jp : Int)) = (jp : Int) := by rw [IntKind.wrap_i64]; omega
          have Hx := Lib.hid hx; have Hy := Lib.hid hy; have Hcm := Lib.hid hcm; have Hsw := Lib.hid hsw2; have Hcf := Lib.hid hcf; have Hex := Lib.hid hex; have HiN := Lib.hid hiN; have HjN := Lib.hid hjN
          clear hx hy hcm hsw hsw2 hcf hex hjl hiN hjN HR
          by_cases hxy : key x < key y
          · have hxy2 : key x ≤ key y := Rat.le_of_lt hxy
            have Hxy := Lib.hid hxy; have Hxy2 := Lib.hid hxy2; clear hxy hxy2
            go_wp2_with fail
            go_region_held3 (fun w' => Ext wr w' ∧ w'.cell? ⟨blk, iN, none⟩ = some (enc x) ∧ w'.cell? ⟨blk, jN, none⟩ = some (enc y))
              (first | (with_reducible assumption) | exact ⟨(Ext.refl wr).drew, c1, c2⟩)
              (first | (go_at_fn g; refine (Hcm.out _ (And.left (by assumption))).mono ?_; rintro e9 VA ⟨⟨z, rfl, hz⟩, hxa⟩; have hEA := ((Ext.refl wr).drew).trans hxa; have hS2 : Ext wr VA ∧ VA.cell? ⟨blk, iN, none⟩ = some (enc x) ∧ VA.cell? ⟨blk, jN, none⟩ = some (enc y) := ⟨hEA, hEA.cell c1, hEA.cell c2⟩; have hz1 : z < 0 := hz.2 Hxy.out; have hz2 : decide (z < 0) = true := decide_eq_true hz1; have HEA := Lib.hid hEA; clear hxa hEA hz))
            all_goals
              clear hS2 c1 c2
              obtain ⟨k1, k2, k3, k4⟩ := Hcf.out VA HEA.out
              have S3 := Lib.hid (Hsw.out VA HEA.out)
              have c3 : ∃ u, (VA.setCell ⟨blk, iN, none⟩ (enc y)).cell? ⟨blk, jN, none⟩ = some u := by
                rw [World.cell?_setCell_other _ _ _ _ (by intro e'; simp only [Addr.mk.injEq] at e'; omega)]
                exact ⟨_, k2⟩
              obtain ⟨u3, c3⟩ := c3
              go_wp2_with fail
              go_big_region_o
              have S4 := Lib.hid (S3.out.ext ((Ext.refl _).drew))
              have HA2 := Lib.hid (s_swap (show SAt key dj i (jp + 1) by rw [hjp]; exact HA.out) Hx.out Hy.out Hxy2.out)
              clear c3 k1 k2 k3 k4 S3
              generalize ((VA.setCell ⟨blk, iN, none⟩ (enc y)).setCell ⟨blk, jN, none⟩ (enc x)).drew = w3 at S4 ⊢
              clear ea ec
              go_wp2_with fail
              go_roundw
              case rel => exact ⟨jp, (dj.set (jp + 1) y).set jp x, by first | rfl | go_num | (congr 1; omega), by omega, HA2, S4⟩
              case measure => simp [intOf]; omega
          · have Hxy := Lib.hid (Rat.not_lt.1 hxy); have hxy2 := Lib.hid hxy; clear hxy
            go_wp2_with fail
            go_region_held3 (fun w' => Ext wr w' ∧ w'.cell? ⟨blk, iN, none⟩ = some (enc x) ∧ w'.cell? ⟨blk, jN, none⟩ = some (enc y))
              (first | (with_reducible assumption) | exact ⟨(Ext.refl wr).drew, c1, c2⟩)
              (first | (go_at_fn g; refine (Hcm.out _ (And.left (by assumption))).mono ?_; rintro e9 VA ⟨⟨z, rfl, hz⟩, hxa⟩; have hEA := ((Ext.refl wr).drew).trans hxa; have hS2 : Ext wr VA ∧ VA.cell? ⟨blk, iN, none⟩ = some (enc x) ∧ VA.cell? ⟨blk, jN, none⟩ = some (enc y) := ⟨hEA, hEA.cell c1, hEA.cell c2⟩; have hz1 : ¬ z < 0 := fun h => hxy2.out (hz.1 h); have hz2 : decide (z < 0) = false := decide_eq_false hz1; have HEA := Lib.hid hEA; clear hxa hEA hz))
            all_goals
              clear hS2 c1 c2
              have S4 := Lib.hid (Hex.out VA HEA.out)
              have HS2 := Lib.hid (s_end (show SAt key dj i (jp + 1) by rw [hjp]; exact HA.out) Hx.out Hy.out Hxy.out)
              clear ea ec
              go_wp2_with fail
              go_roundw
              case rel => exact ⟨i + 1, dj, by go_num, by omega, .inl (by omega), HS2, S4⟩
              case measure => simp [intOf]; omega
        · obtain rfl : j = 0 := by omega
          have hjaz : decide (((0 : Nat) : Int) > (0 : Int)) = false := by decide
          have hjaz' : ¬ ((0 : Nat) : Int) > (0 : Int) := by decide
          have HS2 := Lib.hid (s_end0 HA.out)
          go_wp2_with fail
          go_big_region_o
          have S4 := Lib.hid (HR.out.ext ((Ext.refl _).drew))
          clear HR
          generalize wr.drew = w3 at S4 ⊢
          go_wp2_with fail
          go_roundw
          case rel => exact ⟨i + 1, dj, by go_num, by omega, .inl (by omega), HS2, S4⟩
          case measure => simp [intOf]; omega
    · have hkk : ¬ (i : Int) < (n : Int) := by omega
      go_wp2
      go_end0
      refine ⟨rfl, dk, HR.out, ?_⟩
      have hS : STo key dk dk.length := by
        rw [HR.out.len, Hn.out]
        intro a b x y h1 h2
        exact HS.out a b x y h1 (by omega)
      exact s_pairwise hS
theorem sortV_c {α : Type} (enc : α → Value) (key : α → Rat) (g : Nat) (u : Value) (B blk cap : Nat) (d : List α) (w : World) (hR : w.ownsRow B 28 1 (.slice (some ⟨blk, 0, none⟩) d.length cap) d.length (d.map enc)) (hl : d.length ≤ 12) (h1 : OneCell enc)
    (eg : ∀ args w, (callFunc g args).run Tryz.prog w = .ok (.enter g args) w)
    (hcmp : ∀ W, w.grownBy W (some blk) → ∀ x ∈ d, ∀ y ∈ d, Calls Tryz.prog g #[u, enc x, enc y] W fun e w' => (∃ z : Int, e = .returned (.int .i64 z) ∧ (z < 0 ↔ key x < key y)) ∧ Ext W w') :
    Calls Tryz.prog 47 #[.slice (some ⟨blk, 0, none⟩) d.length cap, .func (.func g) #[u] #[]] w fun e w' => e = .returned (.tuple #[]) ∧ ∃ d', InR 28 w B blk cap enc d w' d' ∧ d'.Pairwise fun x y => key x ≤ key y := by
  have hi := fun W (hE : Ext w W) => insV_c enc key g u B blk cap d d w W ⟨List.Perm.refl _, hE.own hR, only_ext (only_refl _ _) hE⟩ (by omega) h1 eg hcmp
  have h2 : ∀ W (lim : Int), Ext w W → Calls Tryz.prog 68 #[.slice (some ⟨blk, 0, none⟩) d.length cap, .int .i64 0, .int .i64 d.length, .int .i64 lim, .func (.func g) #[u] #[]] W fun e w' => e = .returned (.tuple #[]) ∧ ∃ d', InR 28 w B blk cap enc d w' d' ∧ d'.Pairwise fun x y => key x ≤ key y := by
    intro W lim hE
    have Hi := Lib.hid (hi W hE)
    generalize hn : d.length = n at *
    clear hi hR hcmp hn hE
    have t1 : (n : Int) ≤ 12 := by omega
    go_enter Tryz.func68, Tryz.ntmps68
    go_wp2_with fail
    refine wp_loop_rounds 1 ?_
    rw [rounds_succ]
    go_wp2_with fail
    refine Hi.out.mono ?_
    rintro e w1 ⟨rfl, hd⟩
    have Hd := Lib.hid hd
    clear hd
    go_wp2
    (try simp only [Exit.inBlock, Exit.then])
    refine bodyPost_ret (results_none rfl _ _ _) rfl ?_
    exact ⟨rfl, Hd.out⟩
  generalize hn : d.length = n at *
  have H2 := Lib.hid h2
  clear hi hR hcmp hn h2
  go_enter Tryz.func47, Tryz.ntmps47
  have hln := fun W => len_c n (by omega) W
  have Hln := Lib.hid hln; clear hln
  have hw : IntKind.u64.wrap (n : Int) = (n : Int) := by rw [IntKind.wrap_u64]; omega
  go_wp2_with fail
  refine (Hln.out _).mono ?_
  rintro e w1 ⟨rfl, rfl⟩
  go_wp2_with fail
  refine (H2.out w _ (Ext.refl w)).mono ?_
  rintro e w1 ⟨rfl, hd⟩
  have Hd := Lib.hid hd
  clear hd
  go_wp2
  go_end0
  exact ⟨rfl, Hd.out⟩
end Go.Proofs.YtajdfggocldeaaaGreatDoor
