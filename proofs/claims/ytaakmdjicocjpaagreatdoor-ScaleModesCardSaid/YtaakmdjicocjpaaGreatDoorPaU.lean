/- The row of an insertion sort whose compare makes memory. Walk: slices.insertionSortCmpFunc at sizes, with a compare that makes memory. -/
import Derived.Test.YtaakmdjicocjpaaGreatDoorPaR
import Derived.Test.YtaakmdjicocjpaaGreatDoorPaG
import Derived.Shelf.RegionOpenPlain
import Derived.Shelf.Abstract
import Derived.Shelf.SlicesE.Kit
import Derived.Deep.RegionHeld3
namespace Go.Proofs.YtaakmdjicocjpaaGreatDoor
open Go.RowKit Go.Lib

/-- The row of a sort, in some order; nothing else of old has turned. -/
structure InR {α : Type} (T : TypeId) (W0 : World) (B blk cap : Nat) (enc : α → Value) (d0 : List α) (wr : World) (dk : List α) : Prop where
  perm : dk.Perm d0
  own : wr.ownsRow B T 1 (.slice (some ⟨blk, 0, none⟩) d0.length cap) d0.length (dk.map enc)
  only : W0.grownBy wr (some blk)
section
variable {α : Type} {T : TypeId} {W0 wr : World} {B blk cap : Nat} {enc : α → Value} {d0 dk : List α}
theorem InR.ext {w' : World} (h : InR T W0 B blk cap enc d0 wr dk) (hx : Ext wr w') : InR T W0 B blk cap enc d0 w' dk := ⟨h.perm, hx.own h.own, only_ext h.only hx⟩
theorem InR.len (h : InR T W0 B blk cap enc d0 wr dk) : dk.length = d0.length := h.perm.length_eq
theorem InR.cell (h : InR T W0 B blk cap enc d0 wr dk) {k : Nat} {x : α} (hx : dk[k]? = some x) : wr.cell? ⟨blk, k, none⟩ = some (enc x) := by
  have hk := (List.getElem?_eq_some_iff.1 hx).1
  have := h.len
  rw [World.ownsRow.cellAt h.own k (by omega), List.getElem?_map, hx]
  rfl
theorem InR.frozen (h : InR T W0 B blk cap enc d0 wr dk) (k : Nat) : wr.frozen? ⟨blk, k, none⟩ = false := by
  rcases h.own.2 with ⟨e, _⟩ | ⟨g, cap', cur, e, hb, hg, _⟩
  · cases e
  · injection e with e1 _ _
    injection e1 with e1
    injection e1 with e1
    subst e1
    exact frozen_of_row _ _ _ _ _ hg
theorem InR.swap (h : InR T W0 B blk cap enc d0 wr dk) {k : Nat} {x y : α} (hx : dk[k + 1]? = some x) (hy : dk[k]? = some y) :
    InR T W0 B blk cap enc d0 ((wr.setCell ⟨blk, k + 1, none⟩ (enc y)).setCell ⟨blk, k, none⟩ (enc x)) ((dk.set (k + 1) y).set k x) := by
  have h1 := World.ownsRow.stored h.own (k + 1) (enc y)
  have h2 := World.ownsRow.stored h1.1 k (enc x)
  refine ⟨(s_swap_perm hx hy).trans h.perm, ?_, only_setCell (only_setCell h.only rfl _) rfl _⟩
  rw [List.map_set, List.map_set]
  exact h2.1
theorem InR.mem (h : InR T W0 B blk cap enc d0 wr dk) {k : Nat} {x : α} (hx : dk[k]? = some x) : x ∈ d0 := h.perm.mem_iff.1 (List.mem_of_getElem? hx)
end
end Go.Proofs.YtaakmdjicocjpaaGreatDoor

namespace Go.Proofs.YtaakmdjicocjpaaGreatDoor
open Go.RowKit Go.Lib Go.Shelf

set_option maxRecDepth 100000 in
set_option maxHeartbeats 4000000 in
theorem insQ_c {α : Type} (enc : α → Value) (key : α → Rat) (g : Nat) (cb : Array Value) (B blk cap : Nat) (d0 d : List α) (W0 w : World) (hR : InR 41 W0 B blk cap enc d0 w d) (hl : d0.length ≤ 1000) (h1 : OneCell enc)
    (eg : ∀ args w, (callFunc g args).run Tryz.prog w = .ok (.enter g args) w)
    (hcmp : ∀ W, W0.grownBy W (some blk) → ∀ x ∈ d0, ∀ y ∈ d0, Calls Tryz.prog g (#[enc x, enc y] ++ cb) W fun e w' => (∃ z : Int, e = .returned (.int .i64 z) ∧ (z < 0 ↔ key x < key y)) ∧ Ext W w') :
    Calls Tryz.prog 184 #[.slice (some ⟨blk, 0, none⟩) d0.length cap, .int .i64 0, .int .i64 d0.length, .func (.func g) #[] cb] w fun e w' => e = .returned (.tuple #[]) ∧ ∃ d', InR 41 W0 B blk cap enc d0 w' d' ∧ d'.Pairwise fun x y => key x ≤ key y := by
  have mixed : Tryz.prog.follows .mixedOrders = true := by kernel_rfl
  have hcl0 := h1.cells
  simp only [Value.cells] at hcl0
  have hst := h1.store Tryz.prog
  generalize hn : d0.length = n at *
  have HR := Lib.hid hR; have Hcmp := Lib.hid hcmp; have Hn := Lib.hid hn
  clear hR hcmp hn
  go_enter Tryz.func184, Tryz.ntmps184
  go_wp2_with fail
  go_loopw [8] (fun vi wr => ∃ (i : Nat) (dk : List α), vi = .int .i64 i ∧ 1 ≤ i ∧ (i ≤ n ∨ i = 1) ∧ Hid (STo key dk i) ∧ Hid (InR 41 W0 B blk cap enc d0 wr dk)) (fun vi _ => n + 1 - (intOf vi).toNat)
  case atStart => exact ⟨1, d, rfl, Nat.le_refl _, .inr rfl, Lib.hid (sTo_one d), HR⟩
  case round =>
    clear HR
    obtain ⟨i, dk, rfl, hi1, hin, HS, HR⟩ := hrel
    by_cases hlt : i < n
    · have hltz : (i : Int) < (n : Int) := by omega
      go_wp2_with fail
      obtain ⟨wa, hwa⟩ : ∃ wa, wa = wr := ⟨_, rfl⟩
      subst hwa
      go_loopw [9] (fun vj wr => ∃ (j : Nat) (dj : List α), vj = .int .i64 j ∧ j ≤ i ∧ Hid (SAt key dj i j) ∧ Hid (InR 41 W0 B blk cap enc d0 wr dj)) (fun vj _ => (intOf vj).toNat)
      case atStart => exact ⟨i, dk, rfl, Nat.le_refl _, Lib.hid (s_start HS.out), HR⟩
      case round =>
        clear HR
        obtain ⟨j, dj, rfl, hji, HA, HR⟩ := hrel
        by_cases hja : 0 < j
        · obtain ⟨jp, hjp⟩ : ∃ q, q + 1 = j := ⟨j - 1, by omega⟩
          have hjl : dj.length = n := HR.out.len.trans Hn.out
          obtain ⟨x, hx⟩ : ∃ x, dj[jp + 1]? = some x := ⟨_, List.getElem?_eq_getElem (by omega)⟩
          obtain ⟨y, hy⟩ : ∃ y, dj[jp]? = some y := ⟨_, List.getElem?_eq_getElem (by omega)⟩
          obtain ⟨iN, hiN⟩ : ∃ q, q = j := ⟨_, rfl⟩
          obtain ⟨jN, hjN⟩ : ∃ q, q = jp := ⟨_, rfl⟩
          have c1 := HR.out.cell hx
          have c2 := HR.out.cell hy
          rw [hjp, ← hiN] at c1
          rw [← hjN] at c2
          have hcm := fun W (hE : Ext wr W) => Hcmp.out W (only_ext HR.out.only hE) x (HR.out.mem hx) y (HR.out.mem hy)
          have hsw := fun W (hE : Ext wr W) => (HR.out.ext hE).swap hx hy
          have hcf := fun W (hE : Ext wr W) => (⟨(HR.out.ext hE).cell hx, (HR.out.ext hE).cell hy, (HR.out.ext hE).frozen (jp + 1), (HR.out.ext hE).frozen jp⟩ : _ ∧ _ ∧ _ ∧ _)
          have hex := fun W (hE : Ext wr W) => HR.out.ext hE
          have hij : jN < iN := by omega
          rw [hjp, ← hiN, ← hjN] at hcf
          have hsw2 := fun W (hE : Ext wr W) => (show InR 41 W0 B blk cap enc d0 ((W.setCell ⟨blk, iN, none⟩ (enc y)).setCell ⟨blk, jN, none⟩ (enc x)) ((dj.set (jp + 1) y).set jp x) by rw [hiN, hjN, ← hjp]; exact hsw W hE)
          have zjp : (j : Int) = (jp : Int) + 1 := by omega
          have hjad : decide ((jp : Int) + 1 > (0 : Int)) = true := decide_eq_true (by omega)
          have hjaz : (0 : Int) < (jp : Int) + 1 := by omega
          have ea : ((jp : Int) + 1).toNat = iN := by omega
          have pa : (0 : Int) ≤ (jp : Int) + 1 := by omega
          have ba : (jp : Int) + 1 < (n : Int) := by omega
          have ra : IntKind.i64.wrap ((jp : Int) + 1) = (jp : Int) + 1 := by rw [IntKind.wrap_i64]; omega
          have ec : ((jp : Int)).toNat = jN := by omega
          have pc : (0 : Int) ≤ (jp : Int) := by omega
          have bc : (jp : Int) < (n : Int) := by omega
          have rc : IntKind.i64.wrap ((jp : Int)) = (jp : Int) := by rw [IntKind.wrap_i64]; omega
          have Hx := Lib.hid hx; have Hy := Lib.hid hy; have Hcm := Lib.hid hcm; have Hsw := Lib.hid hsw2; have Hcf := Lib.hid hcf; have Hex := Lib.hid hex; have HiN := Lib.hid hiN; have HjN := Lib.hid hjN
          clear hx hy hcm hsw hsw2 hcf hex hjl hiN hjN HR
          by_cases hxy : key x < key y
          · have hxy2 : key x ≤ key y := Rat.le_of_lt hxy
            have Hxy := Lib.hid hxy; have Hxy2 := Lib.hid hxy2; clear hxy hxy2
            go_wp2_with fail
            go_region_held3 (fun w' => Ext wr w' ∧ w'.cell? ⟨blk, iN, none⟩ = some (enc x) ∧ w'.cell? ⟨blk, jN, none⟩ = some (enc y))
              (first | (with_reducible assumption) | exact ⟨(Ext.refl wr).drew, c1, c2⟩)
              (first | (go_at_fn g; refine (Hcm.out _ (And.left (by assumption))).mono ?_; rintro e9 VA ⟨⟨z, rfl, hz⟩, hxa⟩; have hEA := ((Ext.refl wr).drew).trans hxa; have hS2 : Ext wr VA ∧ VA.cell? ⟨blk, iN, none⟩ = some (enc x) ∧ VA.cell? ⟨blk, jN, none⟩ = some (enc y) := ⟨hEA, hEA.cell c1, hEA.cell c2⟩; have hz1 : z < 0 := hz.2 Hxy.out; have hz2 : decide (z < 0) = true := decide_eq_true hz1; have HEA := Lib.hid hEA; clear hxa hEA hz))
            all_goals
              clear hS2 c1 c2
              obtain ⟨k1, k2, k3, k4⟩ := Hcf.out VA HEA.out
              have S3 := Lib.hid (Hsw.out VA HEA.out)
              have c3 : ∃ u, (VA.setCell ⟨blk, iN, none⟩ (enc y)).cell? ⟨blk, jN, none⟩ = some u := by
                rw [World.cell?_setCell_other _ _ _ _ (by intro e'; simp only [Addr.mk.injEq] at e'; omega)]
                exact ⟨_, k2⟩
              obtain ⟨u3, c3⟩ := c3
              go_wp2_with fail
              go_big_region_o
              have S4 := Lib.hid (S3.out.ext ((Ext.refl _).drew))
              have HA2 := Lib.hid (s_swap (show SAt key dj i (jp + 1) by rw [hjp]; exact HA.out) Hx.out Hy.out Hxy2.out)
              clear c3 k1 k2 k3 k4 S3
              generalize ((VA.setCell ⟨blk, iN, none⟩ (enc y)).setCell ⟨blk, jN, none⟩ (enc x)).drew = w3 at S4 ⊢
              clear ea ec
              go_wp2_with fail
              go_roundw
              case rel => exact ⟨jp, (dj.set (jp + 1) y).set jp x, by first | rfl | go_num | (congr 1; omega), by omega, HA2, S4⟩
              case measure => simp [intOf]; omega
          · have Hxy := Lib.hid (Rat.not_lt.1 hxy); have hxy2 := Lib.hid hxy; clear hxy
            go_wp2_with fail
            go_region_held3 (fun w' => Ext wr w' ∧ w'.cell? ⟨blk, iN, none⟩ = some (enc x) ∧ w'.cell? ⟨blk, jN, none⟩ = some (enc y))
              (first | (with_reducible assumption) | exact ⟨(Ext.refl wr).drew, c1, c2⟩)
              (first | (go_at_fn g; refine (Hcm.out _ (And.left (by assumption))).mono ?_; rintro e9 VA ⟨⟨z, rfl, hz⟩, hxa⟩; have hEA := ((Ext.refl wr).drew).trans hxa; have hS2 : Ext wr VA ∧ VA.cell? ⟨blk, iN, none⟩ = some (enc x) ∧ VA.cell? ⟨blk, jN, none⟩ = some (enc y) := ⟨hEA, hEA.cell c1, hEA.cell c2⟩; have hz1 : ¬ z < 0 := fun h => hxy2.out (hz.1 h); have hz2 : decide (z < 0) = false := decide_eq_false hz1; have HEA := Lib.hid hEA; clear hxa hEA hz))
            all_goals
              clear hS2 c1 c2
              have S4 := Lib.hid (Hex.out VA HEA.out)
              have HS2 := Lib.hid (s_end (show SAt key dj i (jp + 1) by rw [hjp]; exact HA.out) Hx.out Hy.out Hxy.out)
              clear ea ec
              go_wp2_with fail
              go_roundw
              case rel => exact ⟨i + 1, dj, by go_num, by omega, .inl (by omega), HS2, S4⟩
              case measure => simp [intOf]; omega
        · obtain rfl : j = 0 := by omega
          have hjaz : decide (((0 : Nat) : Int) > (0 : Int)) = false := by decide
          have hjaz' : ¬ ((0 : Nat) : Int) > (0 : Int) := by decide
          have HS2 := Lib.hid (s_end0 HA.out)
          go_wp2_with fail
          go_big_region_o
          have S4 := Lib.hid (HR.out.ext ((Ext.refl _).drew))
          clear HR
          generalize wr.drew = w3 at S4 ⊢
          go_wp2_with fail
          go_roundw
          case rel => exact ⟨i + 1, dj, by go_num, by omega, .inl (by omega), HS2, S4⟩
          case measure => simp [intOf]; omega
    · have hkk : ¬ (i : Int) < (n : Int) := by omega
      go_wp2
      go_end0
      refine ⟨rfl, dk, HR.out, ?_⟩
      have hS : STo key dk dk.length := by
        rw [HR.out.len, Hn.out]
        intro a b x y h1 h2
        exact HS.out a b x y h1 (by omega)
      exact s_pairwise hS
end Go.Proofs.YtaakmdjicocjpaaGreatDoor
