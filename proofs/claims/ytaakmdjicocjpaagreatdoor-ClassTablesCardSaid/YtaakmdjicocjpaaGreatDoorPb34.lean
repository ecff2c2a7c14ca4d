/- Walks: law 32's sizes of a class. Walks: two sizes of a class subtract. What the laws of worlds begin with: a world in its box. Walk: scale.Steps of a right scale. -/
import Derived.Test.YtaakmdjicocjpaaGreatDoorPb33
import Derived.Test.YtaakmdjicocjpaaGreatDoorPb18
import Derived.Test.YtaakmdjicocjpaaGreatDoorPb22
set_option maxRecDepth 100000
set_option maxHeartbeats 4000000
namespace Go.Proofs.YtaakmdjicocjpaaGreatDoor
open Go.RowKit Go.Lib Go.Shelf
attribute [local go_sem] Oper.semAt_some
/-- Put in order, by the place. -/
theorem insQ_at {p : List Int} {x : List Rat} : ∀ {l : List (List Rat)} {a : Nat}, a ≤ l.length → (∀ y ∈ l.take a, sF p y < sF p x) → (∀ y, l[a]? = some y → ¬ sF p y < sF p x) → (∀ y, l[a]? = some y → y ≠ x) → insQ p x l = l.take a ++ x :: l.drop a
  | [], a, ha, _, _, _ => by
    obtain rfl : a = 0 := by simpa using ha
    rfl
  | y :: t, 0, _, _, h2, h3 => by
    unfold insQ
    rw [if_neg (h2 y rfl), if_neg (h3 y rfl)]
    rfl
  | y :: t, a + 1, ha, h1, h2, h3 => by
    unfold insQ
    rw [if_pos (h1 y (by simp)), insQ_at (l := t) (a := a) (by simpa using ha) (fun z hz => h1 z (by simp [hz])) (fun z hz => h2 z (by simpa using hz)) (fun z hz => h3 z (by simpa using hz))]
    rfl
theorem insQ_old {p : List Int} {x : List Rat} : ∀ {l : List (List Rat)} {a : Nat}, (∀ y ∈ l.take a, sF p y < sF p x) → l[a]? = some x → insQ p x l = l
  | [], a, _, h => by simp at h
  | y :: t, 0, _, h => by
    have : y = x := by simpa using h
    subst this
    unfold insQ
    rw [if_neg (by grind), if_pos rfl]
  | y :: t, a + 1, h1, h => by
    unfold insQ
    rw [if_pos (h1 y (by simp)), insQ_old (l := t) (a := a) (fun z hz => h1 z (by simp [hz])) (by simpa using h)]
theorem own_zero (w : World) : ((w.alloc (.cells #[] 41)).drew).ownsRow w.heap.size 41 1 (.slice (some ⟨w.heap.size, 0, none⟩) 0 0) 0 [] :=
  ⟨rfl, .inr ⟨w.heap.size, 0, #[], rfl, Nat.le_refl _, World.alloc_heap_new w _, Nat.le_refl _, by unfold maxLen; omega, rfl, rfl⟩⟩
theorem own_zero2 (w : World) (o : Obj) : ((w.alloc (.cells #[] 41)).alloc o).drew.ownsRow w.heap.size 41 1 (.slice (some ⟨w.heap.size, 0, none⟩) 0 0) 0 [] :=
  ⟨rfl, .inr ⟨w.heap.size, 0, #[], rfl, Nat.le_refl _, ((Ext.refl (w.alloc (.cells #[] 41))).alloc o).heap (World.alloc_heap_new w _), Nat.le_refl _, by unfold maxLen; omega, rfl, rfl⟩⟩
theorem own_zero3 (w : World) (o : Obj) : ((w.alloc o).alloc (.cells #[] 41)).drew.ownsRow w.heap.size 41 1 (.slice (some ⟨w.heap.size + 1, 0, none⟩) 0 0) 0 [] := by
  have h := World.alloc_heap_new (w.alloc o) (.cells #[] 41)
  rw [World.size_alloc] at h
  exact ⟨rfl, .inr ⟨w.heap.size + 1, 0, #[], rfl, Nat.le_succ _, h, Nat.le_refl _, by unfold maxLen; omega, rfl, rfl⟩⟩
theorem cell_one_at {w : World} {b : Nat} {x : Value} {t : TypeId} (h : w.heap[b]? = some (.cells #[x] t (0, 0))) : ∀ j u, [x][j]? = some u → w.cell? ((⟨b, 0, none⟩ : Addr).add j) = some u := World.news_of_block h
theorem addr_add2 (g a j : Nat) : ((⟨g, 0, none⟩ : Addr).add (a + j)) = (⟨g, a, none⟩ : Addr).add j := by
  rw [show (⟨g, 0, none⟩ : Addr).add (a + j) = ⟨g, a + j, none⟩ by unfold Addr.add; split <;> simp_all, show (⟨g, a, none⟩ : Addr).add j = ⟨g, a + j, none⟩ by unfold Addr.add; split <;> simp_all]
theorem own_capm {w : World} {B : Nat} {a : Option Addr} {E s k c n : Nat} {xs : List Value} (h : w.ownsRow B E s (.slice a k c) n xs) : n ≤ c ∧ c ≤ maxLen := by
  rcases h.2 with ⟨e0, h0⟩ | ⟨g, cap, cur, e0, _, _, h1, h2, _⟩
  · injection e0 with _ e2 e3; subst e3; exact ⟨by omega, Nat.zero_le _⟩
  · injection e0 with _ e2 e3; subst e3; exact ⟨h1, h2⟩
theorem lsr_ins {W0 W V : World} {out : List Qw} {a ln : Nat} {vo v u : Value} {x : List Rat} (hq : QwM W W0.heap.size W0.heap.size vo out) (hE : Ext W0 W) (ho : OwnQ W W0.heap.size u x) (hln : out.length = ln) (ha : a ≤ ln) (hX : Ext W V)
    (hrow : V.ownsRow W.heap.size 41 1 v (a + 1 + (ln - a)) ((qwc out).take a ++ [u] ++ (qwc out).drop a)) :
    ∃ outn : List Qw, QwM V W0.heap.size W0.heap.size v outn ∧ outn.map Qw.x = (out.map Qw.x).take a ++ x :: (out.map Qw.x).drop a ∧ Ext W0 V := by
  have hl : (out.take a ++ (⟨x, u, rd_one ho.rd⟩ : Qw) :: out.drop a).length = a + 1 + (ln - a) := by
    rw [List.length_append, List.length_cons, List.length_take, List.length_drop]
    omega
  refine ⟨out.take a ++ ⟨x, u, rd_one ho.rd⟩ :: out.drop a, ⟨?_, fun r hr => ?_⟩, by simp, hE.trans hX⟩
  · rw [hl]
    have := own_mono hrow hE.size
    unfold qwc at this ⊢
    rw [List.map_append, List.map_cons, List.map_take, List.map_drop]
    rw [List.append_assoc] at this
    exact this
  · rcases List.mem_append.1 hr with h | h
    · exact hX.ownQ (hq.2 r (List.mem_of_mem_take h))
    · rcases List.mem_cons.1 h with h | h
      · subst h
        exact hX.ownQ ho
      · exact hX.ownQ (hq.2 r (List.mem_of_mem_drop h))
/-- The list of sizes under way. -/
def LsR (W0 : World) (p : List Int) (N : List (List Rat)) (d : Int) (i : Nat) (v : Value) (wr : World) : Prop := ∃ out : List Qw, QwM wr W0.heap.size W0.heap.size v out ∧ out.map Qw.x = clsN p N d i ∧ Ext W0 wr
theorem lsizes_c (v : Value) (p : List Int) (rs : List Qw) (d : Nat) (w : World) (he : Env w) (hv : ScV w v p rs) (h : Wc p (rs.map Qw.x)) (hd1 : d ≤ rs.length) :
    Calls Tryz.prog 19 #[v, .int .i64 (d : Int)] w fun e w' => ∃ u, e = .returned u ∧ ∃ out, QwM w' w.heap.size w.heap.size u out ∧ out.map Qw.x = cls p (rs.map Qw.x) (d : Int) ∧ Ext w w' := by
  obtain ⟨j0, hj, hy0, hy1, hy2⟩ := info_parts info_size
  have hL : (rs.map Qw.x).length = rs.length := List.length_map ..
  have hfew := h.wd.few
  have hpos := h.wd.pos
  rw [hL] at hfew hpos
  have hpe : primesErr p = 0 ∧ p.length ≤ 100 := by rcases h.wd.pr with ⟨e, _⟩ | ⟨e, _⟩ <;> rw [e] <;> decide
  have hiv := fun (i : Nat) (hi : i ≤ 100) W (hE : Ext w W) => interval_c v p rs i d W (he.ext hE) (hv.ext hE) h hi (by omega)
  have hle := fun (i j : Nat) va vb W (hE : Ext w W) (ha : Rd W va (iv p (rs.map Qw.x) (j : Int) (d : Int))) (hb : Rd W vb (iv p (rs.map Qw.x) (i : Int) (d : Int))) => less32_c v va vb p rs _ _ W (he.ext hE) (hv.ext hE) hpe.1 hpe.2 ha hb (h.ivlen _ _) (h.ivlen _ _) (h.iv_quick (by omega) (by rw [hL]; omega)).1 (h.iv_quick (by omega) (by rw [hL]; omega)).1 (h.iv_sub_quick (by omega) (by rw [hL]; omega) (by omega) (by rw [hL]; omega))
  simp only [h.iv_sgn] at hle
  have hil := fun (i : Nat) => h.ivlen (i : Int) (d : Int)
  have hcn := fun (i : Nat) => clsN_len (p := p) (N := rs.map Qw.x) (d := (d : Int)) i
  have hcm := fun (i : Nat) x => (clsN_mem (p := p) (N := rs.map Qw.x) (d := (d : Int)) (n := i) (x := x)).1
  have hcs : ∀ i : Nat, clsN p (rs.map Qw.x) (d : Int) (i + 1) = insQ p (iv p (rs.map Qw.x) (i : Int) (d : Int)) (clsN p (rs.map Qw.x) (d : Int) i) := fun i => rfl
  have hfin : clsN p (rs.map Qw.x) (d : Int) rs.length = cls p (rs.map Qw.x) (d : Int) := by unfold cls; rw [hL]
  obtain ⟨vp, vn, rfl, hp, hs, hmr⟩ := hv
  obtain ⟨ap, cp, rfl, _, _, _⟩ := hp.parts
  obtain ⟨an, cn, rfl, _, _, _⟩ := hs.parts
  rw [i64s_length] at *
  rw [qwc_length] at *
  generalize rs.length = n at *
  have hE0 : Ext w (w.alloc (.cells #[.slice ap p.length cp, .slice an n cn] 32)) := (Ext.refl w).alloc _
  have b1 := BoxT.new 32 w (.slice ap p.length cp) (.slice an n cn)
  have Hiv := Lib.hid hiv; have Hle := Lib.hid hle; have Hil := Lib.hid hil; have Hcn := Lib.hid hcn; have Hcm := Lib.hid hcm; have Hcs := Lib.hid hcs; have Hfin := Lib.hid hfin; have HE0 := Lib.hid hE0; have B1 := Lib.hid b1; have Hpl := Lib.hid hpe.2
  clear hiv hle hil hcn hcm hcs hfin hE0 b1 hp hs hmr he h hpe hL
  go_enter Tryz.func19, Tryz.ntmps19
  go_wp2_with fail
  generalize w.alloc (.cells #[.slice ap p.length cp, .slice an n cn] 32) = W0 at *
  go_loopw [5, 6, 7, 8] (fun v5 v6 v7 v8 wr => ∃ i : Nat, v6 = .int .i64 (i : Int) ∧ i ≤ n ∧ LsR W0 p (rs.map Qw.x) (d : Int) i v5 wr) (fun _ v6 _ _ _ => n - (intOf v6).toNat)
  case atStart => exact ⟨0, rfl, Nat.zero_le _, [], QwM.nil _ _ _, rfl, Ext.refl _⟩
  case round =>
    obtain ⟨i, rfl, hi, ⟨out, hq, hm, hE⟩⟩ := hrel
    obtain ⟨a5, c5, rfl⟩ := own_shape hq.1
    have hol : out.length ≤ i := by
      have := congrArg List.length hm
      rw [List.length_map] at this
      rw [this]
      exact Hcn.out i
    have q0 := (B1.out.ext hE).c0
    have q1 := (B1.out.ext hE).c1
    by_cases hin : i < n
    · have hik : (i : Int) < (n : Int) := by omega
      have hvi := Hiv.out i (by omega) wr (HE0.out.trans hE)
      have Hvi := Lib.hid hvi; have Hq := Lib.hid hq; have Hm := Lib.hid hm; have HE := Lib.hid hE
      clear hvi hq hm hE
      go_wp2_with fail
      refine Hvi.out.mono ?_
      rintro e w2 ⟨ux, rfl, hox, hx2⟩
      obtain ⟨ax, cx, rfl⟩ : ∃ a c, ux = .slice a p.length c := by
        obtain ⟨a, c, e⟩ := own_shape hox
        exact ⟨a, c, by rw [e, Hil.out]⟩
      have hox2 := hox.mono HE.out.size
      have hE2 := HE.out.trans hx2
      have hq2 := hx2.qwM Hq.out
      have hel : ∀ (a : Nat), a < out.length → ∃ (g c : Nat) (r : Qw) (ar : Option Addr) (cr : Nat) (j : Nat), a5 = some ⟨g, 0, none⟩ ∧ out[a]? = some r ∧ r.u = .slice ar p.length cr ∧ w2.cell? ⟨g, a, none⟩ = some (.slice ar p.length cr) ∧ OwnQ w2 W0.heap.size (.slice ar p.length cr) r.x ∧ r.x = iv p (rs.map Qw.x) (j : Int) (d : Int) ∧ c = c5 := fun a ha => by
        obtain ⟨g, c, e, hcell⟩ := own_slice hq2.1 (by omega)
        injection e with e1 _ e3
        obtain ⟨r, hr⟩ : ∃ r, out[a]? = some r := ⟨_, List.getElem?_eq_getElem ha⟩
        have hrm : r.x ∈ clsN p (rs.map Qw.x) (d : Int) i := by rw [← Hm.out]; exact List.mem_map_of_mem (List.mem_of_getElem? hr)
        obtain ⟨j, _, ej⟩ := Hcm.out i _ hrm
        have hro := hq2.2 r (List.mem_of_getElem? hr)
        obtain ⟨ar, cr, eu⟩ := own_shape hro
        rw [ej, Hil.out] at eu
        have hcl := hcell a r.u (by unfold qwc; rw [List.getElem?_map, hr]; rfl)
        rw [eu] at hcl hro
        exact ⟨g, c, r, ar, cr, j, e1, hr, eu, hcl, hro, ej, e3.symm⟩
      have Hox := Lib.hid hox2; have HE2 := Lib.hid hE2; have Hq2 := Lib.hid hq2; have Hel := Lib.hid hel
      have Hcsi := Lib.hid (Hcs.out i)
      have Hli := Lib.hid (fun (j : Nat) va W (hE : Ext w2 W) (ha : Rd W va (iv p (rs.map Qw.x) (j : Int) (d : Int))) => Hle.out i j va (.slice ax p.length cx) W ((HE0.out.trans hE2).trans hE) ha (hE.rd hox2.rd))
      clear hox hox2 hE2 hq2 hel hx2 q0 q1
      generalize hX : iv p (rs.map Qw.x) (i : Int) (d : Int) = X at *
      have HX := Lib.hid hX
      clear hX
      generalize hLn : out.length = ln at *
      have HLn := Lib.hid hLn
      clear hLn
      go_wp2_with fail
      go_loopw [8] (fun v8 wr => ∃ a : Nat, v8 = .int .i64 (a : Int) ∧ a ≤ ln ∧ Hid (∀ y ∈ (out.map Qw.x).take a, sF p y < sF p X) ∧ Hid (Ext w2 wr)) (fun v8 _ => ln - (intOf v8).toNat)
      case atStart => exact ⟨0, rfl, Nat.zero_le _, Lib.hid (fun y hy => by simp at hy), Lib.hid (Ext.refl _)⟩
      case round =>
        obtain ⟨a, rfl, ha, Hlt, HEa⟩ := hrel
        have hb1 := B1.out.ext (HE2.out.trans HEa.out)
        have q0 := hb1.c0
        have q1 := hb1.c1
        by_cases hal : a < ln
        case' pos =>
          have halz : (a : Int) < (ln : Int) := by omega
          have ha0 : (0 : Int) ≤ (a : Int) := by omega
          obtain ⟨g, _, r, ar, cr, j, rfl, hr, hu, hc, hro, hrx, _⟩ := Hel.out a hal
          have hc1 := HEa.out.cell hc
          have hd0 : decide ((a : Int) < (ln : Int)) = true := decide_eq_true halz
          have hS : ∀ W, Ext wr W → Ext wr W ∧ W.cell? ⟨w.heap.size, 0, none⟩ = some (.slice ap p.length cp) ∧ W.cell? ⟨w.heap.size, 1, none⟩ = some (.slice an n cn) ∧ W.cell? ⟨g, a, none⟩ = some (.slice ar p.length cr) := fun W hW => ⟨hW, (hb1.ext hW).c0, (hb1.ext hW).c1, hW.cell hc1⟩
          have hcal := Hli.out j (.slice ar p.length cr) wr.drew HEa.out.drew (by rw [← hrx]; exact (HEa.out.drew.ownQ hro).rd)
          have HS := Lib.hid hS; have Hc := Lib.hid hc; have Hr := Lib.hid hr; have Hro := Lib.hid hro; have Hu := Lib.hid hu; have Hrx := Lib.hid hrx; have Hb1 := Lib.hid hb1
          obtain ⟨_, e0, e1, e2⟩ := hS _ (Ext.refl wr).drew
          clear hS hc hr hro hu hb1
          by_cases hlt : sF p r.x < sF p X
          case' pos =>
            have hsg : sgQ (sF p (iv p (rs.map Qw.x) (j : Int) (d : Int)) - sF p X) < 0 := by rw [sgQ_neg_iff, ← hrx]; grind
            rw [decide_eq_true hsg] at hcal
            have Hcal := Lib.hid hcal; have HLt := Lib.hid hlt
            clear hcal hsg hrx hlt q0 q1
            go_wp2_with fail
            go_region_held3 (fun w' => Ext wr w' ∧ w'.cell? ⟨w.heap.size, 0, none⟩ = some (.slice ap p.length cp) ∧ w'.cell? ⟨w.heap.size, 1, none⟩ = some (.slice an n cn) ∧ w'.cell? ⟨g, a, none⟩ = some (.slice ar p.length cr))
              (first | (with_reducible assumption) | exact HS.out _ (Ext.refl wr).drew | exact HS.out _ ((Ext.refl wr).drew.trans HxA.out))
              (first
                | (go_at_call 26
                   refine Hcal.out.mono ?_
                   rintro e9 VA ⟨rfl, hxa⟩
                   have HxA := Lib.hid hxa
                   clear hxa))
            have HEn := Lib.hid (HEa.out.trans ((Ext.refl wr).drew.trans HxA.out))
            clear e0 e1 e2
            go_wp2_with fail
            go_roundw
            case rel => exact ⟨a + 1, by go_num, by omega, Lib.hid (fun y hy => by
              rw [List.take_add_one, List.getElem?_map, Hr.out] at hy
              rcases List.mem_append.1 hy with g | g
              · exact Hlt.out y g
              · have : y = r.x := by simpa using g
                rw [this]; exact HLt.out), HEn⟩
            case measure => simp [intOf]; omega
          case' neg =>
            have hsg : ¬ sgQ (sF p (iv p (rs.map Qw.x) (j : Int) (d : Int)) - sF p X) < 0 := by rw [sgQ_neg_iff, ← hrx]; grind
            rw [decide_eq_false hsg] at hcal
            have Hcal := Lib.hid hcal; have HLt := Lib.hid hlt
            have hsm := fun W (hE : Ext wr W) => lSame24_c (.slice ar p.length cr) (.slice ax p.length cx) r.x X W (hE.rd (HEa.out.rd Hro.out.rd)) (hE.rd (HEa.out.rd Hox.out.rd)) (by rw [Hrx.out, Hil.out]; have := Hpl.out; omega) (by rw [← HX.out, Hil.out]; have := Hpl.out; omega)
            have Hsm := Lib.hid hsm
            clear hcal hsg hrx hlt q0 q1 hsm
            go_wp2_with fail
            go_region_held3 (fun w' => Ext wr w' ∧ w'.cell? ⟨w.heap.size, 0, none⟩ = some (.slice ap p.length cp) ∧ w'.cell? ⟨w.heap.size, 1, none⟩ = some (.slice an n cn) ∧ w'.cell? ⟨g, a, none⟩ = some (.slice ar p.length cr))
              (first | (with_reducible assumption) | exact HS.out _ (Ext.refl wr).drew | exact HS.out _ ((Ext.refl wr).drew.trans HxA.out))
              (first
                | (go_at_call 26
                   refine Hcal.out.mono ?_
                   rintro e9 VA ⟨rfl, hxa⟩
                   have HxA := Lib.hid hxa
                   clear hxa))
            have hxn := (Ext.refl wr).drew.trans HxA.out
            have hcn2 := hxn.cell (HEa.out.cell Hc.out)
            have HEn := Lib.hid (HEa.out.trans hxn)
            have hsm := Hsm.out VA hxn
            clear e0 e1 e2 hxn
            by_cases hrX : r.x = X
            case' pos =>
              rw [decide_eq_true hrX] at hsm
              have Hsm2 := Lib.hid hsm; have HrX := Lib.hid hrX
              clear hsm hrX
              go_wp2_with fail
              refine Hsm2.out.mono ?_
              rintro e w5 ⟨rfl, hx5⟩
              have HE5 := Lib.hid (HE2.out.trans (HEn.out.trans hx5))
              have HE25 := Lib.hid (HEn.out.trans hx5)
              clear hx5 hcn2
              go_wp2_with fail
              go_roundw
              case rel => exact ⟨i + 1, by go_num, by omega, out, HE25.out.qwM Hq2.out, by rw [Hcsi.out, Hm.out]; exact (insQ_old (a := a) (by rw [← Hm.out]; exact Hlt.out) (by rw [← Hm.out, List.getElem?_map, Hr.out, ← HrX.out]; rfl)).symm, HE5.out⟩
              case measure => simp [intOf]; omega
            case' neg =>
              rw [decide_eq_false hrX] at hsm
              have Hsm2 := Lib.hid hsm; have HrX := Lib.hid hrX
              clear hsm hrX
              go_wp2_with fail
              refine Hsm2.out.mono ?_
              rintro e w5 ⟨rfl, hx5⟩
              have HE25 := Lib.hid (HEn.out.trans hx5)
              clear hx5 hcn2
              have Hno1 : Hid (∀ y, (out.map Qw.x)[a]? = some y → ¬ sF p y < sF p X) := Lib.hid fun y hy => by
                rw [List.getElem?_map, Hr.out] at hy
                cases hy
                exact HLt.out
              have Hno2 : Hid (∀ y, (out.map Qw.x)[a]? = some y → y ≠ X) := Lib.hid fun y hy => by
                rw [List.getElem?_map, Hr.out] at hy
                cases hy
                exact HrX.out
              clear Hr HLt HrX
        case' neg =>
          have halz : ¬ (a : Int) < (ln : Int) := by omega
          have hd0 : decide ((a : Int) < (ln : Int)) = false := decide_eq_false halz
          have Hno1 : Hid (∀ y, (out.map Qw.x)[a]? = some y → ¬ sF p y < sF p X) := Lib.hid fun y hy => by
            rw [List.getElem?_eq_none (by rw [List.length_map, HLn.out]; omega)] at hy
            cases hy
          have Hno2 : Hid (∀ y, (out.map Qw.x)[a]? = some y → y ≠ X) := Lib.hid fun y hy => by
            rw [List.getElem?_eq_none (by rw [List.length_map, HLn.out]; omega)] at hy
            cases hy
          go_wp2_with fail
          go_quiet (fail)
          have HE25 := Lib.hid (HEa.out.drewN nq)
          generalize wr.drewN nq = w5 at *
          clear q0 q1 HEa hb1
          rcases Hq2.out.1.2 with ⟨e5, _⟩ | ⟨g, cap5, _, e5, _⟩
          case inl =>
            injection e5 with e5 e6 e7
            subst e5
            subst e6
            subst e7
            obtain rfl : a = 0 := by omega
            obtain rfl : out = [] := List.length_eq_zero_iff.1 HLn.out
            have hj9 := Tryz.underlying30
            have hb0 : 0 + 0 ≤ maxLen := by unfold maxLen; omega
            have hb00 : (0 + 0) * 24 ≤ 140737488355328 := by omega
            have hb1 : 0 + 1 ≤ maxLen := by unfold maxLen; omega
            have hb2 : (0 + 1) * 24 ≤ 140737488355328 := by omega
            have hb3 : 1 + 0 ≤ maxLen := by unfold maxLen; omega
            have hb4 : (1 + 0) * 24 ≤ 140737488355328 := by omega
            clear halz hd0 hal
            have k1 : (0 : Int) ≤ ((0 : Nat) : Int) := by omega
            go_wp2_with fail
            have ho0 : ((w5.alloc (.cells #[] 41)).drew).ownsRow w5.heap.size 41 1 (.slice (some ⟨w5.heap.size, 0, none⟩) 0 0) 0 [] := own_zero w5
            have hX0 : Ext w5 ((w5.alloc (.cells #[] 41)).drew) := ((Ext.refl w5).alloc _).drew
            have ho0b : ((w5.alloc (.cells #[] 41)).alloc (.cells #[.slice ax p.length cx] 41)).drew.ownsRow w5.heap.size 41 1 (.slice (some ⟨w5.heap.size, 0, none⟩) 0 0) 0 [] := own_zero2 w5 _
            have hX0b : Ext w5 (((w5.alloc (.cells #[] 41)).alloc (.cells #[.slice ax p.length cx] 41)).drew) := (((Ext.refl w5).alloc _).alloc _).drew
            have hbb0 : (((w5.alloc (.cells #[] 41)).alloc (.cells #[.slice ax p.length cx] 41)).drew).heap[w5.heap.size + 1]? = some (.cells #[.slice ax p.length cx] 41 (0, 0)) := by
              have := World.alloc_heap_new (w5.alloc (.cells #[] 41)) (.cells #[.slice ax p.length cx] 41)
              rw [World.size_alloc] at this
              exact this
            have Ho0b := Lib.hid ho0b; have HX0b := Lib.hid hX0b; have Hbb0 := Lib.hid hbb0; have Hlt0b := Lib.hid (Array.getElem?_eq_some_iff.1 hbb0).1
            clear ho0b hX0b hbb0
            have ho0c : ((w5.alloc (.cells #[.slice ax p.length cx] 41)).alloc (.cells #[] 41)).drew.ownsRow w5.heap.size 41 1 (.slice (some ⟨w5.heap.size + 1, 0, none⟩) 0 0) 0 [] := own_zero3 w5 _
            have hX0c : Ext w5 (((w5.alloc (.cells #[.slice ax p.length cx] 41)).alloc (.cells #[] 41)).drew) := (((Ext.refl w5).alloc _).alloc _).drew
            have hbc0 : (((w5.alloc (.cells #[.slice ax p.length cx] 41)).alloc (.cells #[] 41)).drew).heap[w5.heap.size]? = some (.cells #[.slice ax p.length cx] 41 (0, 0)) := ((Ext.refl (w5.alloc (.cells #[.slice ax p.length cx] 41))).alloc (.cells #[] 41)).heap (World.alloc_heap_new w5 _)
            have Ho0c := Lib.hid ho0c; have HX0c := Lib.hid hX0c; have Hbc0 := Lib.hid hbc0; have Hlt0c := Lib.hid (Array.getElem?_eq_some_iff.1 hbc0).1
            clear ho0c hX0c hbc0
            have Ho0 := Lib.hid ho0; have HX0 := Lib.hid hX0
            clear ho0 hX0
            go_region_law (first
              | (have hpv := Hrow2; clear hpv; refine step_append_any V2 rfl (.tmp 54) (.tmp 57) 30 rfl w5.heap.size 41 j0 (.slice none 0 0) 1 24 hj9 hj hy0 hy1 hy2 rfl (by decide) v2 1 [.slice ax p.length cx] (by simp [Act.eval]) Hrow2.out none 0 0 ([] : List Value) (by simp [Act.eval]) (fun _ => ⟨rfl, rfl⟩) rfl (fun ad h => by cases h) (by simp) hb3 hb4 HX2.out.size ?_; intro v3 V3 hown3 hgrow3; rw [Nat.add_zero, List.append_nil] at hown3; have HX3 := Lib.hid (HX2.out.grown hgrow3 fun j hj => (World.ownsRow.lt Hrow2.out j hj).1); have Hrow3 := Lib.hid hown3; clear hown3 hgrow3)
              | (have hpv := HC1; clear hpv; refine step_append_any V1 rfl (.tmp 51) (.tmp 53) 30 rfl w5.heap.size 41 j0 (.slice none 0 0) 1 24 hj9 hj hy0 hy1 hy2 rfl (by decide) v1 0 [] (by simp [Act.eval]) Hrow1.out (some ⟨w5.heap.size, 0, none⟩) 1 1 [.slice ax p.length cx] (by simp [Act.eval]) (fun h => by cases h) rfl (fun ad h => by cases h; exact cell_one_at HC1.out) (by simp [Value.oneCell']) hb1 hb2 HX1.out.size ?_; intro v2 V2 hown2 hgrow2; rw [Nat.zero_add, List.nil_append] at hown2; have HX2 := Lib.hid (HX1.out.grown hgrow2 fun j hj => (World.ownsRow.lt Hrow1.out j hj).1); have Hrow2 := Lib.hid hown2; clear hown2 hgrow2)
              | (have hpv := HB1; clear hpv; refine step_append_any V1 rfl (.tmp 51) (.tmp 53) 30 rfl w5.heap.size 41 j0 (.slice none 0 0) 1 24 hj9 hj hy0 hy1 hy2 rfl (by decide) v1 0 [] (by simp [Act.eval]) Hrow1.out (some ⟨w5.heap.size + 1, 0, none⟩) 1 1 [.slice ax p.length cx] (by simp [Act.eval]) (fun h => by cases h) rfl (fun ad h => by cases h; exact cell_one_at HB1.out) (by simp [Value.oneCell']) hb1 hb2 HX1.out.size ?_; intro v2 V2 hown2 hgrow2; rw [Nat.zero_add, List.nil_append] at hown2; have HX2 := Lib.hid (HX1.out.grown hgrow2 fun j hj => (World.ownsRow.lt Hrow1.out j hj).1); have Hrow2 := Lib.hid hown2; clear hown2 hgrow2)
              | (have hpv := Hrow1; clear hpv; refine step_append_any (V1.alloc (.cells #[.slice ax p.length cx] 41)) rfl (.tmp 51) (.tmp 53) 30 rfl w5.heap.size 41 j0 (.slice none 0 0) 1 24 hj9 hj hy0 hy1 hy2 rfl (by decide) v1 0 [] (by simp [Act.eval]) (Hrow1.out.alloc _) (some ⟨V1.heap.size, 0, none⟩) 1 1 [.slice ax p.length cx] (by simp [Act.eval]) (fun h => by cases h) rfl (fun ad h => by cases h; exact cell_one_new V1 _ _) (by simp [Value.oneCell']) hb1 hb2 (HX1.out.alloc _).size ?_; intro v2 V2 hown2 hgrow2; rw [Nat.zero_add, List.nil_append] at hown2; have HX2 := Lib.hid ((HX1.out.alloc _).grown hgrow2 fun j hj => (World.ownsRow.lt (Hrow1.out.alloc (.cells #[.slice ax p.length cx] 41)) j hj).1); have Hrow2 := Lib.hid hown2; clear hown2 hgrow2)
              | (refine step_append_any (((w5.alloc (.cells #[.slice ax p.length cx] 41)).alloc (.cells #[] 41)).drew) rfl (.tmp 47) (.tmp 50) 30 rfl w5.heap.size 41 j0 (.slice none 0 0) 1 24 hj9 hj hy0 hy1 hy2 rfl (by decide) (.slice (some ⟨w5.heap.size + 1, 0, none⟩) 0 0) 0 [] (by simp [Act.eval]) Ho0c.out none 0 0 ([] : List Value) (by simp [Act.eval]) (fun _ => ⟨rfl, rfl⟩) rfl (fun ad h => by cases h) (by simp) hb0 hb00 HX0c.out.size ?_; intro v1 V1 hown1 hgrow1; rw [Nat.zero_add, List.nil_append] at hown1; have HX1 := Lib.hid (HX0c.out.grown hgrow1 fun j hj => (World.ownsRow.lt Ho0c.out j hj).1); have Hrow1 := Lib.hid hown1; have HC1 := Lib.hid ((hgrow1.block w5.heap.size Hlt0c.out (by simp [Value.ownBlock])).trans Hbc0.out); clear hown1 hgrow1)
              | (refine step_append_any (((w5.alloc (.cells #[] 41)).alloc (.cells #[.slice ax p.length cx] 41)).drew) rfl (.tmp 47) (.tmp 50) 30 rfl w5.heap.size 41 j0 (.slice none 0 0) 1 24 hj9 hj hy0 hy1 hy2 rfl (by decide) (.slice (some ⟨w5.heap.size, 0, none⟩) 0 0) 0 [] (by simp [Act.eval]) Ho0b.out none 0 0 ([] : List Value) (by simp [Act.eval]) (fun _ => ⟨rfl, rfl⟩) rfl (fun ad h => by cases h) (by simp) hb0 hb00 HX0b.out.size ?_; intro v1 V1 hown1 hgrow1; rw [Nat.zero_add, List.nil_append] at hown1; have HX1 := Lib.hid (HX0b.out.grown hgrow1 fun j hj => (World.ownsRow.lt Ho0b.out j hj).1); have Hrow1 := Lib.hid hown1; have HB1 := Lib.hid ((hgrow1.block (w5.heap.size + 1) Hlt0b.out (by simp [Value.ownBlock])).trans Hbb0.out); clear hown1 hgrow1)
              | (refine step_append_any ((w5.alloc (.cells #[] 41)).drew) rfl (.tmp 47) (.tmp 50) 30 rfl w5.heap.size 41 j0 (.slice none 0 0) 1 24 hj9 hj hy0 hy1 hy2 rfl (by decide) (.slice (some ⟨w5.heap.size, 0, none⟩) 0 0) 0 [] (by simp [Act.eval]) Ho0.out none 0 0 ([] : List Value) (by simp [Act.eval]) (fun _ => ⟨rfl, rfl⟩) rfl (fun ad h => by cases h) (by simp) hb0 hb00 HX0.out.size ?_; intro v1 V1 hown1 hgrow1; rw [Nat.zero_add, List.nil_append] at hown1; have HX1 := Lib.hid (HX0.out.grown hgrow1 fun j hj => (World.ownsRow.lt Ho0.out j hj).1); have Hrow1 := Lib.hid hown1; clear hown1 hgrow1))
            all_goals
              have Hfin9 := Lib.hid (lsr_ins (HE25.out.qwM Hq2.out) (HE2.out.trans HE25.out) (HE25.out.ownQ Hox.out) HLn.out ha HX3.out Hrow3.out)
              go_wp2_with fail
              go_roundw
              case rel =>
                obtain ⟨outn, h1, h2, h3⟩ := Hfin9.out
                exact ⟨i + 1, by go_num, by omega, outn, h1, by rw [h2, Hcsi.out, ← Hm.out]; exact (insQ_at (by rw [List.length_map, HLn.out]; exact ha) Hlt.out Hno1.out Hno2.out).symm, h3⟩
              case measure => simp [intOf]; omega
          case' inr =>
            injection e5 with e5 e6 e7
            subst e5
            clear e6 e7
            go_wp2_with fail
            clear halz hd0
        all_goals
          have Hcapf : Hid (ln ≤ c5 ∧ c5 ≤ maxLen) := Lib.hid (by
            have := own_capm Hq2.out.1
            rw [HLn.out] at this
            exact this)
          have htk1 : ((qwc out).take a).length = a * 1 := by rw [List.length_take, qwc_length, HLn.out]; omega
          have hone1 : ∀ u ∈ (qwc out).take a, u.oneCell' = true := fun u hu => by
            obtain ⟨r, _, rfl⟩ := List.mem_map.1 (List.mem_of_mem_take hu)
            exact r.hu
          have hrc := fun j u h => HE25.out.cell (Hq2.out.1.cells (g := g) rfl j u h)
          have hnw1 : ∀ W, Ext w5 W → ∀ j u, ((qwc out).take a)[j]? = some u → W.cell? ((⟨g, 0, none⟩ : Addr).add j) = some u := fun W hW j u hu => by
            have hja : j < a := by
              have := (List.getElem?_eq_some_iff.1 hu).1
              rw [List.length_take] at this
              omega
            rw [List.getElem?_take_of_lt hja] at hu
            exact hW.cell (hrc j u hu)
          have hb0 : 0 + a ≤ maxLen := by unfold maxLen; omega
          have hb00 : (0 + a) * 24 ≤ 140737488355328 := by omega
          have hb1 : a + 1 ≤ maxLen := by unfold maxLen; omega
          have hb2 : (a + 1) * 24 ≤ 140737488355328 := by omega
          have hj9 := Tryz.underlying30
          obtain ⟨AD, hAD⟩ : ∃ AD : Addr, (if c5 = a then some (⟨g, 0, none⟩ : Addr) else some ⟨g, a, none⟩) = some AD := by
            by_cases hca : c5 = a
            · exact ⟨_, if_pos hca⟩
            · exact ⟨_, if_neg hca⟩
          have htk3 : ((qwc out).drop a).length = (ln - a) * 1 := by rw [List.length_drop, qwc_length, HLn.out]; omega
          have hone3 : ∀ u ∈ (qwc out).drop a, u.oneCell' = true := fun u hu => by
            obtain ⟨r, _, rfl⟩ := List.mem_map.1 (List.mem_of_mem_drop hu)
            exact r.hu
          have hnw3 : ∀ W, Ext w5 W → ∀ j u, ((qwc out).drop a)[j]? = some u → W.cell? (AD.add j) = some u := fun W hW j u hu => by
            rw [List.getElem?_drop] at hu
            have hlt := (List.getElem?_eq_some_iff.1 hu).1
            rw [qwc_length, HLn.out] at hlt
            rw [if_neg (by have := Hcapf.out; omega)] at hAD
            injection hAD with hAD
            subst hAD
            have := hW.cell (hrc (a + j) u hu)
            rwa [addr_add2] at this
          have hb3 : a + 1 + (ln - a) ≤ maxLen := by unfold maxLen; omega
          have hb4 : (a + 1 + (ln - a)) * 24 ≤ 140737488355328 := by omega
          have Htk3 := Lib.hid htk3; have Hone3 := Lib.hid hone3; have Hnw3 := Lib.hid hnw3
          clear htk3 hone3 hnw3 hrc
          have Htk1 := Lib.hid htk1; have Hone1 := Lib.hid hone1; have Hnw1 := Lib.hid hnw1
          clear htk1 hone1 hnw1
          go_wp2_with fail
          have hcap : ln ≤ c5 ∧ c5 ≤ maxLen := by
            have := Hcapf.out
            exact this
          have k1 : (a : Int) ≤ (c5 : Int) := by omega
          have k2 : a ≤ c5 := by omega
          have k3 : (a : Int) ≤ (ln : Int) := by omega
          have k4 : (ln : Int) ≤ (c5 : Int) := by omega
          have Hcap := Lib.hid hcap
          clear hcap
          have ho0 : ((w5.alloc (.cells #[] 41)).drew).ownsRow w5.heap.size 41 1 (.slice (some ⟨w5.heap.size, 0, none⟩) 0 0) 0 [] := own_zero w5
          have hX0 : Ext w5 ((w5.alloc (.cells #[] 41)).drew) := ((Ext.refl w5).alloc _).drew
          have ho0b : ((w5.alloc (.cells #[] 41)).alloc (.cells #[.slice ax p.length cx] 41)).drew.ownsRow w5.heap.size 41 1 (.slice (some ⟨w5.heap.size, 0, none⟩) 0 0) 0 [] := own_zero2 w5 _
          have hX0b : Ext w5 (((w5.alloc (.cells #[] 41)).alloc (.cells #[.slice ax p.length cx] 41)).drew) := (((Ext.refl w5).alloc _).alloc _).drew
          have hbb0 : (((w5.alloc (.cells #[] 41)).alloc (.cells #[.slice ax p.length cx] 41)).drew).heap[w5.heap.size + 1]? = some (.cells #[.slice ax p.length cx] 41 (0, 0)) := by
            have := World.alloc_heap_new (w5.alloc (.cells #[] 41)) (.cells #[.slice ax p.length cx] 41)
            rw [World.size_alloc] at this
            exact this
          have Ho0b := Lib.hid ho0b; have HX0b := Lib.hid hX0b; have Hbb0 := Lib.hid hbb0; have Hlt0b := Lib.hid (Array.getElem?_eq_some_iff.1 hbb0).1
          clear ho0b hX0b hbb0
          have ho0c : ((w5.alloc (.cells #[.slice ax p.length cx] 41)).alloc (.cells #[] 41)).drew.ownsRow w5.heap.size 41 1 (.slice (some ⟨w5.heap.size + 1, 0, none⟩) 0 0) 0 [] := own_zero3 w5 _
          have hX0c : Ext w5 (((w5.alloc (.cells #[.slice ax p.length cx] 41)).alloc (.cells #[] 41)).drew) := (((Ext.refl w5).alloc _).alloc _).drew
          have hbc0 : (((w5.alloc (.cells #[.slice ax p.length cx] 41)).alloc (.cells #[] 41)).drew).heap[w5.heap.size]? = some (.cells #[.slice ax p.length cx] 41 (0, 0)) := ((Ext.refl (w5.alloc (.cells #[.slice ax p.length cx] 41))).alloc (.cells #[] 41)).heap (World.alloc_heap_new w5 _)
          have Ho0c := Lib.hid ho0c; have HX0c := Lib.hid hX0c; have Hbc0 := Lib.hid hbc0; have Hlt0c := Lib.hid (Array.getElem?_eq_some_iff.1 hbc0).1
          clear ho0c hX0c hbc0
          have Ho0 := Lib.hid ho0; have HX0 := Lib.hid hX0
          clear ho0 hX0
          go_region_law (first
            | (have hpv := Hrow2; clear hpv; refine step_append_any V2 rfl (.tmp 54) (.tmp 57) 30 rfl w5.heap.size 41 j0 (.slice none 0 0) 1 24 hj9 hj hy0 hy1 hy2 rfl (by decide) v2 (a + 1) ((qwc out).take a ++ [.slice ax p.length cx]) (by simp [Act.eval]) Hrow2.out (some AD) (ln - a) (c5 - a) ((qwc out).drop a) (by simp [Act.eval]) (fun h => by cases h) Htk3.out (fun ad h => by cases h; exact Hnw3.out _ HX2.out) Hone3.out hb3 hb4 HX2.out.size ?_; intro v3 V3 hown3 hgrow3; have HX3 := Lib.hid (HX2.out.grown hgrow3 fun j hj => (World.ownsRow.lt Hrow2.out j hj).1); have Hrow3 := Lib.hid hown3; clear hown3 hgrow3)
            | (have hpv := HC1; clear hpv; refine step_append_any V1 rfl (.tmp 51) (.tmp 53) 30 rfl w5.heap.size 41 j0 (.slice none 0 0) 1 24 hj9 hj hy0 hy1 hy2 rfl (by decide) v1 a ((qwc out).take a) (by simp [Act.eval]) Hrow1.out (some ⟨w5.heap.size, 0, none⟩) 1 1 [.slice ax p.length cx] (by simp [Act.eval]) (fun h => by cases h) rfl (fun ad h => by cases h; exact cell_one_at HC1.out) (by simp [Value.oneCell']) hb1 hb2 HX1.out.size ?_; intro v2 V2 hown2 hgrow2; have HX2 := Lib.hid (HX1.out.grown hgrow2 fun j hj => (World.ownsRow.lt Hrow1.out j hj).1); have Hrow2 := Lib.hid hown2; clear hown2 hgrow2)
            | (have hpv := HB1; clear hpv; refine step_append_any V1 rfl (.tmp 51) (.tmp 53) 30 rfl w5.heap.size 41 j0 (.slice none 0 0) 1 24 hj9 hj hy0 hy1 hy2 rfl (by decide) v1 a ((qwc out).take a) (by simp [Act.eval]) Hrow1.out (some ⟨w5.heap.size + 1, 0, none⟩) 1 1 [.slice ax p.length cx] (by simp [Act.eval]) (fun h => by cases h) rfl (fun ad h => by cases h; exact cell_one_at HB1.out) (by simp [Value.oneCell']) hb1 hb2 HX1.out.size ?_; intro v2 V2 hown2 hgrow2; have HX2 := Lib.hid (HX1.out.grown hgrow2 fun j hj => (World.ownsRow.lt Hrow1.out j hj).1); have Hrow2 := Lib.hid hown2; clear hown2 hgrow2)
            | (have hpv := Hrow1; clear hpv; refine step_append_any (V1.alloc (.cells #[.slice ax p.length cx] 41)) rfl (.tmp 51) (.tmp 53) 30 rfl w5.heap.size 41 j0 (.slice none 0 0) 1 24 hj9 hj hy0 hy1 hy2 rfl (by decide) v1 a ((qwc out).take a) (by simp [Act.eval]) (Hrow1.out.alloc _) (some ⟨V1.heap.size, 0, none⟩) 1 1 [.slice ax p.length cx] (by simp [Act.eval]) (fun h => by cases h) rfl (fun ad h => by cases h; exact cell_one_new V1 _ _) (by simp [Value.oneCell']) hb1 hb2 (HX1.out.alloc _).size ?_; intro v2 V2 hown2 hgrow2; have HX2 := Lib.hid ((HX1.out.alloc _).grown hgrow2 fun j hj => (World.ownsRow.lt (Hrow1.out.alloc (.cells #[.slice ax p.length cx] 41)) j hj).1); have Hrow2 := Lib.hid hown2; clear hown2 hgrow2)
            | (refine step_append_any (((w5.alloc (.cells #[.slice ax p.length cx] 41)).alloc (.cells #[] 41)).drew) rfl (.tmp 47) (.tmp 50) 30 rfl w5.heap.size 41 j0 (.slice none 0 0) 1 24 hj9 hj hy0 hy1 hy2 rfl (by decide) (.slice (some ⟨w5.heap.size + 1, 0, none⟩) 0 0) 0 [] (by simp [Act.eval]) Ho0c.out (some ⟨g, 0, none⟩) a c5 ((qwc out).take a) (by simp [Act.eval]) (fun h => by cases h) Htk1.out (fun ad h => by cases h; exact Hnw1.out _ HX0c.out) Hone1.out hb0 hb00 HX0c.out.size ?_; intro v1 V1 hown1 hgrow1; rw [Nat.zero_add, List.nil_append] at hown1; have HX1 := Lib.hid (HX0c.out.grown hgrow1 fun j hj => (World.ownsRow.lt Ho0c.out j hj).1); have Hrow1 := Lib.hid hown1; have HC1 := Lib.hid ((hgrow1.block w5.heap.size Hlt0c.out (by simp [Value.ownBlock])).trans Hbc0.out); clear hown1 hgrow1)
            | (refine step_append_any (((w5.alloc (.cells #[] 41)).alloc (.cells #[.slice ax p.length cx] 41)).drew) rfl (.tmp 47) (.tmp 50) 30 rfl w5.heap.size 41 j0 (.slice none 0 0) 1 24 hj9 hj hy0 hy1 hy2 rfl (by decide) (.slice (some ⟨w5.heap.size, 0, none⟩) 0 0) 0 [] (by simp [Act.eval]) Ho0b.out (some ⟨g, 0, none⟩) a c5 ((qwc out).take a) (by simp [Act.eval]) (fun h => by cases h) Htk1.out (fun ad h => by cases h; exact Hnw1.out _ HX0b.out) Hone1.out hb0 hb00 HX0b.out.size ?_; intro v1 V1 hown1 hgrow1; rw [Nat.zero_add, List.nil_append] at hown1; have HX1 := Lib.hid (HX0b.out.grown hgrow1 fun j hj => (World.ownsRow.lt Ho0b.out j hj).1); have Hrow1 := Lib.hid hown1; have HB1 := Lib.hid ((hgrow1.block (w5.heap.size + 1) Hlt0b.out (by simp [Value.ownBlock])).trans Hbb0.out); clear hown1 hgrow1)
            | (refine step_append_any ((w5.alloc (.cells #[] 41)).drew) rfl (.tmp 47) (.tmp 50) 30 rfl w5.heap.size 41 j0 (.slice none 0 0) 1 24 hj9 hj hy0 hy1 hy2 rfl (by decide) (.slice (some ⟨w5.heap.size, 0, none⟩) 0 0) 0 [] (by simp [Act.eval]) Ho0.out (some ⟨g, 0, none⟩) a c5 ((qwc out).take a) (by simp [Act.eval]) (fun h => by cases h) Htk1.out (fun ad h => by cases h; exact Hnw1.out _ HX0.out) Hone1.out hb0 hb00 HX0.out.size ?_; intro v1 V1 hown1 hgrow1; rw [Nat.zero_add, List.nil_append] at hown1; have HX1 := Lib.hid (HX0.out.grown hgrow1 fun j hj => (World.ownsRow.lt Ho0.out j hj).1); have Hrow1 := Lib.hid hown1; clear hown1 hgrow1))
          all_goals
            have Hfin9 := Lib.hid (lsr_ins (HE25.out.qwM Hq2.out) (HE2.out.trans HE25.out) (HE25.out.ownQ Hox.out) HLn.out ha HX3.out Hrow3.out)
            go_wp2_with fail
            go_roundw
            case rel =>
              obtain ⟨outn, h1, h2, h3⟩ := Hfin9.out
              exact ⟨i + 1, by go_num, by omega, outn, h1, by rw [h2, Hcsi.out, ← Hm.out]; exact (insQ_at (by rw [List.length_map, HLn.out]; exact ha) Hlt.out Hno1.out Hno2.out).symm, h3⟩
            case measure => simp [intOf]; omega
    · obtain rfl : i = n := by omega
      have hik : ¬ (i : Int) < (i : Int) := by omega
      have hm2 := hm.trans Hfin.out
      have hq2 := hq.mono HE0.out.size HE0.out.size
      have Hq := Lib.hid hq2; have Hm := Lib.hid hm2; have HE := Lib.hid (HE0.out.trans hE)
      clear hq hm hE hq2 hm2
      generalize hLn : out.length = ln at *
      have HLn := Lib.hid hLn
      clear hLn
      go_wp2
      go_ret
      exact ⟨_, rfl, out, Hq.out, Hm.out, HE.out⟩
end Go.Proofs.YtaakmdjicocjpaaGreatDoor

namespace Go.Proofs.YtaakmdjicocjpaaGreatDoor
open Go.RowKit Go.Lib Go.Shelf
theorem two_of {α : Type} {l : List α} (h : l.length = 2) : ∃ x y, l = [x, y] := by
  match l, h with
  | [x, y], _ => exact ⟨x, y, rfl⟩
/-- Two sizes of a class subtract. -/
theorem csub_c (vp va vb : Value) (p : List Int) (N : List (List Rat)) (d : Nat) (x y : List Rat) (w : World) (he : Env w) (hp : Sl w vp (i64s p)) (h : Wc p N) (hd : d ≤ N.length) (hx : x ∈ cls p N (d : Int)) (hy : y ∈ cls p N (d : Int)) (ha : Rd w va x) (hb : Rd w vb y) :
    Calls Tryz.prog 20 #[vp, va, vb] w fun e w' => ∃ g, e = .returned (.tuple #[.slice (some ⟨g, 0, none⟩) p.length p.length, .int .i64 0]) ∧ OwnQ w' w.heap.size (.slice (some ⟨g, 0, none⟩) p.length p.length) (subZ x y) ∧ Ext w w' := by
  have hpe : primesErr p = 0 := by rcases h.wd.pr with ⟨e, _⟩ | ⟨e, _⟩ <;> rw [e] <;> decide
  obtain ⟨i, rfl⟩ := h.cls_mem.1 hx
  obtain ⟨j, rfl⟩ := h.cls_mem.1 hy
  exact sSub_c vp va vb p _ _ w he hp ha hb hpe (h.ivlen _ _) (h.ivlen _ _) (h.iv_quick (by omega) (by omega)).1 (h.iv_quick (by omega) (by omega)).1 (h.iv_sub_quick (by omega) (by omega) (by omega) (by omega)).1
end Go.Proofs.YtaakmdjicocjpaaGreatDoor

namespace Go.Proofs.YtaakmdjicocjpaaGreatDoor
open Go.RowKit Go.Lib Go.Shelf
theorem wl_box (a : Wl) (w W : World) (h : Ext (w.alloc (.cells a.cs 26)) W) : W.rangeAt w.heap.size 0 a.cs.toList := fun j v hj => by
  unfold World.cell?
  dsimp only
  rw [h.heap (World.alloc_heap_new w _), Nat.zero_add]
  show a.cs[j]? = some v
  rw [← Array.getElem?_toList]
  exact hj
theorem wl_info (a : Wl) : (Tryz.prog.info? 26).map (·.size) = some a.cs.toList.length := by
  rw [Array.length_toList]
  kernel_rfl
theorem wl_cs (a : Wl) : Wl.cs a = #[.bool a.three, .int .u8 a.kind, .int .u8 a.num, .int .i8 (a.xs 0).a, .int .i8 (a.xs 0).b, .int .i8 (a.xs 0).c, .int .i8 (a.xs 1).a, .int .i8 (a.xs 1).b, .int .i8 (a.xs 1).c, .int .i8 (a.xs 2).a, .int .i8 (a.xs 2).b, .int .i8 (a.xs 2).c, .int .i8 (a.xs 3).a, .int .i8 (a.xs 3).b, .int .i8 (a.xs 3).c, .int .i8 (a.xs 4).a, .int .i8 (a.xs 4).b, .int .i8 (a.xs 4).c, .int .i8 (a.xs 5).a, .int .i8 (a.xs 5).b, .int .i8 (a.xs 5).c, .int .i8 (a.xs 6).a, .int .i8 (a.xs 6).b, .int .i8 (a.xs 6).c, .int .i8 (a.xs 7).a, .int .i8 (a.xs 7).b, .int .i8 (a.xs 7).c] := rfl
/-- A world, and the scale that Make makes of it. -/
theorem wl_wd (a : Wl) {N : List (List Rat)} (h : Coll a.p a.sizes N) : Wd a.p N := coll_wd a.lw h a.few
end Go.Proofs.YtaakmdjicocjpaaGreatDoor

namespace Go.Proofs.YtaakmdjicocjpaaGreatDoor
open Go.RowKit Go.Lib
attribute [local go_sem] Oper.semAt_some
/-- The steps of a scale. -/
def stQ (n : Nat) (rs : List Qw) (k : Nat) : List Rat := subZ (((rs[k]?).map Qw.x).getD []) (prevQ n rs k)
def stQs (n : Nat) (rs : List Qw) (k : Nat) : List (List Rat) := (List.range k).map (stQ n rs)
theorem stQs_succ (n : Nat) (rs : List Qw) (k : Nat) : stQs n rs (k + 1) = stQs n rs k ++ [stQ n rs k] := by unfold stQs; rw [List.range_succ, List.map_append]; rfl
def StepR (w : World) (n : Nat) (rs : List Qw) (k : Nat) (u : Value) (wr : World) : Prop := ∃ out : List Qw, QwM wr w.heap.size w.heap.size u out ∧ out.map Qw.x = stQs n rs k ∧ out.length = k ∧ Ext w wr
theorem StepR.more {w W V : World} {o : Obj} {n k : Nat} {rs : List Qw} {v5 v7 u : Value} {out : List Qw} (hE : Ext w W) (h : QwM W w.heap.size w.heap.size v5 out) (hm : out.map Qw.x = stQs n rs k) (hl : out.length = k) (hr : OwnQ W w.heap.size u (stQ n rs k)) 
    (hown : V.ownsRow w.heap.size 41 1 v7 (k + 1) (qwc out ++ [u])) (hgrow : (W.alloc o).grownBy V v5.ownBlock) : StepR w n rs (k + 1) v7 V := by
  subst hl
  have := QwM.more (r := ⟨_, u, rd_one hr.rd⟩) hE h hr hown hgrow
  exact ⟨_, this.1, by rw [List.map_append, hm, stQs_succ]; rfl, by rw [List.length_append]; rfl, this.2⟩
end Go.Proofs.YtaakmdjicocjpaaGreatDoor
