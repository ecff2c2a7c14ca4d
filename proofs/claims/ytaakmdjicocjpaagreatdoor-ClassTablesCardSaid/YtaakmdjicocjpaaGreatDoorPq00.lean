/- Plain: a table of lists of sizes under way: a row of lists that lie apart. Walks: class.Table. Walks: the law ClassTables. -/
import Derived.Test.YtaakmdjicocjpaaGreatDoorPb31
import Derived.Test.YtaakmdjicocjpaaGreatDoorPb28
import Derived.Test.YtaakmdjicocjpaaGreatDoorPb34
import Derived.Test.YtaakmdjicocjpaaGreatDoorPb37
set_option maxRecDepth 100000
set_option maxHeartbeats 4000000
namespace Go.Proofs.YtaakmdjicocjpaaGreatDoor
open Go.RowKit Go.Lib Go.Shelf
/-- The intervals above a note, of one to d steps. -/
def ivs (p : List Int) (N : List (List Rat)) (i d : Nat) : List (List Rat) := (List.range d).map fun (e : Nat) => iv p N (i : Int) ((e + 1 : Nat) : Int)
theorem ivs_len (p : List Int) (N : List (List Rat)) (i d : Nat) : (ivs p N i d).length = d := by unfold ivs; simp
theorem ivs_more (p : List Int) (N : List (List Rat)) (i d : Nat) : ivs p N i (d + 1) = ivs p N i d ++ [iv p N (i : Int) ((d + 1 : Nat) : Int)] := by
  unfold ivs
  rw [List.range_succ, List.map_append]
  rfl
/-- A table under way. -/
def TbM (w : World) (B g cap : Nat) (ls : List Lq) : Prop :=
  w.ownsRow B 30 1 (.slice (some ⟨g, 0, none⟩) ls.length cap) ls.length (lqc ls) ∧ (∀ l ∈ ls, QwM w B B l.u l.rs) ∧ ∀ (i j : Nat) (a b : Lq), i ≠ j → ls[i]? = some a → ls[j]? = some b → a.u.ownBlock = none ∨ a.u.ownBlock ≠ b.u.ownBlock
theorem Ext.tbM {w w' : World} {B g cap : Nat} {ls : List Lq} (h : Ext w w') (k : TbM w B g cap ls) : TbM w' B g cap ls := ⟨h.own k.1, fun l hl => h.qwM (k.2.1 l hl), k.2.2⟩
theorem own_heap {w : World} {B E g n c : Nat} {xs : List Value} (h : w.ownsRow B E 1 (.slice (some ⟨g, 0, none⟩) n c) n xs) : ∃ cur, w.heap[g]? = some (.cells cur E (0, 0)) := by
  rcases h.2 with ⟨e, _⟩ | ⟨g', cap', cur, e, _, hg, _⟩
  · cases e
  · injection e with e1 _ _
    injection e1 with e1
    injection e1 with e1
    subst e1
    exact ⟨cur, hg⟩
theorem TbM.more {wr V : World} {o : Obj} {B g cap i g1 c1 k : Nat} {ls : List Lq} {l : Lq} {u : Value} {x : List Rat} (h : TbM wr B g cap ls) (hl : ls[i]? = some l) (hk : l.rs.length = k) (ho : OwnQ wr B u x)
    (hown : V.ownsRow B 41 1 (.slice (some ⟨g1, 0, none⟩) (k + 1) c1) (k + 1) (qwc l.rs ++ [u])) (hg : (wr.alloc o).grownBy V l.u.ownBlock) (hat : l.u.ownBlock = some g1 ∨ g1 = (wr.alloc o).heap.size) :
    TbM (V.setCell ⟨g, i, none⟩ (.slice (some ⟨g1, 0, none⟩) (k + 1) c1)) B g cap (ls.set i ⟨l.rs ++ [⟨x, u, rd_one ho.rd⟩], .slice (some ⟨g1, 0, none⟩) (k + 1) c1, by simp [Value.oneCell']⟩) := by
  subst hk
  have hlm := List.mem_of_getElem? hl
  have hql := h.2.1 l hlm
  have hrow := World.ownsRow.kept (World.ownsRow.alloc h.1 o) hg (own_ne (World.ownsRow.alloc h.1 o) (World.ownsRow.alloc hql.1 o) (by decide))
  obtain ⟨cur, hcur⟩ := own_heap hrow
  have hst := (World.ownsRow.stored hrow i (.slice (some ⟨g1, 0, none⟩) (l.rs.length + 1) c1)).1
  have hel : ∀ s : Qw, OwnQ wr B s.u s.x → OwnQ (V.setCell ⟨g, i, none⟩ (.slice (some ⟨g1, 0, none⟩) (l.rs.length + 1) c1)) B s.u s.x := fun s hs =>
    own_set_apart hcur (World.ownsRow.kept (World.ownsRow.alloc hs o) hg (own_ne (World.ownsRow.alloc hs o) (World.ownsRow.alloc hql.1 o) (by decide))) (by decide) i _
  have hoth : ∀ j b, i ≠ j → ls[j]? = some b → l.u.ownBlock = none ∨ l.u.ownBlock ≠ b.u.ownBlock := fun j b hij hb => h.2.2 i j l b hij hl hb
  have hlt : i < ls.length := (List.getElem?_eq_some_iff.1 hl).1
  refine ⟨?_, ?_, ?_⟩
  · rw [List.length_set]
    unfold lqc at hst ⊢
    rw [List.map_set]
    exact hst
  · intro s hs
    obtain ⟨j, hj⟩ := List.mem_iff_getElem?.1 hs
    rw [List.getElem?_set] at hj
    by_cases hij : i = j
    · subst hij
      rw [if_pos rfl, if_pos hlt] at hj
      cases hj
      refine ⟨?_, fun r hr => ?_⟩
      · have := own_set_apart hcur hown (by decide) i (.slice (some ⟨g1, 0, none⟩) (l.rs.length + 1) c1)
        rw [List.length_append, List.length_singleton, qwc_snoc]
        exact this
      · rcases List.mem_append.1 hr with e | e
        · exact hel r (hql.2 r e)
        · rw [List.mem_singleton] at e
          subst e
          exact hel ⟨x, u, rd_one ho.rd⟩ ho
    · rw [if_neg hij] at hj
      have hq := h.2.1 s (List.mem_of_getElem? hj)
      refine ⟨?_, fun r hr => hel r (hq.2 r hr)⟩
      refine own_set_apart hcur (World.ownsRow.kept (World.ownsRow.alloc hq.1 o) hg ?_) (by decide) i _
      rcases h.2.2 j i s l (fun e => hij e.symm) hj hl with e | e
      · exact .inl e
      · exact .inr e
  · have hnew : ∀ j b, i ≠ j → ls[j]? = some b → b.u.ownBlock = none ∨ some g1 ≠ b.u.ownBlock := fun j b hij hb => by
      rcases hat with e | e
      · rcases hoth j b hij hb with e2 | e2
        · rw [e] at e2; cases e2
        · rw [e] at e2; exact .inr e2
      · right
        intro e2
        have := (World.ownsRow.lt (h.2.1 b (List.mem_of_getElem? hb)).1 g1 e2.symm).2
        rw [World.size_alloc] at e
        omega
    intro a b sa sb hab ha hb
    rw [List.getElem?_set] at ha hb
    by_cases h1 : i = a
    · subst h1
      rw [if_neg hab] at hb
      rw [if_pos rfl, if_pos hlt] at ha
      cases ha
      rcases hnew b sb hab hb with e | e
      · right
        rw [e]
        intro e2
        cases e2
      · exact .inr e
    · rw [if_neg h1] at ha
      by_cases h2 : i = b
      · subst h2
        rw [if_pos rfl, if_pos hlt] at hb
        cases hb
        rcases hnew a sa h1 ha with e | e
        · exact .inl e
        · exact .inr fun e2 => e e2.symm
      · rw [if_neg h2] at hb
        exact h.2.2 a b sa sb hab ha hb
theorem TbM.mono {w : World} {B B' g cap : Nat} {ls : List Lq} (k : TbM w B g cap ls) (h : B' ≤ B) : TbM w B' g cap ls := ⟨own_mono k.1 h, fun l hl => (k.2.1 l hl).mono h h, k.2.2⟩
/-- A table under way, beside a list of sizes that lies apart. -/
def TbL (w : World) (B g cap : Nat) (ls : List Lq) (lv : Value) (lo : List Qw) : Prop := TbM w B g cap ls ∧ QwM w B B lv lo ∧ ∀ l ∈ ls, l.u.ownBlock = none ∨ l.u.ownBlock ≠ lv.ownBlock
theorem TbL.more {wr V : World} {o : Obj} {B g cap i g1 c1 k : Nat} {ls : List Lq} {l : Lq} {u lv : Value} {lo : List Qw} {x : List Rat} (h : TbL wr B g cap ls lv lo) (hl : ls[i]? = some l) (hk : l.rs.length = k) (ho : OwnQ wr B u x)
    (hown : V.ownsRow B 41 1 (.slice (some ⟨g1, 0, none⟩) (k + 1) c1) (k + 1) (qwc l.rs ++ [u])) (hg : (wr.alloc o).grownBy V l.u.ownBlock) (hat : l.u.ownBlock = some g1 ∨ g1 = (wr.alloc o).heap.size) :
    TbL (V.setCell ⟨g, i, none⟩ (.slice (some ⟨g1, 0, none⟩) (k + 1) c1)) B g cap (ls.set i ⟨l.rs ++ [⟨x, u, rd_one ho.rd⟩], .slice (some ⟨g1, 0, none⟩) (k + 1) c1, by simp [Value.oneCell']⟩) lv lo := by
  obtain ⟨h1, h2, h3⟩ := h
  have hql := h1.2.1 l (List.mem_of_getElem? hl)
  have hrow := World.ownsRow.kept (World.ownsRow.alloc h1.1 o) hg (own_ne (World.ownsRow.alloc h1.1 o) (World.ownsRow.alloc hql.1 o) (by decide))
  obtain ⟨cur, hcur⟩ := own_heap hrow
  have hll := h3 l (List.mem_of_getElem? hl)
  refine ⟨h1.more hl hk ho hown hg hat, ⟨?_, fun r hr => ?_⟩, fun s hs => ?_⟩
  · refine own_set_apart hcur (World.ownsRow.kept (World.ownsRow.alloc h2.1 o) hg ?_) (by decide) i _
    rcases hll with e | e
    · rw [e]
      cases hv : lv.ownBlock with
      | none => exact .inl rfl
      | some q => exact .inr (by simp)
    · exact .inr fun e2 => e e2.symm
  · exact own_set_apart hcur (World.ownsRow.kept (World.ownsRow.alloc (h2.2 r hr) o) hg (own_ne (World.ownsRow.alloc (h2.2 r hr) o) (World.ownsRow.alloc hql.1 o) (by decide))) (by decide) i _
  · rcases List.mem_or_eq_of_mem_set hs with e | e
    · exact h3 s e
    · subst e
      right
      show some g1 ≠ lv.ownBlock
      rcases hat with e | e
      · rcases hll with e2 | e2
        · rw [e] at e2; cases e2
        · rw [← e]; exact e2
      · intro e2
        have := (World.ownsRow.lt h2.1 g1 e2.symm).2
        rw [World.size_alloc] at e
        omega
/-- A list that was made now lies apart from the table. -/
theorem TbL.start {w W : World} {B g cap : Nat} {ls : List Lq} {lv : Value} {lo : List Qw} (h : TbM w B g cap ls) (hB : B ≤ w.heap.size) (hx : Ext w W) (hq : QwM W w.heap.size w.heap.size lv lo) : TbL W B g cap ls lv lo := by
  refine ⟨hx.tbM h, hq.mono hB hB, fun l hl => ?_⟩
  cases hu : l.u.ownBlock with
  | none => exact .inl rfl
  | some k =>
    right
    intro e
    have h1 := (World.ownsRow.lt (h.2.1 l hl).1 k hu).2
    have h2 := (World.ownsRow.lt hq.1 k e.symm).1
    omega
/-- The table behind so many rounds: all lists have d elements, those before I one more. -/
def TbAt (p : List Int) (N : List (List Rat)) (ls : List Lq) (d I : Nat) : Prop := ∀ i l, ls[i]? = some l → l.rs.map Qw.x = ivs p N i (if i < I then d + 1 else d)
theorem TbAt.set {p : List Int} {N : List (List Rat)} {ls : List Lq} {d I : Nat} {l l' : Lq} (h : TbAt p N ls d I) (hl : ls[I]? = some l) (e : l'.rs.map Qw.x = l.rs.map Qw.x ++ [iv p N (I : Int) ((d + 1 : Nat) : Int)]) : TbAt p N (ls.set I l') d (I + 1) := by
  intro i m hm
  rw [List.getElem?_set] at hm
  by_cases hi : I = i
  · subst hi
    rw [if_pos rfl, if_pos (List.getElem?_eq_some_iff.1 hl).1] at hm
    cases hm
    have := h I l hl
    rw [if_neg (Nat.lt_irrefl _)] at this
    rw [e, this, if_pos (Nat.lt_succ_self _), ivs_more]
  · rw [if_neg hi] at hm
    rw [h i m hm]
    by_cases g : i < I
    · rw [if_pos g, if_pos (by omega)]
    · rw [if_neg g, if_neg (by omega)]
theorem TbAt.next {p : List Int} {N : List (List Rat)} {ls : List Lq} {d n : Nat} (h : TbAt p N ls d n) (hl : ls.length = n) : TbAt p N ls (d + 1) 0 := by
  intro i l hi
  have := (List.getElem?_eq_some_iff.1 hi).1
  rw [h i l hi, if_pos (by omega), if_neg (Nat.not_lt_zero _)]
theorem TbM.start {w : World} {B n : Nat} (hB : B ≤ w.heap.size) (hn : n ≤ maxLen) : TbM (w.alloc (.cells (List.replicate n (Value.slice none 0 0)).toArray 30)) B w.heap.size n (List.replicate n ⟨[], .slice none 0 0, by simp [Value.oneCell']⟩) := by
  refine ⟨?_, fun l hl => ?_, fun i j a b _ ha _ => ?_⟩
  · refine ⟨by simp [lqc], .inr ⟨w.heap.size, n, (List.replicate n (Value.slice none 0 0)).toArray, by simp, hB, World.alloc_heap_new w _, by simp, hn, by simp, by simp [lqc]⟩⟩
  · rw [List.eq_of_mem_replicate hl]
    exact QwM.nil _ _ _
  · rw [List.eq_of_mem_replicate (List.mem_of_getElem? ha)]
    exact .inl rfl
theorem TbAt.start (p : List Int) (N : List (List Rat)) (n : Nat) : TbAt p N (List.replicate n ⟨[], .slice none 0 0, by simp [Value.oneCell']⟩) 0 0 := by
  intro i l hl
  rw [List.eq_of_mem_replicate (List.mem_of_getElem? hl), if_neg (Nat.not_lt_zero _)]
  rfl
end Go.Proofs.YtaakmdjicocjpaaGreatDoor

namespace Go.Proofs.YtaakmdjicocjpaaGreatDoor
open Go.RowKit Go.Lib Go.Shelf
attribute [local go_sem] Oper.semAt_some
theorem own_cellT {w : World} {B E g n cap : Nat} {xs : List Value} (h : w.ownsRow B E 1 (.slice (some ⟨g, 0, none⟩) n cap) n xs) {j : Nat} {u : Value} (hj : xs[j]? = some u) : w.cell? ⟨g, j, none⟩ = some u := by
  have := h.cells (g := g) rfl j u hj
  rwa [show ((⟨g, 0, none⟩ : Addr).add j) = ⟨g, j, none⟩ by unfold Addr.add; split <;> simp_all] at this
theorem make_sizes (n : Nat) (w : World) (h : n ≤ 1000) : (Instr.makeSlice 55 (.int .i64 (n : Int)) (.int .i64 (n : Int))).run Tryz.prog w = .ok (.slice (some ⟨w.heap.size, 0, none⟩) n n) (w.alloc (.cells (List.replicate n (Value.slice none 0 0)).toArray 30)) := by
  obtain ⟨i0, hi, hz0, hz1, hz2⟩ := info_parts info_sizes
  have h1 := run_make (P := Tryz.prog) w 55 30 i0 (.slice none 0 0) Tryz.underlying55 hi hz0 .i64 .i64 (n : Int) (n : Int) (by omega) (Int.le_refl _) (by rw [hz2]; omega) (by omega)
  rw [h1, hz1, Int.toNat_natCast, Nat.mul_one]
  have h2 : madeCells (Value.slice none 0 0).cells n = (List.replicate n (Value.slice none 0 0)).toArray := by
    apply Array.ext'
    show (madeCells #[Value.slice none 0 0] n).toList = _
    rw [toList_madeCells_one]
  rw [h2]
theorem table_c (v : Value) (p : List Int) (rs : List Qw) (w : World) (he : Env w) (hv : ScV w v p rs) (h : Wc p (rs.map Qw.x)) :
    Calls Tryz.prog 29 #[v] w fun e w' => ∃ g c, e = .returned (.tuple #[.slice (some ⟨g, 0, none⟩) rs.length c, .int .i64 0]) ∧ ∃ ls : List Lq, TbM w' w.heap.size g c ls ∧ ls.length = rs.length ∧ TbAt p (rs.map Qw.x) ls rs.length 0 ∧ Ext w w' := by
  obtain ⟨j0, hj, hy0, hy1, hy2⟩ := info_parts info_size
  have hlk := fun W (hE : Ext w W) => look_c v p rs W (he.ext hE) (hv.ext hE) h.wd
  have hdf := fun (d : Nat) (hd : d ≤ rs.length) u W (hE : Ext w W) (hu : Vw W u p rs) => diffs_c u p rs d W (he.ext hE) hu h hd
  have hL : (rs.map Qw.x).length = rs.length := List.length_map ..
  have hfew := h.wd.few
  have hpos := h.wd.pos
  rw [hL] at hfew hpos
  have hdl := fun (d : Nat) => dfs_len p (rs.map Qw.x) (d : Int)
  have hda := fun (d i : Nat) (hi : i < rs.length) => dfs_at (p := p) (N := rs.map Qw.x) (d := (d : Int)) (i := i) (by rw [hL]; exact hi)
  have hil := fun (i d : Nat) => h.ivlen (i : Int) (d : Int)
  rw [hL] at hdl
  obtain ⟨vp, vn, rfl, hp, hs, hmr⟩ := hv
  obtain ⟨ap, cp, rfl, _, _, _⟩ := hp.parts
  obtain ⟨an, cn, rfl, _, _, _⟩ := hs.parts
  rw [i64s_length] at *
  rw [qwc_length] at *
  generalize rs.length = n at *
  have hE0 : Ext w (w.alloc (.cells #[.slice ap p.length cp, .slice an n cn] 32)) := (Ext.refl w).alloc _
  have b1 := BoxT.new 32 w (.slice ap p.length cp) (.slice an n cn)
  have Hlk := Lib.hid hlk; have Hdf := Lib.hid hdf; have HE0 := Lib.hid hE0; have B1 := Lib.hid b1; have Hdl := Lib.hid hdl; have Hda := Lib.hid hda; have Hil := Lib.hid hil
  have q0 := b1.c0
  have q1 := b1.c1
  clear hlk hdf hE0 b1 hp hs hmr he h hL hdl hda hil
  go_enter Tryz.func29, Tryz.ntmps29
  go_wp2_with fail
  refine (Hlk.out _ HE0.out).mono ?_
  rintro e w3 ⟨u, rfl, hu, hx3⟩
  have hx := HE0.out.trans hx3
  have q1 := (B1.out.ext hx3).c1
  have hdf := fun (d : Nat) (hd : d ≤ n) W (hE : Ext w3 W) => Hdf.out d hd u W (hx.trans hE) (hu.ext hE)
  obtain ⟨b, v1, v2, v3, nts, rfl, hrest⟩ := hu
  have Hx := Lib.hid hx; have Hdf3 := Lib.hid hdf; have B3 := Lib.hid (B1.out.ext hx3)
  clear hx hdf hrest hx3 q0
  have hmk := make_sizes n w3 (by omega)
  have q1' := (B3.out.ext ((Ext.refl w3).alloc (.cells (List.replicate n (Value.slice none 0 0)).toArray 30))).c1
  have hE4 : Ext w3 (w3.alloc (.cells (List.replicate n (Value.slice none 0 0)).toArray 30)) := (Ext.refl w3).alloc _
  have hM4 := TbM.start (w := w3) (B := w3.heap.size) (n := n) (Nat.le_refl _) (by unfold maxLen; omega)
  rw [List.toArray_replicate] at hmk q1' hE4 hM4
  have HE4 := Lib.hid hE4; have HM4 := Lib.hid hM4
  clear hE4 hM4
  go_wp2_with fail
  generalize w3.alloc (.cells (Array.replicate n (Value.slice none 0 0)) 30) = w4 at *
  clear q1 q1' hmk
  go_loopw [27] (fun v27 wr => ∃ d : Nat, v27 = .int .i64 (d : Int) ∧ d ≤ n ∧ Hid (∃ ls : List Lq, ls.length = n ∧ TbM wr w3.heap.size w3.heap.size n ls ∧ TbAt p (rs.map Qw.x) ls d 0 ∧ Ext w3 wr)) (fun v27 _ => n + 1 - (intOf v27).toNat)
  case atStart => exact ⟨0, rfl, Nat.zero_le _, Lib.hid ⟨_, List.length_replicate, HM4.out, TbAt.start _ _ _, HE4.out⟩⟩
  case round =>
    obtain ⟨d, rfl, hd, HR⟩ := hrel
    by_cases hdn : d < n
    · have hdn2 : (d : Int) < (n : Int) := by omega
      have hwd : IntKind.i64.wrap ((d : Int) + 1) = (d : Int) + 1 := IntWalk.i64_in _ (by omega)
      obtain ⟨ls, hll, hM, hA, hE⟩ := HR.out
      have hdf := Hdf3.out (d + 1) (by omega) wr hE
      rw [show ((d + 1 : Nat) : Int) = (d : Int) + 1 by omega] at hdf
      have Hdf1 := Lib.hid hdf; have Hll := Lib.hid hll; have HM := Lib.hid hM; have HA := Lib.hid hA; have HE := Lib.hid hE
      clear hdf hll hM hA hE HR
      go_wp2_with fail
      refine Hdf1.out.mono ?_
      rintro e w5 ⟨v5, lo, rfl, hq5, hm5, hx5⟩
      have hlo : lo.length = n := by
        have := congrArg List.length hm5
        have h2 := Hdl.out (d + 1)
        rw [show ((d + 1 : Nat) : Int) = (d : Int) + 1 by omega] at h2
        rwa [List.length_map, h2] at this
      have hT5 := TbL.start HM.out HE.out.size hx5 hq5
      obtain ⟨gl, cl, rfl, _⟩ := own_slice hq5.1 (by omega)
      rw [hlo]
      have hda := fun (i : Nat) (hi : i < n) => Hda.out (d + 1) i hi
      rw [show ((d + 1 : Nat) : Int) = (d : Int) + 1 by omega] at hda
      have hat : ∀ i, i < n → ∃ r, lo[i]? = some r ∧ r.x = iv p (rs.map Qw.x) (i : Int) ((d : Int) + 1) := fun i hi => by
        obtain ⟨r, hr⟩ : ∃ r, lo[i]? = some r := ⟨_, List.getElem?_eq_getElem (by omega)⟩
        have := hda i hi
        rw [← hm5, List.getElem?_map, hr] at this
        exact ⟨r, hr, Option.some.inj this⟩
      have HT5 := Lib.hid hT5; have Hat := Lib.hid hat; have Hx5 := Lib.hid (HE.out.trans hx5); have Hlo := Lib.hid hlo
      clear hT5 hat hq5 hm5 hx5 hda hlo
      go_wp2_with fail
      obtain ⟨wa, hwa⟩ : ∃ wa, wa = wr := ⟨_, rfl⟩
      subst hwa
      go_loopw [42] (fun v42 wr => ∃ i : Nat, v42 = .int .i64 (i : Int) ∧ i ≤ n ∧ Hid (∃ ls : List Lq, ls.length = n ∧ TbL wr w3.heap.size w3.heap.size n ls (.slice (some ⟨gl, 0, none⟩) lo.length cl) lo ∧ TbAt p (rs.map Qw.x) ls d i ∧ Ext w3 wr)) (fun v42 _ => n + 1 - (intOf v42).toNat)
      case atStart => exact ⟨0, rfl, Nat.zero_le _, Lib.hid ⟨ls, Hll.out, HT5.out, HA.out, Hx5.out⟩⟩
      case round =>
        obtain ⟨i, rfl, hi, HR⟩ := hrel
        by_cases hin : i < n
        · have hin2 : (i : Int) < (n : Int) := by omega
          have hi0 : (0 : Int) ≤ (i : Int) := by omega
          obtain ⟨ls2, hll2, hT, hA2, hE2⟩ := HR.out
          obtain ⟨r, hr, hrx⟩ := Hat.out i hin
          obtain ⟨l, hl⟩ : ∃ l, ls2[i]? = some l := ⟨_, List.getElem?_eq_getElem (by omega)⟩
          have hlx := hA2 i l hl
          rw [if_neg (Nat.lt_irrefl _)] at hlx
          have hlk : l.rs.length = d := by rw [← List.length_map (f := Qw.x), hlx, ivs_len]
          have hql := hT.1.2.1 l (List.mem_of_getElem? hl)
          obtain ⟨al, cl2, hlu⟩ := own_shape hql.1
          rw [hlk] at hlu
          have hcl : wr.cell? ⟨gl, i, none⟩ = some r.u := own_cellT hT.2.1.1 (by unfold qwc; rw [List.getElem?_map, hr]; rfl)
          have hor := hT.2.1.2 r (List.mem_of_getElem? hr)
          obtain ⟨ar, cr, hru⟩ := own_shape hor
          rw [hrx, show ((d : Int) + 1) = ((d + 1 : Nat) : Int) by omega, Hil.out] at hru
          have hcg : wr.cell? ⟨w3.heap.size, i, none⟩ = some l.u := own_cellT hT.1.1 (by unfold lqc; rw [List.getElem?_map, hl]; rfl)
          have hqo := hql.1
          rw [hru] at hcl
          rw [hlu] at hcg
          rw [hlk, hlu] at hqo
          have hm3 : d + 1 ≤ maxLen := by unfold maxLen; omega
          have hm4 : (d + 1) * 24 ≤ 140737488355328 := by omega
          have hbase := hE2.size
          have HT := Lib.hid hT; have HA2 := Lib.hid hA2; have HE2 := Lib.hid hE2; have Hl := Lib.hid hl; have Hlk := Lib.hid hlk; have Hrr := Lib.hid hr; have Hrx := Lib.hid hrx; have Hor := Lib.hid hor; have Hru := Lib.hid hru; have Hlu := Lib.hid hlu; have Hlx := Lib.hid hlx; have Hll2 := Lib.hid hll2; have Hqo := Lib.hid hqo
          clear hT hA2 hE2 hl hlk hr hrx hor hru hlu hlx hql hll2 hqo HR
          go_wp2_with (at_builtin; refine wpList_append_lies _ rfl _ _ 30 rfl w3.heap.size 41 j0 (.slice none 0 0) 1 24 Tryz.underlying30 hj hy0 hy1 hy2 rfl (by decide) (.slice al d cl2) d (qwc l.rs) rfl (Hqo.out.alloc _) ⟨wr.heap.size, 0, none⟩ 1 1 [.slice ar p.length cr] rfl rfl (cell_one_new _ _ _) (by simp [Value.oneCell']) (by decide) hm3 hm4 (by rw [World.size_alloc]; omega) _ rfl ?_; intro g1 c1 V7 hown7 hgrow7 hat7 hlt7; have hrow7 := World.ownsRow.kept (World.ownsRow.alloc HT.out.1.1 (.cells #[.slice ar p.length cr] 41)) hgrow7 (own_ne (World.ownsRow.alloc HT.out.1.1 (.cells #[.slice ar p.length cr] 41)) (World.ownsRow.alloc Hqo.out (.cells #[.slice ar p.length cr] 41)) (by decide)); have hc7 : V7.cell? ⟨w3.heap.size, i, none⟩ = some l.u := own_cellT hrow7 (by unfold lqc; rw [List.getElem?_map, Hl.out]; rfl); have hf7 := World.ownsRow.frozenAt hrow7 i)
          have hT7 := TbL.more (o := .cells #[.slice ar p.length cr] 41) HT.out Hl.out Hlk.out Hor.out (by rw [Hru.out]; exact hown7) (by rw [Hlu.out]; exact hgrow7) (by rw [Hlu.out]; exact hat7)
          have hE7 : Ext w3 (V7.setCell ⟨w3.heap.size, i, none⟩ (.slice (some ⟨g1, 0, none⟩) (d + 1) c1)) := (((HE2.out.alloc (.cells #[.slice ar p.length cr] 41)).grown hgrow7 fun k hk => (World.ownsRow.lt (Hqo.out.alloc (.cells #[.slice ar p.length cr] 41)) k hk).1)).setCell (Nat.le_refl _) _
          have hA7 := TbAt.set (l' := ⟨l.rs ++ [⟨r.x, r.u, rd_one Hor.out.rd⟩], .slice (some ⟨g1, 0, none⟩) (d + 1) c1, by simp [Value.oneCell']⟩) HA2.out Hl.out (by
            show (l.rs ++ [(⟨r.x, r.u, rd_one Hor.out.rd⟩ : Qw)]).map Qw.x = _
            rw [List.map_append]
            show _ ++ [r.x] = _
            rw [Hrx.out, show ((d + 1 : Nat) : Int) = (d : Int) + 1 by omega])
          have Hfin := Lib.hid (show ∃ ls : List Lq, ls.length = n ∧ TbL (V7.setCell ⟨w3.heap.size, i, none⟩ (.slice (some ⟨g1, 0, none⟩) (d + 1) c1)) w3.heap.size w3.heap.size n ls (.slice (some ⟨gl, 0, none⟩) lo.length cl) lo ∧ TbAt p (rs.map Qw.x) ls d (i + 1) ∧ Ext w3 (V7.setCell ⟨w3.heap.size, i, none⟩ (.slice (some ⟨g1, 0, none⟩) (d + 1) c1)) from ⟨_, by rw [List.length_set]; exact Hll2.out, hT7, hA7, hE7⟩)
          clear hT7 hA7 hE7 hown7 hgrow7 hat7 hlt7 hrow7 hc7 hf7 hcl hcg
          go_roundw
          case rel => exact ⟨i + 1, by go_num, by omega, Hfin⟩
          case measure => simp [intOf]; omega
        · obtain rfl : i = n := by omega
          have hin2 : ¬ (i : Int) < (i : Int) := by omega
          obtain ⟨ls2, hll2, hT, hA2, hE2⟩ := HR.out
          have Hfin := Lib.hid (show ∃ ls : List Lq, ls.length = i ∧ TbM wr w3.heap.size w3.heap.size i ls ∧ TbAt p (rs.map Qw.x) ls (d + 1) 0 ∧ Ext w3 wr from ⟨ls2, hll2, hT.1, hA2.next hll2, hE2⟩)
          clear hT hA2 hE2 hll2 HR
          go_wp2_with fail
          go_roundw
          case rel => exact ⟨d + 1, by go_num, by omega, Hfin⟩
          case measure => simp [intOf]; omega
    · obtain rfl : d = n := by omega
      have hdn2 : ¬ (d : Int) < (d : Int) := by omega
      obtain ⟨ls, hll, hM, hA, hE⟩ := HR.out
      have Hll := Lib.hid hll; have HM := Lib.hid hM; have HA := Lib.hid hA; have HE := Lib.hid (Hx.out.trans hE); have HsB := Lib.hid Hx.out.size
      clear hll hM hA hE HR
      go_wp2_with fail
      exact bodyPost_ret (v := .tuple #[.slice (some ⟨w3.heap.size, 0, none⟩) d d, .int .i64 0]) (by simp [results, Tryz.results29, go_sem]) rfl ⟨w3.heap.size, d, rfl, ls, HM.out.mono HsB.out, Hll.out, HA.out, HE.out⟩
end Go.Proofs.YtaakmdjicocjpaaGreatDoor

namespace Go.Proofs.YtaakmdjicocjpaaGreatDoor
open Go.RowKit Go.Lib Go.Shelf
attribute [local go_sem] Oper.semAt_some
/-- A row of the table in memory. -/
theorem tab_row {w : World} {B g c n : Nat} {p : List Int} {N : List (List Rat)} {ls : List Lq} (h : Wc p N) (hM : TbM w B g c ls) (hl : ls.length = n) (hA : TbAt p N ls n 0) {i : Nat} (hi : i < n) :
    ∃ gl cl, w.cell? ⟨g, i, none⟩ = some (.slice (some ⟨gl, 0, none⟩) n cl) ∧ ∀ e, e < n → ∃ ax cx, w.cell? ⟨gl, e, none⟩ = some (.slice ax p.length cx) ∧ OwnQ w B (.slice ax p.length cx) (iv p N (i : Int) ((e + 1 : Nat) : Int)) := by
  obtain ⟨l, hli⟩ : ∃ l, ls[i]? = some l := ⟨_, List.getElem?_eq_getElem (by omega)⟩
  have hx := hA i l hli
  rw [if_neg (Nat.not_lt_zero _)] at hx
  have hq := hM.2.1 l (List.mem_of_getElem? hli)
  have hlen : l.rs.length = n := by rw [← List.length_map (f := Qw.x), hx, ivs_len]
  obtain ⟨gl, cl, hu, hc⟩ := own_slice hq.1 (by omega)
  have hcl : w.cell? ⟨g, i, none⟩ = some l.u := own_cellT hM.1 (by unfold lqc; rw [List.getElem?_map, hli]; rfl)
  rw [hu, hlen] at hcl
  refine ⟨gl, cl, hcl, fun e he => ?_⟩
  obtain ⟨r, hr⟩ : ∃ r, l.rs[e]? = some r := ⟨_, List.getElem?_eq_getElem (by omega)⟩
  have hrx : r.x = iv p N (i : Int) ((e + 1 : Nat) : Int) := by
    have h1 : (ivs p N i n)[e]? = some (iv p N (i : Int) ((e + 1 : Nat) : Int)) := by
      unfold ivs
      rw [List.getElem?_map, List.getElem?_range he]
      rfl
    rw [← hx, List.getElem?_map, hr] at h1
    exact Option.some.inj h1
  have ho := hq.2 r (List.mem_of_getElem? hr)
  obtain ⟨ax, cx, eu⟩ := own_shape ho
  rw [hrx, h.ivlen] at eu
  have hcc := hc e r.u (by unfold qwc; rw [List.getElem?_map, hr]; rfl)
  rw [eu] at hcc ho
  rw [hrx] at ho
  exact ⟨ax, cx, hcc, ho⟩
theorem tables_c (a : Wl) (w : World) (he : Env w) (ha : a.Ok) :
    Calls Tryz.prog 7 #[a.v] w fun e w' => e = .returned (.bool true) ∧ Ext w w' := by
  have hkn := fun W (hE : Ext w W) => known32_c W (he.ext hE)
  have hmk := fun W (hE : Ext w W) => lMake_c a W (he.ext hE) ha
  have hrl := wl_box a w
  have hun := Tryz.underlying26
  have hin := wl_info a
  have hE0 : Ext w (w.alloc (.cells a.cs 26)) := (Ext.refl w).alloc _
  have Hkn := Lib.hid hkn; have Hmk := Lib.hid hmk; have Hrl := Lib.hid hrl; have Hun := Lib.hid hun; have Hin := Lib.hid hin; have HE0 := Lib.hid hE0; clear hkn hmk hrl hun hin hE0
  have He := Lib.hid he; clear he ha
  have hv : a.v = .agg a.cs := rfl
  have Hv := Lib.hid hv
  rw [hv]
  clear hv
  rw [wl_cs]
  go_enter Tryz.func7, Tryz.ntmps7
  rw [← wl_cs]
  go_wp2_with fail
  refine (Hkn.out _ HE0.out).mono ?_
  rintro e w1 ⟨rfl, hx1⟩
  have hrl1 := Hrl.out w1 hx1
  have Hx1 := Lib.hid (HE0.out.trans hx1); have Hrl1 := Lib.hid hrl1
  clear hx1 hrl1
  have Hmk1 := Lib.hid (Hmk.out w1 Hx1.out)
  go_wp2_with (refine wpList_load_mid rfl 26 (.tmp 1) rfl w.heap.size 0 rfl a.cs.toList _ Hrl1.out Hun.out rfl Hin.out ?_)
  rw [← Hv.out]
  refine Hmk1.out.mono ?_
  rintro e w2 ⟨v2, rs, rfl, hs2, hc2, hx2⟩
  have hw2 := wl_wc a hc2
  obtain ⟨a2, c2, b2, d2, rfl, hs2⟩ := scv_cut hs2
  have hL : (rs.map Qw.x).length = rs.length := List.length_map ..
  have hfew := hw2.wd.few
  have hpos := hw2.wd.pos
  rw [hL] at hfew hpos
  have hlp : a.p.length ≤ 100 ∧ primesErr a.p = 0 := by rcases a.pw with e | e <;> rw [e] <;> decide
  have hb2 := BoxT.new 32 w2 (.slice a2 a.p.length c2) (.slice b2 rs.length d2)
  have hE2 := (Ext.refl w2).alloc (.cells #[.slice a2 a.p.length c2, .slice b2 rs.length d2] 32)
  have Hx2 := Lib.hid ((Hx1.out.trans hx2).trans hE2); have Hs2 := Lib.hid (hs2.ext hE2); have Hw2 := Lib.hid hw2; have Hb2 := Lib.hid hb2; have HL := Lib.hid hL; have Hlp := Lib.hid hlp
  have q0 := hb2.c0
  have q1 := hb2.c1
  clear hx2 hs2 hw2 hb2 hE2 hc2 hL hlp
  have htb := table_c _ a.p rs _ (He.out.ext Hx2.out) Hs2.out Hw2.out
  have hiv := fun (i d : Nat) (hi : i ≤ 100) (hd : d ≤ 100) W (hE : Ext (w2.alloc (.cells #[.slice a2 a.p.length c2, .slice b2 rs.length d2] 32)) W) => interval_c _ a.p rs i d W (He.out.ext (Hx2.out.trans hE)) (Hs2.out.ext hE) Hw2.out hi hd
  have Htb := Lib.hid htb; have Hiv := Lib.hid hiv; clear htb hiv
  clear Hmk1 Hkn Hmk Hrl Hrl1 Hun Hin
  generalize hN : rs.length = n at *
  have HN := Lib.hid hN
  clear hN
  go_wp2_with fail
  generalize w2.alloc (.cells #[.slice a2 a.p.length c2, .slice b2 n d2] 32) = W2 at *
  refine Htb.out.mono ?_
  rintro e w3 ⟨g, c, rfl, ls, hM, hll, hA, hx3⟩
  have hrow := fun (i : Nat) (hi : i < n) => tab_row Hw2.out hM hll hA hi
  have q0 := (Hb2.out.ext hx3).c0
  have q1 := (Hb2.out.ext hx3).c1
  have Hrow := Lib.hid hrow; have H3 := Lib.hid hx3
  clear hrow hM hll hA hx3
  go_wp2_with fail
  go_loopw [6] (fun v6 wr => ∃ i : Nat, v6 = .int .i64 (i : Int) ∧ i ≤ n ∧ Hid (Ext w3 wr)) (fun v6 _ => n + 1 - (intOf v6).toNat)
  case atStart => exact ⟨0, rfl, Nat.zero_le _, Lib.hid (Ext.refl _)⟩
  case round =>
    obtain ⟨i, rfl, hi, HE⟩ := hrel
    by_cases hin : i < n
    · have hin2 : (i : Int) < (n : Int) := by omega
      have hi0 : (0 : Int) ≤ (i : Int) := by omega
      obtain ⟨gl, cl, hcl, hre⟩ := Hrow.out i hin
      have h2r := H3.out.trans HE.out
      have hS : ∀ W, Ext wr W → Ext wr W ∧ W.cell? ⟨w2.heap.size, 0, none⟩ = some (.slice a2 a.p.length c2) ∧ W.cell? ⟨w2.heap.size, 1, none⟩ = some (.slice b2 n d2) ∧ W.cell? ⟨g, i, none⟩ = some (.slice (some ⟨gl, 0, none⟩) n cl) := fun W hW => ⟨hW, (Hb2.out.ext (h2r.trans hW)).c0, (Hb2.out.ext (h2r.trans hW)).c1, (HE.out.trans hW).cell hcl⟩
      obtain ⟨_, e0, e1, e2⟩ := hS _ (Ext.refl wr).drew
      have HXr : Hid (Ext wr wr) := Lib.hid (Ext.refl wr)
      have HS := Lib.hid hS; have Hre := Lib.hid hre
      clear hS hre hcl h2r
      go_wp2_with fail
      go_region_held3 (fun w' => Ext wr w' ∧ w'.cell? ⟨w2.heap.size, 0, none⟩ = some (.slice a2 a.p.length c2) ∧ w'.cell? ⟨w2.heap.size, 1, none⟩ = some (.slice b2 n d2) ∧ w'.cell? ⟨g, i, none⟩ = some (.slice (some ⟨gl, 0, none⟩) n cl))
        (first | (with_reducible assumption) | exact HS.out _ HXr.out.drew) (fail)
      have HEd := Lib.hid HXr.out.drew
      generalize wr.drew = wa at *
      clear e0 e1 e2
      go_wp2_with fail
      go_loopw [7] (fun v7 wb => ∃ e : Nat, v7 = .int .i64 ((e : Int) + 1) ∧ e ≤ n ∧ Hid (Ext wa wb)) (fun v7 _ => n + 1 - (intOf v7).toNat)
      case atStart => exact ⟨0, rfl, Nat.zero_le _, Lib.hid (Ext.refl _)⟩
      case round =>
        obtain ⟨e, rfl, hen, HE2⟩ := hrel
        have hS0 := HS.out wr (HEd.out.trans HE2.out)
        obtain ⟨hXo, q0, q1, q2⟩ := hS0
        by_cases hen2 : e < n
        · have hen3 : (e : Int) + 1 ≤ (n : Int) := by omega
          have he0 : (0 : Int) ≤ (e : Int) := by omega
          have he1 : (e : Int) < (n : Int) := by omega
          have hwe : IntKind.i64.wrap ((e : Int) + 1 - 1) = (e : Int) := by rw [IntWalk.i64_in _ (by omega)]; omega
          have hwe2 : IntKind.i64.wrap (e : Int) = (e : Int) := IntWalk.i64_in _ (by omega)
          obtain ⟨ax, cx, hcx, hox⟩ := Hre.out e hen2
          have h3r := HE.out.trans hXo
          have h2r := H3.out.trans h3r
          have hS2 : ∀ W, Ext wr W → Ext wr W ∧ W.cell? ⟨w2.heap.size, 0, none⟩ = some (.slice a2 a.p.length c2) ∧ W.cell? ⟨w2.heap.size, 1, none⟩ = some (.slice b2 n d2) ∧ W.cell? ⟨g, i, none⟩ = some (.slice (some ⟨gl, 0, none⟩) n cl) ∧ W.cell? ⟨gl, e, none⟩ = some (.slice ax a.p.length cx) := fun W hW => ⟨hW, (Hb2.out.ext (h2r.trans hW)).c0, (Hb2.out.ext (h2r.trans hW)).c1, (HS.out _ (hXo.trans hW)).2.2.2, (h3r.trans hW).cell hcx⟩
          obtain ⟨_, e0, e1, e2, e3⟩ := hS2 _ (Ext.refl wr).drew
          have hivc := Hiv.out i (e + 1) (by omega) (by omega) wr.drew h2r.drew
          have hln : (iv a.p (rs.map Qw.x) (i : Int) ((e + 1 : Nat) : Int)).length ≤ 1000 := by rw [Hw2.out.ivlen]; have := Hlp.out.1; omega
          have hsm := fun W ui (hE : Ext wr W) (ho : Rd W ui (iv a.p (rs.map Qw.x) (i : Int) ((e + 1 : Nat) : Int))) => lSame24_c (.slice ax a.p.length cx) ui _ _ W ((h3r.trans hE).ownQ hox).rd ho hln hln
          simp only [decide_true] at hsm
          rw [show ((e + 1 : Nat) : Int) = (e : Int) + 1 by omega] at hivc hsm
          have HXr2 : Hid (Ext wr wr) := Lib.hid (Ext.refl wr)
          have HS2 := Lib.hid hS2; have Hivc := Lib.hid hivc; have Hsm := Lib.hid hsm
          clear hS2 hivc hsm hln h3r h2r hcx hox hXo
          go_wp2_with fail
          go_region_held3 (fun w' => Ext wr w' ∧ w'.cell? ⟨w2.heap.size, 0, none⟩ = some (.slice a2 a.p.length c2) ∧ w'.cell? ⟨w2.heap.size, 1, none⟩ = some (.slice b2 n d2) ∧ w'.cell? ⟨g, i, none⟩ = some (.slice (some ⟨gl, 0, none⟩) n cl) ∧ w'.cell? ⟨gl, e, none⟩ = some (.slice ax a.p.length cx))
            (first | (with_reducible assumption) | exact HS2.out _ HXr2.out.drew | exact HS2.out _ HxC.out | exact HS2.out _ HxB.out)
            (first | (have hpv := HxB; clear hpv; go_at_call 21; refine (Hsm.out _ _ HxB.out HoB.out.rd).mono ?_; rintro e9 VC ⟨rfl, hxc⟩; have HxC := Lib.hid (HxB.out.trans hxc); clear hxc) | (go_at_call 30; refine Hivc.out.mono ?_; rintro e9 VB ⟨uB, rfl, hoB, hxb⟩; have HxB := Lib.hid (HXr2.out.drew.trans hxb); have HoB := Lib.hid hoB; clear hxb hoB))
          clear e0 e1 e2 e3
          go_wp2_with fail
          go_roundw
          case rel => exact ⟨e + 1, by go_num, by omega, Lib.hid (HE2.out.trans HxC.out)⟩
          case measure => simp [intOf]; omega
        · obtain rfl : e = n := by omega
          have hen3 : ¬ (e : Int) + 1 ≤ (e : Int) := by omega
          have Hfin := Lib.hid (HE.out.trans hXo)
          clear hXo
          go_wp2_with fail
          go_roundw
          case rel => exact ⟨i + 1, by go_num, by omega, Hfin⟩
          case measure => simp [intOf]; omega
    · obtain rfl : i = n := by omega
      have hin2 : ¬ (i : Int) < (i : Int) := by omega
      have Hend := Lib.hid (Hx2.out.trans (H3.out.trans HE.out))
      go_wp2_with fail
      go_ret
      exact ⟨rfl, Hend.out⟩
end Go.Proofs.YtaakmdjicocjpaaGreatDoor
