/- The sort of rows, by its contract. -/
import Derived.Test.YtkamjjjimbbdmaaGreatDoorCompact
namespace Go.Proofs.YtkamjjjimbbdmaaGreatDoor
open Go.RowKit Go.Lib Go.Shelf Go.Sort

theorem put_mapG {α : Type} [Inhabited α] (f : α → Value) (w : World) (g q off : Nat) (ys : Array α) : putRow f (Sort.ahead w q) g off ys = putRow id (Sort.ahead w q) g off (ys.map f) := by
  unfold putRow
  congr 1
  funext cur
  unfold putCells
  apply Array.ext
  · simp
  · intro i h1 h2
    simp only [Array.getElem_mapIdx, Array.size_map]
    by_cases h : off ≤ i ∧ i < off + ys.size
    · rw [if_pos h, if_pos h]
      have hj : i - off < ys.size := by omega
      simp [getElem!_pos, hj]
    · rw [if_neg h, if_neg h]
theorem lift_rows {W : World} {b : Nat} : ∀ rs : List Rw, (∀ r ∈ rs, OwnI W b r.u r.x ∧ r.x.length ≤ 1000000) → ∃ d : List (RwAt W b), d.map RwAt.r = rs
  | [], _ => ⟨[], rfl⟩
  | r :: rs, h => by
    obtain ⟨d, hd⟩ := lift_rows rs fun s hs => h s (List.mem_cons_of_mem _ hs)
    exact ⟨⟨r, h r (List.mem_cons_self ..)⟩ :: d, by rw [List.map_cons, hd]⟩
theorem grown_sort {W : World} {b g n : Nat} (d : Array (RwAt W b)) (os : Array Obj) : W.grownBy (sortWorld RwAt.enc W g 0 n d os) (some g) := by
  unfold sortWorld
  rw [put_mapG]
  exact grownBy_put W g n _ os

set_option maxHeartbeats 1000000 in
theorem sortR_c {W : World} {b B : Nat} {a : Option Addr} {cap : Nat} {rs : List Rw} (hs : RwM W b B (.slice a rs.length cap) rs) (hl : rs.length ≤ 1000000) :
    Calls Tryz.prog 51 #[.slice a rs.length cap, .func (.func 52) #[] #[]] W fun e w' => e = .returned (.tuple #[]) ∧ ∃ rs' : List Rw, RwM w' b B (.slice a rs.length cap) rs' ∧ rs'.Perm rs ∧ rs'.Pairwise (fun a b => cmpL a.x b.x ≤ 0) ∧ ∀ w0 : World, Ext w0 W → w0.heap.size = B → Ext w0 w' := by
  rcases Nat.eq_zero_or_pos rs.length with h0 | hpos
  · obtain rfl := List.eq_nil_of_length_eq_zero h0
    have L0 : SlLaysF0.n6 Tryz.prog Tryz.lSortRow_ren := { Tryz.lSortRow with }
    exact (AnyF.slices_SortFunc_none L0 a cap _ W).mono fun e w' ⟨h1, h2⟩ => ⟨h1, [], by rw [h2]; exact hs, List.Perm.refl _, List.Pairwise.nil, fun w0 h0 _ => by rw [h2]; exact h0⟩
  · obtain ⟨g, cap', e0, hcells⟩ := own_slice hs.1 hpos
    injection e0 with e1 _ e3
    subst e1; subst e3
    obtain ⟨d, hd⟩ := lift_rows rs hs.2
    have hdl : d.length = rs.length := by rw [← hd, List.length_map]
    have hgB : B ≤ g := by
      rcases hs.1.2 with ⟨e0, _⟩ | ⟨g', cap', cur, e0, hb, _⟩
      · cases e0
      · injection e0 with e1 _ _
        injection e1 with e1
        injection e1 with e1
        omega
    have hat : ∀ j, (h : j < d.length) → W.cell? ⟨g, j, none⟩ = some (RwAt.enc d[j]) := fun j h => by
      refine hcells j _ ?_
      rw [← hd]
      simp [rwc, RwAt.enc, h]
    have hH : Holds RwAt.enc W g 0 d.toArray := by
      intro j hj
      have hj' : j < d.length := by simpa using hj
      refine ⟨?_, ?_⟩
      · rw [Nat.zero_add, hat j hj']
        simp [getElem!_pos, hj']
      · rw [Nat.zero_add]; exact World.ownsRow.frozenAt hs.1 j
    have hg : g < W.heap.size := World.block_lt_of_cell? _ _ (hat 0 (by omega))
    have eg : ∀ args w, (callFunc 52 args).run Tryz.prog w = .ok (.enter 52 args) w := enters_of Tryz.func52 (by kernel_rfl) rfl
    have hcmp : CmpLays1 Tryz.prog 52 #[] RwAt.enc (cfR (W := W) (B := b)) g 0 d.toArray.size W := by
      intro m os dk _ x y
      have hgr := grown_sort (g := g) (n := m) dk os
      have k1 : OwnI (sortWorld RwAt.enc W g 0 m dk os) b x.1.u x.1.x := World.ownsRow.kept x.2.1 hgr (own_ne x.2.1 hs.1 (by decide))
      have k2 : OwnI (sortWorld RwAt.enc W g 0 m dk os) b y.1.u y.1.x := World.ownsRow.kept y.2.1 hgr (own_ne y.2.1 hs.1 (by decide))
      refine (rcompare_c x.1.u y.1.u x.1.x y.1.x (sortWorld RwAt.enc W g 0 m dk os) k1.sl k2.sl x.2.2 y.2.2).mono ?_
      rintro e w' ⟨rfl, rfl⟩
      exact ⟨rfl, 0, #[], by rw [grow_empty]; rfl⟩
    have hone : OneCell (RwAt.enc (W := W) (B := b)) := fun r => r.1.hu
    have hcon := Any.slices_SortFunc Tryz.lSortRow RwAt.enc hone cfR swoR 52 #[] g 0 cap d.toArray W eg hcmp hH hg (by simp; omega)
    rw [List.size_toArray, hdl] at hcon
    refine Calls.mono hcon ?_
    rintro e w' ⟨rfl, d', n, os, hp, hso, rfl⟩
    obtain ⟨hd1, _, hd3⟩ := hp
    have hsz : d'.size = rs.length := by rw [hd1]; simpa using hdl
    have hperm : d'.toList.Perm d := by
      have : (d'.extract 0 rs.length).toList.Perm (d.toArray.extract 0 rs.length).toList := hd3
      simpa [hsz, hdl, List.take_of_length_le] using this
    have hgrow := grown_sort (g := g) (n := n) d' os
    have hperm2 : (d'.toList.map RwAt.r).Perm rs := by rw [← hd]; exact hperm.map _
    refine ⟨rfl, d'.toList.map RwAt.r, ⟨?_, ?_⟩, hperm2, ?_, ?_⟩
    · have h1 := own_put (q := n) (ys := rwc (d'.toList.map RwAt.r)) hs.1 (by rw [rwc_length]; simp [hsz])
      have h2 : (grow (putRow id (Sort.ahead W n) g 0 (rwc (d'.toList.map RwAt.r)).toArray) os).ownsRow B 30 1 (.slice (some ⟨g, 0, none⟩) rs.length cap) rs.length (rwc (d'.toList.map RwAt.r)) := ((Ext.refl _).grow os).own h1
      unfold sortWorld
      rw [put_mapG, show d'.map RwAt.enc = (rwc (d'.toList.map RwAt.r)).toArray by apply Array.toList_inj.1; simp [rwc, RwAt.enc]]
      rw [show (d'.toList.map RwAt.r).length = rs.length by simpa using hsz]
      exact h2
    · exact kept_rows hgrow hs.1 hs.2 (fun r h => hperm2.mem_iff.1 h)
    · rw [List.pairwise_map, List.pairwise_iff_getElem]
      intro i j hi hj hij
      have := hso i j (Nat.zero_le _) hij (by simpa [hsz] using hj)
      have hi' : i < d'.size := by simpa using hi
      have hj' : j < d'.size := by simpa using hj
      rw [getElem!_pos d' j hj', getElem!_pos d' i hi'] at this
      unfold ltOf cfR at this
      have h3 := of_decide_eq_false this
      have h4 := cmpL_swap (d'[i]).1.x (d'[j]).1.x
      have h5 : cmpL (d'[i]).1.x (d'[j]).1.x ≤ 0 := by omega
      simpa using h5
    · intro w0 h0 hB0
      exact h0.grown hgrow fun k hk => by cases hk; omega

end Go.Proofs.YtkamjjjimbbdmaaGreatDoor
