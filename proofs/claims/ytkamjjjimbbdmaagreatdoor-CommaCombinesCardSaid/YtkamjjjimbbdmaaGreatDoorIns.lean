/- The walk of the law's insert. -/
import Derived.Test.YtkamjjjimbbdmaaGreatDoorInsP
import Derived.Test.YtkamjjjimbbdmaaGreatDoorLwB
import Derived.Deep.RegionLaw
import Derived.Deep.AppendLies
namespace Go.Proofs.YtkamjjjimbbdmaaGreatDoor
open Go.RowKit Go.Lib Go.Shelf Go.Sort

theorem ins_ext {w wr V1 : World} {E s n : Nat} {v : Value} {xs : List Value} {tmp : Obj} (hE : Ext w wr) (hown : wr.ownsRow w.heap.size E s v n xs) (hg : ((wr.alloc tmp).drew).grownBy V1 v.ownBlock) : Ext w V1 :=
  ((hE.alloc tmp).drew).grown hg fun k hk => (World.ownsRow.lt hown k hk).1
theorem ins_news {w V1 : World} {g k cap b B : Nat} {rs : List Rw} (hs : RwM w b B (.slice (some ⟨g, 0, none⟩) rs.length cap) rs) (hE : Ext w V1) : ∀ j u, (rwc (rs.drop k))[j]? = some u → V1.cell? ((⟨g, k, none⟩ : Addr).add j) = some u := by
  intro j u hu
  have h1 : (rwc rs)[k + j]? = some u := by
    unfold rwc at hu ⊢
    rwa [List.map_drop, List.getElem?_drop] at hu
  have := hE.cell (World.ownsRow.cells hs.1 (g := g) rfl (k + j) u h1)
  rw [show ((⟨g, 0, none⟩ : Addr).add (k + j)) = ⟨g, k + j, none⟩ by unfold Addr.add; split <;> simp_all] at this
  rwa [show ((⟨g, k, none⟩ : Addr).add j) = ⟨g, k + j, none⟩ by unfold Addr.add; split <;> simp_all]
theorem ins_fin {w V2 : World} {b B n : Nat} {v : Value} {rs ss : List Rw} {r : Rw} {a : Option Addr} {cap : Nat} (hB : B ≤ w.heap.size) (hs : RwM w b B (.slice a rs.length cap) rs) (hr : OwnI w b r.u r.x) (hl : r.x.length ≤ 1000000) (hE : Ext w V2) (hin : ∀ s ∈ ss, s = r ∨ s ∈ rs) (hn : n = ss.length) (hown : V2.ownsRow w.heap.size 30 1 v n (rwc ss)) : RwM V2 b B v ss := by
  subst hn
  refine ⟨own_mono hown hB, fun s hs' => ?_⟩
  rcases hin s hs' with rfl | h
  · exact ⟨hE.ownI hr, hl⟩
  · exact ⟨hE.ownI (hs.2 s h).1, (hs.2 s h).2⟩
def InsRel (b : Nat) (x : List Int) (rs : List Rw) (w : World) (v i : Value) (wr : World) : Prop :=
  ∃ k : Nat, i = .int .i64 k ∧ k ≤ rs.length ∧ (∀ y ∈ (rs.map Rw.x).take k, 0 < cmpL x y) ∧ RwM wr b w.heap.size v (rs.take k) ∧ Ext w wr

def InsPost (b B : Nat) (r : Rw) (rs : List Rw) (w : World) (e : Ending) (w' : World) : Prop :=
  ∃ v rs', e = .returned v ∧ RwM w' b B v rs' ∧ rs'.map Rw.x = insX r.x (rs.map Rw.x) ∧ Ext w w'

set_option maxRecDepth 100000 in
set_option maxHeartbeats 2000000 in
theorem insert_c {b B : Nat} (a : Option Addr) (cap : Nat) (rs : List Rw) (r : Rw) (w : World) (hB : B ≤ w.heap.size) (hs : RwM w b B (.slice a rs.length cap) rs) (hr : OwnI w b r.u r.x) (hl : r.x.length ≤ 1000000) (hrl : rs.length ≤ 100000) :
    Calls Tryz.prog 23 #[.slice a rs.length cap, r.u] w (InsPost b B r rs w) := by
  obtain ⟨j0, hjr, hy0, hy1, hy2⟩ := info_parts info_row
  obtain ⟨au, cu, hru⟩ := own_shape hr
  obtain ⟨lu, hlu⟩ : ∃ lu, lu = r.x.length := ⟨_, rfl⟩
  rw [← hlu] at hru
  rw [hru]
  have Hs := Lib.hid hs; have Hr := Lib.hid hr; have Hru := Lib.hid hru; have Hl := Lib.hid hl; have Hlu := Lib.hid hlu
  clear hs hr hru hl hlu
  go_enter Tryz.func23, Tryz.ntmps23
  go_wp2_with fail
  go_loopw [5, 6] (fun v i wr => InsRel b r.x rs w v i wr) (fun _ i _ => rs.length - (intOf i).toNat)
  case atStart => exact ⟨0, rfl, Nat.zero_le _, fun y h => by simp at h, rwm_nil _ _ _, Ext.refl _⟩
  case round =>
    obtain ⟨k, rfl, hk, hlt, hown, hext⟩ := hrel
    obtain ⟨av, cv, rfl⟩ := own_shape hown.1
    rw [List.length_take, Nat.min_eq_left hk]
    have Hlt := Lib.hid hlt; have Hown := Lib.hid hown; have Hext := Lib.hid hext
    by_cases hkl : k < rs.length
    · obtain ⟨s, hsk⟩ : ∃ s, rs[k]? = some s := ⟨_, List.getElem?_eq_getElem hkl⟩
      obtain ⟨g, cg, eg, hrw⟩ := own_slice Hs.out.1 (by omega)
      injection eg with eg1 eg3 eg2
      subst eg1; subst eg2
      clear eg3
      have hcs := hext.cell (hrw k s.u (by simp [rwc, hsk]))
      have hos := Hs.out.2 s (List.mem_of_getElem? hsk)
      have hcmp := rcompare_c r.u s.u r.x s.x wr (hext.ownI Hr.out).sl (hext.ownI hos.1).sl Hl.out hos.2
      rw [Hru.out] at hcmp
      obtain ⟨asx, csx, hsu⟩ := own_shape hos.1
      rw [hsu] at hcs hcmp
      have hk0 : (0 : Int) ≤ (k : Int) := by omega
      have hk1 : (k : Int) < (rs.length : Int) := by omega
      have hsplit : rs.map Rw.x = (rs.map Rw.x).take k ++ s.x :: (rs.map Rw.x).drop (k + 1) := by
        have h1 : (rs.map Rw.x).drop k = s.x :: (rs.map Rw.x).drop (k + 1) := by
          rw [List.drop_eq_getElem_cons (by rw [List.length_map]; exact hkl)]
          congr 1
          have := List.getElem?_eq_some_iff.1 hsk
          rw [List.getElem_map, this.2]
        rw [← h1, List.take_append_drop]
      have hins : insX r.x (rs.map Rw.x) = (rs.map Rw.x).take k ++ insX r.x (s.x :: (rs.map Rw.x).drop (k + 1)) := by
        conv => lhs; rw [hsplit]
        exact insX_skip hlt
      generalize hss : s.x.length = ls at *
      have Hhos := Lib.hid hos; have Hsu := Lib.hid hsu; have Hsk := Lib.hid hsk; have Hsplit := Lib.hid hsplit; have Hins := Lib.hid hins; have Hcmp := Lib.hid hcmp; have Hrw := Lib.hid hrw; have Hss := Lib.hid hss
      clear hos hsu hsk hsplit hins hcmp hrw hlt hown hext hss
      rcases Int.lt_trichotomy (cmpL r.x s.x) 0 with hc | hc | hc
      · have hn := cmpL_range r.x s.x
        obtain hc1 : cmpL r.x s.x = -1 := by omega
        have hfin : insX r.x (rs.map Rw.x) = (rs.map Rw.x).take k ++ r.x :: s.x :: (rs.map Rw.x).drop (k + 1) := by
          rw [Hins.out, insX, if_neg (by omega), if_pos hc]
        have Hfin := Lib.hid hfin; clear hfin hn hc
        have Hc1 := Lib.hid hc1; clear hc1
        go_wp2_with fail
        refine Hcmp.out.mono ?_
        rintro e w1 ⟨rfl, rfl⟩
        rw [Hc1.out]
        go_wp2_with fail
        have hcap := (own_cap Hs.out.1).1
        have hck : ¬ cap = k := by omega
        have hown0 : wr.ownsRow w.heap.size 30 1 (.slice av k cv) k (rwc (rs.take k)) := by
          have := Hown.out.1
          rwa [List.length_take, Nat.min_eq_left hk] at this
        have hszw := Hext.out.size
        have hbase : w.heap.size ≤ ((wr.alloc (.cells #[.slice au lu cu] 30)).drew).heap.size := by rw [World.size_drew, World.size_alloc]; omega
        have hnews1 : ∀ j u, [Value.slice au lu cu][j]? = some u → ((wr.alloc (.cells #[.slice au lu cu] 30)).drew).cell? ((⟨wr.heap.size, 0, none⟩ : Addr).add j) = some u := fun j u hu => (Ext.refl _).drew.cell (cell_one_new wr _ _ j u hu)
        have hown1 : ((wr.alloc (.cells #[.slice au lu cu] 30)).drew).ownsRow w.heap.size 30 1 (.slice av k cv) k (rwc (rs.take k)) := (hown0.alloc _).drew
        have hm1 : k + 1 ≤ maxLen := by unfold maxLen; omega
        have hm2 : (k + 1) * 24 ≤ 140737488355328 := by omega
        have Hown0 := Lib.hid hown0; have Hown1 := Lib.hid hown1; have Hnews1 := Lib.hid hnews1
        clear hown1 hnews1 hown0
        have hm3 : k + 1 + (rs.length - k) ≤ maxLen := by unfold maxLen; omega
        have hm4 : (k + 1 + (rs.length - k)) * 24 ≤ 140737488355328 := by omega
        have hnl : (rwc (rs.drop k)).length = (rs.length - k) * 1 := by rw [rwc_length, List.length_drop]; omega
        have hone : ∀ u ∈ rwc (rs.drop k), u.oneCell' = true := fun u hu => by
          obtain ⟨x, _, rfl⟩ := List.mem_map.1 hu
          exact x.hu
        have hmp : 0 < rs.length - k := by omega
        have Hnl := Lib.hid hnl; have Hone := Lib.hid hone
        clear hnl hone
        go_region_law (first
          | (refine step_append_lies _ rfl (.tmp 27) (.tmp 29) 36 rfl w.heap.size 30 j0 (.slice none 0 0) 1 24 Tryz.underlying36 hjr hy0 hy1 hy2 rfl (by decide) (.slice av k cv) k (rwc (rs.take k)) (by simp [Act.eval]) Hown1.out ⟨wr.heap.size, 0, none⟩ 1 1 [.slice au lu cu] (by simp [Act.eval]) rfl Hnews1.out (by simp [Value.oneCell']) (by decide) hm1 hm2 hbase _ rfl ?_; intro g1 c1 V1 hown2 hgrow2 hat2 hlt2; have HE2 := Lib.hid (ins_ext Hext.out Hown0.out hgrow2); have Hown2 := Lib.hid hown2; have hsz2 := HE2.out.size; clear hown2 hgrow2 hat2 hlt2)
          | (refine step_append_lies _ rfl (.tmp 30) (.tmp 33) 36 rfl w.heap.size 30 j0 (.slice none 0 0) 1 24 Tryz.underlying36 hjr hy0 hy1 hy2 rfl (by decide) (.slice (some ⟨g1, 0, none⟩) (k + 1) c1) (k + 1) (rwc (rs.take k) ++ [.slice au lu cu]) (by simp [Act.eval]) Hown2.out ⟨g, k, none⟩ (rs.length - k) (cap - k) (rwc (rs.drop k)) (by simp [Act.eval]) Hnl.out (ins_news Hs.out HE2.out) Hone.out hmp hm3 hm4 hsz2 _ rfl ?_; intro g2 c2 V2 hown3 hgrow3 hat3 hlt3; have HE3 := Lib.hid (HE2.out.grown hgrow3 fun k hk => (World.ownsRow.lt Hown2.out k hk).1); have Hown3 := Lib.hid hown3; clear hown3 hgrow3 hat3 hlt3))
        have hfin := ins_fin (n := k + 1 + (rs.length - k)) (v := .slice (some ⟨g2, 0, none⟩) (k + 1 + (rs.length - k)) c2) (ss := rs.take k ++ r :: rs.drop k) hB Hs.out Hr.out Hl.out HE3.out (fun s hs => by
          rcases List.mem_append.1 hs with h | h
          · exact .inr (List.mem_of_mem_take h)
          · rcases List.mem_cons.1 h with h | h
            · exact .inl h
            · exact .inr (List.mem_of_mem_drop h)) (by rw [List.length_append, List.length_cons, List.length_take, List.length_drop]; omega) (by
          have := Hown3.out
          rw [← Hru.out, List.append_assoc] at this
          rw [show rwc (rs.take k ++ r :: rs.drop k) = rwc (rs.take k) ++ ([r.u] ++ rwc (rs.drop k)) by simp [rwc]]
          exact this)
        have hmap : (rs.take k ++ r :: rs.drop k).map Rw.x = insX r.x (rs.map Rw.x) := by
          rw [Hfin.out, List.map_append, List.map_cons, List.map_take, List.map_drop]
          congr 2
          rw [List.drop_eq_getElem_cons (by rw [List.length_map]; exact hkl)]
          congr 1
          have := List.getElem?_eq_some_iff.1 Hsk.out
          rw [List.getElem_map, this.2]
        have Hfin2 := Lib.hid hfin; have Hmap := Lib.hid hmap
        clear hfin hmap
        go_wp2
        go_ret
        exact ⟨_, _, rfl, Hfin2.out, Hmap.out, HE3.out⟩
      · go_wp2_with fail
        refine Hcmp.out.mono ?_
        rintro e w1 ⟨rfl, rfl⟩
        rw [hc]
        have hmap : rs.map Rw.x = insX r.x (rs.map Rw.x) := by
          rw [Hins.out, insX, if_pos hc]
          exact Hsplit.out
        have hrs := Hext.out.rwM Hs.out
        have Hmap := Lib.hid hmap; have Hrs := Lib.hid hrs
        clear hmap hrs hc
        go_wp2
        go_ret
        exact ⟨_, rs, rfl, Hrs.out, Hmap.out, Hext.out⟩
      · have hn := cmpL_range r.x s.x
        obtain hc1 : cmpL r.x s.x = 1 := by omega
        go_wp2_with fail
        refine Hcmp.out.mono ?_
        rintro e w1 ⟨rfl, rfl⟩
        rw [hc1]
        have hlt2 : ∀ y ∈ (rs.map Rw.x).take (k + 1), 0 < cmpL r.x y := by
          intro y hy
          rw [List.take_add_one, List.getElem?_map, Hsk.out] at hy
          rcases List.mem_append.1 hy with h | h
          · exact Hlt.out y h
          · have : y = s.x := by simpa using h
            rw [this, hc1]; omega
        have hown : wr.ownsRow w.heap.size 30 1 (.slice av k cv) (rs.take k).length (rwc (rs.take k)) := by
          have := Hown.out.1
          rw [List.length_take, Nat.min_eq_left hk] at this ⊢
          exact this
        have hos := Hhos.out
        have hm3 : (rs.take k).length + 1 ≤ maxLen := by rw [List.length_take]; unfold maxLen; omega
        have hm4 : ((rs.take k).length + 1) * 24 ≤ 140737488355328 := by rw [List.length_take]; omega
        have hszw := Hext.out.size
        have Hlt2 := Lib.hid hlt2
        clear hlt2 hc hc1 hn
        go_wp2_with (at_builtin; refine wpList_append_own _ rfl _ _ 36 rfl w.heap.size 30 j0 (.slice none 0 0) 1 24 Tryz.underlying36 hjr hy0 hy1 hy2 rfl (by decide) _ _ _ rfl (hown.alloc _) ⟨wr.heap.size, 0, none⟩ 1 1 [.slice asx ls csx] rfl rfl (cell_one_new _ _ _) (by simp [Value.oneCell']) hm3 hm4 (by rw [World.size_alloc]; omega) ?_; intro v7 W7 hown7 hgrow7 _)
        have hfin := rwm_more (r := s) Hown.out (Hext.out.ownI Hhos.out.1) (by rw [Hss.out]; exact Hhos.out.2) Hext.out (by rw [Hsu.out]; exact hown7) (by rw [List.length_take, Nat.min_eq_left hk]; exact hgrow7)
        rw [show rs.take k ++ [s] = rs.take (k + 1) by rw [List.take_add_one, Hsk.out]; rfl] at hfin
        have Hfin := Lib.hid hfin; clear hfin hown7 hgrow7 hown hos
        go_wp2
        go_roundw
        case rel => exact ⟨k + 1, by go_num, by omega, Hlt2.out, Hfin.out.1, Hfin.out.2⟩
        case measure => simp [intOf]; omega
    · obtain rfl : k = rs.length := by omega
      have hfin0 : insX r.x (rs.map Rw.x) = rs.map Rw.x ++ [r.x] := by
        have h := insX_skip (x := r.x) (a := rs.map Rw.x) (b := []) (fun y hy => hlt y (by rw [List.take_of_length_le (by rw [List.length_map]; exact Nat.le_refl _)]; exact hy))
        rw [List.append_nil] at h
        rw [h]; rfl
      have hown2 := hown
      rw [List.take_length] at hown2
      have hownr : wr.ownsRow w.heap.size 30 1 (.slice av rs.length cv) rs.length (rwc rs) := hown2.1
      have hszw := hext.size
      have hm3 : rs.length + 1 ≤ maxLen := by unfold maxLen; omega
      have hm4 : (rs.length + 1) * 24 ≤ 140737488355328 := by omega
      have Hfin0 := Lib.hid hfin0; have Hown2 := Lib.hid hown2
      clear hfin0 hown2 hown hlt hext
      go_wp2_with (at_builtin; refine wpList_append_own _ rfl _ _ 36 rfl w.heap.size 30 j0 (.slice none 0 0) 1 24 Tryz.underlying36 hjr hy0 hy1 hy2 rfl (by decide) _ _ _ rfl (hownr.alloc _) ⟨wr.heap.size, 0, none⟩ 1 1 [.slice au lu cu] rfl rfl (cell_one_new _ _ _) (by simp [Value.oneCell']) hm3 hm4 (by rw [World.size_alloc]; omega) ?_; intro v7 W7 hown7 hgrow7 _)
      have hfin := rwm_more (r := r) Hown2.out (Hext.out.ownI Hr.out) Hl.out Hext.out (by rw [Hru.out]; exact hown7) hgrow7
      have hmap : (rs ++ [r]).map Rw.x = insX r.x (rs.map Rw.x) := by rw [Hfin0.out, List.map_append]; rfl
      have Hfin := Lib.hid hfin; have Hmap := Lib.hid hmap; clear hfin hmap hown7 hgrow7 hownr
      go_wp2
      go_ret
      exact ⟨_, _, rfl, rwm_mono Hfin.out.1 (Nat.le_refl _) hB, Hmap.out, Hfin.out.2⟩

end Go.Proofs.YtkamjjjimbbdmaaGreatDoor
