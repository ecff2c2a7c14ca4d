/- The walk of comma.Smallest. -/
import Derived.Test.YtkamjjjimbbdmaaGreatDoorSmallest
import Derived.Test.YtkamjjjimbbdmaaGreatDoorList
namespace Go.Proofs.YtkamjjjimbbdmaaGreatDoor
open Go.RowKit Go.Lib Go.Shelf Go.Sort

theorem info_sized : (Tryz.prog.info? 95).map (fun i => (i.zero, i.size, i.bytes)) = some (some (.agg #[.string ⟨#[]⟩, .string ⟨#[]⟩, .slice none 0 0]), 3, 56) := by kernel_rfl

theorem cell_three_new (w : World) (a b c : Value) (t : TypeId) : ∀ j u, [a, b, c][j]? = some u → (w.alloc (.cells #[a, b, c] t)).cell? ((⟨w.heap.size, 0, none⟩ : Addr).add j) = some u := by
  obtain ⟨h0, h1, h2⟩ := three_new w a b c t
  intro j u hj
  have e : ((⟨w.heap.size, 0, none⟩ : Addr).add j) = ⟨w.heap.size, j, none⟩ := by unfold Addr.add; split <;> simp_all
  rw [e]
  match j, hj with
  | 0, hj => rw [h0]; simpa using hj
  | 1, hj => rw [h1]; simpa using hj
  | 2, hj => rw [h2]; simpa using hj
  | n + 3, hj => simp at hj
def SzOut (p : List Int) (rs : List Rw) (b : Nat) (w0 : World) (v i : Value) (wr : World) : Prop :=
  ∃ (k : Nat) (es : List Sz), i = .int .i64 k ∧ k ≤ rs.length ∧ SzL b wr w0.heap.size v es ∧ es.map (fun e => (e.a, e.b, e.x)) = (rs.take k).map (fun r => (numP p r.x, denP p r.x, r.x)) ∧ Ext w0 wr

theorem sortAll_c {W : World} {b B : Nat} {a : Option Addr} {cap : Nat} {es : List Sz} (hs : SzL b W B (.slice a es.length cap) es) (he : Env W) (hBg : 2 < B) (hl : es.length ≤ 1000000) :
    Calls Tryz.prog 47 #[.slice a es.length cap, .func (.func 48) #[] #[]] W fun e w' => e = .returned (.tuple #[]) ∧ ∃ es' : List Sz, SzL b w' B (.slice a es.length cap) es' ∧ es'.Perm es ∧ es'.Pairwise (fun a b => a.a * b.b ≤ b.a * a.b) ∧ ∀ w0 : World, Ext w0 W → (w0.heap.size = B → Ext w0 w') := by
  rcases Nat.eq_zero_or_pos es.length with h | h
  · obtain rfl := List.eq_nil_of_length_eq_zero h
    exact (AnyF.slices_SortFunc_none Tryz.lSortSized a cap _ W).mono fun e w' ⟨h1, h2⟩ => ⟨h1, [], by rw [h2]; exact hs, List.Perm.refl _, List.Pairwise.nil, fun w0 h0 _ => by rw [h2]; exact h0⟩
  · exact sortS_c hs he hBg h hl

theorem szc_snoc (es : List Sz) (e : Sz) : szc (es ++ [e]) = szc es ++ [.string (I (e.a : Int)), .string (I (e.b : Int)), e.u] := by simp [szc, Sz.enc]
theorem sz_more {p rx : List Int} {rs : List Rw} {k A B b : Nat} {ru : Value} {hru : ru.oneCell' = true} {w0 wr W5 W7 : World} {v v7 : Value} {es : List Sz} {tmp : Obj} (hA : numP p rx = A) (hB : denP p rx = B) (hr : rs[k]? = some ⟨rx, ru, hru⟩) (ha : A < 1000000000) (hb : B < 1000000000) (h0 : 0 < B)
    (hE : Ext w0 W5) (hx : Ext wr W5) (hs : SzL b wr w0.heap.size v es) (hm : es.map (fun e => (e.a, e.b, e.x)) = (rs.take k).map (fun r => (numP p r.x, denP p r.x, r.x))) (hu : OwnI wr b ru rx) (hone : ru.oneCell' = true)
    (hown : W7.ownsRow w0.heap.size 95 3 v7 (es.length + 1) (szc es ++ [.string (I (A : Int)), .string (I (B : Int)), ru])) (hgrow : (W5.alloc tmp).grownBy W7 v.ownBlock) : SzOut p rs b w0 v7 (.int .i64 ((k : Int) + 1)) W7 := by
  have hs5 : SzL b W5 w0.heap.size v es := ⟨hx.own hs.1, fun e he => hx.ownI (hs.2 e he)⟩
  have keep : ∀ u' x', OwnI W5 b u' x' → OwnI W7 b u' x' := fun u' x' ho =>
    World.ownsRow.kept (((Ext.refl W5).alloc tmp).ownI ho) hgrow (own_ne ho hs5.1 (by decide))
  have hE7 : Ext w0 W7 := by
    refine (hE.alloc tmp).grown hgrow fun k hk => ?_
    rcases hs.1.2 with ⟨rfl, _⟩ | ⟨g, cap, cur, rfl, hb, _⟩
    · simp [Value.ownBlock] at hk
    · simp [Value.ownBlock] at hk; omega
  have hlt := (List.getElem?_eq_some_iff.1 hr).1
  refine ⟨k + 1, es ++ [⟨A, B, rx, ru, ha, hb, h0, hone⟩], by simp, by omega, ⟨?_, ?_⟩, ?_, hE7⟩
  · rw [List.length_append, szc_snoc]
    exact hown
  · intro e hmem
    rcases List.mem_append.1 hmem with h | h
    · exact keep _ _ (hs5.2 e h)
    · simp only [List.mem_singleton] at h
      subst h
      exact keep _ _ (hx.ownI hu)
  · rw [List.take_add_one, hr, List.map_append, List.map_append, hm]
    simp [hA, hB]

/-- The smallest ones: in order of size, cut. -/
def LeastOf (p : List Int) (R : List (List Int)) (c : Nat) (F : List (Nat × Nat × List Int)) (rs : List Rw) : Prop :=
  F.Perm (R.map fun r => (numP p r, denP p r, r)) ∧ F.Pairwise (fun a b => a.1 * b.2.1 ≤ b.1 * a.2.1) ∧ rs.map Rw.x = (F.take c).map fun e => e.2.2
def rwOf (e : Sz) : Rw := ⟨e.x, e.u, e.hu⟩
theorem ext_grown1 {w0 W W7 : World} {E s n : Nat} {v : Value} {xs : List Value} {t1 t2 : Obj} (hE : Ext w0 W) (hr : W.ownsRow w0.heap.size E s v n xs) (hgrow : ((W.alloc t1).alloc t2).grownBy W7 v.ownBlock) : Ext w0 W7 :=
  ext_grown (hE.alloc t1) (hr.alloc t1) hgrow

set_option maxRecDepth 100000 in
set_option maxHeartbeats 4000000 in
theorem least_w (vp vx : Value) (p x : List Int) (lim cnt : Int) (w : World) (he : Env w) (hp : Sl w vp (i64s p)) (hx : Sl w vx (i64s x)) (hask : askErr p lim x = 0) (h0 : 0 ≤ cnt) (h1 : cnt ≤ 100) (hlp : p.length ≤ 64) (hlx : x.length ≤ 64)
    (R : List (List Int)) (hR : R.length ≤ 10000) (hn : ∀ r ∈ R, Nice p r ∧ numP p r < 1000000000 ∧ denP p r < 1000000000 ∧ 0 < denP p r)
    (hl : ∀ W, Ext w W → Calls Tryz.prog 14 #[.agg #[vp, .int .i64 lim, vx]] W fun e w' => ∃ v rs, e = .returned (.tuple #[v, .int .i64 0]) ∧ RwL w' W.heap.size v rs ∧ rs.map Rw.x = R ∧ Ext W w') :
    Calls Tryz.prog 17 #[.agg #[vp, .int .i64 lim, vx], .int .i64 cnt] w fun e w' => ∃ v rs' F, e = .returned (.tuple #[v, .int .i64 0]) ∧ LeastOf p R cnt.toNat F rs' ∧ RwL w' w.heap.size v rs' ∧ Ext w w' := by
  obtain ⟨i0, hi, hv0, hv1, hv2⟩ := info_parts info_row
  obtain ⟨j0, hj, hy0, hy1, hy2⟩ := info_parts info_sized
  have hck := fun W (hE : Ext w W) => ask_c vp vx lim p x W (he.ext hE) (hE.sl hp) (hE.sl hx) (by omega) (by omega)
  rw [hask] at hck
  have hsd := fun W (hE : Ext w W) v r (hr : r ∈ R) (hv : Sl W v (i64s r)) => csides_c vp v p r W (he.ext hE) (hE.sl hp) hv (hn r hr).1
  have Hck := Lib.hid hck; have Hsd := Lib.hid hsd; have Hl := Lib.hid hl; have He := Lib.hid he; have Hn := Lib.hid hn; have HR := Lib.hid hR
  clear hck hsd hl he hask hn hR
  obtain ⟨aa, ca, rfl, _, _, _⟩ := hp.parts
  obtain ⟨ab, cb, rfl, _, _, _⟩ := hx.parts
  clear hp hx
  rw [i64s_length] at *
  rw [i64s_length] at *
  obtain ⟨hb0, hb1, hb2⟩ := three_new w (.slice aa p.length ca) (.int .i64 lim) (.slice ab x.length cb) 32
  have hE0 : Ext w (w.alloc (.cells #[.slice aa p.length ca, .int .i64 lim, .slice ab x.length cb] 32)) := (Ext.refl w).alloc _
  generalize hw0 : w.alloc (.cells #[.slice aa p.length ca, .int .i64 lim, .slice ab x.length cb] 32) = W0 at *
  go_enter Tryz.func17, Tryz.ntmps17
  go_wp2_with fail
  refine (Hck.out W0 hE0).mono ?_
  rintro e W1 ⟨rfl, hx1⟩
  have hE1 := hE0.trans hx1
  have hb01 := hx1.cell hb0
  have hb11 := hx1.cell hb1
  have hb21 := hx1.cell hb2
  go_wp2_with fail
  refine (Hl.out W1 hE1).mono ?_
  rintro e W2 ⟨v2, rs, rfl, hrs, hRs, hx2⟩
  have hE1s := hE1.size
  have HE1s := Lib.hid hE1s; clear hE1s
  have hE2 := hE1.trans hx2
  have hb02 := hx2.cell hb01
  obtain ⟨a2, c2, rfl⟩ := own_shape hrs.1
  have hrl : rs.length ≤ 10000 := by have := HR.out; rw [← hRs, List.length_map] at this; exact this
  have Hrs := Lib.hid hrs; have HRs := Lib.hid hRs; have HE2 := Lib.hid hE2
  clear hrs hRs hE2 hx1 hx2 hE0 hE1
  go_wp2_with fail
  go_loopw [9, 38] (fun v i wr => SzOut p rs W1.heap.size W2 v i wr) (fun _ i _ => rs.length - (intOf i).toNat)
  case atStart => exact ⟨0, [], rfl, Nat.zero_le _, ⟨World.ownsRow_nil _ _ _ 3, fun _ h => by cases h⟩, rfl, Ext.refl _⟩
  case round =>
    obtain ⟨k, es, rfl, hk, hes, hmap, hext⟩ := hrel
    obtain ⟨av, cv, rfl⟩ := own_shape hes.1
    have Hes := Lib.hid hes; have Hmap := Lib.hid hmap; have Hext := Lib.hid hext
    clear hes hmap hext
    by_cases hlt : k < rs.length
    · obtain ⟨r, hr⟩ : ∃ r, rs[k]? = some r := ⟨_, List.getElem?_eq_getElem hlt⟩
      have hmem : r ∈ rs := List.mem_of_getElem? hr
      obtain ⟨g, cap, e0, hsl⟩ := own_slice Hrs.out.1 (by omega)
      injection e0 with e1 _ e3
      subst e1; subst e3
      have hrx : r.x ∈ R := by rw [← HRs.out]; exact List.mem_map_of_mem hmem
      have hown := Hrs.out.2 r hmem
      have hat := hsl k r.u (by simp [rwc, hr])
      obtain ⟨rx, ru, hru⟩ := r
      dsimp only at hrx hown hat
      obtain ⟨ar, cr, rfl⟩ := own_shape hown
      have hc := Hext.out.cell hat
      have hb0w := Hext.out.cell hb02
      have hsd := Hsd.out wr (HE2.out.trans Hext.out) _ rx hrx (Hext.out.ownI hown).sl
      obtain ⟨hnice, hna, hnb, hnb0⟩ := Hn.out rx hrx
      have Hsd1 := Lib.hid hsd; have Hown := Lib.hid hown; have Hr := Lib.hid hr; have Hnice := Lib.hid hnice
      clear hsd hown hr hnice hsl hat
      generalize hA : numP p rx = A at *
      generalize hB : denP p rx = B at *
      have HA := Lib.hid hA; have HB := Lib.hid hB; clear hA hB
      go_wp2_with fail
      refine Hsd1.out.mono ?_
      rintro e W5 ⟨rfl, hx5⟩
      have hes5 := hx5.own Hes.out.1
      have hsz5 := (Hext.out.trans hx5).size
      have Hx5 := Lib.hid hx5; clear hx5
      have heslen : es.length ≤ 10000 := by have := congrArg List.length Hmap.out; simp at this; omega
      have hm3 : es.length + 1 ≤ maxLen := by unfold maxLen; omega
      have hm4 : (es.length + 1) * 56 ≤ 140737488355328 := by omega
      go_wp2_with (at_builtin; refine wpList_append_own _ rfl _ _ 93 rfl W2.heap.size 95 j0 (.agg #[.string ⟨#[]⟩, .string ⟨#[]⟩, .slice none 0 0]) 3 56 Tryz.underlying93 hj hy0 hy1 hy2 rfl (by decide) _ _ _ rfl (hes5.alloc _) ⟨W5.heap.size, 0, none⟩ 1 1 [.string (I (A : Int)), .string (I (B : Int)), .slice ar rx.length cr] rfl rfl (cell_three_new _ _ _ _ _) (by simp [Value.oneCell']) hm3 hm4 (by rw [World.size_alloc]; omega) ?_; intro v7 W7 hown7 hgrow7 _)
      go_roundw
      case rel => exact sz_more HA.out HB.out Hr.out hna hnb hnb0 (Hext.out.trans Hx5.out) Hx5.out Hes.out Hmap.out (Hext.out.ownI Hown.out) rfl hown7 hgrow7
      case measure => simp [intOf]; omega
    · obtain rfl : k = rs.length := by omega
      have hmap := Hmap.out
      rw [List.take_length] at hmap
      have heslen : es.length = rs.length := by have := congrArg List.length hmap; simpa using this
      have hsort := sortAll_c (a := av) (cap := cv) Hes.out (He.out.ext (HE2.out.trans Hext.out)) (Nat.lt_of_lt_of_le He.out.lt HE2.out.size) (by omega)
      have Hsort := Lib.hid hsort; have Hmap2 := Lib.hid hmap; clear hsort hmap heslen
      go_wp2_with fail
      refine Hsort.out.mono ?_
      rintro e W8 ⟨rfl, es', hes8, hperm, hpw, hx8⟩
      have hlen8 := hperm.length_eq
      have hcap8 := (own_cap hes8.1).1
      rw [hlen8] at hcap8
      obtain ⟨M, hM1, hM2, hM3⟩ : ∃ M : Nat, min cnt (es.length : Int) = (M : Int) ∧ M ≤ es.length ∧ M ≤ cv := ⟨(min cnt (es.length : Int)).toNat, by omega, by omega, by omega⟩
      have hM4 : max (M : Int) 0 = (M : Int) := by omega
      have hM5 : M = min cnt.toNat es.length := by omega
      have hM6 : M ≤ 100 := by omega
      have HM5 := Lib.hid hM5; have Hperm := Lib.hid hperm; have Hpw := Lib.hid hpw; have Hlen8 := Lib.hid hlen8
      clear hM5 hperm hpw hlen8
      have HM4 := Lib.hid hM4
      have Hes8 := Lib.hid hes8; have Hx8 := Lib.hid (hx8 W2 Hext.out rfl); clear hes8 hx8
      go_wp2_with fail
      clear hM1 hM4
      go_loopw [14, 66] (fun v i wr => ∃ k : Nat, i = .int .i64 k ∧ k ≤ M ∧ wr.ownsRow W8.heap.size 30 1 v k ((es'.take k).map Sz.u) ∧ Ext W8 wr) (fun _ i _ => M - (intOf i).toNat)
      case atStart => exact ⟨0, rfl, Nat.zero_le _, by rw [List.take_zero]; exact World.ownsRow_nil _ _ _ 1, Ext.refl _⟩
      case round =>
        obtain ⟨j, rfl, hj, hown9, hext9⟩ := hrel
        obtain ⟨a9, c9, rfl⟩ := own_shape hown9
        have Hown9 := Lib.hid hown9; have Hext9 := Lib.hid hext9; clear hown9 hext9
        by_cases hlt9 : j < M
        · obtain ⟨s, hs⟩ : ∃ s, es'[j]? = some s := ⟨_, List.getElem?_eq_getElem (by have := Hlen8.out; omega)⟩
          obtain ⟨g, cap, e0, hsl⟩ := own_slice Hes8.out.1 (by have := Hlen8.out; omega)
          injection e0 with e1 e2 e3
          clear e2
          subst e1; subst e3
          obtain ⟨hs1, hs2, hs3⟩ := szc_at es' j s hs
          have hc1 := Hext9.out.cell (hsl _ _ hs1)
          have hc2 := Hext9.out.cell (hsl _ _ hs2)
          have hc3 := Hext9.out.cell (hsl _ _ hs3)
          have hus := Hes8.out.2 s (List.mem_of_getElem? hs)
          have htk : (es'.take (j + 1)).map Sz.u = (es'.take j).map Sz.u ++ [s.u] := by rw [List.take_add_one, hs]; simp
          have Hs := Lib.hid hs; have Hus := Lib.hid hus; have Htk := Lib.hid htk; clear hs hus hs1 hs2 hs3 hsl htk
          obtain ⟨sa, sb, sx, su, hsa, hsb, hs0, hsu⟩ := s
          dsimp only at hc1 hc2 hc3
          have hus := Hus.out
          dsimp only at hus
          obtain ⟨au, cu, rfl⟩ := own_shape hus
          clear hus Hus
          generalize I (sa : Int) = ta at *
          generalize I (sb : Int) = tb at *
          have hown9 := Hown9.out
          have hsz9 := Hext9.out.size
          have hm3 : j + 1 ≤ maxLen := by unfold maxLen; omega
          have hm4 : (j + 1) * 24 ≤ 140737488355328 := by omega
          have hnews : ∀ o : Obj, ∀ jj u, [Value.slice au sx.length cu][jj]? = some u → ((wr.alloc o).alloc (.cells #[.slice au sx.length cu] 30)).cell? ((⟨wr.heap.size + 1, 0, none⟩ : Addr).add jj) = some u := fun o => by
            have h := cell_one_new (wr.alloc o) (.slice au sx.length cu) 30
            rwa [World.size_alloc] at h
          have Hnews := Lib.hid hnews; clear hnews
          have hbase : W8.heap.size ≤ ((wr.alloc (.cells #[.string ta, .string tb, .slice au sx.length cu] 95)).alloc (.cells #[.slice au sx.length cu] 30)).heap.size := by rw [World.size_alloc, World.size_alloc]; omega
          go_wp2_with (at_builtin; refine wpList_append_own _ rfl _ _ 36 rfl W8.heap.size 30 i0 (.slice none 0 0) 1 24 Tryz.underlying36 hi hv0 hv1 hv2 rfl (by decide) _ _ _ rfl ((hown9.alloc _).alloc _) ⟨wr.heap.size + 1, 0, none⟩ 1 1 [.slice au sx.length cu] rfl rfl (Hnews.out _) (by simp [Value.oneCell']) hm3 hm4 hbase ?_; intro v7 W7 hown7 hgrow7 _)
          have hE7 := ext_grown1 Hext9.out hown9 hgrow7
          have HE7 := Lib.hid hE7; have Hown7 := Lib.hid hown7; clear hE7 hown7 hgrow7 hown9
          go_wp2
          go_roundw
          case rel => exact ⟨j + 1, by go_num, by omega, by rw [Htk.out]; exact Hown7.out, HE7.out⟩
          case measure => simp [intOf]; omega
        · obtain rfl : j = M := by omega
          go_wp2
          go_ret2
          refine ⟨_, (es'.take j).map rwOf, es'.map (fun e => (e.a, e.b, e.x)), rfl, ⟨?_, ?_, ?_⟩, ⟨?_, ?_⟩, (HE2.out.trans Hx8.out).trans Hext9.out⟩
          · rw [← HRs.out, List.map_map]
            refine (Hperm.out.map _).trans ?_
            rw [Hmap2.out]
            exact List.Perm.refl _
          · rw [List.pairwise_map]; exact Hpw.out
          · rw [← List.map_take, List.map_map, List.map_map]
            have hjj : es'.take j = es'.take cnt.toNat := by
              rw [HM5.out, ← Hlen8.out]
              rcases Nat.le_total cnt.toNat es'.length with h | h
              · rw [Nat.min_eq_left h]
              · rw [Nat.min_eq_right h, List.take_length, List.take_of_length_le h]
            rw [hjj]
            rfl
          · rw [show rwc ((es'.take j).map rwOf) = (es'.take j).map Sz.u by simp [rwc, rwOf, Function.comp_def]]
            rw [show ((es'.take j).map rwOf).length = j by have := Hlen8.out; simp; omega]
            exact own_mono Hown9.out (HE2.out.trans Hx8.out).size
          · intro r hr
            obtain ⟨e, he, rfl⟩ := List.mem_map.1 hr
            have := Hext9.out.ownI (Hes8.out.2 e (List.mem_of_mem_take he))
            exact own_mono this (Nat.le_trans (Nat.le_refl _) (by have := HE1s.out; exact this))

end Go.Proofs.YtkamjjjimbbdmaaGreatDoor
