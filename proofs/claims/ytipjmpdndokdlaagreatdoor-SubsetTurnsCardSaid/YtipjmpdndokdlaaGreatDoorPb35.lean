/- Walks: subset.All, subset.Scales where nothing is wrong. A search of few notes has no errors. Walks: schismaref06.EqualRows, law 38's sameInts. Walk: law 38's known. Plain: subsets of equal scales turn into modes when all indices move. -/
import Derived.Test.YtipjmpdndokdlaaGreatDoorPb34
import Derived.Test.YtipjmpdndokdlaaGreatDoorPb28
import Derived.Test.YtipjmpdndokdlaaGreatDoorPb27
import Derived.Test.YtipjmpdndokdlaaGreatDoorPb31
import Derived.Test.YtipjmpdndokdlaaGreatDoorPb26
set_option maxRecDepth 100000
set_option maxHeartbeats 4000000
namespace Go.Proofs.YtipjmpdndokdlaaGreatDoor
open Go.RowKit Go.Lib Go.Shelf
attribute [local go_sem] Oper.semAt_some
/-- What a query must be, for a search without errors. -/
structure SrOk (p : List Int) (N : List (List Rat)) (m : Nat) (P : Int) (M : List Int) : Prop where
 wd:Wd p N
 m1:1 ≤ m
 mn:m ≤ N.length
 P1:1 ≤ P
 P6:P ≤ 6
 M0:subFrom N.length M 0 M.length=0
 few:candN N.length m M.length ≤ 5000
 cs:(cho N.length m M N.length [] 0).length ≤ 5000
 all:∀ l ∈ cho N.length m M N.length [] 0,l.length ≤ 60∧subE N.length l=0∧(2 ≤ P→P ≤ 6→Wc p (subN p N l))
theorem search_ok (v : Value) (p : List Int) (rs : List Qw) (m : Nat) (P : Int) (M : List Int) (b : Bool) (w : World) (he : Env w) (hv : QyV w v p rs (m : Int) P M b) (h : SrOk p (rs.map Qw.x) m P M) :
  Calls Tryz.prog 43 #[v] w fun e w'=>∃ us vs fs,e=.returned (.tuple #[us,vs,.int .i64 0])∧Fnd w' w.heap.size p (rs.map Qw.x) us vs fs∧fs.map Fw.l=srL P b p (rs.map Qw.x) (cho rs.length m M rs.length [] 0)∧Ext w w':=by
 have hL:(rs.map Qw.x).length=rs.length:=List.length_map ..
 obtain ⟨h1,h2,h3,h4,h5,h6,h7,h8,h9⟩:=h
 rw [hL] at h3 h6 h7 h8 h9
 exact search_c v p rs m P M b w he hv h1 h2 h3 h4 h5 h6 h7 h8 h9
theorem all38_c (v : Value) (p : List Int) (rs : List Qw) (m : Nat) (P : Int) (M : List Int) (b : Bool) (w : World) (he : Env w) (hv : QyV w v p rs (m : Int) P M b) (h : SrOk p (rs.map Qw.x) m P M) :
  Calls Tryz.prog 24 #[v] w fun e w'=>∃ us vs fs,e=.returned (.tuple #[us,.int .i64 0])∧Fnd w' w.heap.size p (rs.map Qw.x) us vs fs∧fs.map Fw.l=srL P b p (rs.map Qw.x) (cho rs.length m M rs.length [] 0)∧Ext w w':=by
 have hsr:=fun W u (hE:Ext w W) (hu:QyV W u p rs (m:Int) P M b)=>search_ok u p rs m P M b W (he.ext hE) hu h
 obtain ⟨ap,cp,an,cn,am,cm,rfl,hs,hmm⟩:=hv.let
 have hE0:Ext w (w.alloc (.cells #[.slice ap p.length cp,.slice an rs.length cn,.int .i64 (m:Int),.int .i64 P,.slice am M.length cm,.bool b] 39)):=(Ext.refl w).alloc _
 have hb:=Box6.new w (.slice ap p.length cp) (.slice an rs.length cn) (m:Int) P (.slice am M.length cm) b
 have hs0:=hsr _ _ hE0 (hv.ext hE0)
 have Hs0:=Lib.hid hs0;have HE0:=Lib.hid hE0;have Hb:=Lib.hid hb
 clear hsr hE0 hb hs0 hs hmm hv h he
 obtain ⟨q0,q1,q2,q3,q4,q5⟩:=Hb.out.cs
 generalize srL P b p (rs.map Qw.x) (cho rs.length m M rs.length [] 0)=L at *
 go_enter Tryz.func24,Tryz.ntmps24
 go_wp2_with fail
 refine Hs0.out.mono ?_
 rintro e w1 ⟨us,vs,fs,rfl,hf,hm,hx⟩
 have hf2:=hf.mono (HE0.out).size
 obtain ⟨a1,c1,rfl⟩:=own_shape hf2.us
 obtain ⟨a2,c2,rfl⟩:=own_shape hf2.vs
 have Hf:=Lib.hid hf2;have Hm:=Lib.hid hm;have HE1:=Lib.hid (HE0.out.trans hx)
 clear hf hf2 hm hx q0 q1 q2 q3 q4 q5
 go_wp2_with fail
 go_ret2
 exact ⟨_,_,fs,rfl,Hf.out,Hm.out,HE1.out⟩
end Go.Proofs.YtipjmpdndokdlaaGreatDoor

namespace Go.Proofs.YtipjmpdndokdlaaGreatDoor
open Go.RowKit Go.Lib
theorem sub_yes {n : Nat} {l : List Int} (hb : ∀ x ∈ l,0 ≤ x ∧ x < (n : Int)) (hp : l.Pairwise (· < ·)) : subFrom n l 0 l.length=0:=by
 have key:∀ i,i < l.length→stepE n l i=0:=fun i hi=>by
  unfold stepE
  have h1:=hb _ (List.getElem_mem hi)
  rw [List.getElem?_eq_getElem hi,Option.getD_some,if_neg (by omega)]
  by_cases h0:0 < i
  ·have h2:=List.pairwise_iff_getElem.1 hp (i - 1) i (by omega) hi (by omega)
   rw [List.getElem?_eq_getElem (show i - 1 < l.length by omega),Option.getD_some,if_neg (by omega)]
  ·rw [if_neg (by omega)]
 have all:∀ m k,k + m=l.length→subFrom n l k m=0:=by
  intro m
  induction m with
  | zero=>intro k _;rfl
  | succ m ih =>
   intro k hk
   rw [subFrom,if_pos (key k (by omega))]
   exact ih (k + 1) (by omega)
 exact all l.length 0 (by omega)
theorem sub_yesE {n : Nat} {l : List Int} (hn : l ≠ []) (hb : ∀ x ∈ l,0 ≤ x ∧ x < (n : Int)) (hp : l.Pairwise (· < ·)) : subE n l=0:=by
 unfold subE
 rw [if_neg hn]
 exact sub_yes hb hp
theorem len_le {n : Nat} {M : List Int} (hb : ∀ x ∈ M,0 ≤ x ∧ x < (n : Int)) (hp : M.Pairwise (· < ·)) : M.length ≤ n:=by
 have hs:M ⊆ (List.range n).map (fun (k:Nat)=>(k:Int)):=fun x hx=>by
  have hb:=hb x hx
  exact List.mem_map.2 ⟨x.toNat,List.mem_range.2 (by omega),by omega⟩
 have:=nodup_sub (hp.imp (fun h=>by omega)) hs
 simpa using this
theorem cands_mem {n m : Nat} {M l : List Int} (h : l ∈ cands n m M) : l.length=m ∧ (∀ x ∈ l,0 ≤ x ∧ x < (n : Int)) ∧ l.Pairwise (· < ·):=by
 have h1:=(List.mem_filter.1 h).1
 have h2:=cmb_bd (Nat.le_refl _) h1
 rw [Nat.sub_self] at h2
 exact ⟨cmb_len h1,h2⟩
theorem SrOk.of {p : List Int} {N : List (List Rat)} {m : Nat} {P : Int} {M : List Int} (h : Wc p N) (h1 : 1 ≤ m) (h2 : m ≤ N.length) (P1 : 1 ≤ P) (P6 : P ≤ 6) (M0 : subFrom N.length M 0 M.length=0) : SrOk p N m P M:=by
 obtain ⟨hb,hp⟩:=sub_ok M0
 have hL:=len_le hb hp
 have hf:=h.few
 have hcc:=cho_cands (m:=m) hp hb
 refine ⟨h.wd,h1,h2,P1,P6,M0,?_,?_,?_⟩
 ·unfold candN
  split
  ·omega
  ·exact chs_few (N.length - M.length) (by omega) (((m:Int) - (M.length:Int)).toNat) (by omega)
 ·rw [hcc]
  refine Nat.le_trans (List.length_filter_le _ _) ?_
  rw [cmb_count]
  have a:=chs_few N.length (by omega) m (by omega)
  rw [chs_pas _ _ h2] at a
  omega
 ·rw [hcc]
  intro l hl
  obtain ⟨a,b,c⟩:=cands_mem hl
  have hn:l ≠ []:=by
   intro e
   rw [e] at a
   simp at a
   omega
  exact ⟨by omega,sub_yesE hn b c,fun _ _=>sub_wc h hn (by omega) b c⟩
end Go.Proofs.YtipjmpdndokdlaaGreatDoor

namespace Go.Proofs.YtipjmpdndokdlaaGreatDoor
open Go.RowKit Go.Lib Go.Shelf
attribute [local go_sem] Oper.semAt_some
theorem take_eq_all {a b : List Int} {k : Nat} (hl : a.length=b.length) (hk : a.length ≤ k) (h : a.take k=b.take k) : a=b:=by
 rwa [List.take_of_length_le hk,List.take_of_length_le (by omega)] at h
theorem take_eq_next {a b : List Int} {k : Nat} (hl : a.length=b.length) (hk : k < a.length) (h : a.take k=b.take k) (e : (a[k]?).getD 0=(b[k]?).getD 0) : a.take (k + 1)=b.take (k + 1):=by
 rw [List.take_succ_eq_append_getElem hk,List.take_succ_eq_append_getElem (by omega),h]
 rw [List.getElem?_eq_getElem hk,List.getElem?_eq_getElem (by omega)] at e
 exact congrArg (fun x=>_ ++ [x]) e
theorem sl_ints_at {w : World} {al : Option Addr} {n c : Nat} {l : List Int} (h : Sl w (.slice al n c) (i64s l)) (k : Nat) (hk : k < l.length) : ∃ b off,al=some ⟨b,off,none⟩ ∧ w.cell? ⟨b,off + k,none⟩=some (.int .i64 ((l[k]?).getD 0)):=by
 obtain ⟨a2,c2,e,_,_,hc⟩:=h.parts
 injection e with e1 _ _
 subst e1
 exact hc k (.int .i64 ((l[k]?).getD 0)) (by unfold i64s;rw [List.getElem?_map,List.getElem?_eq_getElem hk];rfl)
theorem eqRows_c (va vb : Value) (a b : List Int) (w : World) (ha : Sl w va (i64s a)) (hb : Sl w vb (i64s b)) (hla : a.length ≤ 1000) (hlb : b.length ≤ 1000) :
  Calls Tryz.prog 58 #[va,vb] w fun e w'=>e=.returned (.bool (decide (a=b)))∧Ext w w':=by
 obtain ⟨aa,ca,rfl,_,_,_⟩:=ha.parts
 obtain ⟨ab,cb,rfl,_,_,_⟩:=hb.parts
 rw [i64s_length] at *
 rw [i64s_length] at *
 have hca:=sl_ints_at ha
 have hcb:=sl_ints_at hb
 have hla2:=hla
 generalize hn:a.length=n at *
 generalize hm:b.length=m at *
 have Hn:=Lib.hid hn;have Hm:=Lib.hid hm;have Hca:=Lib.hid hca;have Hcb:=Lib.hid hcb
 clear ha hb hca hcb hn hm
 go_enter Tryz.func58,Tryz.ntmps58
 by_cases hnm:n=m
 ·subst hnm
  have Hl:=Lib.hid (Hn.out.trans Hm.out.symm)
  go_wp2_with fail
  go_loopw [5] (fun v5 wr=>∃ k:Nat,v5=.int .i64 k∧k ≤ n∧Hid (a.take k=b.take k)∧Ext w wr) (fun v5 _=>n - (intOf v5).toNat)
  case atStart=>exact ⟨0,rfl,Nat.zero_le _,Lib.hid rfl,Ext.refl _⟩
  case round =>
   obtain ⟨k,rfl,hk,HT,hE⟩:=hrel
   have HE:=Lib.hid hE
   by_cases hkn:k < n
   ·obtain ⟨b1,o1,rfl,h1⟩:=Hca.out k hkn
    obtain ⟨b2,o2,rfl,h2⟩:=Hcb.out k hkn
    have c1:=hE.cell h1
    have c2:=hE.cell h2
    have hk0:(0:Int) ≤ (k:Int):=by omega
    have hk1:(k:Int) < (n:Int):=by omega
    clear h1 h2 hE
    generalize hx:(a[k]?).getD 0=x at *
    generalize hy:(b[k]?).getD 0=y at *
    have Hx:=Lib.hid hx;have Hy:=Lib.hid hy
    clear hx hy
    by_cases hxy:x=y
    ·subst hxy
     have Hnx:=Lib.hid (take_eq_next Hl.out (by rw [Hn.out];exact hkn) HT.out (Hx.out.trans Hy.out.symm))
     go_wp2_with fail
     go_quiet (fail)
     go_wp2_with fail
     go_roundw
     case rel=>exact ⟨k + 1,by go_num,hkn,Hnx,HE.out.drewN _⟩
     case measure=>simp [intOf];omega
    ·have f1:(x == y)=false:=by simpa using hxy
     have f2:(x != y)=true:=by simpa using hxy
     have hne:decide (a=b)=false:=decide_eq_false fun e=>hxy (by rw [← Hx.out,← Hy.out,e])
     have Hne:=Lib.hid hne
     clear hne hxy
     go_wp2_with fail
     go_quiet (fail)
     go_wp2_with fail
     go_ret
     exact ⟨by rw [Hne.out] <;> rfl,HE.out.drewN _⟩
   ·have hkk:¬ (k:Int) < (n:Int):=by omega
    have hyes:decide (a=b)=true:=decide_eq_true (take_eq_all Hl.out (by rw [Hn.out];omega) HT.out)
    have Hyes:=Lib.hid hyes
    clear hyes hE
    go_wp2_with fail
    go_ret
    exact ⟨by rw [Hyes.out] <;> rfl,HE.out⟩
 ·have f1:((n:Int) == (m:Int))=false:=by simp;omega
  have f2:((n:Int) != (m:Int))=true:=by simp;omega
  have hne:decide (a=b)=false:=decide_eq_false fun e=>hnm (by rw [← Hn.out,← Hm.out,e])
  have Hne:=Lib.hid hne
  clear hne
  go_wp2_with fail
  go_ret
  exact ⟨by rw [Hne.out] <;> rfl,Ext.refl _⟩
theorem sameInts_c (va vb : Value) (a b : List Int) (w : World) (ha : Sl w va (i64s a)) (hb : Sl w vb (i64s b)) (hla : a.length ≤ 1000) (hlb : b.length ≤ 1000) :
  Calls Tryz.prog 25 #[va,vb] w fun e w'=>e=.returned (.bool (decide (a=b)))∧Ext w w':=by
 have h:=eqRows_c va vb a b w ha hb hla hlb
 obtain ⟨aa,ca,rfl,_,_,_⟩:=ha.parts
 obtain ⟨ab,cb,rfl,_,_,_⟩:=hb.parts
 have Hh:=Lib.hid h
 clear h ha hb
 generalize decide (a=b)=D at *
 go_enter Tryz.func25,Tryz.ntmps25
 go_wp2_with fail
 refine Hh.out.mono ?_
 rintro e w1 ⟨rfl,hx⟩
 have Hx:=Lib.hid hx
 clear hx
 go_wp2_with fail
 go_ret
 exact ⟨rfl,Hx.out⟩
end Go.Proofs.YtipjmpdndokdlaaGreatDoor

namespace Go.Proofs.YtipjmpdndokdlaaGreatDoor
open Go.RowKit Go.Lib Go.Shelf
attribute [local go_sem] Oper.semAt_some
theorem len_map {rs : List Qw} {N : List (List Rat)} {n : Nat} (h : rs.map Qw.x=N) (hn : N.length=n) : rs.length=n:=by
 have:=congrArg List.length h
 rw [List.length_map] at this
 omega
theorem qyv_new {W : World} {a1 : Option Addr} {c1 : Nat} {a2 : Option Addr} {c2 : Nat} {vm : Value} {p : List Int} {rs : List Qw} {n : Nat} {m P : Int} {M : List Int} {b : Bool} (hp : Sl W (.slice a1 p.length c1) (i64s p)) (hn : RdM W (.slice a2 n c2) rs) (hm : Sl W vm (i64s M)) :
  QyV W (.agg #[.slice a1 p.length c1,.slice a2 n c2,.int .i64 m,.int .i64 P,vm,.bool b]) p rs m P M b:=⟨_,_,_,rfl,hp,hn,hm⟩
theorem fit_one : fitV 3 [2,3] (eqN 12) 12 5 [0,7] [0,2,4,7,9]=.tuple #[.bool true,.int .i64 0]:=by
 unfold fitV
 rw [if_pos (by decide),sbt_known.1]
 rfl
theorem fit_two : fitV 3 [2,3] (eqN 12) 12 5 [0,7] [0,1,4,7,9]=.tuple #[.bool false,.int .i64 0]:=by
 unfold fitV
 rw [if_pos (by decide),sbt_known.2]
 rfl
theorem sl_list {W : World} (l : List Int) (T : TypeId) (h : l.length ≤ 100) : Sl (W.alloc (.cells (i64s l).toArray T)) (.slice (some ⟨W.heap.size,0,none⟩) l.length l.length) (i64s l):=by
 have:=sl_cells (us:=i64s l) (World.alloc_heap_new W (.cells (i64s l).toArray T)) (by rw [i64s_length];unfold maxLen;omega)
 rw [i64s_length] at this
 exact this
theorem known38_c (w : World) (he : Env w) :
  Calls Tryz.prog 8 #[] w fun e w'=>e=.returned (.bool true)∧Ext w w':=by
 have hwc:Wc [2,3] (eqN 12):=eq_wc (by omega) (by omega)
 have hel:(eqN 12).length=12:=eqN_len 12
 have htw:=fun W (hE:Ext w W)=>(twelve_c W (he.ext hE)).mono fun e w' ⟨v,rs,h1,h2,h3,h4⟩=>(show ∃ a1 c1 a2 c2 rs,e=Ending.returned (.agg #[.slice a1 2 c1,.slice a2 12 c2])∧Sl w' (.slice a1 2 c1) (i64s [2,3])∧RdM w' (.slice a2 12 c2) rs∧rs.map Qw.x=eqN 12∧Ext W w' by
  obtain ⟨vp,vn,rfl,hop,hqn⟩:=h2
  obtain ⟨a1,c1,rfl⟩:=own_shape hop
  obtain ⟨a2,c2,rfl⟩:=own_shape hqn.1
  have hl:=len_map h3 hel
  have hr:=hqn.rd
  rw [hl] at hr h1
  exact ⟨a1,c1,a2,c2,rs,h1,sl_own hop,hr,h3,h4⟩)
 have hca:=fun W v rs (hE:Ext w W) (hv:QyV W v [2,3] rs 5 3 [0,7] false) (hm:rs.map Qw.x=eqN 12)=>(show Calls Tryz.prog 23 #[v] W fun e w'=>e=.returned (.tuple #[.string ⟨#[49,50,48]⟩,.int .i64 0])∧Ext W w' from by
  have hl:=len_map hm hel
  have:=cands38_c v [2,3] rs 5 3 [0,7] false W (he.ext hE) hv (by rw [hm];exact hwc.wd) (by omega) (by omega) (by omega) (by rw [hl];decide) (by rw [hl];decide)
  rw [hl,show I (candN 12 5 ([0,7]:List Int).length)=⟨#[49,50,48]⟩ from by decide +kernel] at this
  exact this)
 have hft:=fun (l:List Int) W v vl rs (r:Bool) (hE:Ext w W) (hv:QyV W v [2,3] rs 5 3 [0,7] false) (hm:rs.map Qw.x=eqN 12) (hvl:Sl W vl (i64s l)) (h0:l ≠ []) (h6:l.length ≤ 12) (hse:subFrom 12 l 0 l.length=0) (hr:fitV 3 [2,3] (eqN 12) 12 5 [0,7] l=.tuple #[.bool r,.int .i64 0])=>(show Calls Tryz.prog 10 #[v,vl] W fun e w'=>e=.returned (.tuple #[.bool r,.int .i64 0])∧Ext W w' from by
  have hl:=len_map hm hel
  have hb:=sub_ok hse
  have:=fits_c v vl [2,3] rs 5 3 [0,7] false l W (he.ext hE) hv (by rw [hm];exact hwc.wd) hvl (by omega) (by rw [hl];decide) (by decide) (fun _ _ _=>by rw [hm];exact sub_wc hwc h0 (by omega) (by rw [hel];exact hb.1) hb.2)
  rw [hl,hm,hr] at this
  exact this)
 have hal:=fun W v rs (hE:Ext w W) (hv:QyV W v [2,3] rs 1 2 [] true) (hm:rs.map Qw.x=eqN 12)=>(show Calls Tryz.prog 24 #[v] W fun e w'=>(∃ g c a5 c5,e=.returned (.tuple #[.slice (some ⟨g,0,none⟩) 1 c,.int .i64 0])∧w'.cell? ⟨g,0,none⟩=some (.slice a5 1 c5)∧Sl w' (.slice a5 1 c5) (i64s [0]))∧Ext W w' from by
  have hl:=len_map hm hel
  have h:=all38_c v [2,3] rs 1 2 [] true W (he.ext hE) hv (by rw [hm];exact SrOk.of hwc (by omega) (by rw [hel];omega) (by omega) (by omega) (by rw [hel];decide))
  refine h.mono fun e w' ⟨us,vs,fs,h1,h2,h3,h4⟩=>⟨?_,h4⟩
  rw [hl,hm,cho_cands List.Pairwise.nil (fun x hx=>by cases hx),sbt_one] at h3
  obtain ⟨f,rfl,hfl⟩:=List.map_eq_singleton_iff.1 h3
  have hfo:=(h2.all f (List.mem_singleton.2 rfl)).1
  rw [hfl] at hfo
  obtain ⟨a5,c5,e5⟩:=own_shape hfo
  have hus:=h2.us
  rcases hus.2 with ⟨_,e0⟩ | ⟨g,cap,cur,e0,_⟩
  ·simp at e0
  ·have hc:=World.ownsRow.cells hus (g:=g) (by rw [e0];rfl) 0 f.u rfl
   rw [e5] at hc hfo
   exact ⟨g,cap,a5,c5,by rw [h1,e0];rfl,hc,sl_own hfo⟩)
 have hsi:=fun W va vb (ha:Sl W va (i64s [0])) (hb:Sl W vb (i64s [0]))=>sameInts_c va vb [0] [0] W ha hb (by decide) (by decide)
 have Htw:=Lib.hid htw;have Hca:=Lib.hid hca;have Hft:=Lib.hid hft;have Hal:=Lib.hid hal;have Hsi:=Lib.hid hsi
 clear htw hca hft hal hsi hwc hel he
 go_enter Tryz.func8,Tryz.ntmps8
 go_wp2_with fail
 refine (Htw.out _ (Ext.refl _)).mono ?_
 rintro e w1 ⟨a1,c1,a2,c2,rs,rfl,hp,hn,hm,hx1⟩
 have hE2:=(Ext.refl w1).alloc (.cells #[.int .i64 0,.int .i64 7] 3)
 have hm2:=sl_list (W:=w1) [0,7] 3 (by decide)
 have hE3:=hE2.alloc (.cells #[.slice a1 2 c1,.slice a2 12 c2,.int .i64 5,.int .i64 3,.slice (some ⟨w1.heap.size,0,none⟩) 2 2,.bool false] 39)
 have hb3:=Box6.new (w1.alloc (.cells #[.int .i64 0,.int .i64 7] 3)) (.slice a1 2 c1) (.slice a2 12 c2) 5 3 (.slice (some ⟨w1.heap.size,0,none⟩) 2 2) false
 have hq3:=qyv_new (p:=[2,3]) (m:=5) (P:=3) (b:=false) (hE3.sl hp) (hE3.rdM hn) (((Ext.refl (w1.alloc (.cells #[.int .i64 0,.int .i64 7] 3))).alloc (.cells #[.slice a1 2 c1,.slice a2 12 c2,.int .i64 5,.int .i64 3,.slice (some ⟨w1.heap.size,0,none⟩) 2 2,.bool false] 39)).sl hm2)
 rw [World.size_alloc] at hb3
 have Hq3:=Lib.hid hq3;have Hb3:=Lib.hid hb3;have HE3:=Lib.hid (hx1.trans hE3);have Hm:=Lib.hid hm
 obtain ⟨q0,q1,q2,q3,q4,q5⟩:=hb3.cs
 clear hq3 hb3 hE3 hE2 hm2 hp hn hx1 hm
 go_wp2_with fail
 refine (Hca.out _ _ rs HE3.out Hq3.out Hm.out).mono ?_
 generalize hW3:(w1.alloc (.cells #[.int .i64 0,.int .i64 7] 3)).alloc (.cells #[.slice a1 2 c1,.slice a2 12 c2,.int .i64 5,.int .i64 3,.slice (some ⟨w1.heap.size,0,none⟩) 2 2,.bool false] 39)=W3 at *
 rintro e w2 ⟨rfl,hx2⟩
 have hE4:=hx2.alloc (.cells #[.int .i64 0,.int .i64 2,.int .i64 4,.int .i64 7,.int .i64 9] 3)
 have hl4:=sl_list (W:=w2) [0,2,4,7,9] 3 (by decide)
 have hft1:=Hft.out [0,2,4,7,9] _ _ _ rs true (HE3.out.trans hE4) (Hq3.out.ext hE4) Hm.out hl4 (by simp) (by decide) (by decide) fit_one
 obtain ⟨q0,q1,q2,q3,q4,q5⟩:=(Hb3.out.ext hx2).cs
 have HE4:=Lib.hid hE4;have Hft1:=Lib.hid hft1
 clear hx2 hE4 hl4 hft1 hW3
 go_wp2_with fail
 refine Hft1.out.mono ?_
 rintro e w4 ⟨rfl,hx4⟩
 have hX4:=HE4.out.trans hx4
 have hE5:=hX4.alloc (.cells #[.int .i64 0,.int .i64 1,.int .i64 4,.int .i64 7,.int .i64 9] 3)
 have hl5:=sl_list (W:=w4) [0,1,4,7,9] 3 (by decide)
 have hft2:=Hft.out [0,1,4,7,9] _ _ _ rs false (HE3.out.trans hE5) (Hq3.out.ext hE5) Hm.out hl5 (by simp) (by decide) (by decide) fit_two
 obtain ⟨q0,q1,q2,q3,q4,q5⟩:=(Hb3.out.ext hX4).cs
 have HE5:=Lib.hid hE5;have Hft2:=Lib.hid hft2
 clear hx4 hX4 hE5 hl5 hft2 Hft1
 go_wp2_with fail
 refine Hft2.out.mono ?_
 rintro e w5 ⟨rfl,hx5⟩
 have HE6:=Lib.hid (HE3.out.trans (HE5.out.trans hx5))
 clear hx5 q0 q1 q2 q3 q4 q5 Hft2
 go_wp2_with fail
 refine (Htw.out _ HE6.out).mono ?_
 rintro e w6 ⟨a3,c3,a4,c4,rs6,rfl,hp6,hn6,hm6,hx6⟩
 have hq6:=qyv_new (p:=[2,3]) (m:=1) (P:=2) (b:=true) (vm:=.slice none 0 0) (M:=[]) hp6 hn6 (.inl ⟨none,0,rfl,Nat.zero_le _,rfl⟩)
 have hal6:=Hal.out w6 _ rs6 (HE6.out.trans hx6) hq6 hm6
 have HE7:=Lib.hid (HE6.out.trans hx6);have Hal6:=Lib.hid hal6
 clear hx6 hq6 hal6 hp6 hn6 hm6
 go_wp2_with fail
 refine Hal6.out.mono ?_
 rintro e w7 ⟨⟨g,c,a5,c5,rfl,hc7,hs7⟩,hx7⟩
 have hE8:=(Ext.refl w7).alloc (.cells #[.int .i64 0] 3)
 have hl8:=sl_list (W:=w7) [0] 3 (by decide)
 have hsi:=Hsi.out _ _ _ (hE8.sl hs7) hl8
 have HE8:=Lib.hid (HE7.out.trans (hx7.trans hE8));have Hsi8:=Lib.hid hsi
 clear hx7 hs7 hE8 hl8 hsi
 go_wp2_with fail
 refine Hsi8.out.mono ?_
 rintro e w8 ⟨rfl,hx8⟩
 have HE9:=Lib.hid (HE8.out.trans hx8)
 clear hx8 hc7
 go_wp2_with fail
 go_ret
 exact ⟨by simp,HE9.out⟩
end Go.Proofs.YtipjmpdndokdlaaGreatDoor

namespace Go.Proofs.YtipjmpdndokdlaaGreatDoor
/-- The j-th index of a subset, beyond the period too. -/
def exl (n : Nat) (l : List Int) (j : Int) : Int:=(l[(j % (l.length : Int)).toNat]?).getD 0 + j / (l.length : Int) * (n : Int)
theorem exl_at {n : Nat} {l : List Int} {i : Nat} (hi : i < l.length) : exl n l (i : Int)=(l[i]?).getD 0:=by
 unfold exl
 rw [Int.emod_eq_of_lt (by omega) (by omega),Int.ediv_eq_zero_of_lt (by omega) (by omega),Int.toNat_natCast,Int.zero_mul,Int.add_zero]
theorem exl_turn {n : Nat} {l : List Int} (h0 : 0 < l.length) (j : Int) : exl n l (j + (l.length : Int))=exl n l j + n:=by
 unfold exl
 rw [Int.add_emod_right,show j + (l.length:Int)=j + 1 * (l.length:Int) by omega,Int.add_mul_ediv_right _ _ (by omega),Int.add_mul]
 omega
section
variable {p : List Int} {N : List (List Rat)} (h : Wd p N)
include h
theorem Wd.nt_sub {l : List Int} (hl : l ≠ []) (j : Int) : nt p (subN p N l) j=subZ (nt p N (exl N.length l j)) (nt p N (l.headD 0)):=by
 have h0:=List.length_pos_iff.2 hl
 have hm:(0:Int) < (l.length:Int):=by omega
 have a1:=Int.emod_nonneg j (show (l.length:Int) ≠ 0 by omega)
 have a2:=Int.emod_lt_of_pos j hm
 have hML:(subN p N l).length=l.length:=by unfold subN;rw [List.length_map,subK_len _ hl]
 obtain ⟨i,hi⟩:∃ i:Nat,(i:Int)=j % (l.length:Int):=⟨(j % (l.length:Int)).toNat,by omega⟩
 have hz:zat p (subN p N l) i=subZ (nt p N ((l[i]?).getD 0)) (nt p N (l.headD 0)):=by
  unfold zat
  cases i with
  | zero =>
   cases l with
   | nil=>exact absurd rfl hl
   | cons a l =>
    show zer p.length=subZ (nt p N a) (nt p N a)
    rw [subZ_self,h.ntlen]
  | succ i =>
   rw [List.getElem?_cons_succ]
   unfold subN subK
   rw [List.getElem?_map,List.getElem?_append_left (by rw [List.length_tail];omega),List.getElem?_tail,List.getElem?_eq_getElem (by omega)]
   rfl
 have e:subZ (shf (j / (l.length:Int)) (nt p N ((l[i]?).getD 0))) (nt p N (l.headD 0))=shf (j / (l.length:Int)) (subZ (nt p N ((l[i]?).getD 0)) (nt p N (l.headD 0))):=by
  have:=shf_sub (q:=j / (l.length:Int)) (r:=0) (x:=nt p N ((l[i]?).getD 0)) (y:=nt p N (l.headD 0)) (by rw [h.ntlen,h.ntlen])
  rw [shf_zero,Int.sub_zero] at this
  exact this
 unfold exl
 rw [← hi,Int.toNat_natCast,h.nt_shift,e,← hz]
 unfold nt
 rw [hML,← hi,Int.toNat_natCast]
theorem sub_at {l : List Int} (hl : l ≠ []) {i : Nat} (hi : i < l.length) : (subN p N l)[i]?=some (subZ (nt p N (exl N.length l ((i : Int) + 1))) (nt p N (l.headD 0))):=by
 have _:=h
 unfold subN
 rw [List.getElem?_map]
 have h0:=List.length_pos_iff.2 hl
 have e:(subK N.length l)[i]?=some (exl N.length l ((i:Int) + 1)):=by
  unfold subK
  rcases (by omega:i + 1 < l.length ∨ i + 1=l.length) with g | g
  ·rw [List.getElem?_append_left (by rw [List.length_tail];omega),List.getElem?_tail,show (i:Int) + 1=((i + 1:Nat):Int) by omega,exl_at g,List.getElem?_eq_getElem g]
   rfl
  ·rw [List.getElem?_append_right (by rw [List.length_tail];omega),List.length_tail,show i - (l.length - 1)=0 by omega]
   have:=exl_turn (n:=N.length) h0 0
   have e0:=exl_at (n:=N.length) (l:=l) (i:=0) h0
   rw [show (i:Int) + 1=0 + (l.length:Int) by omega,this]
   rw [show ((0:Nat):Int)=0 from rfl] at e0
   rw [e0]
   cases l with
   | nil=>exact absurd rfl hl
   | cons a l=>rfl
 rw [e]
 rfl
end
/-- Lists whose indices, further on, are those of the other one, less a number: one is a mode of the other. -/
theorem turn_md {n : Nat} (h0 : 0 < n) (h : n ≤ 60) {a b : List Int} (ha : a ≠ []) (hb : b ≠ []) (hab : b.length=a.length) (m t : Int) (he : ∀ j : Int,exl n b j=exl n a (m + j) - t) :
  subN [2,3] (eqN n) b=md [2,3] (subN [2,3] (eqN n) a) m:=by
 have hw:=eq_wd h0 h
 have hla:(subN [2,3] (eqN n) a).length=a.length:=by unfold subN;rw [List.length_map,subK_len _ ha]
 have hlb:(subN [2,3] (eqN n) b).length=b.length:=by unfold subN;rw [List.length_map,subK_len _ hb]
 have hhd:b.headD 0=exl n b 0:=by
  have:=exl_at (n:=n) (l:=b) (i:=0) (List.length_pos_iff.2 hb)
  rw [show ((0:Nat):Int)=0 from rfl] at this
  rw [this]
  cases b with
  | nil=>exact absurd rfl hb
  | cons x b=>rfl
 refine List.ext_getElem? fun i=>?_
 by_cases hi:i < b.length
 ·rw [sub_at hw hb hi,md_at (by rw [hla];omega),hw.nt_sub ha,hw.nt_sub ha,subZ_subZ (by rw [hw.ntlen,hw.ntlen]) (by rw [hw.ntlen,hw.ntlen]),hhd]
  simp only [eqN_len,eq_nt h0 h,oc3_sub (.inl rfl)]
  rw [he,he,Int.add_zero,show m + ((i:Int) + 1)=m + (i:Int) + 1 by omega]
  congr 2
  omega
 ·rw [List.getElem?_eq_none (by omega),List.getElem?_eq_none (by rw [md_len];omega)]
/-- The indices that bits name, as they are and moved. -/
def bitL (n : Nat) (q : Nat → Bool) : List Int:=((List.range n).filter q).map fun (i : Nat) => (i : Int)
theorem bit_parts {n t : Nat} (ht : t < n) (q : Nat → Bool) :
  bitL n q=bitL t q ++ (bitL (n - t) (fun i=>q (i + t))).map (· + (t:Int)) ∧
  bitL n (fun i=>q ((i + t) % n))=bitL (n - t) (fun i=>q (i + t)) ++ (bitL t q).map (· + ((n - t:Nat):Int)):=by
 constructor
 ·unfold bitL
  have e:List.range n=List.range t ++ (List.range (n - t)).map (· + t):=by
   have:=List.range_add (n:=t) (m:=n - t)
   rw [show t + (n - t)=n by omega] at this
   rw [this]
   congr 1
   apply List.map_congr_left
   intro i _
   omega
  rw [e,List.filter_append,List.map_append,List.filter_map,List.map_map,List.map_map]
  congr 1 <;> (apply List.map_congr_left;intro i _;show ((i + t:Nat):Int)=(i:Int) + (t:Int);omega)
 ·unfold bitL
  have e:List.range n=List.range (n - t) ++ (List.range t).map (· + (n - t)):=by
   have:=List.range_add (n:=n - t) (m:=t)
   rw [show n - t + t=n by omega] at this
   rw [this]
   congr 1
   apply List.map_congr_left
   intro i _
   omega
  rw [e,List.filter_append,List.map_append,List.filter_map,List.map_map,List.map_map]
  congr 1
  ·congr 1
   apply List.filter_congr
   intro i hi
   rw [List.mem_range] at hi
   show q ((i + t) % n)=q (i + t)
   rw [Nat.mod_eq_of_lt (by omega)]
  ·have e2:(List.range t).filter ((fun i=>q ((i + t) % n)) ∘ (· + (n - t)))=(List.range t).filter q:=by
    apply List.filter_congr
    intro i hi
    rw [List.mem_range] at hi
    show q ((i + (n - t) + t) % n)=q i
    rw [show i + (n - t) + t=i + n by omega,Nat.add_mod_right,Nat.mod_eq_of_lt (by omega)]
   rw [e2]
   apply List.map_congr_left
   intro i _
   show ((i + (n - t):Nat):Int)=(i:Int) + ((n - t:Nat):Int)
   omega
theorem exl_all {n : Nat} {a b : List Int} (h0 : 0 < a.length) (hab : b.length=a.length) {m t : Int} (he : ∀ i : Nat,i < a.length → exl n b (i : Int)=exl n a (m + i) - t) (j : Int) : exl n b j=exl n a (m + j) - t:=by
 have ta:∀ (q:Nat) (x:Int),exl n a (x + (q:Int) * (a.length:Int))=exl n a x + (q:Int) * n:=fun q=>by
  induction q with
  | zero=>intro x;simp
  | succ q ih =>
   intro x
   rw [show x + ((q + 1:Nat):Int) * (a.length:Int)=(x + (q:Int) * (a.length:Int)) + (a.length:Int) by rw [Int.natCast_succ,Int.add_mul];omega,exl_turn h0,ih,Int.natCast_succ,Int.add_mul]
   omega
 have tb:∀ (q:Nat) (x:Int),exl n b (x + (q:Int) * (a.length:Int))=exl n b x + (q:Int) * n:=fun q=>by
  induction q with
  | zero=>intro x;simp
  | succ q ih =>
   intro x
   have:=exl_turn (n:=n) (l:=b) (by omega) (x + (q:Int) * (a.length:Int))
   rw [hab] at this
   rw [show x + ((q + 1:Nat):Int) * (a.length:Int)=(x + (q:Int) * (a.length:Int)) + (a.length:Int) by rw [Int.natCast_succ,Int.add_mul];omega,this,ih,Int.natCast_succ,Int.add_mul]
   omega
 have a1:=Int.emod_nonneg j (show (a.length:Int) ≠ 0 by omega)
 have a2:=Int.emod_lt_of_pos j (show (0:Int) < (a.length:Int) by omega)
 have a3:=Int.mul_ediv_add_emod j (a.length:Int)
 obtain ⟨i,hi⟩:∃ i:Nat,(i:Int)=j % (a.length:Int):=⟨(j % (a.length:Int)).toNat,by omega⟩
 have hI:=he i (by omega)
 rcases Int.le_total 0 (j / (a.length:Int)) with g | g
 ·obtain ⟨q,hq⟩:∃ q:Nat,(q:Int)=j / (a.length:Int):=⟨(j / (a.length:Int)).toNat,by omega⟩
  have ej:j=(i:Int) + (q:Int) * (a.length:Int):=by rw [hi,hq,Int.mul_comm];omega
  rw [ej,tb,hI,show m + ((i:Int) + (q:Int) * (a.length:Int))=(m + i) + (q:Int) * (a.length:Int) by omega,ta]
  omega
 ·obtain ⟨q,hq⟩:∃ q:Nat,(q:Int)=-(j / (a.length:Int)):=⟨(-(j / (a.length:Int))).toNat,by omega⟩
  have ej:(i:Int)=j + (q:Int) * (a.length:Int):=by rw [hi,hq,Int.neg_mul,Int.mul_comm];omega
  have h1:=tb q j
  have h2:=ta q (m + j)
  rw [← ej] at h1
  rw [show m + j + (q:Int) * (a.length:Int)=m + i by omega] at h2
  omega
theorem turn_bits {n t : Nat} (h60 : n ≤ 60) (ht : t < n) (q : Nat → Bool) (hne : bitL n q ≠ []) :
  (bitL n fun i=>q ((i + t) % n)) ≠ []∧(bitL n fun i=>q ((i + t) % n)).length=(bitL n q).length∧∃ m:Int,subN [2,3] (eqN n) (bitL n fun i=>q ((i + t) % n))=md [2,3] (subN [2,3] (eqN n) (bitL n q)) m:=by
 obtain ⟨ea,eb⟩:=bit_parts ht q
 generalize bitL t q=c at *
 generalize bitL (n - t) (fun i=>q (i + t))=d at *
 generalize bitL n q=a at *
 generalize (bitL n fun i=>q ((i + t) % n))=b at *
 have hl:b.length=a.length:=by rw [ea,eb];simp;omega
 have h0:=List.length_pos_iff.2 hne
 have hb:b ≠ []:=by intro e;rw [e] at hl;simp at hl;omega
 refine ⟨hb,hl,(c.length:Int),turn_md (by omega) h60 hne hb hl (c.length:Int) (t:Int) (exl_all h0 hl fun i hi=>?_)⟩
 have hal:a.length=c.length + d.length:=by rw [ea];simp
 rw [exl_at (by omega)]
 rcases Nat.lt_or_ge i d.length with g | g
 ·rw [show (c.length:Int) + (i:Int)=((c.length + i:Nat):Int) by omega,exl_at (by omega)]
  rw [eb,ea,List.getElem?_append_left g,List.getElem?_append_right (by omega),show c.length + i - c.length=i by omega,List.getElem?_map,List.getElem?_eq_getElem g]
  simp
 ·have:=exl_turn (n:=n) h0 ((i - d.length:Nat):Int)
  rw [show (c.length:Int) + (i:Int)=((i - d.length:Nat):Int) + (a.length:Int) by omega,this,exl_at (by omega)]
  rw [eb,ea,List.getElem?_append_right g,List.getElem?_append_left (by omega),List.getElem?_map,List.getElem?_eq_getElem (by omega)]
  simp
  omega
end Go.Proofs.YtipjmpdndokdlaaGreatDoor
