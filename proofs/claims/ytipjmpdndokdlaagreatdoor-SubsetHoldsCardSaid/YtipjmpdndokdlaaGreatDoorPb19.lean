/- Plain: the notes of a collection of sizes. The row of an insertion sort whose compare makes memory. -/
import Derived.Test.YtipjmpdndokdlaaGreatDoorPb18
import Derived.Test.YtipjmpdndokdlaaGreatDoorPb16
import Derived.Test.YtipjmpdndokdlaaGreatDoorPb08
namespace Go.Proofs.YtipjmpdndokdlaaGreatDoor
/-- A size without its whole octaves. -/
def rst (p : List Int) (x : List Rat) : List Rat:=shf (-(flP p x)) x
/-- One more size: its rest, if that is no unison and new. -/
def colS (p : List Int) (out : List (List Rat)) (x : List Rat) : List (List Rat):=if rst p x=zer p.length ∨ rst p x ∈ out then out else out ++ [rst p x]
def colF (p : List Int) (init l : List (List Rat)) : List (List Rat):=l.foldl (colS p) init
theorem colF_snoc (p : List Int) (init l : List (List Rat)) (x : List Rat) : colF p init (l ++ [x])=colS p (colF p init l) x:=by unfold colF;rw [List.foldl_append];rfl
theorem colF_take {p : List Int} {init l : List (List Rat)} {k : Nat} {x : List Rat} (h : l[k]?=some x) : colF p init (l.take (k + 1))=colS p (colF p init (l.take k)) x:=by
 obtain ⟨hk,rfl⟩:=List.getElem?_eq_some_iff.1 h
 rw [List.take_succ_eq_append_getElem hk,colF_snoc]
theorem colF_len (p : List Int) (init l : List (List Rat)) : (colF p init l).length ≤ init.length + l.length:=by
 induction l generalizing init with
 | nil=>simp [colF]
 | cons x l ih =>
  have:=ih (colS p init x)
  show (colF p (colS p init x) l).length ≤ _
  have h2:(colS p init x).length ≤ init.length + 1:=by
   unfold colS
   split <;> simp
  simp only [List.length_cons]
  omega
theorem colF_mem {p : List Int} (l : List (List Rat)) : ∀ (init : List (List Rat)) (x : List Rat),x ∈ colF p init l ↔ x ∈ init ∨ (x ≠ zer p.length ∧ ∃ y ∈ l,x=rst p y):=by
 induction l with
 | nil=>intro init x;simp [colF]
 | cons z l ih =>
  intro init x
  show x ∈ colF p (colS p init z) l ↔ _
  rw [ih]
  have hs:x ∈ colS p init z ↔ x ∈ init ∨ (x ≠ zer p.length∧x=rst p z):=by
   unfold colS
   split
   ·rename_i h
    constructor
    ·exact .inl
    ·rintro (g | ⟨g1,g2⟩)
     ·exact g
     ·subst g2
      rcases h with h | h
      ·exact absurd h g1
      ·exact h
   ·rename_i h
    rw [List.mem_append,List.mem_singleton]
    constructor
    ·rintro (g | g)
     ·exact .inl g
     ·subst g
      exact .inr ⟨fun e=>h (.inl e),rfl⟩
    ·rintro (g | ⟨_,g⟩)
     ·exact .inl g
     ·exact .inr g
  rw [hs]
  constructor
  ·rintro ((g | ⟨g1,g2⟩) | ⟨g1,y,hy,g2⟩)
   ·exact .inl g
   ·exact .inr ⟨g1,z,List.mem_cons_self ..,g2⟩
   ·exact .inr ⟨g1,y,List.mem_cons_of_mem _ hy,g2⟩
  ·rintro (g | ⟨g1,y,hy,g2⟩)
   ·exact .inl (.inl g)
   ·rcases List.mem_cons.1 hy with rfl | hy
    ·exact .inl (.inr ⟨g1,g2⟩)
    ·exact .inr ⟨g1,y,hy,g2⟩
theorem colF_nodup {p : List Int} (l : List (List Rat)) : ∀ (init : List (List Rat)),init.Nodup → (colF p init l).Nodup:=by
 induction l with
 | nil=>intro init h;exact h
 | cons z l ih =>
  intro init h
  refine ih _ ?_
  unfold colS
  split
  ·exact h
  ·rename_i g
   rw [List.nodup_append]
   refine ⟨h,by simp,fun a ha b hb=>?_⟩
   rw [List.mem_singleton] at hb
   subst hb
   rintro rfl
   exact g (.inr ha)
/-- Sizes whose differences are nice, at most c octaves from zero. -/
structure Lw (p : List Int) (c : Int) (l : List (List Rat)) : Prop where
 pr:Pr p p.length
 len:∀ x ∈ l,x.length=p.length
 c0:0 ≤ c
 c1:c ≤ 10000
 bd:∀ x ∈ l,-((c * 67108864:Int):Rat) ≤ sF p x∧sF p x ≤ ((c * 67108864:Int):Rat)
 dif:∃ n,∀ x ∈ zer p.length :: l,∀ y ∈ zer p.length :: l,Nic n (subZ x y)
theorem Lw.nic {p : List Int} {c : Int} {l : List (List Rat)} (h : Lw p c l) : ∃ n,∀ x ∈ l,Nic n x:=by
 obtain ⟨n,hn⟩:=h.dif
 refine ⟨n,fun x hx=>?_⟩
 have:=hn x (List.mem_cons_of_mem _ hx) _ (List.mem_cons_self ..)
 rwa [← h.len x hx,subZ_zer] at this
/-- A nice size has a first number and either lies in the box or is a part of the octave. -/
theorem nic_tail {n : Nat} {p : List Int} {x : List Rat} (hp : Pr p x.length) (h : Nic n x) : ∃ a tl,x=a :: tl ∧ tl.length + 1=p.length ∧ (Bx 256 (a :: tl) ∨ ∀ r ∈ tl,r=0):=by
 obtain ⟨a,tl,rfl⟩:∃ a tl,x=a :: tl:=by
  rcases hp with ⟨_,hl⟩ | ⟨_,hl⟩ <;> (cases x with | nil=>cases hl | cons a tl=>exact ⟨a,tl,rfl⟩)
 refine ⟨a,tl,rfl,(pr_one hp).1.symm,?_⟩
 rcases h with ⟨_,h⟩ | ⟨_,_,h⟩
 ·exact .inl h
 ·right
  match tl,h with
  | [b],⟨hb,_⟩=>intro r hr;simp at hr;rw [hr];exact hb
  | [b,d],⟨hb,hd,_⟩=>intro r hr;simp at hr;rcases hr with e | e <;> rw [e] <;> assumption
/-- What stays lies in the first octave. -/
theorem rst_bd {n : Nat} {p : List Int} {x : List Rat} (hp : Pr p x.length) (h : Nic n x) : 0 ≤ sF p (rst p x) ∧ sF p (rst p x) < 67108864:=by
 obtain ⟨a,tl,rfl,hl,hb⟩:=nic_tail hp h
 unfold rst
 rw [sF_shf hp,flP_eq hp hb]
 have h1:=Rat.floor_le (sF p (a :: tl) / 67108864)
 have h2:=Rat.lt_floor_add_one (sF p (a :: tl) / 67108864)
 rw [Rat.intCast_neg]
 grind
/-- The floor is at most as far as the size. -/
theorem fl_bd {n : Nat} {p : List Int} {x : List Rat} {c : Int} (hp : Pr p x.length) (h : Nic n x) (h1 : -((c * 67108864 : Int) : Rat) ≤ sF p x) (h2 : sF p x ≤ ((c * 67108864 : Int) : Rat)) : -c ≤ flP p x ∧ flP p x ≤ c:=by
 obtain ⟨a,tl,rfl,hl,hb⟩:=nic_tail hp h
 rw [flP_eq hp hb]
 rw [Rat.intCast_mul,show ((67108864:Int):Rat)=67108864 from rfl] at h1 h2
 constructor
 ·rw [Rat.le_floor_iff,Rat.intCast_neg]
  grind
 ·have g1:=Rat.floor_le (sF p (a :: tl) / 67108864)
  have:((sF p (a :: tl) / 67108864).floor:Rat) ≤ (c:Rat):=by grind
  exact Rat.intCast_le_intCast.1 this
theorem Lw.quick {p : List Int} {c : Int} {l : List (List Rat)} (h : Lw p c l) (x : List Rat) (hx : x ∈ l) : Quick p x:=by
 obtain ⟨n,hn⟩:=h.nic
 exact nic_quick (by rw [h.len x hx];exact h.pr) (hn x hx) h.c0 (by have:=h.c1;omega) (h.bd x hx).1 (h.bd x hx).2
/-- The notes of a collection. -/
def Coll (p : List Int) (l N : List (List Rat)) : Prop:=Srt p N ∧ ∀ x,x ∈ N ↔ x=ov (p.length - 1) ∨ (x ≠ zer p.length ∧ ∃ y ∈ l,x=rst p y)
theorem ov_pr {p : List Int} (hp : Pr p p.length) : ov (p.length - 1)=shf 1 (zer p.length):=by
 rw [ov_shf,show p.length - 1 + 1=p.length by have:=(pr_one hp).2;omega]
theorem sov {p : List Int} (hp : Pr p p.length) : sF p (ov (p.length - 1))=67108864:=by
 rw [ov_pr hp,sF_shf (by rw [zer_len];exact hp),sF_zer]
 show (0:Rat) + ((1:Int):Rat) * 67108864=_
 rw [show ((1:Int):Rat)=1 from rfl]
 grind
/-- All that is in play are sizes of the list, some octaves off. -/
theorem Lw.play {p : List Int} {c : Int} {l : List (List Rat)} (h : Lw p c l) : ∃ n,∀ x y,(x=zer p.length ∨ x=ov (p.length - 1) ∨ ∃ z ∈ l,x=rst p z) → (y=zer p.length ∨ y=ov (p.length - 1) ∨ ∃ z ∈ l,y=rst p z) → x.length=p.length ∧ Nic n (subZ x y):=by
 obtain ⟨n,hn⟩:=h.dif
 have key:∀ x,(x=zer p.length ∨ x=ov (p.length - 1) ∨ ∃ z ∈ l,x=rst p z)→∃ q,∃ z ∈ zer p.length :: l,x=shf q z∧z.length=p.length:=by
  rintro x (rfl | rfl | ⟨z,hz,rfl⟩)
  ·exact ⟨0,_,List.mem_cons_self ..,(shf_zero _).symm,zer_len _⟩
  ·exact ⟨1,_,List.mem_cons_self ..,ov_pr h.pr,zer_len _⟩
  ·exact ⟨_,z,List.mem_cons_of_mem _ hz,rfl,h.len z hz⟩
 refine ⟨n,fun x y hx hy=>?_⟩
 obtain ⟨q,z,hz,rfl,hl⟩:=key x hx
 obtain ⟨r,u,hu,rfl,hl2⟩:=key y hy
 refine ⟨by rw [shf_len,hl],?_⟩
 rw [shf_sub (hl.trans hl2.symm)]
 exact nic_shf (hn z hz u hu)
theorem Lw.range {p : List Int} {c : Int} {l : List (List Rat)} (h : Lw p c l) {z : List Rat} (hz : z ∈ l) : 0 ≤ sF p (rst p z) ∧ sF p (rst p z) < 67108864:=by
 obtain ⟨n,hn⟩:=h.nic
 exact rst_bd (by rw [h.len z hz];exact h.pr) (hn z hz)
theorem Lw.inj {p : List Int} {c : Int} {l : List (List Rat)} (h : Lw p c l) {x y : List Rat} (hx : x=zer p.length ∨ x=ov (p.length - 1) ∨ ∃ z ∈ l,x=rst p z) (hy : y=zer p.length ∨ y=ov (p.length - 1) ∨ ∃ z ∈ l,y=rst p z) (e : sF p x=sF p y) : x=y:=by
 obtain ⟨n,hn⟩:=h.play
 have h1:=hn x y hx hy
 have h2:=hn y x hy hx
 exact nice_inj (by rw [h1.1];exact h.pr) (h1.1.trans h2.1.symm) h1.2.nice e
theorem nodup_len : ∀ {N M : List (List Rat)},N.Nodup → N ⊆ M → N.length ≤ M.length
 | [],_,_,_=>Nat.zero_le _
 | a :: N,M,h,hs=>by
  rw [List.nodup_cons] at h
  have ha:a ∈ M:=hs (List.mem_cons_self ..)
  have ih:=nodup_len (N:=N) (M:=M.erase a) h.2 fun x hx=>by
   have hxa:x ≠ a:=fun e=>h.1 (e ▸ hx)
   exact (List.mem_erase_of_ne hxa).2 (hs (List.mem_cons_of_mem _ hx))
  rw [List.length_erase_of_mem ha] at ih
  have:=List.length_pos_of_mem ha
  rw [List.length_cons]
  omega
theorem coll_few {p : List Int} {c : Int} {l N : List (List Rat)} (h : Lw p c l) (hc : Coll p l N) : N.length ≤ l.length + 1:=by
 have _:=h
 have hnd:N.Nodup:=hc.1.imp fun {a b} g e=>by rw [e] at g;grind
 have hsub:N ⊆ colF p [ov (p.length - 1)] l:=fun x hx=>by
  rw [colF_mem]
  rcases (hc.2 x).1 hx with e | g
  ·left;rw [e];simp
  ·exact .inr g
 have h1:=nodup_len hnd hsub
 have h2:=colF_len p [ov (p.length - 1)] l
 simp at h2
 omega
theorem coll_wd {p : List Int} {c : Int} {l N : List (List Rat)} (h : Lw p c l) (hc : Coll p l N) (hl : l.length ≤ 59) : Wd p N:=by
 obtain ⟨n,hn⟩:=h.play
 have hin:∀ x ∈ N,x=zer p.length ∨ x=ov (p.length - 1) ∨ ∃ z ∈ l,x=rst p z:=fun x hx=>by
  rcases (hc.2 x).1 hx with e | ⟨_,g⟩
  ·exact .inr (.inl e)
  ·exact .inr (.inr g)
 have hpos:∀ x ∈ N,0 < sF p x∧sF p x ≤ 67108864:=fun x hx=>by
  rcases (hc.2 x).1 hx with e | ⟨g0,z,hz,e⟩
  ·rw [e,sov h.pr]
   exact ⟨by decide,Rat.le_refl⟩
  ·have hr:=h.range hz
   refine ⟨?_,by rw [e];exact Rat.le_of_lt hr.2⟩
   have:sF p x ≠ 0:=fun e0=>g0 (h.inj (hin x hx) (.inl rfl) (by rw [e0,sF_zer]))
   rw [← e] at hr
   grind
 have hov:ov (p.length - 1) ∈ N:=(hc.2 _).2 (.inl rfl)
 have hne:N ≠ []:=fun e=>by rw [e] at hov;cases hov
 have hup:Srt p (zer p.length :: N):=by
  unfold Srt
  rw [List.pairwise_cons]
  exact ⟨fun x hx=>by rw [sF_zer];exact (hpos x hx).1,hc.1⟩
 have hnd:N.Nodup:=hc.1.imp fun {a b} g e=>by rw [e] at g;grind
 refine ⟨h.pr,hne,?_,fun x hx=>(hn x x (hin x hx) (hin x hx)).1,?_,hup,n,?_⟩
 ·have:=coll_few h hc
  omega
 ·have h0:=List.length_pos_iff.2 hne
  rw [List.getElem?_eq_getElem (by omega)]
  congr 1
  obtain ⟨i,hi,e⟩:=List.getElem_of_mem hov
  rcases (by omega:i=N.length - 1 ∨ i < N.length - 1) with g | g
  ·subst g;exact e
  ·have:=hc.1
   unfold Srt at this
   rw [List.pairwise_iff_getElem] at this
   have k:=this i (N.length - 1) hi (by omega) g
   rw [e,sov h.pr] at k
   have:=(hpos _ (List.getElem_mem (show N.length - 1 < N.length by omega))).2
   grind
 ·intro x hx y hy
  refine (hn x y ?_ ?_).2
  ·rcases List.mem_cons.1 hx with e | e
   ·exact .inl e
   ·exact hin x e
  ·rcases List.mem_cons.1 hy with e | e
   ·exact .inl e
   ·exact hin y e
/-- Sorted, the rests with the octave are the collection. -/
theorem coll_law {p : List Int} {c : Int} {l N : List (List Rat)} (h : Lw p c l) (hp : N.Perm (colF p [ov (p.length - 1)] l)) (hs : N.Pairwise fun x y => sF p x ≤ sF p y) : Coll p l N:=by
 have hin:∀ x ∈ colF p [ov (p.length - 1)] l,x=zer p.length ∨ x=ov (p.length - 1) ∨ ∃ z ∈ l,x=rst p z:=fun x hx=>by
  rcases (colF_mem l _ x).1 hx with e | ⟨_,g⟩
  ·exact .inr (.inl (by simpa using e))
  ·exact .inr (.inr g)
 refine ⟨srt_of_perm hp hs (colF_nodup _ _ (by simp)) fun x hx y hy e=>h.inj (hin x hx) (hin y hy) e,fun x=>?_⟩
 rw [hp.mem_iff,colF_mem]
 simp
end Go.Proofs.YtipjmpdndokdlaaGreatDoor

namespace Go.Proofs.YtipjmpdndokdlaaGreatDoor
open Go.RowKit Go.Lib
/-- The row of a sort, in some order; nothing else of old has turned. -/
structure InR {α : Type} (T : TypeId) (W0 : World) (B blk cap : Nat) (enc : α → Value) (d0 : List α) (wr : World) (dk : List α) : Prop where
 perm:dk.Perm d0
 own:wr.ownsRow B T 1 (.slice (some ⟨blk,0,none⟩) d0.length cap) d0.length (dk.map enc)
 only:W0.grownBy wr (some blk)
section
variable {α : Type} {T : TypeId} {W0 wr : World} {B blk cap : Nat} {enc : α → Value} {d0 dk : List α}
theorem InR.ext {w' : World} (h : InR T W0 B blk cap enc d0 wr dk) (hx : Ext wr w') : InR T W0 B blk cap enc d0 w' dk:=⟨h.perm,hx.own h.own,only_ext h.only hx⟩
theorem InR.len (h : InR T W0 B blk cap enc d0 wr dk) : dk.length=d0.length:=h.perm.length_eq
theorem InR.cell (h : InR T W0 B blk cap enc d0 wr dk) {k : Nat} {x : α} (hx : dk[k]?=some x) : wr.cell? ⟨blk,k,none⟩=some (enc x):=by
 have hk:=(List.getElem?_eq_some_iff.1 hx).1
 have:=h.len
 rw [World.ownsRow.cellAt h.own k (by omega),List.getElem?_map,hx]
 rfl
theorem InR.frozen (h : InR T W0 B blk cap enc d0 wr dk) (k : Nat) : wr.frozen? ⟨blk,k,none⟩=false:=by
 rcases h.own.2 with ⟨e,_⟩ | ⟨g,cap',cur,e,hb,hg,_⟩
 ·cases e
 ·injection e with e1 _ _
  injection e1 with e1
  injection e1 with e1
  subst e1
  exact frozen_of_row _ _ _ _ _ hg
theorem InR.swap (h : InR T W0 B blk cap enc d0 wr dk) {k : Nat} {x y : α} (hx : dk[k + 1]?=some x) (hy : dk[k]?=some y) :
  InR T W0 B blk cap enc d0 ((wr.setCell ⟨blk,k + 1,none⟩ (enc y)).setCell ⟨blk,k,none⟩ (enc x)) ((dk.set (k + 1) y).set k x):=by
 have h1:=World.ownsRow.stored h.own (k + 1) (enc y)
 have h2:=World.ownsRow.stored h1.1 k (enc x)
 refine ⟨(s_swap_perm hx hy).trans h.perm,?_,only_setCell (only_setCell h.only rfl _) rfl _⟩
 rw [List.map_set,List.map_set]
 exact h2.1
theorem InR.mem (h : InR T W0 B blk cap enc d0 wr dk) {k : Nat} {x : α} (hx : dk[k]?=some x) : x ∈ d0:=h.perm.mem_iff.1 (List.mem_of_getElem? hx)
end
end Go.Proofs.YtipjmpdndokdlaaGreatDoor
