/- Walks: equal sizes: slices.Equal at fractions, size.Equal. Walks: slices.Clone at sizes and at primes; a list of sizes with one more. -/
import Derived.Test.YtipjmpdndokdlaaGreatDoorPb09
import Derived.Test.YtipjmpdndokdlaaGreatDoorPb10
import Derived.Test.YtipjmpdndokdlaaGreatDoorShelfE
set_option maxRecDepth 100000
set_option maxHeartbeats 2000000
namespace Go.Proofs.YtipjmpdndokdlaaGreatDoor
open Go.RowKit Go.Lib
attribute [local go_sem] Oper.semAt_some
theorem toList_inj {s t : ByteArray} (h : s.toList=t.toList) : s=t:=by
 rw [Lib.toList_data,Lib.toList_data] at h
 exact ByteArray.ext (Array.toList_inj.1 h)
theorem slEq_c (va vb : Value) (x y : List Rat) (w : World) (ha : Rd w va x) (hb : Rd w vb y) (hx : x.length ≤ 1000) (hy : y.length ≤ 1000) :
  Calls Tryz.prog 118 #[va,vb] w fun e w'=>e=.returned (.bool (decide (x=y)))∧Ext w w':=by
 obtain ⟨aa,ca,rfl,_,_,hca⟩:=ha.parts
 obtain ⟨ab,cb,rfl,_,_,hcb⟩:=hb.parts
 clear ha hb
 by_cases hl:x.length=y.length
 ·have Hl:=Lib.hid hl
  rw [← hl]
  have hfin:(∀ i,i < x.length→x[i]?=y[i]?)→decide (x=y)=true:=fun h=>by
   rw [decide_eq_true_eq]
   apply List.ext_getElem? 
   intro i
   rcases Nat.lt_or_ge i x.length with g | g
   ·exact h i g
   ·rw [List.getElem?_eq_none g,List.getElem?_eq_none (by omega)]
  generalize hn:x.length=n at *
  have hbad:∀ (i:Nat) (q r:Rat),x[i]?=some q→y[i]?=some r→q ≠ r→decide (x=y)=false:=fun i q r h1 h2 h3=>by
   rw [decide_eq_false_iff_not]
   rintro rfl
   rw [h1] at h2
   exact h3 (Option.some.inj h2)
  clear hl hy
  have Hca:=Lib.hid hca;have Hcb:=Lib.hid hcb;have Hfin:=Lib.hid hfin;have Hbad:=Lib.hid hbad;have Hn:=Lib.hid hn;clear hca hcb hfin hbad hn
  go_enter Tryz.func118,Tryz.ntmps118
  go_wp2_with fail
  go_loopw [5,13] (fun v5 v13 wr=>∃ k:Nat,v13=.int .i64 k∧k ≤ n∧(∀ i,i < k→x[i]?=y[i]?)∧Ext w wr) (fun _ v13 _=>n - (intOf v13).toNat)
  case atStart=>exact ⟨0,rfl,Nat.zero_le _,fun i h=>by omega,Ext.refl _⟩
  case round =>
   obtain ⟨k,rfl,hk,hall,hE⟩:=hrel
   by_cases hkn:k < n
   ·obtain ⟨q,hq⟩:∃ q,x[k]?=some q:=⟨_,List.getElem?_eq_getElem (by rw [Hn.out];exact hkn)⟩
    obtain ⟨r,hr⟩:∃ r,y[k]?=some r:=⟨_,List.getElem?_eq_getElem (by rw [← Hl.out];exact hkn)⟩
    obtain ⟨ba,oa,rfl,hx0,hx1⟩:=Hca.out k q hq
    obtain ⟨bb,ob,rfl,hy0,hy1⟩:=Hcb.out k r hr
    have c0:=hE.cell hx0;have c1:=hE.cell hx1
    have e0:=hE.cell hy0;have e1:=hE.cell hy1
    have hk0:(0:Int) ≤ (k:Int):=by omega
    have hk1:(k:Int) < (n:Int):=by omega
    clear hx0 hx1 hy0 hy1
    by_cases hqr:q=r
    ·subst hqr
     have hnx:∀ i,i < k + 1→x[i]?=y[i]?:=fun i hi=>by
      rcases Nat.lt_or_ge i k with g | g
      ·exact hall i g
      ·rw [show i=k by omega,hq,hr]
     generalize I q.num=s1 at *
     generalize I (q.den:Int)=s2 at *
     clear hall hq hr
     have Hnx:=Lib.hid hnx;have HE:=Lib.hid hE;clear hnx hE
     go_wp2_with fail
     go_quiet (fail)
     go_wp2_with fail
     go_roundw
     case rel=>exact ⟨k + 1,by go_num,by omega,Hnx.out,HE.out.drewN _⟩
     case measure=>simp [intOf];omega
    ·have hb1:=Hbad.out k q r hq hr hqr
     have hpart:¬ (I q.num).toList=(I r.num).toList ∨ ((I r.num).toList=(I q.num).toList∧¬ (I (q.den:Int)).toList=(I (r.den:Int)).toList):=by
      by_cases g:(I q.num).toList=(I r.num).toList
      ·refine Or.inr ⟨g.symm,fun g2=>hqr (Rv_inj ?_)⟩
       unfold Rv
       rw [toList_inj g,toList_inj g2]
      ·exact Or.inl g
     generalize I q.num=s1 at *
     generalize I (q.den:Int)=s2 at *
     generalize I r.num=s3 at *
     generalize I (r.den:Int)=s4 at *
     clear hall hq hr hqr
     have Hb1:=Lib.hid hb1;have HE:=Lib.hid hE;clear hb1 hE
     rcases hpart with g | ⟨g,g2⟩
     all_goals
      go_wp2_with fail
      go_quiet (fail)
      go_wp2
      go_ret
      exact ⟨by rw [Hb1.out];rfl,HE.out.drewN _⟩
   ·obtain rfl:n=k:=by omega
    have hf:=Hfin.out hall
    clear hall
    have Hf:=Lib.hid hf;have HE:=Lib.hid hE;clear hf hE
    go_wp2
    go_ret
    exact ⟨by rw [Hf.out];rfl,HE.out⟩
 ·have hne:decide (x=y)=false:=by
   rw [decide_eq_false_iff_not]
   rintro rfl
   exact hl rfl
  rw [hne]
  clear hca hcb hne
  have hl2:¬ (x.length:Int)=(y.length:Int):=by omega
  generalize x.length=n at *
  generalize y.length=m at *
  go_enter Tryz.func118,Tryz.ntmps118
  go_wp2
  go_ret
  exact ⟨rfl,Ext.refl _⟩
theorem sEq_c (va vb : Value) (x y : List Rat) (w : World) (ha : Rd w va x) (hb : Rd w vb y) (hx : x.length ≤ 1000) (hy : y.length ≤ 1000) :
  Calls Tryz.prog 75 #[va,vb] w fun e w'=>e=.returned (.bool (decide (x=y)))∧Ext w w':=by
 have h:=slEq_c va vb x y w ha hb hx hy
 obtain ⟨aa,ca,rfl,_,_,_⟩:=ha.parts
 obtain ⟨ab,cb,rfl,_,_,_⟩:=hb.parts
 generalize decide (x=y)=b at *
 clear ha hb
 have H:=Lib.hid h;clear h
 go_enter Tryz.func75,Tryz.ntmps75
 go_wp2_with fail
 refine (H.out).mono ?_
 rintro e w1 ⟨rfl,hx1⟩
 have Hx1:=Lib.hid hx1;clear hx1
 go_wp2
 go_ret
 exact ⟨rfl,Hx1.out⟩
end Go.Proofs.YtipjmpdndokdlaaGreatDoor

namespace Go.Proofs.YtipjmpdndokdlaaGreatDoor
open Go.RowKit Go.Lib
theorem cloneQ_c (v : Value) (x : List Rat) (w : World) (hx : Rd w v x) (hl : x.length ≤ 1000000) (hne : x ≠ []) :
  Calls Tryz.prog 76 #[v] w fun e w'=>∃ u,e=.returned u∧OwnQ w' w.heap.size u x∧Ext w w':=by
 obtain ⟨i0,hi,hz0,hz1,hz2⟩:=info_parts info_rat
 rcases hx with ⟨a,cap,rfl,hm,e⟩ | ⟨b,off,cap,rfl,h1,h2,hc⟩
 ·exact absurd e hne
 ·have hcell:∀ j u,(rcs x)[j]?=some u→w.cell? ⟨b,off + j,none⟩=some u:=fun j u hu=>by
   have hj:j < (rcs x).length:=(List.getElem?_eq_some_iff.1 hu).1
   rw [rcs_length] at hj
   obtain ⟨r,hr⟩:∃ r,x[j / 2]?=some r:=⟨_,List.getElem?_eq_getElem (by omega)⟩
   obtain ⟨e1,e2⟩:=rcs_at hr
   obtain ⟨g1,g2⟩:=hc (j / 2) r hr
   rcases (by omega:j=j / 2 * 2 ∨ j=j / 2 * 2 + 1) with e | e
   ·rw [e,e1] at hu;cases hu;rw [e];exact g1
   ·rw [e,e2] at hu;cases hu;rw [e,← Nat.add_assoc];exact g2
  exact (AnyE.slices_Clone Tryz.lCloneQ i0 (.agg #[.string ByteArray.empty,.string ByteArray.empty]) 2 32 hi hz0 hz1 hz2 rfl (by decide) Tryz.sizeOf27 b off x.length cap (rcs x) w (by rw [rcs_length];omega) (by unfold maxLen;omega) (by omega) hcell (by
   intro u hu
   unfold rcs at hu
   obtain ⟨r,_,hr⟩:=List.mem_flatMap.1 hu
   simp only [rc,List.mem_cons,List.not_mem_nil,or_false] at hr
   rcases hr with rfl | rfl <;> rfl)).mono fun e w' ⟨v',he,ho,_,hb⟩=>⟨v',he,ho,hb⟩
theorem cloneP_c (v : Value) (p : List Int) (w : World) (hx : Sl w v (i64s p)) (hl : p.length ≤ 1000000) (hne : p ≠ []) :
  Calls Tryz.prog 27 #[v] w fun e w'=>∃ u,e=.returned u∧OwnI w' w.heap.size u p∧Ext w w':=by
 obtain ⟨i0,hi,hz0,hz1,hz2⟩:=info_parts info_int
 obtain ⟨a,cap,rfl,hm,h1,hc⟩:=hx.parts
 obtain ⟨q,hq⟩:∃ q,p[0]?=some q:=⟨_,List.getElem?_eq_getElem (List.length_pos_iff.2 hne)⟩
 obtain ⟨b,off,rfl,_⟩:=hc 0 (.int .i64 q) (by unfold i64s;rw [List.getElem?_map,hq];rfl)
 have hcell:∀ j u,(i64s p)[j]?=some u→w.cell? ⟨b,off + j,none⟩=some u:=fun j u hu=>by
  obtain ⟨b2,off2,e,h⟩:=hc j u hu
  cases e
  exact h
 refine (AnyE.slices_Clone Tryz.lCloneP i0 (.int .i64 0) 1 8 hi hz0 hz1 hz2 rfl (by decide) Tryz.sizeOf3 b off (i64s p).length cap (i64s p) w (by omega) (by rw [i64s_length];unfold maxLen;omega) (by rw [i64s_length];omega) hcell (by simp [i64s,Value.oneCell'])).mono fun e w' ⟨v',he,ho,_,hb⟩=>⟨v',he,?_,hb⟩
 rw [i64s_length] at ho
 exact ho
theorem qwc_snoc (rs : List Qw) (r : Qw) : qwc (rs ++ [r])=qwc rs ++ [r.u]:=by simp [qwc]
theorem QwM.nil (w : World) (b B : Nat) : QwM w b B (.slice none 0 0) []:=⟨World.ownsRow_nil w _ _ 1,fun _ h => by cases h⟩
/-- A list of sizes with one more: behind the append. -/
theorem QwM.more {w0 W V : World} {o : Obj} {v v7 : Value} {rs : List Qw} {r : Qw} (hE : Ext w0 W) (h : QwM W w0.heap.size w0.heap.size v rs) (hr : OwnQ W w0.heap.size r.u r.x)
  (hown:V.ownsRow w0.heap.size 37 1 v7 (rs.length + 1) (qwc rs ++ [r.u])) (hgrow:(W.alloc o).grownBy V v.ownBlock):QwM V w0.heap.size w0.heap.size v7 (rs ++ [r])∧Ext w0 V:=by
 have hal:=h.1.alloc o
 have hkeep:∀ s:Qw,OwnQ W w0.heap.size s.u s.x→OwnQ V w0.heap.size s.u s.x:=fun s hs=>World.ownsRow.kept (World.ownsRow.alloc hs o) hgrow (own_ne (World.ownsRow.alloc hs o) hal (by decide))
 refine ⟨⟨?_,fun s hs=>?_⟩,(hE.alloc o).grown hgrow fun k hk=>(World.ownsRow.lt hal k hk).1⟩
 ·rw [List.length_append,List.length_singleton,qwc_snoc];exact hown
 ·rcases List.mem_append.1 hs with g | g
  ·exact hkeep s (h.2 s g)
  ·rw [List.mem_singleton] at g
   subst g
   exact hkeep s hr
end Go.Proofs.YtipjmpdndokdlaaGreatDoor
