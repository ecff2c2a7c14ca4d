/- Walks: slices.Clone at sizes and at primes; a list of sizes with one more. Walk: size.Sort of at most twelve sizes: the whole. -/
import Derived.Test.YtbkfhacmekbniaaGreatDoorPc16
import Derived.Test.YtbkfhacmekbniaaGreatDoorPc09
import Derived.Test.YtbkfhacmekbniaaGreatDoorShelfE
import Derived.Test.YtbkfhacmekbniaaGreatDoorPc13
namespace Go.Proofs.YtbkfhacmekbniaaGreatDoor
section
open Go.RowKit Go.Lib
theorem zjj (v:Value)(x:List Rat)(w:World)(hx:Rd w v x)(hl:x.length≤1000000)(hne:x ≠ []) :
  Calls Tryz.prog 70 #[v] w fun e w'=>∃ u,e=.returned u∧zfw w' w.heap.size u x∧Ext w w':=by
 obtain ⟨i0,hi,hz0,hz1,hz2⟩:=info_parts zfx;rcases hx with ⟨a,cap,rfl,hm,e⟩ | ⟨b,off,cap,rfl,h1,h2,hc⟩
 ·exact absurd e hne
 ·have hcell:∀ j u,(rcs x)[j]?=some u→w.cell? ⟨b,off+j,none⟩=some u:=fun j u hu=>by
   have hj:j<(rcs x).length:=(List.getElem?_eq_some_iff.1 hu).1;rw [zfu] at hj;obtain ⟨r,hr⟩:∃ r,x[j / 2]?=some r:=⟨_,List.getElem?_eq_getElem (by omega)⟩;obtain ⟨e1,e2⟩:=zfv hr;obtain ⟨g1,g2⟩:=hc (j / 2) r hr;rcases (by omega:j=j / 2 * 2∨j=j / 2 * 2+1) with e | e
   ·rw [e,e1] at hu;cases hu;rw [e];exact g1
   ·rw [e,e2] at hu;cases hu;rw [e,← Nat.add_assoc];exact g2
  exact (AnyE.slices_Clone Tryz.lCloneQ i0 (.agg #[.string ByteArray.empty,.string ByteArray.empty]) 2 32 hi hz0 hz1 hz2 rfl (by decide) Tryz.sizeOf60 b off x.length cap (rcs x) w (by rw [zfu];omega) (by unfold maxLen;omega) (by omega) hcell (by
   intro u hu;unfold rcs at hu;obtain ⟨r,_,hr⟩:=List.mem_flatMap.1 hu;simp only [rc,List.mem_cons,List.not_mem_nil,or_false] at hr;rcases hr with rfl | rfl <;> rfl)).mono fun e w' ⟨v',he,ho,_,hb⟩=>⟨v',he,ho,hb⟩
theorem zjk (v:Value)(p:List Int)(w:World)(hx:Sl w v (zak p))(hl:p.length≤1000000)(hne:p ≠ []) :
  Calls Tryz.prog 77 #[v] w fun e w'=>∃ u,e=.returned u∧zfk w' w.heap.size u p∧Ext w w':=by
 obtain ⟨i0,hi,hz0,hz1,hz2⟩:=info_parts zfj;obtain ⟨a,cap,rfl,hm,h1,hc⟩:=hx.parts;obtain ⟨q,hq⟩:∃ q,p[0]?=some q:=⟨_,List.getElem?_eq_getElem (List.length_pos_iff.2 hne)⟩;obtain ⟨b,off,rfl,_⟩:=hc 0 (.int .i64 q) (by unfold zak;rw [List.getElem?_map,hq];rfl);have hcell:∀ j u,(zak p)[j]?=some u→w.cell? ⟨b,off+j,none⟩=some u:=fun j u hu=>by
  obtain ⟨b2,off2,e,h⟩:=hc j u hu
  cases e
  exact h
 refine (AnyE.slices_Clone Tryz.lCloneP i0 (.int .i64 0) 1 8 hi hz0 hz1 hz2 rfl (by decide) Tryz.sizeOf3 b off (zak p).length cap (zak p) w (by omega) (by rw [zam];unfold maxLen;omega) (by rw [zam];omega) hcell (by simp [zak,Value.oneCell'])).mono fun e w' ⟨v',he,ho,_,hb⟩=>⟨v',he,?_,hb⟩;rw [zam] at ho;exact ho
theorem zjl (rs:List Qw)(r:Qw):qwc (rs++[r])=qwc rs++[r.u]:=by simp [qwc]
theorem QwM.nil (w:World)(b B:Nat):QwM w b B (.slice none 0 0) []:=⟨World.ownsRow_nil w _ _ 1,fun _ h=>by cases h⟩
theorem QwM.more {w0 W V:World}{o:Obj}{v v7:Value}{rs:List Qw}{r:Qw}(hE:Ext w0 W)(h:QwM W w0.heap.size w0.heap.size v rs)(hr:zfw W w0.heap.size r.u r.x)
  (hown:V.ownsRow w0.heap.size 32 1 v7 (rs.length+1) (qwc rs++[r.u])) (hgrow:(W.alloc o).grownBy V v.ownBlock):QwM V w0.heap.size w0.heap.size v7 (rs++[r])∧Ext w0 V:=by
 have hal:=h.1.alloc o;have hkeep:∀ s:Qw,zfw W w0.heap.size s.u s.x→zfw V w0.heap.size s.u s.x:=fun s hs=>World.ownsRow.kept (World.ownsRow.alloc hs o) hgrow (zfm (World.ownsRow.alloc hs o) hal (by decide));refine ⟨⟨?_,fun s hs=>?_⟩,(hE.alloc o).grown hgrow fun k hk=>(World.ownsRow.lt hal k hk).1⟩
 ·rw [List.length_append,List.length_singleton,zjl];exact hown
 ·rcases List.mem_append.1 hs with g | g
  ·exact hkeep s (h.2 s g)
  ·rw [List.mem_singleton] at g;subst g;exact hkeep s hr
end
section
open Go.RowKit Go.Lib Go.Shelf
attribute [local go_sem] Oper.semAt_some
def zjm (l:List Nat):List Value:=l.map fun (i:Nat)=>.int .i64 (i:Int)
theorem zjn (k:Nat):zjm (List.range (k+1))=zjm (List.range k)++[.int .i64 k]:=by unfold zjm;rw [List.range_succ,List.map_append];rfl
theorem zjo : ∀ args w,(callFunc 108 args).run Tryz.prog w=.ok (.enter 108 args) w:=enters_of Tryz.func108 (by kernel_rfl) rfl
end
end Go.Proofs.YtbkfhacmekbniaaGreatDoor
