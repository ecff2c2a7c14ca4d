/- A slice of fractions (pairs of strings) that came in, read. -/
import Derived.Test.YtbkfhacmekbniaaGreatDoorPa37
import Derived.ChangeSlices
import Derived.WideShapes
import Derived.ChangeShapes
import Derived.DataReads
import Derived.Deep.SlicePairs
set_option maxRecDepth 100000
namespace Go.Proofs.YtbkfhacmekbniaaGreatDoor
open Go.ChangeShapes Go.WideShapes Go.RowKit Go.Lib
theorem zqZ {α:Type}[Inhabited α](P:Nat→α→Prop):∀ n:Nat,(∀ i,i<n→∃ a,P i a)→∃ l:List α,l.length=n∧∀ i a,l[i]?=some a→P i a
 | 0,_=>⟨[],rfl,fun i a h=>by simp at h⟩
 | n+1,h=>by
  obtain ⟨l,hl,hp⟩:=zqZ P n fun i hi=>h i (by omega);obtain ⟨a,ha⟩:=h n (by omega);refine ⟨l++[a],by simp [hl],fun i b hb=>?_⟩;rcases Nat.lt_or_ge i n with hi | hi
  ·rw [List.getElem?_append_left (by omega)] at hb;exact hp i b hb
  ·have hi2:=(List.getElem?_eq_some_iff.1 hb).1;rw [List.length_append,List.length_singleton] at hi2;obtain rfl:i=n:=by omega
   rw [List.getElem?_append_right (by omega),hl,Nat.sub_self] at hb;obtain rfl:=Option.some.inj hb;exact ha
theorem zra {H:Type}{enc:TypeId × Value→H}{r:Reach}{b0:Nat}{w:World}{base:Nat}{spare:Nat→Bool}{held:Bool}{t:TypeId}{v:Value}{d:DataW H}{p:List MemPlace}(ht:Tryz.prog.underlying t=some (.slice 60))(hv:Value.okWide Tryz.prog w r b0 t v)(h:DataW.Trod enc Tryz.prog w base spare held t v d p) :
  ∃ l:List (ByteArray × ByteArray),Rb w v l∧l.length≤9223372036854775807:=by
 obtain ⟨a,len,cap,rfl⟩:=okWide_slice ht hv;obtain ⟨fuel,hf⟩:=h;have hu:=Tryz.underlying60;rcases Go.Deep.open_slice_pairs ht hu (by kernel_rfl) rfl rfl (by kernel_rfl) (by kernel_rfl) hf with ⟨h1,_⟩ | ⟨a',len',cap',m,n,V0,V1,D0,D1,P0,P1,h1,_,hl,hm,hmm,_,hc⟩
 ·simp only [Value.cells,List.cons.injEq,Value.slice.injEq,and_true] at h1;obtain ⟨rfl,rfl,rfl⟩:=h1;exact ⟨[],⟨none,0,rfl,Nat.zero_le _,Nat.le_refl _,fun i e h=>by simp at h⟩,Nat.zero_le _⟩
 ·simp only [Value.cells,List.cons.injEq,Value.slice.injEq,and_true] at h1;obtain ⟨rfl,rfl,rfl⟩:=h1;have hlm:len≤m:=by rw [hmm];split <;> omega
  have hlx:len≤9223372036854775807:=by unfold maxLen at hm;omega
  obtain ⟨l,hll,hp⟩:=zqZ (fun i (e:ByteArray × ByteArray)=>w.cell? (a'.add (i * 2))=some (.string e.1)∧w.cell? (a'.add (i * 2+1))=some (.string e.2)) len fun i hi=>by
   obtain ⟨k0,k1,t0,t1⟩:=hc i (by omega);obtain ⟨s0,e0,_⟩:=DataW.trod_string Tryz.underlying50 t0;obtain ⟨s1,e1,_⟩:=DataW.trod_string Tryz.underlying50 t1;rw [List.cons.injEq] at e0 e1;exact ⟨(s0,s1),by rw [k0,e0.1],by rw [k1,e1.1]⟩
  subst hll;refine ⟨l,⟨some a',cap,rfl,hm,hl,fun i e he=>?_⟩,hlx⟩;obtain ⟨k0,k1⟩:=hp i e he;obtain ⟨b,off,sp⟩:=a';obtain ⟨e0,he0⟩:∃ e0,l[0]?=some e0:=⟨_,List.getElem?_eq_getElem (Nat.lt_of_le_of_lt (Nat.zero_le _) (List.getElem?_eq_some_iff.1 he).1)⟩;have hs:=World.cell?_spot (hp 0 e0 he0).1;rw [Nat.zero_mul] at hs;have hs':sp=none:=by
   cases sp with
   | none=>rfl
   | some s=>simp [Addr.add] at hs
  subst hs';have ea:∀ j,(⟨b,off,none⟩:Addr).add j=⟨b,off+j,none⟩:=fun j=>by unfold Addr.add;split <;> simp_all
  rw [ea] at k0 k1;exact ⟨b,off,rfl,k0,by rwa [← Nat.add_assoc] at k1⟩
end Go.Proofs.YtbkfhacmekbniaaGreatDoor
