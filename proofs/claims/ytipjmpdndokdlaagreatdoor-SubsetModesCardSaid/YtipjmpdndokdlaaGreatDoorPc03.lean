/- append of zeros ('append(x, make([]T, m)...)') to a list that the call owns: one cell an element. -/
import Derived.Lib.AppendZeros
import Derived.Maps.AppendAt
namespace Go.Proofs.YtipjmpdndokdlaaGreatDoor
section
variable {P : Program} (w : World)
theorem zeroCells_one (z:Value)(n:Nat):(Builtin.zeroCells #[z] n).toList=List.replicate n z:=by
 apply List.ext_getElem?
 intro j
 by_cases hj:j<n
 ·simp [Builtin.zeroCells,hj,Nat.mod_one]
 ·simp [Builtin.zeroCells,hj]
theorem run_append_zeros (base:Nat)(t tn ty e:TypeId)(i:TypeInfo)(z:Value)(bytes:Nat)(kn k:IntKind)(ht:P.underlying t=some (.slice e))(htn:P.underlying tn=some (.int kn))(hi:P.info? e=some i)(hz:i.zero=some z)
  (hsize:i.size=1) (hby:i.bytes=bytes) (hzs:z.cells=#[z]) (h1:z.oneCell'=true)
  (v:Value) (n:Nat) (xs:List Value) (hown:w.ownsRow base e 1 v n xs) (m:Nat)
  (h63:n+m≤maxLen) (hbytes:(n+m) * bytes≤140737488355328) (hbase:base≤w.heap.size) :
  ∃ v' w',(Builtin.append_ #[t,tn] ty #[v,.int k m]).run P w=.ok v' w'∧w'.ownsRow base e 1 v' (n+m) (xs++List.replicate m z)∧w.grownBy w' v.ownBlock∧(v'.ownBlock=v.ownBlock∨v'.ownBlock=some w.heap.size):=by
 subst hby
 have hxl:xs.length=n:=by simpa using hown.1
 have hsmall:n+m≤9223372036854775807:=by simp only [maxLen] at h63;omega
 have hw:IntKind.i64.wrap (m:Int)=m:=by rw [IntKind.wrap_i64];omega
 have hneg:¬ ((m:Int)<0):=by omega
 have hmb:m * i.bytes≤140737488355328:=Nat.le_trans (Nat.mul_le_mul_right _ (by omega)) hbytes
 have h48i:¬ (281474976710656<(m:Int) * (i.bytes:Int)):=by
  rw [← Int.natCast_mul]
  omega
 have hlen:(xs++List.replicate m z).length=(n+m) * 1:=by rw [List.length_append,hxl,List.length_replicate,Nat.mul_one]
 have hzc:(Builtin.zeroCells #[z] m)=(List.replicate m z).toArray:=by
  apply Array.ext'
  rw [zeroCells_one]
 have grown:∀ (old:Nat),old<n+m→∀ (row:Option Nat),
   (w.drew.alloc (.cells (xs.toArray++(List.replicate m z).toArray++Builtin.zeroCells z.cells (grownCap w (n+m) old e - (n+m))) e)).ownsRow base e 1
    (.slice (some ⟨w.heap.size,0,none⟩) (n+m) (grownCap w (n+m) old e)) (n+m) (xs++List.replicate m z) ∧
   w.grownBy (w.drew.alloc (.cells (xs.toArray++(List.replicate m z).toArray++Builtin.zeroCells z.cells (grownCap w (n+m) old e - (n+m))) e)) row:=by
  intro old ho row
  have hge:=grownCap_ge w (n+m) old e
  have hcm:grownCap w (n+m) old e≤maxLen:=grownCap_le_maxLen w (n+m) old e h63
  refine ⟨⟨hlen,.inr ⟨w.heap.size,_,_,rfl,hbase,heap_alloc_new w.drew _,hge,hcm,?_,?_⟩⟩,⟨rfl,rfl,rfl,by simp,fun k hk _=>heap_alloc_old w.drew _ k hk⟩⟩
  ·have hz1:z.cells.size=1:=by rw [hzs];rfl
   simp only [Array.size_append,List.size_toArray,size_zeroCells,hz1,hxl,List.length_replicate,Nat.mul_one]
   omega
  ·simp only [Array.toList_append,List.append_assoc]
   rw [← List.append_assoc,← hlen]
   exact List.take_left
 rcases hown.2 with ⟨rfl,rfl⟩ | ⟨g,cap,cur,rfl,hbg,hg,hnc,hcm,hcs,htake⟩
 ·have hx:xs=[]:=List.eq_nil_of_length_eq_zero (by simpa using hown.1)
  subst hx
  by_cases hm:m=0
  ·subst hm
   refine ⟨.slice none 0 0,w,?_,by simpa using World.ownsRow_nil w base e 1,⟨rfl,rfl,rfl,Nat.le_refl _,fun _ _ _=>rfl⟩,.inl rfl⟩
   have hw0:IntKind.i64.wrap (0:Int)=0:=by rw [IntKind.wrap_i64];omega
   simp [Builtin.append_,run_underlying ht,run_underlying htn,sizeOf,typeInfo,zeroValue,hi,hz,asInt,asIntOf,hw0]
  ·have hr:=Lib.run_append_nil_zeros (P:=P) w t tn ty e i z k kn ht htn hi hz m (by omega) (by omega) (by omega) (by omega)
   have hgr:=grown 0 (by omega) (Value.ownBlock (.slice none 0 0))
   simp only [Nat.zero_add,List.nil_append,Array.empty_append] at hgr ⊢
   rw [← hzc] at hgr
   rw [← hzs] at hgr
   exact ⟨_,_,hr,hgr.1,hgr.2,.inr rfl⟩
 ·by_cases hroom:n+m≤cap
  ·have hfit:n * i.size+(List.replicate m z).length≤cur.size:=by rw [hsize,List.length_replicate,hcs];omega
   have hst:=run_storeCells_at P g (n * i.size) e (List.replicate m z) 0 cur w hg (by simpa using hfit) (fun u hu=>by rw [(List.mem_replicate.1 hu).2];exact h1)
   simp only [Nat.add_zero] at hst
   have hr:(Builtin.append_ #[t,tn] ty #[.slice (some ⟨g,0,none⟩) n cap,.int k m]).run P w =
     .ok (.slice (some ⟨g,0,none⟩) (n+m) cap) (w.setRow g (cur.toList.take (n * i.size)++List.replicate m z++cur.toList.drop (n * i.size+(List.replicate m z).length)).toArray):=by
    by_cases hm0:m=0
    ·subst hm0
     have hw0:IntKind.i64.wrap (0:Int)=0:=by rw [IntKind.wrap_i64];omega
     rw [List.replicate_zero] at hst ⊢
     simp [Builtin.append_,run_underlying ht,run_underlying htn,sizeOf,typeInfo,zeroValue,hi,hz,asInt,asIntOf,hw0,hnc,hst,Addr.add_lit]
    ·have hms:¬ (m * i.size=0):=by rw [hsize];omega
     simp [Builtin.append_,run_underlying ht,run_underlying htn,sizeOf,typeInfo,zeroValue,hi,hz,asInt,asIntOf,hw,hneg,h48i,hroom,hms,hzs,hzc,Addr.add_lit,hst]
   rw [hsize] at hr
   simp only [Nat.mul_one] at hr
   refine ⟨_,_,hr,⟨hlen,.inr ⟨g,cap,_,rfl,hbg,setRow_heap w g cur _ e _ hg,hroom,hcm,?_,?_⟩⟩,⟨rfl,rfl,rfl,by simp,fun k _ hk=>setRow_other w g k _ (fun e=>hk (by simp [Value.ownBlock,e]))⟩,.inl rfl⟩
   ·simp only [List.size_toArray,List.length_append,List.length_take,List.length_drop,Array.length_toList,List.length_replicate]
    omega
   ·rw [Nat.mul_one] at htake
    rw [htake,← hlen]
    exact List.take_left
  ·have holds:∀ j u,xs[j]?=some u→w.drew.cell? ((⟨g,0,none⟩:Addr).add j)=some u:=hown.cells (g:=g) rfl
   have hfo:=run_firstCells_some (P:=P) w.drew i.size n ⟨g,0,none⟩ n cap xs (by rw [hsize];omega) holds
   have hn:¬ (n+m≤cap):=hroom
   have h63':¬ (9223372036854775807<((n:Int)+(m:Int))):=by omega
   have h48':¬ (281474976710656<Builtin.nextslicecap (n+m) cap * i.bytes):=by have:=growslice_fits (need:=n+m) (old:=cap) (bytes:=i.bytes) (by omega) hbytes;omega
   have hms:¬ (m * i.size=0):=by rw [hsize];omega
   have hr:(Builtin.append_ #[t,tn] ty #[.slice (some ⟨g,0,none⟩) n cap,.int k m]).run P w =
     .ok (.slice (some ⟨w.heap.size,0,none⟩) (n+m) (grownCap w (n+m) cap e))
      (w.drew.alloc (.cells (xs.toArray++(List.replicate m z).toArray++Builtin.zeroCells z.cells (grownCap w (n+m) cap e - (n+m))) e)):=by
    simp [Builtin.append_,run_underlying ht,run_underlying htn,sizeOf,typeInfo,zeroValue,hi,hz,asInt,asIntOf,hw,hneg,h48i,hn,hms,hzs,hzc,h63',h48',Question.forced,hfo,newRow,grownCap]
   have hgr:=grown cap (by omega) (Value.ownBlock (.slice (some ⟨g,0,none⟩) n cap))
   exact ⟨_,_,hr,hgr.1,hgr.2,.inr rfl⟩
theorem wpList_append_zeros {ops:Array Oper}{rest:List Oper}{o:Oper}{a:Act}{Q:Exit→Act→World→Prop}(hgd:o.guard=none)(s x:Operand)(t tn:TypeId)
  (ho:o.op=.call { callee:=.builtin .append,args:=#[s,x],argTypes:=#[t,tn] })
  (base:Nat) (e:TypeId) (i:TypeInfo) (z:Value) (bytes:Nat) (kn k:IntKind) (ht:P.underlying t=some (.slice e)) (htn:P.underlying tn=some (.int kn)) (hi:P.info? e=some i) (hz:i.zero=some z)
  (hsize:i.size=1) (hby:i.bytes=bytes) (hzs:z.cells=#[z]) (h1:z.oneCell'=true)
  (v:Value) (n:Nat) (xs:List Value) (hs:a.eval s=v) (hown:w.ownsRow base e 1 v n xs) (m:Nat) (hx:a.eval x=.int k m)
  (h63:n+m≤maxLen) (hbytes:(n+m) * bytes≤140737488355328) (hbase:base≤w.heap.size)
  (h:∀ v' w',w'.ownsRow base e 1 v' (n+m) (xs++List.replicate m z)→w.grownBy w' v.ownBlock→(v'.ownBlock=v.ownBlock∨v'.ownBlock=some w.heap.size)→wpList P ops Q rest (a.put o.dst v') w'):wpList P ops Q (o::rest) a w:=by
 obtain ⟨v',w',hr,h2,h3,h4⟩:=run_append_zeros (P:=P) w base t tn o.type e i z bytes kn k ht htn hi hz hsize hby hzs h1 v n xs hown m h63 hbytes hbase
 exact Lib.wpList_append_run w hgd s x t tn ho _ _ hs hx v' w' hr (h v' w' h2 h3 h4)
end
end Go.Proofs.YtipjmpdndokdlaaGreatDoor
