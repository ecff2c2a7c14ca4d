/- append of zeros ('append(x, make([]T, m)...)') to a list that the call owns: one cell an element. Walks: decimal's Add and Sub at any length. Printed by addsub.py. Walks: whole's Neg, Abs, Add and Sub. Printed by wholeb.py. -/
import Derived.Lib.AppendZeros
import Derived.Maps.AppendAt
import Derived.Test.YtipkdebkdnbieaaGreatDoorPe03
import Derived.Deep.AppendLies
set_option maxRecDepth 100000
set_option maxHeartbeats 4000000
namespace Go.Proofs.YtipkdebkdnbieaaGreatDoor
section
variable {P : Program} (w : World)
theorem zdf (z:Value)(n:Nat):(Builtin.zeroCells #[z] n).toList=List.replicate n z:=by
 apply List.ext_getElem?;intro j;by_cases hj:j<n
 ·simp [Builtin.zeroCells,hj,Nat.mod_one]
 ·simp [Builtin.zeroCells,hj]
theorem zdg (base:Nat)(t tn ty e:TypeId)(i:TypeInfo)(z:Value)(bytes:Nat)(kn k:IntKind)(ht:P.underlying t=some (.slice e))(htn:P.underlying tn=some (.int kn))(hi:P.info? e=some i)(hz:i.zero=some z)
  (hsize:i.size=1) (hby:i.bytes=bytes) (hzs:z.cells=#[z]) (h1:z.oneCell'=true)
  (v:Value) (n:Nat) (xs:List Value) (hown:w.ownsRow base e 1 v n xs) (m:Nat)
  (h63:n+m≤maxLen) (hbytes:(n+m) * bytes≤140737488355328) (hbase:base≤w.heap.size) :
  ∃ v' w',(Builtin.append_ #[t,tn] ty #[v,.int k m]).run P w=.ok v' w'∧w'.ownsRow base e 1 v' (n+m) (xs++List.replicate m z)∧w.grownBy w' v.ownBlock∧(v'.ownBlock=v.ownBlock∨v'.ownBlock=some w.heap.size):=by
 subst hby;have hxl:xs.length=n:=by simpa using hown.1
 have hsmall:n+m≤9223372036854775807:=by simp only [maxLen] at h63;omega
 have hw:IntKind.i64.wrap (m:Int)=m:=by rw [IntKind.wrap_i64];omega
 have hneg:¬ ((m:Int)<0):=by omega
 have hmb:m * i.bytes≤140737488355328:=Nat.le_trans (Nat.mul_le_mul_right _ (by omega)) hbytes;have h48i:¬ (281474976710656<(m:Int) * (i.bytes:Int)):=by
  rw [← Int.natCast_mul];omega
 have hlen:(xs++List.replicate m z).length=(n+m) * 1:=by rw [List.length_append,hxl,List.length_replicate,Nat.mul_one]
 have hzc:(Builtin.zeroCells #[z] m)=(List.replicate m z).toArray:=by
  apply Array.ext';rw [zdf]
 have grown:∀ (old:Nat),old<n+m→∀ (row:Option Nat),
   (w.drew.alloc (.cells (xs.toArray++(List.replicate m z).toArray++Builtin.zeroCells z.cells (grownCap w (n+m) old e - (n+m))) e)).ownsRow base e 1
    (.slice (some ⟨w.heap.size,0,none⟩) (n+m) (grownCap w (n+m) old e)) (n+m) (xs++List.replicate m z) ∧
   w.grownBy (w.drew.alloc (.cells (xs.toArray++(List.replicate m z).toArray++Builtin.zeroCells z.cells (grownCap w (n+m) old e - (n+m))) e)) row:=by
  intro old ho row;have hge:=grownCap_ge w (n+m) old e;have hcm:grownCap w (n+m) old e≤maxLen:=grownCap_le_maxLen w (n+m) old e h63;refine ⟨⟨hlen,.inr ⟨w.heap.size,_,_,rfl,hbase,heap_alloc_new w.drew _,hge,hcm,?_,?_⟩⟩,⟨rfl,rfl,rfl,by simp,fun k hk _=>by first | exact heap_alloc_old w.drew _ k hk | exact heap_alloc_old w.drew _ hk⟩⟩
  ·have hz1:z.cells.size=1:=(by rw [hzs];rfl);simp only [Array.size_append,List.size_toArray,size_zeroCells,hz1,hxl,List.length_replicate,Nat.mul_one];omega
  ·simp only [Array.toList_append,List.append_assoc];rw [← List.append_assoc,← hlen];exact List.take_left
 rcases hown.2 with ⟨rfl,rfl⟩ | ⟨g,cap,cur,rfl,hbg,hg,hnc,hcm,hcs,htake⟩
 ·have hx:xs=[]:=List.eq_nil_of_length_eq_zero (by simpa using hown.1);subst hx;by_cases hm:m=0
  ·subst hm;refine ⟨.slice none 0 0,w,?_,by simpa using World.ownsRow_nil w base e 1,⟨rfl,rfl,rfl,Nat.le_refl _,fun _ _ _=>rfl⟩,.inl rfl⟩;have hw0:IntKind.i64.wrap (0:Int)=0:=(by rw [IntKind.wrap_i64];omega);simp [Builtin.append_,run_underlying ht,run_underlying htn,sizeOf,typeInfo,zeroValue,hi,hz,asInt,asIntOf,hw0]
  ·have hr:=Lib.run_append_nil_zeros (P:=P) w t tn ty e i z k kn ht htn hi hz m (by omega) (by omega) (by omega) (by omega);have hgr:=grown 0 (by omega) (Value.ownBlock (.slice none 0 0));simp only [Nat.zero_add,List.nil_append,Array.empty_append] at hgr ⊢;rw [← hzc] at hgr;rw [← hzs] at hgr;exact ⟨_,_,hr,hgr.1,hgr.2,.inr rfl⟩
 ·by_cases hroom:n+m≤cap
  ·have hfit:n * i.size+(List.replicate m z).length≤cur.size:=(by rw [hsize,List.length_replicate,hcs];omega);have hst:=run_storeCells_at P g (n * i.size) e (List.replicate m z) 0 cur w hg (by simpa using hfit) (fun u hu=>by rw [(List.mem_replicate.1 hu).2];exact h1);simp only [Nat.add_zero] at hst;have hr:(Builtin.append_ #[t,tn] ty #[.slice (some ⟨g,0,none⟩) n cap,.int k m]).run P w =
     .ok (.slice (some ⟨g,0,none⟩) (n+m) cap) (w.setRow g (cur.toList.take (n * i.size)++List.replicate m z++cur.toList.drop (n * i.size+(List.replicate m z).length)).toArray):=by
    by_cases hm0:m=0
    ·subst hm0;have hw0:IntKind.i64.wrap (0:Int)=0:=(by rw [IntKind.wrap_i64];omega);rw [List.replicate_zero] at hst ⊢;simp [Builtin.append_,run_underlying ht,run_underlying htn,sizeOf,typeInfo,zeroValue,hi,hz,asInt,asIntOf,hw0,hnc,hst,Addr.add_lit]
    ·have hms:¬ (m * i.size=0):=(by rw [hsize];omega);simp [Builtin.append_,run_underlying ht,run_underlying htn,sizeOf,typeInfo,zeroValue,hi,hz,asInt,asIntOf,hw,hneg,h48i,hroom,hms,hzs,hzc,Addr.add_lit,hst]
   rw [hsize] at hr;simp only [Nat.mul_one] at hr;refine ⟨_,_,hr,⟨hlen,.inr ⟨g,cap,_,rfl,hbg,setRow_heap w g cur _ e _ hg,hroom,hcm,?_,?_⟩⟩,⟨rfl,rfl,rfl,by simp,fun k _ hk=>setRow_other w g k _ (fun e=>hk (by simp [Value.ownBlock,e]))⟩,.inl rfl⟩
   ·simp only [List.size_toArray,List.length_append,List.length_take,List.length_drop,Array.length_toList,List.length_replicate];omega
   ·rw [Nat.mul_one] at htake;rw [htake,← hlen];exact List.take_left
  ·have holds:∀ j u,xs[j]?=some u→w.drew.cell? ((⟨g,0,none⟩:Addr).add j)=some u:=hown.cells (g:=g) rfl;have hfo:=run_firstCells_some (P:=P) w.drew i.size n ⟨g,0,none⟩ n cap xs (by rw [hsize];omega) holds;have hn:¬ (n+m≤cap):=hroom;have h63':¬ (9223372036854775807<((n:Int)+(m:Int))):=(by omega);have h48':¬ (281474976710656<Builtin.nextslicecap (n+m) cap * i.bytes):=(by have:=growslice_fits (need:=n+m) (old:=cap) (bytes:=i.bytes) (by omega) hbytes;omega);have hms:¬ (m * i.size=0):=(by rw [hsize];omega);have hr:(Builtin.append_ #[t,tn] ty #[.slice (some ⟨g,0,none⟩) n cap,.int k m]).run P w =
     .ok (.slice (some ⟨w.heap.size,0,none⟩) (n+m) (grownCap w (n+m) cap e))
      (w.drew.alloc (.cells (xs.toArray++(List.replicate m z).toArray++Builtin.zeroCells z.cells (grownCap w (n+m) cap e - (n+m))) e)):=by
    simp [Builtin.append_,run_underlying ht,run_underlying htn,sizeOf,typeInfo,zeroValue,hi,hz,asInt,asIntOf,hw,hneg,h48i,hn,hms,hzs,hzc,h63',h48',Question.forced,hfo,newRow,grownCap]
   have hgr:=grown cap (by omega) (Value.ownBlock (.slice (some ⟨g,0,none⟩) n cap));exact ⟨_,_,hr,hgr.1,hgr.2,.inr rfl⟩
theorem zdh {ops:Array Oper}{rest:List Oper}{o:Oper}{a:Act}{Q:Exit→Act→World→Prop}(hgd:o.guard=none)(s x:Operand)(t tn:TypeId)
  (ho:o.op=.call { callee:=.builtin .append,args:=#[s,x],argTypes:=#[t,tn] })
  (base:Nat) (e:TypeId) (i:TypeInfo) (z:Value) (bytes:Nat) (kn k:IntKind) (ht:P.underlying t=some (.slice e)) (htn:P.underlying tn=some (.int kn)) (hi:P.info? e=some i) (hz:i.zero=some z)
  (hsize:i.size=1) (hby:i.bytes=bytes) (hzs:z.cells=#[z]) (h1:z.oneCell'=true)
  (v:Value) (n:Nat) (xs:List Value) (hs:a.eval s=v) (hown:w.ownsRow base e 1 v n xs) (m:Nat) (hx:a.eval x=.int k m)
  (h63:n+m≤maxLen) (hbytes:(n+m) * bytes≤140737488355328) (hbase:base≤w.heap.size)
  (h:∀ v' w',w'.ownsRow base e 1 v' (n+m) (xs++List.replicate m z)→w.grownBy w' v.ownBlock→(v'.ownBlock=v.ownBlock∨v'.ownBlock=some w.heap.size)→wpList P ops Q rest (a.put o.dst v') w'):wpList P ops Q (o::rest) a w:=by
 obtain ⟨v',w',hr,h2,h3,h4⟩:=zdg (P:=P) w base t tn o.type e i z bytes kn k ht htn hi hz hsize hby hzs h1 v n xs hown m h63 hbytes hbase;exact Lib.wpList_append_run w hgd s x t tn ho _ _ hs hx v' w' hr (h v' w' h2 h3 h4)
end
end Go.Proofs.YtipkdebkdnbieaaGreatDoor

namespace Go.Proofs.YtipkdebkdnbieaaGreatDoor.Dec
open Go.Lib
theorem zdi (l:List Nat)(k:Nat):pv (l++List.replicate k 0)=pv l:=by rw [zaf,pv_zeros,Nat.mul_zero,Nat.add_zero]
theorem small_pad {l:List Nat}(h:Small l)(k:Nat):Small (l++List.replicate k 0):=fun x hx=>by
 rcases List.mem_append.1 hx with h1 | h1
 ·exact h x h1
 ·rw [(List.mem_replicate.1 h1).2];exact B_pos
theorem P_len_mono {a b:Nat}(h:b≤a):(P b).length≤(P a).length:=Nat.le_of_not_lt fun hh=>by have:=P_len_cmp hh;omega
theorem back_sum {x y cc k:Nat}{o:List Nat}(hk:k+(P y).length=(P x).length)(hcc:cc≤1)
  (h:pv o+cc * B ^ (0+((P y++List.replicate k 0).length+1))=pv (P x++List.replicate 1 0)+B ^ 0 * pv (P y++List.replicate k 0)):pv o=x+y:=by
 rw [zdi,zdi,pv_P,pv_P,Nat.pow_zero,Nat.one_mul,List.length_append,List.length_replicate,Nat.zero_add] at h;have h1:=P_len_lt x;have h2:=P_len_lt y;have h3:B ^ (P y).length≤B ^ (P x).length:=Nat.pow_le_pow_right B_pos (by omega);rw [show (P y).length+k+1=(P x).length+1 by omega,zcD] at h;have h4:B ^ (P x).length * 2≤B ^ (P x).length * B:=Nat.mul_le_mul_left _ (by decide);rcases (show cc=0∨cc=1 by omega) with e | e
 ·rw [e,Nat.zero_mul] at h;omega
 ·rw [e,Nat.one_mul] at h;omega
theorem take_diff {x y bb k:Nat}{o:List Nat}(hyx:y≤x)(hk:k+(P y).length=(P x).length)(hb:bb≤1)(hs:Small o)(hl:o.length=(P x++List.replicate 1 0).length)
  (h:pv o+B ^ 0 * (1 * pv (P y++List.replicate k 0))=pv (P x++List.replicate 1 0)+bb * B ^ (0+((P y++List.replicate k 0).length+1))):pv o=x - y:=by
 have hlt:=pv_lt o hs;rw [hl,List.length_append,List.length_replicate] at hlt;rw [zdi,zdi,pv_P,pv_P,Nat.pow_zero,Nat.one_mul,Nat.one_mul,List.length_append,List.length_replicate,Nat.zero_add,show (P y).length+k+1=(P x).length+1 by omega] at h;rcases (show bb=0∨bb=1 by omega) with e | e
 ·rw [e,Nat.zero_mul] at h;omega
 ·rw [e,Nat.one_mul] at h;omega
end Go.Proofs.YtipkdebkdnbieaaGreatDoor.Dec
namespace Go.Proofs.YtipkdebkdnbieaaGreatDoor
open Go.RowKit Go.Lib
theorem zdj (a b:Nat)(k:Nat)(ha:nDigits a≤k)(hb:nDigits b≤k):nDigits (a+b)≤k+1:=by
 refine Dec.nDigits_le (by omega) ?_;have h1:=lt_pow_nDigits a;have h2:=lt_pow_nDigits b;have h3:10 ^ nDigits a≤10 ^ k:=Nat.pow_le_pow_right (by omega) ha;have h4:10 ^ nDigits b≤10 ^ k:=Nat.pow_le_pow_right (by omega) hb;rw [Nat.pow_succ];generalize 10 ^ k=t at *;omega
theorem zdk {w:World}{B n:Nat}{v:Value}{l:List Nat}(ho:Own w B v l)(h:l.length=n):w.ownsRow B 181 1 v n (zao l):=by rw [← h];exact ho
theorem zdl {w:World}{B:Nat}{v:Value}{l:List Nat}(ho:Own w B v l):∃ a cap,v=.slice a l.length cap:=by
 rcases ho.2 with ⟨rfl,hn⟩ | ⟨g,cap,cur,rfl,_⟩
 ·exact ⟨none,0,by rw [hn]⟩
 ·exact ⟨_,_,rfl⟩
theorem zdm {w:World}{B g c:Nat}{a:Option Addr}{l:List Nat}(ho:Own w B (.slice a l.length c) l)(hne:(Value.slice a l.length c).ownBlock ≠ some g):Far w g a l:=by
 intro i u hu;have hlt:i<l.length:=by
  have:=(List.getElem?_eq_some_iff.1 hu).1;rwa [zaq] at this
 rcases ho.2 with ⟨_,hn⟩ | ⟨g',cap',cur,e,_⟩
 ·omega
 ·injection e with e1 _ _;subst e1;have:=World.ownsRow.cells ho (g:=g') rfl i u hu;exact ⟨g',0,rfl,fun h=>hne (by rw [h];rfl),by rwa [show ((⟨g',0,none⟩:Addr).add i)=⟨g',0+i,none⟩ by unfold Addr.add;split <;> simp_all] at this⟩
theorem zdn (l:List Nat)(k:Nat):zao l++List.replicate k (Value.int .u64 0)=zao (l++List.replicate k 0):=by simp [zao]
theorem zdo {w:World}{B:Nat}{v:Value}{l:List Nat}(ho:Own w B v l){g:Nat}(h:v.ownBlock=some g):B≤g∧g<w.heap.size:=World.ownsRow.lt ho g h
structure zdp (w w2:World)(vx vy:Value)(x y:Nat):Prop where
 hx:Own w2 w.heap.size vx (Dec.P x)
 hy:Own w2 w.heap.size vy (Dec.P y)
 apart:∀ k,vy.ownBlock=some k→vx.ownBlock ≠ some k
 ext:Ext w w2
theorem zdp.swap {w w2:World}{vx vy:Value}{x y:Nat}(h:zdp w w2 vx vy x y):zdp w w2 vy vx y x:=⟨h.hy,h.hx,fun k h1 h2=>h.apart k h2 h1,h.ext⟩
theorem zdq {w w1 w2:World}{vx vy:Value}{x y:Nat}(h1:Own w1 w.heap.size vx (Dec.P x))(e1:Ext w w1)(h2:Own w2 w1.heap.size vy (Dec.P y))(e2:Ext w1 w2):zdp w w2 vx vy x y :=
 ⟨e2.own' h1,zam h2 e1.size,fun k hk hk2=>by have a:=zdo h1 hk2;have b:=zdo h2 hk;omega,e1.trans e2⟩
structure zdr (w w5:World)(g c:Nat)(vy:Value)(x y:Nat):Prop where
 hp:Own w5 w.heap.size (.slice (some ⟨g,0,none⟩) (Dec.P x++List.replicate 1 0).length c) (Dec.P x++List.replicate 1 0)
 hy:Own w5 w.heap.size vy (Dec.P y)
 ne:vy.ownBlock ≠ some g
 lt:g<w5.heap.size
 ext:Ext w w5
theorem zds {w w2 w5:World}{vx vy:Value}{x y g c:Nat}{tmp:Obj}(h:zdp w w2 vx vy x y)(hown:w5.ownsRow w.heap.size 181 1 (.slice (some ⟨g,0,none⟩) ((Dec.P x).length+1) c) ((Dec.P x).length+1) (zao (Dec.P x)++[.int .u64 0]))
  (hg:(w2.alloc tmp).grownBy w5 vx.ownBlock) (hat:vx.ownBlock=some g∨g=(w2.alloc tmp).heap.size) (hlt:g<w5.heap.size):zdr w w5 g c vy x y:=by
 refine ⟨?_,World.ownsRow.kept (World.ownsRow.alloc h.hy tmp) hg ?_,?_,hlt,?_⟩
 ·unfold Own;rw [List.length_append,List.length_replicate,← zdn];exact hown
 ·cases hv:vy.ownBlock with
  | none=>exact .inl rfl
  | some k=>exact .inr fun e=>h.apart k hv e.symm
 ·intro e;rcases hat with h1 | h1
  ·exact h.apart g e h1
  ·have:=zdo h.hy e;rw [World.size_alloc] at h1;omega
 ·exact (h.ext.alloc tmp).grown hg fun k hk=>(zdo h.hx hk).1
structure zdt (w w7:World)(g c:Nat)(v7:Value)(x y m:Nat):Prop where
 hp:Own w7 w.heap.size (.slice (some ⟨g,0,none⟩) (Dec.P x++List.replicate 1 0).length c) (Dec.P x++List.replicate 1 0)
 hq:Own w7 w.heap.size v7 (Dec.P y++List.replicate m 0)
 ne:v7.ownBlock ≠ some g
 ge:w.heap.size≤g
 ext:Ext w w7
theorem zdu {w w5 w7:World}{vy v7:Value}{x y g c m:Nat}(h:zdr w w5 g c vy x y)(hown:w7.ownsRow w.heap.size 181 1 v7 ((Dec.P y).length+m) (zao (Dec.P y)++List.replicate m (.int .u64 0)))
  (hg:w5.grownBy w7 vy.ownBlock) (hat:v7.ownBlock=vy.ownBlock∨v7.ownBlock=some w5.heap.size):zdt w w7 g c v7 x y m:=by
 refine ⟨World.ownsRow.kept h.hp hg (.inr fun e=>h.ne e.symm),?_,?_,(zdo h.hp rfl).1,?_⟩
 ·unfold Own;rw [List.length_append,List.length_replicate,← zdn];exact hown
 ·intro e;rcases hat with h1 | h1
  ·exact h.ne (h1 ▸ e)
  ·have:=h.lt;rw [h1] at e;injection e with e;omega
 ·exact h.ext.grown hg fun k hk=>(zdo h.hy hk).1
theorem zdv {w w7 w8:World}{g:Nat}(h:Ext w w7)(hg:w7.grownBy w8 (some g))(hge:w.heap.size≤g):Ext w w8:=h.grown hg fun k hk=>by injection hk with hk;omega
theorem zdw (a b:Nat)(w:World)(ha:nDigits a≤400000)(hb:nDigits b≤400000)(h:18<nDigits a∨18<nDigits b)(hlen:(Dec.P b).length≤(Dec.P a).length) :
  Calls Tryz.prog 161 #[.string (D a),.string (D b)] w fun e w'=>e=.returned (.string (D (a+b)))∧Ext w w':=by
 obtain ⟨i0,hi,hz0,hz1,hz2⟩:=info_parts zba;have hno:=zbB a b w (by omega) (by omega) h;have hca:=fun W=>zaD a W (by omega);have hcb:=fun W=>zaD b W (by omega);have hla:=zbC (n:=a) (by omega);have hlb:=zbC (n:=b) (by omega);have hsum:(Dec.P (a+b)).length≤100000:=zbC (Nat.le_trans (zdj a b 400000 ha hb) (by omega));have Hno:=hid hno;have Hca:=hid hca;have Hcb:=hid hcb;have Hsum:=hid hsum;clear hno hca hcb hsum ha hb h;go_enter Tryz.func161,Tryz.ntmps161
 go_wp2_with fail
 refine Hno.out.mono ?_;rintro e w0 ⟨rfl,rfl⟩;go_wp2_with fail
 refine (Hca.out w).mono ?_;rintro e w1 ⟨⟨va,rfl,hva⟩,hx1⟩;have Hva:=hid hva;have Hx1:=hid hx1;clear hva hx1;go_wp2_with fail
 refine (Hcb.out w1).mono ?_;rintro e w2 ⟨⟨vb,rfl,hvb⟩,hx2⟩;have htwo:=zdq Hva.out Hx1.out hvb hx2;obtain ⟨aa,ca,rfl⟩:=zdl htwo.hx;obtain ⟨ab,cb,rfl⟩:=zdl htwo.hy;have Htwo:=hid htwo;clear hvb hx2 htwo;generalize hna:(Dec.P a).length=na at *;generalize hnb:(Dec.P b).length=nb at *;have HNA:=hid hna;have HNB:=hid hnb;clear hna hnb;have hxo:w2.ownsRow w.heap.size 181 1 (.slice aa na ca) na (zao (Dec.P a)):=zdk Htwo.out.hx HNA.out;have hsz:=Htwo.out.ext.size;have hdl:decide (na<nb)=false:=decide_eq_false (by omega);have hdi:decide ((na:Int)<(nb:Int))=false:=decide_eq_false (by omega);go_wp2_with (first
  | (at_builtin;refine wpList_append_lies _ rfl _ _ 201 rfl w.heap.size 181 i0 (.int .u64 0) 1 8 Tryz.underlying201 hi hz0 hz1 hz2 rfl (by decide) (.slice aa na ca) na (zao (Dec.P a)) rfl (hxo.alloc _) ⟨w2.heap.size,0,none⟩ 1 1 [.int .u64 0] rfl rfl (cell_one_new _ _ _) (by simp [Value.oneCell']) (by decide) (by unfold maxLen;omega) (by omega) (by rw [World.size_alloc];omega) _ rfl ?_;intro g cg w5 hown5 hgrow5 hat5 hlt5;have hone:=zds (c:=cg) Htwo.out (by rw [HNA.out];exact hown5) hgrow5 hat5 hlt5;have Hone:=hid hone;clear hone hown5 hgrow5 hat5 hlt5;have hyo:w5.ownsRow w.heap.size 181 1 (.slice ab nb cb) nb (zao (Dec.P b)):=zdk Hone.out.hy HNB.out;have hsz5:=Hone.out.ext.size;obtain ⟨m,hm⟩:∃ m,m+nb=na:=⟨na - nb,by omega⟩;have hmi:((na:Nat):Int) - ((nb:Nat):Int)=(m:Int):=by omega)
  | (at_builtin;refine zdh _ rfl _ _ 201 3 rfl w.heap.size 181 i0 (.int .u64 0) 8 .i64 .i64 Tryz.underlying201 Tryz.underlying3 hi hz0 hz1 hz2 rfl rfl (.slice ab nb cb) nb (zao (Dec.P b)) rfl hyo m rfl (by unfold maxLen;omega) (by omega) hsz5 ?_;intro v7 w7 hown7 hgrow7 hat7))
 have hpad:=zdu (m:=m) Hone.out (by rw [HNB.out];exact hown7) hgrow7 hat7;obtain ⟨a7,c7,rfl⟩:=zdl hpad.hq;have hlq:(Dec.P b++List.replicate m 0).length=na:=by rw [List.length_append,List.length_replicate,HNB.out];omega
 have hlp:(Dec.P a++List.replicate 1 0).length=na+1:=by rw [List.length_append,List.length_replicate,HNA.out]
 have hbk:=zcU g cg w.heap.size 0 a7 c7 _ _ w7 hpad.hp (Dec.small_pad (Dec.small_P a) 1) (Dec.small_pad (Dec.small_P b) m) (zdm hpad.hq hpad.ne) (by rw [hlq,hlp];omega) (by rw [hlp];omega);rw [hlq,hlp] at hbk;rw [hlq];have Hpad:=hid hpad;have Hbk:=hid hbk;have Hlq:=hid hlq;have Hlp:=hid hlp;clear hpad hbk hown7 hgrow7 hat7 hlq hlp hyo hmi hxo;go_wp2_with fail
 refine Hbk.out.mono ?_;rintro e w8 ⟨cc,o,rfl,hcc,hol,hos,hpv,_,how,hgr⟩;have hval:=Dec.back_sum (by rw [HNB.out,HNA.out];exact hm) hcc hpv;have htr:=za8 w.heap.size _ o w8 how hos;rw [hol,Hlp.out,hval] at htr;have hE8:=zdv Hpad.out.ext hgr Hpad.out.ge;have Htr:=hid htr;have HE8:=hid hE8;clear htr hE8 hval hol hos hpv how hgr;go_wp2_with fail
 refine Htr.out.mono ?_;rintro e w9 ⟨⟨v9,rfl,hv9⟩,rfl⟩;have Hv9:=hid hv9;clear hv9;go_wp2_with fail
 refine (zaX v9 _ w8 Hv9.out.sl Hsum.out).mono ?_;rintro e w10 ⟨rfl,hx10⟩;have Hx10:=hid hx10;clear hx10;go_wp2
 go_ret
 exact ⟨rfl,HE8.out.trans Hx10.out⟩
theorem zdx (a b:Nat)(w:World)(ha:nDigits a≤400000)(hb:nDigits b≤400000)(h:18<nDigits a∨18<nDigits b)(hlen:(Dec.P a).length<(Dec.P b).length) :
  Calls Tryz.prog 161 #[.string (D a),.string (D b)] w fun e w'=>e=.returned (.string (D (a+b)))∧Ext w w':=by
 obtain ⟨i0,hi,hz0,hz1,hz2⟩:=info_parts zba;have hno:=zbB a b w (by omega) (by omega) h;have hca:=fun W=>zaD a W (by omega);have hcb:=fun W=>zaD b W (by omega);have hla:=zbC (n:=a) (by omega);have hlb:=zbC (n:=b) (by omega);have hsum:(Dec.P (a+b)).length≤100000:=zbC (Nat.le_trans (zdj a b 400000 ha hb) (by omega));have Hno:=hid hno;have Hca:=hid hca;have Hcb:=hid hcb;have Hsum:=hid hsum;clear hno hca hcb hsum ha hb h;go_enter Tryz.func161,Tryz.ntmps161
 go_wp2_with fail
 refine Hno.out.mono ?_;rintro e w0 ⟨rfl,rfl⟩;go_wp2_with fail
 refine (Hca.out w).mono ?_;rintro e w1 ⟨⟨va,rfl,hva⟩,hx1⟩;have Hva:=hid hva;have Hx1:=hid hx1;clear hva hx1;go_wp2_with fail
 refine (Hcb.out w1).mono ?_;rintro e w2 ⟨⟨vb,rfl,hvb⟩,hx2⟩;have htwo:=zdq Hva.out Hx1.out hvb hx2;obtain ⟨aa,ca,rfl⟩:=zdl htwo.hx;obtain ⟨ab,cb,rfl⟩:=zdl htwo.hy;have Htwo:=hid htwo.swap;clear hvb hx2 htwo;generalize hna:(Dec.P a).length=na at *;generalize hnb:(Dec.P b).length=nb at *;have HNA:=hid hna;have HNB:=hid hnb;clear hna hnb;have hxo:w2.ownsRow w.heap.size 181 1 (.slice ab nb cb) nb (zao (Dec.P b)):=zdk Htwo.out.hx HNB.out;have hsz:=Htwo.out.ext.size;have hdl:decide (na<nb)=true:=decide_eq_true (by omega);have hdi:decide ((na:Int)<(nb:Int))=true:=decide_eq_true (by omega);go_wp2_with (first
  | (at_builtin;refine wpList_append_lies _ rfl _ _ 201 rfl w.heap.size 181 i0 (.int .u64 0) 1 8 Tryz.underlying201 hi hz0 hz1 hz2 rfl (by decide) (.slice ab nb cb) nb (zao (Dec.P b)) rfl (hxo.alloc _) ⟨w2.heap.size,0,none⟩ 1 1 [.int .u64 0] rfl rfl (cell_one_new _ _ _) (by simp [Value.oneCell']) (by decide) (by unfold maxLen;omega) (by omega) (by rw [World.size_alloc];omega) _ rfl ?_;intro g cg w5 hown5 hgrow5 hat5 hlt5;have hone:=zds (c:=cg) Htwo.out (by rw [HNB.out];exact hown5) hgrow5 hat5 hlt5;have Hone:=hid hone;clear hone hown5 hgrow5 hat5 hlt5;have hyo:w5.ownsRow w.heap.size 181 1 (.slice aa na ca) na (zao (Dec.P a)):=zdk Hone.out.hy HNA.out;have hsz5:=Hone.out.ext.size;obtain ⟨m,hm⟩:∃ m,m+na=nb:=⟨nb - na,by omega⟩;have hmi:((nb:Nat):Int) - ((na:Nat):Int)=(m:Int):=by omega)
  | (at_builtin;refine zdh _ rfl _ _ 201 3 rfl w.heap.size 181 i0 (.int .u64 0) 8 .i64 .i64 Tryz.underlying201 Tryz.underlying3 hi hz0 hz1 hz2 rfl rfl (.slice aa na ca) na (zao (Dec.P a)) rfl hyo m rfl (by unfold maxLen;omega) (by omega) hsz5 ?_;intro v7 w7 hown7 hgrow7 hat7))
 have hpad:=zdu (m:=m) Hone.out (by rw [HNA.out];exact hown7) hgrow7 hat7;obtain ⟨a7,c7,rfl⟩:=zdl hpad.hq;have hlq:(Dec.P a++List.replicate m 0).length=nb:=by rw [List.length_append,List.length_replicate,HNA.out];omega
 have hlp:(Dec.P b++List.replicate 1 0).length=nb+1:=by rw [List.length_append,List.length_replicate,HNB.out]
 have hbk:=zcU g cg w.heap.size 0 a7 c7 _ _ w7 hpad.hp (Dec.small_pad (Dec.small_P b) 1) (Dec.small_pad (Dec.small_P a) m) (zdm hpad.hq hpad.ne) (by rw [hlq,hlp];omega) (by rw [hlp];omega);rw [hlq,hlp] at hbk;rw [hlq];have Hpad:=hid hpad;have Hbk:=hid hbk;have Hlq:=hid hlq;have Hlp:=hid hlp;clear hpad hbk hown7 hgrow7 hat7 hlq hlp hyo hmi hxo;go_wp2_with fail
 refine Hbk.out.mono ?_;rintro e w8 ⟨cc,o,rfl,hcc,hol,hos,hpv,_,how,hgr⟩;have hval:=Dec.back_sum (by rw [HNA.out,HNB.out];exact hm) hcc hpv;have htr:=za8 w.heap.size _ o w8 how hos;rw [hol,Hlp.out,hval] at htr;have hE8:=zdv Hpad.out.ext hgr Hpad.out.ge;have Htr:=hid htr;have HE8:=hid hE8;clear htr hE8 hval hol hos hpv how hgr;go_wp2_with fail
 refine Htr.out.mono ?_;rintro e w9 ⟨⟨v9,rfl,hv9⟩,rfl⟩;have Hv9:=hid hv9;clear hv9;go_wp2_with fail
 refine (zaX v9 _ w8 Hv9.out.sl (by rw [Nat.add_comm];exact Hsum.out)).mono ?_;rintro e w10 ⟨rfl,hx10⟩;have Hx10:=hid hx10;clear hx10;go_wp2
 go_ret
 exact ⟨by rw [Nat.add_comm a b];rfl,HE8.out.trans Hx10.out⟩
theorem zdy {w w3 w4 w5:World}{g c x y:Nat}{vy:Value}(hp:Own w3 w.heap.size (.slice (some ⟨g,0,none⟩) (Dec.P x++List.replicate 1 0).length c) (Dec.P x++List.replicate 1 0))(hlt:g<w3.heap.size)(e3:Ext w w3)(hv:Own w4 w3.heap.size vy (Dec.P y))(e4:Ext w3 w4)(e5:Ext w4 w5):zdr w w5 g c vy x y :=
 ⟨(e4.trans e5).own' hp,zam (e5.own' hv) e3.size,fun e=>by have:=zdo hv e;omega,Nat.lt_of_lt_of_le hlt (e4.trans e5).size,e3.trans (e4.trans e5)⟩
theorem zdz (a b:Nat)(w:World)(ha:nDigits a≤400000)(hba:b≤a)(h:18<nDigits a∨18<nDigits b) :
  Calls Tryz.prog 162 #[.string (D a),.string (D b)] w fun e w'=>e=.returned (.tuple #[.string (D (a - b)),.int .i64 0])∧Ext w w':=by
 obtain ⟨i0,hi,hz0,hz1,hz2⟩:=info_parts zba;have hb:nDigits b≤400000:=Nat.le_trans (Dec.nDigits_mono hba) ha;have hcm:=zb8 a b w (by omega) (by omega);have hr0:0≤zbj a b:=by
  unfold zbj;rw [if_neg (by omega)];split <;> omega
 have hno:=zbB a b w (by omega) (by omega) h;have hca:=fun W=>zaD a W (by omega);have hcb:=fun W=>zaD b W (by omega);have hla:=zbC (n:=a) (by omega);have hlen:=Dec.P_len_mono hba;have hsum:(Dec.P (a - b)).length≤100000:=Nat.le_trans (Dec.P_len_mono (Nat.sub_le a b)) hla;have Hcm:=hid hcm;have Hno:=hid hno;have Hca:=hid hca;have Hcb:=hid hcb;have Hsum:=hid hsum;have Hba:=hid hba;clear hcm hno hca hcb hsum ha hb h hba;generalize zbj a b=r at *;have hrn:¬ r<0:=by omega
 go_enter Tryz.func162,Tryz.ntmps162
 go_wp2_with fail
 refine Hcm.out.mono ?_;rintro e w0 ⟨rfl,rfl⟩;go_wp2_with fail
 refine Hno.out.mono ?_;rintro e w0 ⟨rfl,rfl⟩;go_wp2_with fail
 refine (Hca.out w).mono ?_;rintro e w1 ⟨⟨va,rfl,hva⟩,hx1⟩;obtain ⟨aa,ca,rfl⟩:=zdl hva;have Hva:=hid hva;have Hx1:=hid hx1;clear hva hx1;generalize hna:(Dec.P a).length=na at *;generalize hnb:(Dec.P b).length=nb at *;have HNA:=hid hna;have HNB:=hid hnb;clear hna hnb;have hxo:w1.ownsRow w.heap.size 181 1 (.slice aa na ca) na (zao (Dec.P a)):=by
  have:=Hva.out;unfold Own at this;rwa [HNA.out] at this
 have hsz:=Hx1.out.size;go_wp2_with (at_builtin;refine wpList_append_lies _ rfl _ _ 201 rfl w.heap.size 181 i0 (.int .u64 0) 1 8 Tryz.underlying201 hi hz0 hz1 hz2 rfl (by decide) (.slice aa na ca) na (zao (Dec.P a)) rfl (hxo.alloc _) ⟨w1.heap.size,0,none⟩ 1 1 [.int .u64 0] rfl rfl (cell_one_new _ _ _) (by simp [Value.oneCell']) (by decide) (by unfold maxLen;omega) (by omega) (by rw [World.size_alloc];omega) _ rfl ?_;intro g cg w3 hown3 hgrow3 hat3 hlt3)
 have hlp:(Dec.P a++List.replicate 1 0).length=na+1:=by rw [List.length_append,List.length_replicate,HNA.out]
 have hp3:Own w3 w.heap.size (.slice (some ⟨g,0,none⟩) (Dec.P a++List.replicate 1 0).length cg) (Dec.P a++List.replicate 1 0):=by
  unfold Own;rw [hlp,← zdn];exact hown3
 have hE3:Ext w w3:=(Hx1.out.alloc _).grown hgrow3 fun k hk=>(zdo Hva.out hk).1;have Hp3:=hid hp3;have HE3:=hid hE3;have Hlp:=hid hlp;have Hlt3:=hid hlt3;clear hp3 hE3 hlp hown3 hgrow3 hat3 hlt3 hxo;go_wp2_with fail
 refine (Hcb.out w3).mono ?_;rintro e w4 ⟨⟨vb,rfl,hvb⟩,hx4⟩;obtain ⟨ab,cb,rfl⟩:=zdl hvb;rw [HNB.out] at hvb;rw [HNB.out];have Hvb:=hid hvb;have Hx4:=hid hx4;clear hvb hx4;go_wp2_with fail
 refine (Hcb.out w4).mono ?_;rintro e w5 ⟨⟨vb2,rfl,hvb2⟩,hx5⟩;obtain ⟨ab2,cb2,rfl⟩:=zdl hvb2;rw [HNB.out];have hone:=zdy Hp3.out Hlt3.out HE3.out Hvb.out Hx4.out hx5;have Hone:=hid hone;clear hvb2 hx5 hone;have hyo:w5.ownsRow w.heap.size 181 1 (.slice ab nb cb) nb (zao (Dec.P b)):=by
  have:=Hone.out.hy;unfold Own at this;rwa [HNB.out] at this
 have hsz5:=Hone.out.ext.size;obtain ⟨m,hm⟩:∃ m,m+nb=na:=⟨na - nb,by omega⟩;have hmi:((na:Nat):Int) - ((nb:Nat):Int)=(m:Int):=by omega
 go_wp2_with (at_builtin;refine zdh _ rfl _ _ 201 3 rfl w.heap.size 181 i0 (.int .u64 0) 8 .i64 .i64 Tryz.underlying201 Tryz.underlying3 hi hz0 hz1 hz2 rfl rfl (.slice ab nb cb) nb (zao (Dec.P b)) rfl hyo m rfl (by unfold maxLen;omega) (by omega) hsz5 ?_;intro v7 w7 hown7 hgrow7 hat7)
 have hpad:=zdu (m:=m) Hone.out (by rw [HNB.out];exact hown7) hgrow7 hat7;obtain ⟨a7,c7,rfl⟩:=zdl hpad.hq;have hlq:(Dec.P b++List.replicate m 0).length=na:=by rw [List.length_append,List.length_replicate,HNB.out];omega
 have htk:=zcY g cg w.heap.size 1 0 a7 c7 _ _ w7 (by decide) hpad.hp (Dec.small_pad (Dec.small_P a) 1) (Dec.small_pad (Dec.small_P b) m) (zdm hpad.hq hpad.ne) (by rw [hlq,Hlp.out];omega) (by rw [Hlp.out];omega);rw [hlq,Hlp.out] at htk;rw [hlq];have Hpad:=hid hpad;have Htk:=hid htk;have Hlq:=hid hlq;clear hpad htk hown7 hgrow7 hat7 hlq hyo hmi;go_wp2_with fail
 refine Htk.out.mono ?_;rintro e w8 ⟨bb,o,rfl,hbb,hol,hos,hpv,_,how,hgr⟩;have hval:=Dec.take_diff Hba.out (by rw [HNB.out,HNA.out];exact hm) hbb hos hol hpv;have htr:=za8 w.heap.size _ o w8 how hos;rw [hol,Hlp.out,hval] at htr;have hE8:=zdv Hpad.out.ext hgr Hpad.out.ge;have Htr:=hid htr;have HE8:=hid hE8;clear htr hE8 hval hol hos hpv how hgr;go_wp2_with fail
 refine Htr.out.mono ?_;rintro e w9 ⟨⟨v9,rfl,hv9⟩,rfl⟩;have Hv9:=hid hv9;clear hv9;go_wp2_with fail
 refine (zaX v9 _ w8 Hv9.out.sl Hsum.out).mono ?_;rintro e w10 ⟨rfl,hx10⟩;have Hx10:=hid hx10;clear hx10;go_wp2
 go_ret2
 exact ⟨rfl,HE8.out.trans Hx10.out⟩
theorem zd0 (a b:Nat)(w:World)(he:Env w)(hba:b≤a)(ha:nDigits a≤18)(hb:nDigits b≤18) :
  Calls Tryz.prog 162 #[.string (D a),.string (D b)] w fun e w'=>e=.returned (.tuple #[.string (D (a - b)),.int .i64 0])∧Ext w w':=by
 have hcm:=zb8 a b w (by omega) (by omega);have hr0:0≤zbj a b:=by
  unfold zbj;rw [if_neg (by omega)];split <;> omega
 have hlt:=zb9 ha;have hlt2:=zb9 hb;have hd:(a:Int) - (b:Int)=((a - b:Nat):Int):=by omega
 have Hcm:=hid hcm;have He:=hid he;have Ha:=hid ha;have Hb:=hid hb;clear hcm he ha hb;generalize zbj a b=r at *;have hrn:¬ r<0:=by omega
 go_enter Tryz.func162,Tryz.ntmps162
 go_wp2_with fail
 refine Hcm.out.mono ?_;rintro e w0 ⟨rfl,rfl⟩;go_wp2_with fail
 refine (zbA a b w Ha.out Hb.out).mono ?_;rintro e w1 ⟨rfl,hx1⟩;have Hx1:=hid hx1;clear hx1;go_wp2_with fail
 refine (zaO (a - b) (by omega) w1 (He.out.ext Hx1.out)).mono ?_;rintro e w2 ⟨rfl,hx2⟩;have Hx2:=hid hx2;clear hx2;go_wp2
 go_ret2
 exact ⟨rfl,Hx1.out.trans Hx2.out⟩
theorem zd1 (a b:Nat)(w:World)(he:Env w)(ha:nDigits a≤400000)(hba:b≤a) :
  Calls Tryz.prog 162 #[.string (D a),.string (D b)] w fun e w'=>e=.returned (.tuple #[.string (D (a - b)),.int .i64 0])∧Ext w w':=by
 by_cases h:18<nDigits a∨18<nDigits b
 ·exact zdz a b w ha hba h
 ·exact zd0 a b w he hba (by omega) (by omega)
theorem zd2 (a b:Nat)(w:World)(he:Env w)(ha:nDigits a≤18)(hb:nDigits b≤18) :
  Calls Tryz.prog 161 #[.string (D a),.string (D b)] w fun e w'=>e=.returned (.string (D (a+b)))∧Ext w w':=by
 have hlt:=zb9 ha;have hlt2:=zb9 hb;have He:=hid he;have Ha:=hid ha;have Hb:=hid hb;clear he ha hb;go_enter Tryz.func161,Tryz.ntmps161
 go_wp2_with fail
 refine (zbA a b w Ha.out Hb.out).mono ?_;rintro e w1 ⟨rfl,hx1⟩;have Hx1:=hid hx1;clear hx1;go_wp2_with fail
 rw [← Int.natCast_add];refine (zaO (a+b) (by omega) w1 (He.out.ext Hx1.out)).mono ?_;rintro e w2 ⟨rfl,hx2⟩;have Hx2:=hid hx2;clear hx2;go_wp2
 go_ret
 exact ⟨rfl,Hx1.out.trans Hx2.out⟩
theorem zd3 (a b:Nat)(w:World)(he:Env w)(ha:nDigits a≤400000)(hb:nDigits b≤400000) :
  Calls Tryz.prog 161 #[.string (D a),.string (D b)] w fun e w'=>e=.returned (.string (D (a+b)))∧Ext w w':=by
 by_cases h:18<nDigits a∨18<nDigits b
 ·by_cases h2:(Dec.P b).length≤(Dec.P a).length
  ·exact zdw a b w ha hb h h2
  ·exact zdx a b w ha hb h (by omega)
 ·exact zd2 a b w he (by omega) (by omega)
end Go.Proofs.YtipkdebkdnbieaaGreatDoor
namespace Go.Proofs.YtipkdebkdnbieaaGreatDoor
open Go.RowKit Go.Lib
theorem zd4 (z:Int):signed (!decide (z<0)) z.natAbs=-z:=by
 unfold signed;by_cases h:z<0
 ·rw [decide_eq_true h];simp;omega
 ·rw [decide_eq_false h];simp;omega
theorem Fit.negI {z:Int}(h:Fit z):Fit (-z):=by unfold Fit at *;rwa [Int.natAbs_neg]
theorem zd5 (z:Int)(w:World)(hz:Fit z) :
  Calls Tryz.prog 117 #[.string (I z)] w fun e w'=>e=.returned (.string (I (-z)))∧Ext w w':=by
 have Hz:=hid hz;clear hz;have Hsg:=hid (zd4 z);go_enter Tryz.func117,Tryz.ntmps117
 go_wp2_with fail
 refine (zbI z w Hz.out).mono ?_;rintro e w1 ⟨rfl,hx1⟩;have Hx1:=hid hx1;clear hx1;go_wp2_with fail
 refine (zbL _ z.natAbs w1 (by have:=Hz.out;unfold Fit at this;omega)).mono ?_;rintro e w2 ⟨rfl,rfl⟩;rw [Hsg.out];go_wp2
 go_ret
 exact ⟨rfl,Hx1.out⟩
theorem zd6 (z:Int)(w:World)(hz:Fit z) :
  Calls Tryz.prog 154 #[.string (I z)] w fun e w'=>e=.returned (.string (I (z.natAbs:Int)))∧Ext w w':=by
 have Hz:=hid hz;clear hz;rw [za2];go_enter Tryz.func154,Tryz.ntmps154
 go_wp2_with fail
 refine (zbI z w Hz.out).mono ?_;rintro e w1 ⟨rfl,hx1⟩;have Hx1:=hid hx1;clear hx1;go_wp2
 go_ret
 exact ⟨rfl,Hx1.out⟩
theorem zd7 (a b:Int)(w:World)(he:Env w)(h1:((I a).size:Int)≤18)(h2:((I b).size:Int)≤18) :
  Calls Tryz.prog 199 #[.string (I a),.string (I b)] w fun e w'=>e=.returned (.string (I (a+b)))∧Ext w w':=by
 have ha:=zbP a 18 (by omega);have hb:=zbP b 18 (by omega);have ha1:-1000000000000000000<a:=by omega
 have ha2:a<1000000000000000000:=by omega
 have hb1:-1000000000000000000<b:=by omega
 have hb2:b<1000000000000000000:=by omega
 have He:=hid he;clear he ha hb;go_enter Tryz.func199,Tryz.ntmps199
 go_wp2_with fail
 refine (zbN a 18 w ha1 ha2 h1).mono ?_;rintro e w1 ⟨rfl,hx1⟩;have Hx1:=hid hx1;clear hx1;go_wp2_with fail
 refine (zbN b 18 w1 hb1 hb2 h2).mono ?_;rintro e w2 ⟨rfl,hx2⟩;have Hx2:=hid hx2;clear hx2;go_wp2_with fail
 refine (zaQ (a+b) (by omega) (by omega) w2 ((He.out.ext Hx1.out).ext Hx2.out)).mono ?_;rintro e w3 ⟨rfl,hx3⟩;have Hx3:=hid hx3;clear hx3;go_wp2
 go_ret
 exact ⟨rfl,(Hx1.out.trans Hx2.out).trans Hx3.out⟩
theorem zd8 (a b:Int)(n:Bool)(ha:n=decide (a<0))(hb:n=decide (b<0)):signed n (a.natAbs+b.natAbs)=a+b:=by
 unfold signed
 cases n with
 | true =>
  have h1:=of_decide_eq_true ha.symm
  have h2:=of_decide_eq_true hb.symm
  simp;omega
 | false =>
  have h1:=of_decide_eq_false ha.symm
  have h2:=of_decide_eq_false hb.symm
  simp;omega
theorem zd9 (a b:Int)(n m:Bool)(ha:n=decide (a<0))(hb:m=decide (b<0))(hne:m=!n):(a.natAbs<b.natAbs→signed m (b.natAbs - a.natAbs)=a+b)∧(¬ a.natAbs<b.natAbs→signed n (a.natAbs - b.natAbs)=a+b):=by
 subst hne;unfold signed
 cases n with
 | true =>
  have h1:=of_decide_eq_true ha.symm
  have h2:=of_decide_eq_false hb.symm
  constructor <;> intro h <;> simp <;> omega
 | false =>
  have h1:=of_decide_eq_false ha.symm
  have h2:=of_decide_eq_true hb.symm
  constructor <;> intro h <;> simp <;> omega
theorem zdA (a b:Int)(w:World)(he:Env w)(ha:Fit a)(hb:Fit b)(h:(18:Int)<((I a).size:Int)∨(((I a).size:Int)≤18∧(18:Int)<((I b).size:Int))) :
  Calls Tryz.prog 199 #[.string (I a),.string (I b)] w fun e w'=>e=.returned (.string (I (a+b)))∧Ext w w':=by
 have Ha:=hid ha;have Hb:=hid hb;have hsa:=zbO a ha;have hsb:=zbO b hb;have hspa:=fun W=>zbI a W ha;have hspb:=fun W=>zbI b W hb;have He:=hid he;clear he ha hb;have h2:(18:Int)<((I a).size:Int)∨(((I a).size:Int)≤18∧(18:Int)<((I b).size:Int)∧Hid (-1000000000000000000<a∧a<1000000000000000000)):=by
  rcases h with h | ⟨h1,h2⟩
  ·exact .inl h
  ·refine .inr ⟨h1,h2,?_⟩;have:=zbP a 18 (by omega);exact hid (by omega)
 clear h;generalize ha2:decide (a<0)=na at *;generalize hb2:decide (b<0)=nb at *;have HA2:=hid ha2.symm;have HB2:=hid hb2.symm;have Hspa:=hid hspa;have Hspb:=hid hspb;clear ha2 hb2 hspa hspb;rcases h2 with h | ⟨h1,h2,Hla2⟩
 case' inl =>
  go_enter Tryz.func199,Tryz.ntmps199
  go_wp2_with fail
  refine (zbM (I a) 18 w (by omega) h).mono ?_;rintro e w2 ⟨rfl,hx⟩
 case' inr =>
  go_enter Tryz.func199,Tryz.ntmps199
  go_wp2_with fail
  refine (zbN a 18 w Hla2.out.1 Hla2.out.2 h1).mono ?_;rintro e w1 ⟨rfl,hx1⟩;have Hx1:=hid hx1;clear hx1;go_wp2_with fail
  refine (zbM (I b) 18 w1 (by omega) h2).mono ?_;rintro e w2 ⟨rfl,hx2⟩;have hx:=Hx1.out.trans hx2;clear hx2
 all_goals
  have Hx:=hid hx;clear hx;go_wp2_with fail
  refine (Hspa.out w2).mono ?_;rintro e w3 ⟨rfl,hx3⟩;have Hx3:=hid hx3;clear hx3;go_wp2_with fail
  refine (Hspb.out w3).mono ?_;rintro e w4 ⟨rfl,hx4⟩;have Hx4:=hid hx4;clear hx4
  cases na <;> cases nb
  ·have hsg:=zd8 a b false HA2.out HB2.out;have Hsg:=hid hsg;clear hsg;go_wp2_with fail
   refine (zd3 a.natAbs b.natAbs w4 (((He.out.ext Hx.out).ext Hx3.out).ext Hx4.out) Ha.out Hb.out).mono ?_;rintro e w5 ⟨rfl,hx5⟩;have Hx5:=hid hx5;clear hx5;go_wp2_with fail
   refine (zbL _ (a.natAbs+b.natAbs) w5 (by have h1:=Ha.out;have h2:=Hb.out;have:=zdj _ _ _ h1 h2;omega)).mono ?_;rintro e w6 ⟨rfl,rfl⟩;rw [Hsg.out];go_wp2
   go_ret
   exact ⟨rfl,((Hx.out.trans Hx3.out).trans Hx4.out).trans Hx5.out⟩
  ·have hsg:=zd9 a b false true HA2.out HB2.out rfl;have Hsg:=hid hsg;clear hsg;by_cases hlt:a.natAbs<b.natAbs
   ·have hsg2:=Hsg.out.1 hlt;have hle:a.natAbs≤b.natAbs:=(by omega);have hrn:zbj a.natAbs b.natAbs<0:=(by rw [zbk (by omega)];omega);have Hsg2:=hid hsg2;have Hle:=hid hle;clear hsg2 hle;go_wp2_with fail
    refine (zb8 a.natAbs b.natAbs w4 (by have:=Ha.out;unfold Fit at this;omega) (by have:=Hb.out;unfold Fit at this;omega)).mono ?_;rintro e w5 ⟨rfl,rfl⟩;generalize zbj a.natAbs b.natAbs=rr at *;go_wp2_with fail
    refine (zd1 b.natAbs a.natAbs w4 (((He.out.ext Hx.out).ext Hx3.out).ext Hx4.out) Hb.out Hle.out).mono ?_;rintro e w5 ⟨rfl,hx5⟩;have Hx5:=hid hx5;clear hx5;go_wp2_with fail
    refine (zbL _ (b.natAbs - a.natAbs) w5 (by have h1:=Hb.out;unfold Fit at h1;have:=Dec.nDigits_mono (Nat.sub_le b.natAbs a.natAbs);omega)).mono ?_;rintro e w6 ⟨rfl,rfl⟩;rw [Hsg2.out];go_wp2
    go_ret
    exact ⟨rfl,((Hx.out.trans Hx3.out).trans Hx4.out).trans Hx5.out⟩
   ·have hsg2:=Hsg.out.2 hlt;have hle:b.natAbs≤a.natAbs:=(by omega);have hrn:¬ zbj a.natAbs b.natAbs<0:=by
     unfold zbj;rw [if_neg (by omega)];split <;> omega
    have Hsg2:=hid hsg2;have Hle:=hid hle;clear hsg2 hle;go_wp2_with fail
    refine (zb8 a.natAbs b.natAbs w4 (by have:=Ha.out;unfold Fit at this;omega) (by have:=Hb.out;unfold Fit at this;omega)).mono ?_;rintro e w5 ⟨rfl,rfl⟩;generalize zbj a.natAbs b.natAbs=rr at *;go_wp2_with fail
    refine (zd1 a.natAbs b.natAbs w4 (((He.out.ext Hx.out).ext Hx3.out).ext Hx4.out) Ha.out Hle.out).mono ?_;rintro e w5 ⟨rfl,hx5⟩;have Hx5:=hid hx5;clear hx5;go_wp2_with fail
    refine (zbL _ (a.natAbs - b.natAbs) w5 (by have h1:=Ha.out;unfold Fit at h1;have:=Dec.nDigits_mono (Nat.sub_le a.natAbs b.natAbs);omega)).mono ?_;rintro e w6 ⟨rfl,rfl⟩;rw [Hsg2.out];go_wp2
    go_ret
    exact ⟨rfl,((Hx.out.trans Hx3.out).trans Hx4.out).trans Hx5.out⟩
  ·have hsg:=zd9 a b true false HA2.out HB2.out rfl;have Hsg:=hid hsg;clear hsg;by_cases hlt:a.natAbs<b.natAbs
   ·have hsg2:=Hsg.out.1 hlt;have hle:a.natAbs≤b.natAbs:=(by omega);have hrn:zbj a.natAbs b.natAbs<0:=(by rw [zbk (by omega)];omega);have Hsg2:=hid hsg2;have Hle:=hid hle;clear hsg2 hle;go_wp2_with fail
    refine (zb8 a.natAbs b.natAbs w4 (by have:=Ha.out;unfold Fit at this;omega) (by have:=Hb.out;unfold Fit at this;omega)).mono ?_;rintro e w5 ⟨rfl,rfl⟩;generalize zbj a.natAbs b.natAbs=rr at *;go_wp2_with fail
    refine (zd1 b.natAbs a.natAbs w4 (((He.out.ext Hx.out).ext Hx3.out).ext Hx4.out) Hb.out Hle.out).mono ?_;rintro e w5 ⟨rfl,hx5⟩;have Hx5:=hid hx5;clear hx5;go_wp2_with fail
    refine (zbL _ (b.natAbs - a.natAbs) w5 (by have h1:=Hb.out;unfold Fit at h1;have:=Dec.nDigits_mono (Nat.sub_le b.natAbs a.natAbs);omega)).mono ?_;rintro e w6 ⟨rfl,rfl⟩;rw [Hsg2.out];go_wp2
    go_ret
    exact ⟨rfl,((Hx.out.trans Hx3.out).trans Hx4.out).trans Hx5.out⟩
   ·have hsg2:=Hsg.out.2 hlt;have hle:b.natAbs≤a.natAbs:=(by omega);have hrn:¬ zbj a.natAbs b.natAbs<0:=by
     unfold zbj;rw [if_neg (by omega)];split <;> omega
    have Hsg2:=hid hsg2;have Hle:=hid hle;clear hsg2 hle;go_wp2_with fail
    refine (zb8 a.natAbs b.natAbs w4 (by have:=Ha.out;unfold Fit at this;omega) (by have:=Hb.out;unfold Fit at this;omega)).mono ?_;rintro e w5 ⟨rfl,rfl⟩;generalize zbj a.natAbs b.natAbs=rr at *;go_wp2_with fail
    refine (zd1 a.natAbs b.natAbs w4 (((He.out.ext Hx.out).ext Hx3.out).ext Hx4.out) Ha.out Hle.out).mono ?_;rintro e w5 ⟨rfl,hx5⟩;have Hx5:=hid hx5;clear hx5;go_wp2_with fail
    refine (zbL _ (a.natAbs - b.natAbs) w5 (by have h1:=Ha.out;unfold Fit at h1;have:=Dec.nDigits_mono (Nat.sub_le a.natAbs b.natAbs);omega)).mono ?_;rintro e w6 ⟨rfl,rfl⟩;rw [Hsg2.out];go_wp2
    go_ret
    exact ⟨rfl,((Hx.out.trans Hx3.out).trans Hx4.out).trans Hx5.out⟩
  ·have hsg:=zd8 a b true HA2.out HB2.out;have Hsg:=hid hsg;clear hsg;go_wp2_with fail
   refine (zd3 a.natAbs b.natAbs w4 (((He.out.ext Hx.out).ext Hx3.out).ext Hx4.out) Ha.out Hb.out).mono ?_;rintro e w5 ⟨rfl,hx5⟩;have Hx5:=hid hx5;clear hx5;go_wp2_with fail
   refine (zbL _ (a.natAbs+b.natAbs) w5 (by have h1:=Ha.out;have h2:=Hb.out;have:=zdj _ _ _ h1 h2;omega)).mono ?_;rintro e w6 ⟨rfl,rfl⟩;rw [Hsg.out];go_wp2
   go_ret
   exact ⟨rfl,((Hx.out.trans Hx3.out).trans Hx4.out).trans Hx5.out⟩
theorem zdB (a b:Int)(w:World)(he:Env w)(ha:Fit a)(hb:Fit b) :
  Calls Tryz.prog 199 #[.string (I a),.string (I b)] w fun e w'=>e=.returned (.string (I (a+b)))∧Ext w w':=by
 by_cases h1:((I a).size:Int)≤18
 ·by_cases h2:((I b).size:Int)≤18
  ·exact zd7 a b w he h1 h2
  ·exact zdA a b w he ha hb (.inr ⟨h1,by omega⟩)
 ·exact zdA a b w he ha hb (.inl (by omega))
theorem zdC (a b:Int)(w:World)(he:Env w)(ha:Fit a)(hb:Fit b) :
  Calls Tryz.prog 164 #[.string (I a),.string (I b)] w fun e w'=>e=.returned (.string (I (a - b)))∧Ext w w':=by
 have hn:=zd5 b w hb;have hadd:=fun W (h:Ext w W)=>zdB a (-b) W (he.ext h) ha hb.negI;rw [show a+-b=a - b by omega] at hadd;have Hn:=hid hn;have Hadd:=hid hadd;clear hn hadd ha hb he;go_enter Tryz.func164,Tryz.ntmps164
 go_wp2_with fail
 refine Hn.out.mono ?_;rintro e w1 ⟨rfl,hx1⟩;have Hx1:=hid hx1;clear hx1;go_wp2_with fail
 refine (Hadd.out w1 Hx1.out).mono ?_;rintro e w2 ⟨rfl,hx2⟩;have Hx2:=hid hx2;clear hx2;go_wp2
 go_ret
 exact ⟨rfl,Hx1.out.trans Hx2.out⟩
end Go.Proofs.YtipkdebkdnbieaaGreatDoor
