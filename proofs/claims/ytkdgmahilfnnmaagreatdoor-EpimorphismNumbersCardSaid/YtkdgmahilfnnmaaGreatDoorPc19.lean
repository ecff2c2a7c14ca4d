/- Walks: table's Check, slices.Repeat at a slice of one string; a row less a multiple of another one: out of XHermA, XHermB. (Printed by rebase.py.) Walks: row.Equal, slices.CompactFunc at rows, slices.Clone at a row: out of XOrdA, XLstA. (KEEPALL) (Printed by rebase.py.) -/
import Derived.Test.YtkdgmahilfnnmaaGreatDoorPc12
import Derived.Test.YtkdgmahilfnnmaaGreatDoorPc10
import Derived.Test.YtkdgmahilfnnmaaGreatDoorPc11
import Derived.Test.YtkdgmahilfnnmaaGreatDoorPc04
import Derived.BigQuiet
import Derived.Laws.CopyOwn
import Derived.Deep.RegionLaw
import Derived.Deep.AppendLies
import Derived.Test.YtkdgmahilfnnmaaGreatDoorShelfM
import Derived.Deep.RegionHeld3
import Derived.RegionTactic
import Derived.ChangeAlike
import Derived.Test.YtkdgmahilfnnmaaGreatDoorPc18
set_option maxRecDepth 100000
set_option maxHeartbeats 4000000
namespace Go.Proofs.YtkdgmahilfnnmaaGreatDoor
section
open Go.RowKit Go.Lib
open Go.RowKit Go.Lib Go.Shelf
theorem zk3 (n:Int)(w:World):Calls Tryz.prog 107 #[.int .i64 n] w fun e w'=>e=.returned (.bool (!zg7 n))∧∃ q,w'=w.drewN q:=by
 unfold zg7;by_cases h1:1000000000<n
 ·rw [decide_eq_false (fun h=>by omega)];have hd:decide (1000000000<n)=true:=decide_eq_true h1;go_enter Tryz.func107,Tryz.ntmps107
  go_wp2
  go_ret
  exact ⟨rfl,0,rfl⟩
 ·have hd:decide (1000000000<n)=false:=decide_eq_false h1;by_cases h2:n < -1000000000
  ·rw [decide_eq_false (fun h=>by omega)];have hd2:decide (n < -1000000000)=true:=decide_eq_true h2;go_enter Tryz.func107,Tryz.ntmps107
   go_wp2
   go_ret
   exact ⟨rfl,0,rfl⟩
  ·rw [decide_eq_true ⟨by omega,by omega⟩];have hd2:decide (n < -1000000000)=false:=decide_eq_false h2;go_enter Tryz.func107,Tryz.ntmps107
   go_wp2
   go_ret
   exact ⟨rfl,0,rfl⟩
theorem zk4 (w:World):Go.Proofs.PredAt Tryz.prog 107 #[] (Value.int .i64) (fun n=>!zg7 n) w:=fun W x _=>zk3 x W
theorem zk5 : ∀ args w,(callFunc 107 args).run Tryz.prog w=.ok (.enter 107 args) w:=enters_of Tryz.func107 (by kernel_rfl) rfl
theorem zk6 (a:Option Addr)(cap:Nat)(x:List Int)(w:World)(hl:x.length≤1000000)
  (hc:∀ i u,(zap x)[i]?=some u→∃ b off,a=some ⟨b,off,none⟩∧w.cell? ⟨b,off+i,none⟩=some u) :
  Calls Tryz.prog 42 #[.slice a x.length cap,.func (.func 107) #[] #[]] w fun e w'=>e=.returned (.bool (x.any fun n=>!zg7 n))∧Ext w w':=by
 cases x with
 | nil=>exact (AnyE.slices_ContainsFunc_empty Tryz.lContainsR a cap _ w).mono fun e w' ⟨h,hw⟩=>⟨h,by rw [hw];exact Ext.refl _⟩
 | cons z r =>
  obtain ⟨b,off,rfl,_⟩:=hc 0 _ (zau (l:=z::r) (by simp))
  have h:=AnyE.slices_ContainsFunc Tryz.lContainsR (Value.int .i64) (fun n=>!zg7 n) 107 #[] zk5 b off (z::r).length cap (z::r) w (zk4 w) (Nat.le_refl _) (by omega) (fun j hj=>by
   obtain ⟨b2,off2,e2,hcell⟩:=hc j _ (zau hj);simp only [Option.some.injEq,Addr.mk.injEq,and_true] at e2;obtain ⟨rfl,rfl⟩:=e2;rw [hcell];unfold zas;rw [List.getD_eq_getElem?_getD,List.getElem?_eq_getElem hj,getElem!_pos _ j hj];rfl)
  rw [List.take_length] at h
  exact h.mono fun e w' ⟨he,q,hw⟩=>⟨he,by rw [hw];exact (Ext.refl w).drewN q⟩
def zk7 (n:Nat)(x:List Int):Int:=if 12<x.length then 4 else if x.length ≠ n then 5 else if x.any (fun z=>!zg7 z)=true then 4 else 0
def zk8 (n:Nat):List (List Int)→Int
 | []=>0
 | x::r=>if zk7 n x ≠ 0 then zk7 n x else zk8 n r
def zk9 (m:List (List Int)):Int:=if 12<m.length then 4 else zk8 (m.getD 0 []).length m
theorem zkA {n:Nat}{l:List (List Int)}{k:Nat}(hk:k<l.length):zk8 n (l.drop k)=if zk7 n (l.getD k []) ≠ 0 then zk7 n (l.getD k []) else zk8 n (l.drop (k+1)):=by
 rw [List.drop_eq_getElem_cons hk,zk8];rw [List.getD_eq_getElem?_getD,List.getElem?_eq_getElem hk];rfl
theorem zkB (vm:Value)(m:List (List Int))(w:World)(hm:Mat w vm m)(hrow:∀ i,(m.getD i []).length≤1000000)(hml:m.length≤1000000) :
  Calls Tryz.prog 79 #[vm] w fun e w'=>e=.returned (.int .i64 (zk9 m))∧Ext w w':=by
 obtain ⟨vs,hvs,hsl,hr⟩:=hm;obtain ⟨am,cm,rfl,_,_,hcm⟩:=hsl.parts;rw [hvs];by_cases h12:12<m.length
 ·have ht:zk9 m=4:=by unfold zk9;rw [if_pos h12]
  rw [ht];clear ht hcm hsl hr hrow hvs;go_enter Tryz.func79,Tryz.ntmps79
  go_wp2
  go_ret
  exact ⟨rfl,Ext.refl _⟩
 ·obtain ⟨r,hr0⟩:∃ r,r=zk9 m:=⟨_,rfl⟩;rw [← hr0];have ht:r=zk8 (m.getD 0 []).length m:=by rw [hr0];unfold zk9;rw [if_neg h12]
  obtain ⟨n0,hn0⟩:∃ n0,n0=(m.getD 0 []).length:=⟨_,rfl⟩;rw [← hn0] at ht;have hn0b:n0≤1000000:=by rw [hn0];exact hrow 0
  have Ht:=hid ht;have Hcm:=hid hcm;have Hr:=hid hr;have Hrow:=hid hrow;have Hvs:=hid hvs;have Hn0:=hid hn0;clear ht hcm hsl hr hrow hvs hr0 hn0;go_enter Tryz.func79,Tryz.ntmps79
  go_wp2_with fail
  go_loopw [10] (fun i wr=>∃ k:Nat,i=.int .i64 k∧k≤m.length∧r=zk8 n0 (m.drop k)∧Ext w wr) (fun i _=>m.length - (zal i).toNat)
  case atStart=>exact ⟨0,rfl,Nat.zero_le _,Ht.out,Ext.refl _⟩
  case round =>
   obtain ⟨k,rfl,hk,hrk,hext⟩:=hrel;have Hrk:=hid hrk;have Hext:=hid hext;clear hrk hext;by_cases hkl:k<m.length
   ·obtain ⟨u,hu⟩:∃ u,vs[k]?=some u:=⟨_,List.getElem?_eq_getElem (by rw [Hvs.out];exact hkl)⟩;obtain ⟨u0,hu0⟩:∃ u,vs[0]?=some u:=⟨_,List.getElem?_eq_getElem (by rw [Hvs.out];omega)⟩;obtain ⟨b,off,e1,hcu⟩:=Hcm.out k u hu;obtain ⟨b2,off2,e2,hcu0⟩:=Hcm.out 0 u0 hu0;subst e1;injection e2 with e2;injection e2 with e3 e4 _;subst e3;subst e4;have hs:=Hr.out k u hu;have hs0:=Hr.out 0 u0 hu0;have hxl:=Hrow.out k;have hrd:=zkA (n:=n0) hkl;rw [← Hrk.out] at hrd;generalize m.getD k []=x at *;obtain ⟨a0,c0,rfl,_,_,_⟩:=hs0.parts;rw [zar,← Hn0.out] at hcu0;obtain ⟨ax,cx,rfl,_,_,hcx⟩:=hs.parts;rw [zar] at hcu;have h1:=Hext.out.cell hcu;have h2:=Hext.out.cell hcu0;have hcon:=fun W (h:Ext w W)=>zk6 ax cx x W hxl (fun i u hu=>by
     obtain ⟨b,off,e,hc⟩:=hcx i u hu;exact ⟨b,off,e,h.cell hc⟩)
    have Hcon:=hid hcon;clear hcu hcu0 hs hs0 hcx hcon hu hu0;rw [Nat.add_zero] at h2;have hk0:(0:Int)≤(k:Int):=(by omega);have hk1:(k:Int)<(m.length:Int):=(by omega);have hm0:(0:Int)<(m.length:Int):=(by omega);by_cases hx12:12<x.length
    ·have ht:zk7 n0 x=4:=(by unfold zk7;rw [if_pos hx12]);rw [ht,if_pos (by decide)] at hrd;subst hrd;go_wp2
     go_ret
     exact ⟨rfl,Hext.out⟩
    ·by_cases hxn:x.length=n0
     ·have ht:zk7 n0 x=if x.any (fun z=>!zg7 z)=true then 4 else 0:=(by unfold zk7;rw [if_neg hx12,if_neg (by simpa using hxn)]);have hne:((x.length:Int) != (n0:Int))=false:=(by rw [bne_eq_false_iff_eq];omega);rw [ht] at hrd;clear ht;generalize x.any (fun z=>!zg7 z)=bb at *;have Hrd:=hid hrd;have Hxn:=hid hxn;clear hrd hxn
      cases bb with
      | true =>
       have hr4:r=4:=by have:=Hrd.out;simpa using this
       subst hr4
       go_wp2_with fail
       refine (Hcon.out wr Hext.out).mono ?_
       rintro e w1 ⟨rfl,hx1⟩
       have Hx1:=hid hx1;clear hx1
       go_wp2
       go_ret
       exact ⟨rfl,Hext.out.trans Hx1.out⟩
      | false =>
       have hr5:r=zk8 n0 (m.drop (k+1)):=by have:=Hrd.out;simpa using this
       have Hr5:=hid hr5;clear hr5
       go_wp2_with fail
       refine (Hcon.out wr Hext.out).mono ?_
       rintro e w1 ⟨rfl,hx1⟩
       have Hx1:=hid hx1;clear hx1
       go_wp2
       go_roundw
       case rel=>exact ⟨k+1,by go_num,by omega,Hr5.out,Hext.out.trans Hx1.out⟩
       case measure=>simp [zal];omega
     ·have ht:zk7 n0 x=5:=(by unfold zk7;rw [if_neg hx12,if_pos hxn]);have hne:((x.length:Int) != (n0:Int))=true:=(by rw [bne_iff_ne];omega);rw [ht,if_pos (by decide)] at hrd;subst hrd;clear hxn;go_wp2
      go_ret
      exact ⟨rfl,Hext.out⟩
   ·have hr0:r=0:=(by rw [Hrk.out,List.drop_of_length_le (by omega)];rfl);subst hr0;go_wp2
    go_ret
    exact ⟨rfl,Hext.out⟩
def zkC (k n:Nat)(v z:Value):List Value:=List.replicate k v++List.replicate (n - k) z
theorem zkD {k n:Nat}(v z:Value):splice (zkC k n v z) k (List.replicate (Nat.min k (n - k)) v)=zkC (k+Nat.min k (n - k)) n v z:=by
 have hm:Nat.min k (n - k)≤n - k:=Nat.min_le_right _ _;unfold splice zkC;rw [List.take_append_of_le_length (by simp),List.take_of_length_le (by simp),List.length_replicate,List.drop_append,List.drop_of_length_le (by simp),List.nil_append,List.length_replicate,← List.append_assoc,List.drop_replicate,List.replicate_append_replicate];congr 2;omega
theorem zkE {k n:Nat}(v z:Value)(h:k≤n):(zkC k n v z).length=n:=by unfold zkC;simp;omega
theorem zkF : (Tryz.prog.info? 103).map (·.size)=some 1:=by kernel_rfl
theorem zkG (n:Nat)(v z:Value)(hz:z=.string ByteArray.empty)(w:World)(h:n≤1000):(Instr.makeSlice 119 (.int .i64 (n:Int)) (.int .i64 (n:Int))).run Tryz.prog w=.ok (.slice (some ⟨w.heap.size,0,none⟩) n n) (w.alloc (.cells (zkC 0 n v z).toArray 103)):=by
 subst hz;obtain ⟨i0,hi,hz0,hz1,hz2⟩:=info_parts zf0;have h1:=run_make (P:=Tryz.prog) w 119 103 i0 (.string ByteArray.empty) Tryz.underlying119 hi hz0 .i64 .i64 (n:Int) (n:Int) (by omega) (Int.le_refl _) (by rw [hz2];omega) (by omega);rw [h1,hz1,Int.toNat_natCast,Nat.mul_one];have h2:madeCells (Value.string ByteArray.empty).cells n=(zkC 0 n v (.string ByteArray.empty)).toArray:=by
  apply Array.ext';show (madeCells #[Value.string ByteArray.empty] n).toList=_;rw [toList_madeCells_one];unfold zkC;simp
 rw [h2]
theorem zkH {n:Nat}(v z:Value):splice (zkC 0 n v z) 0 [v]=zkC 1 n v z:=by
 unfold splice zkC;simp
theorem zkI (x y:Nat)(hx:x<18446744073709551616)(hy:y<18446744073709551616)(w:World) :
  Calls Tryz.prog 100 #[.int .u64 x,.int .u64 y] w fun e w'=>e=.returned (.tuple #[.int .u64 ((x * y / 18446744073709551616:Nat):Int),.int .u64 ((x * y % 18446744073709551616:Nat):Int)])∧w'=w:=Any.bits_Mul Tryz.lBitsMul x y hx hy w
theorem zkJ (b:Nat)(v z:Value)(hz:z=.string ByteArray.empty)(hv:v.oneCell'=true)(n:Nat)(w:World)(hn:n≤1000)(hnp:0<n)(hc:w.cell? ⟨b,0,none⟩=some v) :
  Calls Tryz.prog 73 #[.slice (some ⟨b,0,none⟩) 1 1,.int .i64 n] w fun e w'=>e=.returned (.slice (some ⟨w.heap.size,0,none⟩) n n)∧w'.heap[w.heap.size]?=some (.cells (zkC n n v z).toArray 103 (0,0))∧Ext w w':=by
 have hmul:=zkI 1 n (by omega) (by omega) w;rw [show 1 * n / 18446744073709551616=0 by omega,show 1 * n % 18446744073709551616=n by omega] at hmul;have Hmul:=hid hmul;have hmk:=zkG n v z hz w hn;clear hmul;have hn0:(0:Int)≤(n:Int):=by omega
 have hn1:(n:Int)≤1000:=by omega
 have hw1:IntKind.u64.wrap (n:Int)=(n:Int):=by rw [IntKind.wrap_u64];omega
 have hw2:IntKind.i64.wrap (n:Int)=(n:Int):=by rw [IntKind.wrap_i64];omega
 go_enter Tryz.func73,Tryz.ntmps73
 go_wp2_with fail
 refine Hmul.out.mono ?_;rintro e w1 ⟨rfl,hw1⟩;rw [hw1];clear hw1 w1;have hE0:Ext w (w.alloc (.cells (zkC 0 n v z).toArray 103)):=(Ext.refl w).alloc _;have hg0:(w.alloc (.cells (zkC 0 n v z).toArray 103)).heap[w.heap.size]?=some (.cells (zkC 0 n v z).toArray 103 (0,0)):=World.alloc_heap_new w _;have hc0:=hE0.cell hc;generalize hw0:w.alloc (.cells (zkC 0 n v z).toArray 103)=W0 at *;have HE0:=hid hE0;have Hg0:=hid hg0;have Hc0:=hid hc0;clear hE0 hg0 hc0 hc Hmul;have Hv1:=hid hv;clear hv hz;have k1:[v].length=Nat.min 1 n:=by rw [show Nat.min 1 n=1 from Nat.min_eq_left hnp];rfl
 have k2:∀ j u,[v][j]?=some u→W0.cell? (Addr.add ⟨b,0,none⟩ j)=some u:=fun j u hu=>by
  cases j with
  | zero=>injection hu with hu;subst hu;exact Hc0.out
  | succ j=>simp at hu
 have k3:0+[v].length≤(zkC 0 n v z).length:=by rw [zkE v z (Nat.zero_le _)];simp;omega
 have k4:∀ u∈[v],u.oneCell'=true:=fun u hu=>by
  have:=List.mem_singleton.1 hu;subst this;exact Hv1.out
 have K1:=hid k1;have K2:=hid k2;have K3:=hid k3;have K4:=hid k4;clear k1 k2 k3 k4;go_wp2_with ((with_reducible show wpList _ _ _ (⟨some 33,_,_,_,_,_⟩::_) _ _);(refine wpList_copy_splice (o:=⟨some 33,_,_,_,_,_⟩) rfl (.tmp 31) (.tmp 32) 119 119 rfl 103 Tryz.underlying119 zkF _ _ _ _ _ _ rfl rfl w.heap.size 0 (zkC 0 n v z) 103 Hg0.out [v] K1.out (fun _=>⟨rfl,_,rfl,K2.out⟩) K3.out K4.out w.heap.size w HE0.out (Nat.le_refl _) ?_);intro w1 hg1 hb1)
 rw [zkH] at hg1;have HE1:Hid (Ext w w1):=hid hb1;have Hg1:=hg1;clear hb1 hg1 K1 K2 K3 K4;go_loopw [8] (fun v8 wr=>∃ k:Nat,v8=.int .i64 k∧0<k∧k≤n∧wr.heap[w.heap.size]?=some (.cells (zkC k n v z).toArray 103 (0,0))∧Ext w wr) (fun v8 _=>n - (zal v8).toNat)
 case atStart=>exact ⟨1,rfl,by omega,hnp,Hg1.out,HE1.out⟩
 case round =>
  obtain ⟨k,rfl,hk0,hk,hg,hE⟩:=hrel;have Hg:=hid hg;have HE:=hid hE;clear hg hE;by_cases hkn:k<n
  ·have k1:(List.replicate (Nat.min k (n - k)) v).length=Nat.min k (n - k):=List.length_replicate;have k2:∀ j u,(List.replicate (Nat.min k (n - k)) v)[j]?=some u→wr.drew.cell? (Addr.add ⟨w.heap.size,0,none⟩ j)=some u:=fun j u hu=>by
    have hj:j<Nat.min k (n - k):=by
     have:=(List.getElem?_eq_some_iff.1 hu).1;rwa [List.length_replicate] at this
    have hjk:j<k:=Nat.lt_of_lt_of_le hj (Nat.min_le_left _ _);have e:(zkC k n v z)[j]?=some u:=by
     unfold zkC;rw [List.getElem?_append_left (by rw [List.length_replicate];exact hjk)];rw [List.getElem?_replicate,if_pos hj] at hu;rw [List.getElem?_replicate,if_pos hjk];exact hu
    rw [show (Addr.add ⟨w.heap.size,0,none⟩ j)=⟨w.heap.size,0+j,none⟩ by unfold Addr.add;split <;> simp_all]
    unfold World.cell?;dsimp only;rw [show wr.drew.heap[w.heap.size]?=_ from Hg.out];simpa using e
   have k3:k+(List.replicate (Nat.min k (n - k)) v).length≤(zkC k n v z).length:=by
    rw [zkE v z hk,List.length_replicate];have h7:Nat.min k (n - k)≤n - k:=Nat.min_le_right _ _;generalize Nat.min k (n - k)=m at *;omega
   have k4:∀ u∈List.replicate (Nat.min k (n - k)) v,u.oneCell'=true:=fun u hu=>by
    have:=List.eq_of_mem_replicate hu;subst this;exact Hv1.out
   have k5:=zkD (k:=k) (n:=n) v z;have k6:0<Nat.min k (n - k):=Nat.lt_min.2 ⟨hk0,by omega⟩;have k7:Nat.min k (n - k)≤n - k:=Nat.min_le_right _ _;generalize hcs:List.replicate (Nat.min k (n - k)) v=cs at *;generalize hm:Nat.min k (n - k)=m at *;have K1:=hid k1;have K2:=hid k2;have K3:=hid k3;have K4:=hid k4;have K5:=hid k5;have Hm:=hid hm;have hw3:IntKind.i64.wrap ((k:Int)+(m:Int))=((k+m:Nat):Int):=(by rw [IntKind.wrap_i64];omega);clear k1 k2 k3 k4 k5 hcs hm;have hki:(k:Int)<(n:Int):=(by omega);have hk0i:(0:Int)≤(k:Int):=(by omega);go_wp2_with fail
   have hgd:wr.drew.heap[w.heap.size]?=some (.cells (zkC k n v z).toArray 103 (0,0)):=Hg.out;have hEd:Ext w wr.drew:=HE.out.drewN 1;have Hgd:=hid hgd;have HEd:=hid hEd;clear hgd hEd;have hnk:¬ n=k:=(by omega);go_region_law ((refine step_copy_splice rfl (.tmp 41) (.tmp 44) 119 119 rfl 103 Tryz.underlying119 zkF (some ⟨w.heap.size,k,none⟩) (some ⟨w.heap.size,0,none⟩) (n - k) (n - k) k n (by simp [Act.eval,Act.put]) (by simp [Act.eval,Act.put]) w.heap.size k (zkC k n v z) 103 Hgd.out cs (K1.out.trans Hm.out.symm) (fun _=>⟨rfl,_,rfl,K2.out⟩) K3.out K4.out w.heap.size w HEd.out (Nat.le_refl _) ?_);intro w4 hg4 hb4)
   rw [K5.out] at hg4;rw [K1.out];have Hb4:Hid (Ext w w4):=hid hb4;clear hb4;go_simp
   go_roundw
   case rel=>exact ⟨_,_,_,_,_,_,_,_,_,_,_,_,_,_,⟨k+m,rfl,by omega,by omega,hg4.out,Hb4.out⟩,rfl⟩
   case measure=>simp [zal];omega
  ·obtain rfl:k=n:=by omega
   go_wp2
   go_ret
   exact ⟨rfl,Hg.out,HE.out⟩
def zkK (k:Int)(a b:List Int)(j:Nat):List Int:=(List.zipWith (fun x y=>x - k * y) a b).take j++a.drop j
theorem zkL (k:Int)(a b:List Int):zkK k a b 0=a:=by simp [zkK]
theorem zkM {k:Int}{a b:List Int}{n:Nat}(ha:a.length=n)(hb:b.length=n):zkK k a b n=List.zipWith (fun x y=>x - k * y) a b:=by
 unfold zkK;rw [List.drop_of_length_le (by omega),List.append_nil,List.take_of_length_le (by simp;omega)]
theorem zkN {k:Int}{a b:List Int}{n j:Nat}(ha:a.length=n)(hb:b.length=n)(hj:j<n):(zkK k a b j).set j (zas a j - k * zas b j)=zkK k a b (j+1):=by
 have hz:(List.zipWith (fun x y=>x - k * y) a b).length=n:=by simp;omega
 unfold zkK;rw [List.take_succ_eq_append_getElem (by omega),List.set_append_right _ _ (by simp;omega)];rw [show (List.take j (List.zipWith (fun x y=>x - k * y) a b)).length=j by simp;omega,Nat.sub_self,List.drop_eq_getElem_cons (by omega),List.set_cons_zero,List.append_assoc];congr 1;simp only [List.getElem_zipWith,List.singleton_append,List.cons.injEq,and_true];unfold zas;rw [List.getD_eq_getElem?_getD,List.getElem?_eq_getElem (by omega),List.getD_eq_getElem?_getD,List.getElem?_eq_getElem (by omega)];rfl
theorem zkO {k:Int}{a b:List Int}{n j:Nat}(ha:a.length=n)(hb:b.length=n)(hj:j<n):(zkK k a b j)[j]?=some (zas a j):=by
 have hz:(List.zipWith (fun x y=>x - k * y) a b).length=n:=by simp;omega
 unfold zkK;rw [List.getElem?_append_right (by simp;omega),List.length_take,hz,Nat.min_eq_left (by omega),Nat.sub_self,List.getElem?_drop];unfold zas;rw [List.getD_eq_getElem?_getD,Nat.add_zero,List.getElem?_eq_getElem (by omega)];rfl
theorem zkP (l:List Int)(j:Nat)(z:Int):(zfy l).set j (.string (I z))=zfy (l.set j z):=by
 unfold zfy;rw [List.map_set]
theorem zkQ {w:World}{B E g n cap:Nat}{xs:List Value}(h:w.ownsRow B E 1 (.slice (some ⟨g,0,none⟩) n cap) n xs){j:Nat}{u:Value}(hj:xs[j]?=some u):w.cell? ⟨g,j,none⟩=some u:=by
 have:=h.cells (g:=g) rfl j u hj;rwa [show ((⟨g,0,none⟩:Addr).add j)=⟨g,j,none⟩ by unfold Addr.add;split <;> simp_all] at this
end
section
open Go.RowKit Go.Lib Go.Shelf
structure Rw where
 x:List Int
 u:Value
 hu:u.oneCell'=true
def rwc (rs:List Rw):List Value:=rs.map Rw.u
theorem zkR (rs:List Rw):(rwc rs).length=rs.length:=by simp [rwc]
theorem zkS {w:World}{B:Nat}{a:Option Addr}{E s k c n:Nat}{xs:List Value}(h:w.ownsRow B E s (.slice a k c) n xs):n≤c∧k=n:=by
 rcases h.2 with ⟨e0,h0⟩ | ⟨g,cap,cur,e0,_,_,h1,_⟩
 ·injection e0 with _ e2 e3;omega
 ·injection e0 with _ e2 e3;omega
theorem zkT : ∀ {x y:List Int},x.length=y.length→x ≠ y→∃ i,i<x.length∧zas x i ≠ zas y i
 | [],[],_,h=>absurd rfl h
 | a::x,b::y,hl,h=>by
  by_cases hab:a=b
  ·obtain ⟨i,hi,hn⟩:=zkT (x:=x) (y:=y) (by simpa using hl) (fun e=>h (by rw [hab,e]));exact ⟨i+1,by simp;omega,by simpa [zas] using hn⟩
  ·exact ⟨0,by simp,by simpa [zas] using hab⟩
theorem zkU (va vb:Value)(x y:List Int)(w:World)(hx:Sl w va (zap x))(hy:Sl w vb (zap y))(hl:x.length≤1000000)(hl2:y.length≤1000000) :
  Calls Tryz.prog 55 #[va,vb] w fun e w'=>e=.returned (.bool (decide (x=y)))∧Qu w w':=by
 obtain ⟨aa,ca,rfl,_,_,hcx⟩:=hx.parts;obtain ⟨ab,cb,rfl,_,_,hcy⟩:=hy.parts;rw [zar] at *;rw [zar] at *;have Hcx:=hid hcx;clear hcx hx;have Hcy:=hid hcy;clear hcy hy;obtain ⟨r,hr⟩:∃ r,r=decide (x=y):=⟨_,rfl⟩;rw [← hr];by_cases hne:x.length=y.length
 ·have ht:((x.length:Int) != (y.length:Int))=false:=by rw [bne_eq_false_iff_eq];omega
  have Hne:=hid hne;clear hne;have Hr:=hid hr;clear hr;go_enter Tryz.func55,Tryz.ntmps55
  go_wp2
  go_loopw [13] (fun i wr=>∃ k:Nat,i=.int .i64 k∧k≤x.length∧Qu w wr∧∀ t,t<k→zas x t=zas y t) (fun i _=>x.length - (zal i).toNat)
  case atStart=>exact ⟨0,rfl,Nat.zero_le _,Qu.refl w,fun t ht=>by omega⟩
  case round =>
   obtain ⟨k,rfl,hk,hqu,hs⟩:=hrel;have Hqu:=hid hqu;clear hqu;have Hs:=hid hs;clear hs;by_cases hlt:k<x.length
   ·have hky:k<y.length:=(by rw [← Hne.out];exact hlt);obtain ⟨bx,ox,rfl,hcx0⟩:=Hcx.out k _ (zau hlt);obtain ⟨b2,oy,rfl,hcy0⟩:=Hcy.out k _ (zau hky);have hcx:=Hqu.out.ext.cell hcx0;have hcy:=Hqu.out.ext.cell hcy0;clear hcx0 hcy0;have hk0:(0:Int)≤(k:Int):=(by omega);have hk1:(k:Int)<(x.length:Int):=(by omega);have hk2:(k:Int)<(y.length:Int):=(by omega);by_cases hxy:zas x k=zas y k
    ·have h3:((zas x k) != (zas y k))=false:=(by rw [bne_eq_false_iff_eq];exact hxy);have Hxy:=hid hxy;clear hxy;go_wp2
     go_quiet (fail)
     go_wp2
     go_roundw
     case rel=>exact ⟨k+1,by go_num,by omega,Hqu.out.drewN _,fun t ht=>by
      rcases Nat.lt_or_ge t k with h | h
      ·exact Hs.out t h
      ·obtain rfl:t=k:=by omega
       exact Hxy.out⟩
     case measure=>simp [zal];omega
    ·have h3:((zas x k) != (zas y k))=true:=(by rw [bne_iff_ne];exact hxy);have hf:r=false:=(by rw [Hr.out];exact decide_eq_false (by rintro rfl;exact hxy rfl));have Hf:=hid hf;clear hxy hf;go_wp2
     go_quiet (fail)
     go_wp2
     go_ret
     exact ⟨zeD Hf.out.symm,by first | exact Hqu.out | exact Hqu.out.drewN _⟩
   ·obtain rfl:k=x.length:=by omega
    have hf:r=true:=by
     rw [Hr.out];refine decide_eq_true ?_;refine Classical.byContradiction fun h=>?_;obtain ⟨i,hi,hn⟩:=zkT Hne.out h;exact hn (Hs.out i hi)
    have Hf:=hid hf;clear hf;go_wp2
    go_ret
    exact ⟨zeD Hf.out.symm,by first | exact Hqu.out | exact Hqu.out.drewN _⟩
 ·have ht:((x.length:Int) != (y.length:Int))=true:=by rw [bne_iff_ne];omega
  have hf:r=false:=by rw [hr];exact decide_eq_false (by rintro rfl;exact hne rfl)
  clear hne hr;subst hf;go_enter Tryz.func55,Tryz.ntmps55
  go_wp2
  go_ret
  exact ⟨rfl,Qu.refl w⟩
theorem zkV (va vb:Value)(x y:List Int)(w:World)(hx:Sl w va (zap x))(hy:Sl w vb (zap y))(hl:x.length≤1000000)(hl2:y.length≤1000000) :
  Calls Tryz.prog 24 #[va,vb] w fun e w'=>e=.returned (.bool (decide (x=y)))∧Qu w w':=by
 have hc:=zkU va vb x y w hx hy hl hl2;have Hc:=hid hc;clear hc;obtain ⟨aa,ca,rfl,_,_,_⟩:=hx.parts;obtain ⟨ab,cb,rfl,_,_,_⟩:=hy.parts;rw [zar] at *;rw [zar] at *;clear hx hy;go_enter Tryz.func24,Tryz.ntmps24
 go_wp2_with fail
 refine Hc.out.mono ?_;rintro e w1 ⟨rfl,hq⟩;have Hq:=hid hq;clear hq;go_wp2
 go_ret
 exact ⟨rfl,Hq.out⟩
def RwM (w:World)(b B:Nat)(v:Value)(rs:List Rw):Prop :=
 w.ownsRow B 26 1 v rs.length (rwc rs)∧∀ r∈rs,zc2 w b r.u r.x∧r.x.length≤1000000
theorem Ext.rwM {w w':World}(h:Ext w w'){b B:Nat}{v:Value}{rs:List Rw}(hs:RwM w b B v rs):RwM w' b B v rs:=⟨h.own hs.1,fun e he=>⟨h.ownI (hs.2 e he).1,(hs.2 e he).2⟩⟩
theorem zkW {a w:World}{g:Nat}(h:a.grownBy w (some g)):∀ (us:List Value)(o:Nat),a.grownBy (w.setCells g o us) (some g):=by
 intro us;induction us generalizing w with
 | nil=>intro o;exact h
 | cons u us ih=>intro o;exact ih (zcB h rfl u) (o+1)
def zkX (l:List (List Int))(j:Nat):Bool:=j == 0 || decide (l.getD j [] ≠ l.getD (j - 1) [])
def zkY {α:Type}(f:α→List Int)(l:List α):Nat→List α
 | 0=>[]
 | m+1=>zkY f l m++(if zkX (l.map f) m then (l.drop m).take 1 else [])
theorem zkZ {α:Type}(f:α→List Int)(l:List α):∀ m,m≤l.length→(∀ j,j<m→zkX (l.map f) j=true)→zkY f l m=l.take m
 | 0,_,_=>by simp [zkY]
 | m+1,h,hk=>by
  have hm:m<l.length:=h;rw [zkY,zkZ f l m (by omega) (fun j hj=>hk j (by omega)),hk m (by omega),if_pos rfl];rw [show (l.drop m).take 1=[l[m]] by rw [List.drop_eq_getElem_cons hm];rfl];exact (List.take_succ_eq_append_getElem hm).symm
theorem zla {α:Type}(f:α→List Int)(l:List α):∀ m {a},a∈zkY f l m→a∈l
 | 0,_,h=>by simp [zkY] at h
 | m+1,a,h=>by
  rw [zkY] at h;rcases List.mem_append.1 h with h | h
  ·exact zla f l m h
  ·split at h
   ·exact List.mem_of_mem_drop (List.mem_of_mem_take h)
   ·simp at h
theorem zlb {w:World}{B E g n cap k:Nat}{xs:List Value}(h:w.ownsRow B E 1 (.slice (some ⟨g,0,none⟩) n cap) n xs)(hk:k≤n):w.ownsRow B E 1 (.slice (some ⟨g,0,none⟩) k cap) k (xs.take k):=by
 have hxl:xs.length=n:=by simpa using h.1
 rcases h.2 with ⟨e0,_⟩ | ⟨g',cap',cur,e0,hb,hg,hn,hm,hs,ht⟩
 ·cases e0
 ·injection e0 with e1 _ e3;injection e1 with e1;injection e1 with e1;subst e1;subst e3;refine ⟨by simp;omega,.inr ⟨g,cap,cur,rfl,hb,hg,by omega,hm,hs,?_⟩⟩;rw [← ht,List.take_take];congr 1;omega
theorem zlc {B E g n cap:Nat}:∀ (us:List Value)(o:Nat){w:World}{xs:List Value},w.ownsRow B E 1 (.slice (some ⟨g,0,none⟩) n cap) n xs→o+us.length≤n→(w.setCells g o us).ownsRow B E 1 (.slice (some ⟨g,0,none⟩) n cap) n (xs.take o++us++xs.drop (o+us.length))
 | [],o,w,xs,h,_=>by
  simp only [List.append_nil,List.length_nil,Nat.add_zero,List.take_append_drop];exact h
 | u::us,o,w,xs,h,hl=>by
  have hxl:xs.length=n:=by simpa using h.1
  simp only [List.length_cons] at hl;have h1:=(World.ownsRow.stored h o u).1;have h2:=zlc us (o+1) h1 (by omega);have e1:(xs.set o u).take (o+1)=xs.take o++[u]:=by
   rw [List.take_add_one,List.take_set,List.getElem?_set_self (by omega),List.set_eq_of_length_le (by rw [List.length_take];exact Nat.min_le_left _ _)];rfl
  have e2:(xs.set o u).drop (o+1+us.length)=xs.drop (o+(us.length+1)):=by
   rw [List.drop_set_of_lt (by omega)];congr 1;omega
  rw [e1,e2] at h2;show ((w.setCell ⟨g,o,none⟩ u).setCells g (o+1) us).ownsRow _ _ _ _ _ _;rw [show xs.take o++u::us++xs.drop (o+(u::us).length)=xs.take o++[u]++us++xs.drop (o+(us.length+1)) by simp];exact h2
theorem zld {rs:List Rw}{m:Nat}{r:Rw}(h:rs[m]?=some r):zkY Rw.x rs (m+1)=zkY Rw.x rs m++(if zkX (rs.map Rw.x) m then [r] else []):=by
 have hm:=(List.getElem?_eq_some_iff.1 h).1;rw [zkY,List.drop_eq_getElem_cons hm];have e:=(List.getElem?_eq_some_iff.1 h).2;simp [e]
theorem zle {rs:List Rw}{m:Nat}{r s:Rw}(h1:rs[m+1]?=some r)(h0:rs[m]?=some s):zkX (rs.map Rw.x) (m+1)=!decide (r.x=s.x):=by
 unfold zkX;rw [Nat.add_sub_cancel,List.getD_eq_getElem?_getD,List.getD_eq_getElem?_getD,List.getElem?_map,List.getElem?_map,h1,h0];simp
theorem zlf {rs C:List Rw}{m:Nat}{r:Rw}(h:rs[m]?=some r)(hC:C.length≤m):(rwc (C++rs.drop C.length))[m]?=some r.u:=by
 unfold rwc;rw [List.getElem?_map,List.getElem?_append_right hC,List.getElem?_drop,show C.length+(m - C.length)=m by omega,h];rfl
theorem zlg {rs C:List Rw}{r:Rw}(hC:C.length<rs.length):(rwc (C++rs.drop C.length)).set C.length r.u=rwc ((C++[r])++rs.drop (C++[r]).length):=by
 unfold rwc;rw [List.drop_eq_getElem_cons hC,List.map_append,List.set_append_right _ _ (by simp),List.length_map,Nat.sub_self,List.map_cons,List.set_cons_zero];simp
def zlh (W:World)(B g cap k:Nat)(rs:List Rw)(v5 v7:Value)(wr:World):Prop :=
 ∃ j c:Nat,v5=.int .i64 c∧v7=.int .i64 ((j:Int)+1)∧k+2+j≤rs.length∧(zkY Rw.x rs (k+2+j)).length=c∧c≤k+1+j∧wr.ownsRow B 26 1 (.slice (some ⟨g,0,none⟩) rs.length cap) rs.length (rwc (zkY Rw.x rs (k+2+j)++rs.drop c))∧W.grownBy wr (some g)
theorem zli {W wr:World}{B g cap k j c:Nat}{rs:List Rw}{r:Rw}(hr:rs[k+2+j]?=some r)(hk:zkX (rs.map Rw.x) (k+2+j)=false)(hC:(zkY Rw.x rs (k+2+j)).length=c)(hc:c≤k+1+j)
  (ho:wr.ownsRow B 26 1 (.slice (some ⟨g,0,none⟩) rs.length cap) rs.length (rwc (zkY Rw.x rs (k+2+j)++rs.drop c))) (hg:W.grownBy wr (some g)) (n:Nat):zlh W B g cap k rs (.int .i64 c) (.int .i64 ((j:Int)+1+1)) (wr.drewN n):=by
 have e:zkY Rw.x rs (k+2+(j+1))=zkY Rw.x rs (k+2+j):=by
  rw [show k+2+(j+1)=k+2+j+1 by omega,zld hr,hk];simp
 have hl:=(List.getElem?_eq_some_iff.1 hr).1;refine ⟨j+1,c,rfl,by simp,by omega,by rw [e];exact hC,by omega,?_,zcA hg n⟩;rw [e];exact ((Ext.refl wr).drewN n).own ho
theorem zlj {W wr:World}{B g cap k j c:Nat}{rs:List Rw}{r:Rw}(hr:rs[k+2+j]?=some r)(hk:zkX (rs.map Rw.x) (k+2+j)=true)(hC:(zkY Rw.x rs (k+2+j)).length=c)(hc:c≤k+1+j)
  (ho:wr.ownsRow B 26 1 (.slice (some ⟨g,0,none⟩) rs.length cap) rs.length (rwc (zkY Rw.x rs (k+2+j)++rs.drop c))) (hg:W.grownBy wr (some g)) (n:Nat):zlh W B g cap k rs (.int .i64 ((c:Int)+1)) (.int .i64 ((j:Int)+1+1)) ((wr.drewN n).setCell ⟨g,c,none⟩ r.u):=by
 have e:zkY Rw.x rs (k+2+(j+1))=zkY Rw.x rs (k+2+j)++[r]:=by
  rw [show k+2+(j+1)=k+2+j+1 by omega,zld hr,hk];simp
 have hl:=(List.getElem?_eq_some_iff.1 hr).1;have ho2:=(World.ownsRow.stored (((Ext.refl wr).drewN n).own ho) c r.u).1;refine ⟨j+1,c+1,by simp,by simp,by omega,by rw [e,List.length_append,hC];rfl,by omega,?_,zcB (zcA hg n) rfl _⟩;rw [e];subst hC;rw [zlg (by omega)] at ho2;rw [List.length_append] at ho2;exact ho2
theorem zlk {W wr:World}{b B g n cap:Nat}{rs ss:List Rw}{xs:List Value}(hg:W.grownBy wr (some g))(hs:W.ownsRow B 26 1 (.slice (some ⟨g,0,none⟩) n cap) n xs)(hr:∀ r∈rs,zc2 W b r.u r.x∧r.x.length≤1000000)(hm:∀ r,r∈ss→r∈rs):∀ r∈ss,zc2 wr b r.u r.x∧r.x.length≤1000000:=fun r h =>
 ⟨World.ownsRow.kept (hr r (hm r h)).1 hg (zc5 (hr r (hm r h)).1 hs (by decide)),(hr r (hm r h)).2⟩
theorem zll {W:World}{b B:Nat}{a:Option Addr}{cap:Nat}{rs:List Rw}(hs:RwM W b B (.slice a rs.length cap) rs)(hl:rs.length≤1000000) :
  Calls Tryz.prog 53 #[.slice a rs.length cap,.func (.func 24) #[] #[]] W fun e w'=>∃ v,e=.returned v∧RwM w' b B v (zkY Rw.x rs rs.length)∧∀ w0:World,Ext w0 W→w0.heap.size=B→Ext w0 w':=by
 by_cases h2:rs.length<2
 ·have hall:zkY Rw.x rs rs.length=rs:=by
   rw [zkZ Rw.x rs rs.length (Nat.le_refl _),List.take_length];intro j hj;have:j=0:=(by omega);subst this;rfl
  rw [hall];have Hs:=hid hs;clear hs hall;go_enter Tryz.func53,Tryz.ntmps53
  go_wp2
  go_ret
  exact ⟨_,rfl,Hs.out,fun w0 h _=>h⟩
 ·obtain ⟨g,cap',e0,hcells⟩:=zc6 hs.1 (by omega);injection e0 with e1 _ e3;subst e1;subst e3;obtain ⟨n,hn⟩:∃ n,n=rs.length:=⟨_,rfl⟩;have hcap:rs.length≤cap:=(zkS hs.1).1;have hgB:B≤g:=by
   rcases hs.1.2 with ⟨e0,_⟩ | ⟨g',cap',cur,e0,hb,_⟩
   ·cases e0
   ·injection e0 with e1 _ _;injection e1 with e1;injection e1 with e1;omega
  have hcell:∀ j,j<rs.length→∃ r,r∈rs∧rs[j]?=some r∧W.cell? ⟨g,j,none⟩=some r.u:=fun j hj=>by
   obtain ⟨r,hr⟩:∃ r,rs[j]?=some r:=⟨_,List.getElem?_eq_getElem hj⟩;exact ⟨r,List.mem_of_getElem? hr,hr,hcells j r.u (by simp [rwc,hr])⟩
  have Hs:=hid hs;have Hcell:=hid hcell;clear hs hcell hcells hn;go_enter Tryz.func53,Tryz.ntmps53
  go_wp2
  go_loopw [5] (fun i wr=>∃ k:Nat,i=.int .i64 ((k:Int)+1)∧k+1≤rs.length∧Qu W wr∧∀ j,j<k+1→zkX (rs.map Rw.x) j=true) (fun i _=>rs.length - (zal i).toNat)
  case atStart=>exact ⟨0,rfl,by omega,Qu.refl W,fun j hj=>by
   obtain rfl:j=0:=by omega
   rfl⟩
  case round =>
   obtain ⟨k,rfl,hk,hqu,hkeep⟩:=hrel;have Hqu:=hid hqu;have Hkeep:=hid hkeep;clear hqu hkeep;by_cases hlt:k+1<rs.length
   ·obtain ⟨r1,hm1,hr1,hc1⟩:=Hcell.out (k+1) hlt;obtain ⟨r0,hm0,hr0,hc0⟩:=Hcell.out k (by omega);have hd1:=Hqu.out.ext.cell hc1;have hd0:=Hqu.out.ext.cell hc0;obtain ⟨ho1,hl1⟩:=Hs.out.2 r1 hm1;obtain ⟨ho0,hl0⟩:=Hs.out.2 r0 hm0;have hkk:zkX (rs.map Rw.x) (k+1)=!decide (r1.x=r0.x):=by
     unfold zkX;rw [Nat.add_sub_cancel,List.getD_eq_getElem?_getD,List.getD_eq_getElem?_getD,List.getElem?_map,List.getElem?_map,hr1,hr0];simp
    have heq:=fun n=>zkV r1.u r0.u r1.x r0.x (wr.drewN n) ((Hqu.out.drewN n).ext.ownI ho1).sl ((Hqu.out.drewN n).ext.ownI ho0).sl hl1 hl0;generalize decide (r1.x=r0.x)=eqb at *;have hw1:IntKind.i64.wrap ((k:Int)+1 - 1)=(k:Int):=(by rw [IntWalk.i64_in _ (by omega)];omega);have hk1:(0:Int)≤(k:Int)+1:=(by omega);have hk2:(k:Int)+1<(rs.length:Int):=(by omega);have hk3:(0:Int)≤(k:Int):=(by omega);have hk4:(k:Int)<(rs.length:Int):=(by omega);have hk5:((k:Int)+1).toNat=k+1:=(by omega);have Heq:=hid heq;have Hkk:=hid hkk;clear heq hkk hc1 hc0 ho1 ho0 hm1 hm0 hr1 hr0;obtain ⟨x1,u1,hu1⟩:=r1;obtain ⟨x0,u0,hu0⟩:=r0;dsimp only at hd1 hd0
    cases eqb with
    | false =>
     go_wp2
     go_quiet ((go_at_call 24;exact Calls.quiet_of (Heq.out _)))
     clear hw1 hk5
     go_wp2
     go_roundw
     case rel=>exact ⟨k+1,by go_num,by omega,Hqu.out.drewN _,fun j hj=>by
      rcases Nat.lt_or_ge j (k+1) with h | h
      ·exact Hkeep.out j h
      ·obtain rfl:j=k+1:=by omega
       exact Hkk.out⟩
     case measure=>simp [zal];omega
    | true =>
     go_wp2
     go_quiet ((go_at_call 24;exact Calls.quiet_of (Heq.out _)))
     clear hw1 hk5
     obtain ⟨L2,hL2⟩:∃ L2,rs.length - (k+1)=L2:=⟨_,rfl⟩
     have hL3:k+1+L2=rs.length:=by omega
     have hcc:k+1<cap:=by omega
     have hcap2:cap≤maxLen:=by
      rcases Hs.out.1.2 with ⟨e0,_⟩ | ⟨g',cap',cur,e0,_,_,_,hm,_⟩
      ·cases e0
      ·injection e0 with _ _ e3;omega
     unfold maxLen at hcap2
     have hown0:wr.ownsRow B 26 1 (.slice (some ⟨g,0,none⟩) rs.length cap) rs.length (rwc (zkY Rw.x rs (k+2)++rs.drop (zkY Rw.x rs (k+2)).length)):=by
      obtain ⟨r,hr⟩:∃ r,rs[k+1]?=some r:=⟨_,List.getElem?_eq_getElem hlt⟩;have e:zkY Rw.x rs (k+2)=rs.take (k+1):=by
       rw [zld hr,Hkk.out,zkZ Rw.x rs (k+1) (by omega) Hkeep.out];simp
      rw [e,List.length_take,Nat.min_eq_left (by omega),List.take_append_drop];exact Hqu.out.ext.own Hs.out.1
     have hcl0:(zkY Rw.x rs (k+2)).length=k+1:=by
      obtain ⟨r,hr⟩:∃ r,rs[k+1]?=some r:=⟨_,List.getElem?_eq_getElem hlt⟩;rw [zld hr,Hkk.out,zkZ Rw.x rs (k+1) (by omega) Hkeep.out];simp;omega
     rw [hcl0] at hown0
     have hgr0:W.grownBy wr (some g):=by
      obtain ⟨q,rfl⟩:=Hqu.out;exact zcA (zc9 W _) q
     have Hown0:=hid hown0;have Hcl0:=hid hcl0;have Hgr0:=hid hgr0;have HL2:=hid hL2;have HL3:=hid hL3
     clear hown0 hcl0 hgr0 hL3
     go_wp2_with fail
     clear hL2
     go_loopw [5,7] (fun v5 v7 wr=>zlh W B g cap k rs v5 v7 wr) (fun _ v7 _=>rs.length - (zal v7).toNat)
     case atStart=>
      refine ⟨0,k+1,by simp,rfl,by omega,Hcl0.out,by omega,Hown0.out,zcA Hgr0.out _⟩
     case round =>
      obtain ⟨j,c,rfl,rfl,hj,hC,hc,ho,hg⟩:=hrel
      have hL3:=HL3.out
      by_cases hlt2:k+2+j<rs.length
      ·obtain ⟨r,hr⟩:∃ r,rs[k+1+j+1]?=some r:=⟨_,List.getElem?_eq_getElem (by omega)⟩
       obtain ⟨s,hs0⟩:∃ r,rs[k+1+j]?=some r:=⟨_,List.getElem?_eq_getElem (by omega)⟩
       have hkk2:=zle hr hs0
       have hr2:rs[k+2+j]?=some r:=by rw [← hr];congr 1;omega
       have hkk3:zkX (rs.map Rw.x) (k+2+j)=!decide (r.x=s.x):=by rw [← hkk2];congr 1;omega
       have hmid:=fun {m:Nat}{r:Rw}(h:rs[m]?=some r)(hm:c≤m)=>zkQ ho (by have:=zlf (C:=zkY Rw.x rs (k+2+j)) h (by rw [hC];exact hm);rw [hC] at this;exact this)
       have hcm:wr.cell? ⟨g,k+1+(j+1),none⟩=some r.u:=hmid (show rs[k+1+(j+1)]?=some r from hr) (by omega)
       have hcp:wr.cell? ⟨g,k+1+j,none⟩=some s.u:=hmid hs0 (by omega)
       obtain ⟨t,ht⟩:∃ r,rs[c]?=some r:=⟨_,List.getElem?_eq_getElem (by omega)⟩
       have hck:wr.cell? ⟨g,c,none⟩=some t.u:=hmid ht (Nat.le_refl _)
       have hfk:wr.frozen? ⟨g,c,none⟩=false:=World.ownsRow.frozenAt ho c
       have hkr:=zlk (ss:=rs) hg Hs.out.1 Hs.out.2 (fun r h=>h)
       obtain ⟨ho1,hl1⟩:=hkr r (List.mem_of_getElem? hr)
       obtain ⟨ho0,hl0⟩:=hkr s (List.mem_of_getElem? hs0)
       have heq:=fun n=>zkV r.u s.u r.x s.x (wr.drewN n) (((Ext.refl wr).drewN n).ownI ho1).sl (((Ext.refl wr).drewN n).ownI ho0).sl hl1 hl0
       have hskip:=fun (e:decide (r.x=s.x)=true) n=>zli hr2 (by rw [hkk3,e];rfl) hC hc ho hg n
       have hkeep2:=fun (e:decide (r.x=s.x)=false) n=>zlj hr2 (by rw [hkk3,e];rfl) hC hc ho hg n
       generalize decide (r.x=s.x)=eqb at *
       have hw1:IntKind.i64.wrap ((j:Int)+1 - 1)=(j:Int):=by rw [IntWalk.i64_in _ (by omega)];omega
       have hj1:(0:Int)≤(j:Int)+1:=by omega
       have hj2:(j:Int)+1<(L2:Int):=by omega
       have hj3:(0:Int)≤(j:Int):=by omega
       have hj4:(j:Int)<(L2:Int):=by omega
       have hj5:((j:Int)+1).toNat=j+1:=by omega
       have hc1:(c:Int)<(rs.length:Int):=by omega
       have hc0:(0:Int)≤(c:Int):=by omega
       have Heq:=hid heq;have Hskip:=hid hskip;have Hkeep2:=hid hkeep2;have Ho1:=hid ho1
       clear heq hskip hkeep2 hkk2 hkk3 hr2 hmid hkr ho1 ho0 hr hs0 ht ho hg hC hl1 hl0 hL3
       obtain ⟨x1,u1,hu1⟩:=r
       obtain ⟨x0,u0,hu0⟩:=s
       dsimp only at hcm hcp
       generalize t.u=tu at *
       have ho1:=Ho1.out
       dsimp only at ho1
       obtain ⟨a1,c1,rfl⟩:=zc3 ho1
       clear ho1 Ho1
       cases eqb with
       | false =>
        go_wp2
        go_quiet ((go_at_call 24;exact Calls.quiet_of (Heq.out _)))
        clear hw1 hj5
        go_wp2
        go_roundw
        case rel=>exact Hkeep2.out (by first | rfl | trivial) _
        case measure=>simp [zal];omega
       | true =>
        go_wp2
        go_quiet ((go_at_call 24;exact Calls.quiet_of (Heq.out _)))
        clear hw1 hj5
        go_wp2
        go_roundw
        case rel=>exact Hskip.out (by first | rfl | trivial) _
        case measure=>simp [zal];omega
      ·have hmn:k+2+j=rs.length:=by omega
       rw [hmn] at hC ho
       have hjn:¬ (j:Int)+1<(L2:Int):=by omega
       have hcn:c<rs.length:=by omega
       have hcap3:c<cap:=by omega
       have hnil:∀ w,(zeroValue 26).run Tryz.prog w=.ok (.slice none 0 0) w:=fun w=>by kernel_rfl
       have hcl:∀ ty,(Builtin.clear_ #[30] ty #[.slice (some ⟨g,c,none⟩) (rs.length - c) (cap - c)]).run Tryz.prog wr=.ok (.tuple #[]) (wr.setCells g c (List.replicate (rs.length - c) (.slice none 0 0))):=fun ty =>
        Lib.run_clear_slice wr _ _ ty _ Tryz.underlying30 hnil rfl rfl g c _ _ (by omega) (fun t ht=>by
         obtain ⟨r,hr⟩:∃ r,rs[c+t]?=some r:=⟨_,List.getElem?_eq_getElem (by omega)⟩;have:=zkQ ho (by have:=zlf (C:=zkY Rw.x rs rs.length) hr (by omega);rw [hC] at this;exact this);rw [this];rfl) (fun t _=>World.ownsRow.frozenAt ho (c+t))
       have hE9:W.grownBy (wr.setCells g c (List.replicate (rs.length - c) (.slice none 0 0))) (some g):=zkW hg _ _
       have ho9:=zlb (zlc (List.replicate (rs.length - c) (.slice none 0 0)) c ho (by simp;omega)) (Nat.le_of_lt hcn)
       have hrow9:(wr.setCells g c (List.replicate (rs.length - c) (.slice none 0 0))).ownsRow B 26 1 (.slice (some ⟨g,0,none⟩) c cap) c (rwc (zkY Rw.x rs rs.length)):=by
        have e:((rwc (zkY Rw.x rs rs.length++rs.drop c)).take c++List.replicate (rs.length - c) (Value.slice none 0 0)++(rwc (zkY Rw.x rs rs.length++rs.drop c)).drop (c+(List.replicate (rs.length - c) (Value.slice none 0 0)).length)).take c=rwc (zkY Rw.x rs rs.length):=by
         have hl:(rwc (zkY Rw.x rs rs.length)).length=c:=(by rw [zkR,hC]);rw [show rwc (zkY Rw.x rs rs.length++rs.drop c)=rwc (zkY Rw.x rs rs.length)++rwc (rs.drop c) by simp [rwc]];rw [List.append_assoc,List.take_left' (by rw [List.length_take,List.length_append];omega),List.take_left' hl]
        rw [e] at ho9;exact ho9
       have hr9:=zlk (ss:=zkY Rw.x rs rs.length) hE9 Hs.out.1 Hs.out.2 (fun r h=>zla _ _ _ h)
       have HC:=hid hC;have Hrow9:=hid hrow9;have Hr9:=hid hr9;have HE9:=hid hE9
       clear hC hrow9 hr9 hE9 ho9 ho hg hnil hmn hL3
       go_wp2
       go_ret
       exact ⟨_,rfl,⟨by rw [HC.out];exact Hrow9.out,Hr9.out⟩,fun w0 h hB=>h.grown HE9.out fun k hk=>by cases hk;omega⟩
   ·obtain hkn:k+1=rs.length:=by omega
    have hall:zkY Rw.x rs rs.length=rs:=by
     rw [zkZ Rw.x rs rs.length (Nat.le_refl _) (by rw [← hkn];exact Hkeep.out),List.take_length]
    have Hall:=hid hall;have Hkn:=hid hkn;clear hall hkn;have hk1:¬ (k:Int)+1<(rs.length:Int):=(by omega);go_wp2
    go_ret
    exact ⟨_,rfl,by rw [Hall.out];exact Hqu.out.ext.rwM Hs.out,fun w0 h _=>h.trans Hqu.out.ext⟩
end
end Go.Proofs.YtkdgmahilfnnmaaGreatDoor
