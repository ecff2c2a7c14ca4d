/- Walk: epimorphism.plus: a row and a multiple of another one. (KEEPALL) Regions that draw their order: a load is taken first although the last operations of the region store into its cell. (XHeldZ's laws once more, the depth 12 in the place of 4; KEEPALL) Walks: monzo.result, sum, Add, Sub at right intervals with a right sum. (KEEPALL) Plain: sums of sizes; how long their numbers get. Walks: size's zero, Zero, sum, Combine, Sub, Add, Scale. -/
import Derived.Test.YtkdgmahilfnnmaaGreatDoorPc12
import Derived.RegionTactic
import Derived.OrdersHeld
import Derived.StillTail
import Derived.Deep.RegionHeld3
import Derived.Test.YtkdgmahilfnnmaaGreatDoorPc00
import Derived.Deep.AppendLies
import Derived.Test.YtkdgmahilfnnmaaGreatDoorPc08
import Derived.Test.YtkdgmahilfnnmaaGreatDoorPc05
import Derived.Test.YtkdgmahilfnnmaaGreatDoorPc09
set_option maxRecDepth 100000
set_option maxHeartbeats 2000000
namespace Go.Proofs.YtkdgmahilfnnmaaGreatDoor
section
open Go.RowKit Go.Lib
theorem zi3 {w:World}{B g cap:Nat}{o:List Int}(h:zc2 w B (.slice (some ⟨g,0,none⟩) o.length cap) o)(j:Nat)(x:Int) :
  zc2 (w.setCell ⟨g,j,none⟩ (.int .i64 x)) B (.slice (some ⟨g,0,none⟩) o.length cap) (o.set j x):=by
 have:=(World.ownsRow.stored h j (.int .i64 x)).1;unfold zc2;rw [List.length_set];rwa [show (zap o).set j (.int .i64 x)=zap (o.set j x) by simp [zap,List.map_set]] at this
theorem zi4 {w:World}{B g cap:Nat}{o:List Int}(h:zc2 w B (.slice (some ⟨g,0,none⟩) o.length cap) o)(j:Nat)(hj:j<o.length) :
  w.cell? ⟨g,j,none⟩=some (.int .i64 (zas o j)):=by
 rw [World.ownsRow.cellAt h j (by omega),zau hj]
def zi5 (x:List Int)(k:Int)(y:List Int):List Int:=List.zipWith (fun a b=>a+k * b) x y
def zi6 (x:List Int)(k:Int)(y:List Int):Option (List Int):=if (zi5 x k y).any far=true then none else some (zi5 x k y)
def zi7 (x:List Int)(k:Int)(y:List Int)(j:Nat):List Int:=(zi5 x k y).take j++List.replicate (x.length - j) 0
section
variable {x y : List Int} {k : Int} {j : Nat}
theorem zi8 (h:x.length=y.length):(zi5 x k y).length=x.length:=by unfold zi5;rw [List.length_zipWith,← h,Nat.min_self]
theorem zi9 (h:x.length=y.length)(hj:j<x.length):zas (zi5 x k y) j=zas x j+k * zas y j:=by
 unfold zi5 zas;rw [List.getD_eq_getElem?_getD,List.getElem?_zipWith,List.getElem?_eq_getElem hj,List.getElem?_eq_getElem (by omega),List.getD_eq_getElem?_getD,List.getElem?_eq_getElem hj,List.getD_eq_getElem?_getD,List.getElem?_eq_getElem (by omega)];rfl
theorem ziA (h:x.length=y.length)(hj:j≤x.length):(zi7 x k y j).length=x.length:=by
 unfold zi7;rw [List.length_append,List.length_take,List.length_replicate,zi8 h];omega
theorem ziB : zi7 x k y 0=List.replicate x.length 0:=by simp [zi7]
theorem ziC (h:x.length=y.length):zi7 x k y x.length=zi5 x k y:=by
 unfold zi7;rw [List.take_of_length_le (by rw [zi8 h];exact Nat.le_refl _),Nat.sub_self];simp
theorem ziD (h:x.length=y.length)(hj:j<x.length):(zi7 x k y j).set j (zas x j+k * zas y j)=zi7 x k y (j+1):=by
 have hl:=zi8 (k:=k) h;rw [← zi9 (k:=k) h hj];apply List.ext_getElem?;intro i;rw [List.getElem?_set,ziA h (by omega)];unfold zi7;by_cases e:j=i
 ·subst e;rw [if_pos rfl,if_pos hj,List.getElem?_append_left (by rw [List.length_take];omega),List.getElem?_take_of_lt (by omega)];unfold zas;rw [List.getD_eq_getElem?_getD,List.getElem?_eq_getElem (by omega)];rfl
 ·rw [if_neg e];by_cases g:i<j
  ·rw [List.getElem?_append_left (by rw [List.length_take];omega),List.getElem?_append_left (by rw [List.length_take];omega),List.getElem?_take_of_lt g,List.getElem?_take_of_lt (by omega)]
  ·rw [List.getElem?_append_right (by rw [List.length_take];omega),List.getElem?_append_right (by rw [List.length_take];omega),List.getElem?_replicate,List.getElem?_replicate,List.length_take,List.length_take];congr 1;simp only [eq_iff_iff];omega
theorem ziE (h:x.length=y.length)(hj:j<x.length):zas (zi7 x k y (j+1)) j=zas x j+k * zas y j:=by
 rw [← ziD h hj];unfold zas;rw [List.getD_eq_getElem?_getD,List.getElem?_set_self (by rw [ziA h (by omega)];exact hj)];rfl
end
def ziF (B:Nat):Option (List Int)→Ending→World→Prop
 | some o,e,w'=>∃ v,e=.returned (.tuple #[v,.bool true])∧zc2 w' B v o
 | none,e,_=>e=.returned (.tuple #[.slice none 0 0,.bool false])
theorem ziG (vx vy:Value)(x y:List Int)(k:Int)(w:World)(hx:Sl w vx (zap x))(hy:Sl w vy (zap y))(hl:x.length=y.length)(hn:x.length≤1000)(bx:∀ i,i<x.length→-1000000≤zas x i∧zas x i≤1000000)(bp:∀ i,i<x.length→-1000000000000000≤k * zas y i∧k * zas y i≤1000000000000000) :
  Calls Tryz.prog 41 #[vx,.int .i64 k,vy] w fun e w'=>ziF w.heap.size (zi6 x k y) e w'∧Ext w w':=by
 obtain ⟨i0,hi,hz0,hz1,hz2⟩:=info_parts zc1;obtain ⟨ax,cx,rfl,_,_,hcx⟩:=hx.parts;obtain ⟨ay,cy,rfl,_,_,hcy⟩:=hy.parts;rw [zar] at hx hy ⊢;rw [zar,← hl];have hst:=fun j (hj:j<x.length)=>ziD (k:=k) hl hj;have hat:=fun j (hj:j<x.length)=>ziE (k:=k) hl hj;have hto:=fun j (hj:j≤x.length)=>ziA (k:=k) hl hj;have hfu:=ziC (k:=k) hl;have hpl:=zi8 (k:=k) hl;have hpa:=fun j (hj:j<x.length)=>zi9 (k:=k) hl hj;have hyl:y.length=x.length:=hl.symm;have Hcx:=hid hcx;have Hcy:=hid hcy;have Hst:=hid hst;have Hat:=hid hat;have Hto:=hid hto;have Hfu:=hid hfu;have Hpl:=hid hpl;have Hpa:=hid hpa;have Bx:=hid bx;have Bp:=hid bp;have Hyl:=hid hyl;clear hcx hcy hst hat hto hfu hpl hpa bx bp hyl;clear hx hy hl;go_enter Tryz.func41,Tryz.ntmps41
 go_wp2_with (at_make;refine wpList_make_full _ rfl _ _ 26 rfl w.heap.size 3 i0 (.int .i64 0) 1 Tryz.underlying26 hi hz0 hz1 _ _ _ _ x.length rfl rfl rfl rfl (by rw [hz2];omega) (by unfold maxLen;omega) (Nat.le_refl _) ?_;intro w1 hown hgrow)
 have hE1:Ext w w1:=(Ext.refl _).grown hgrow (by simp);have hown1:zc2 w1 w.heap.size (.slice (some ⟨w.heap.size,0,none⟩) x.length x.length) (zi7 x k y 0):=by
  rw [ziB];unfold zc2;rw [List.length_replicate];have e:zap (List.replicate x.length 0)=(madeCells #[Value.int .i64 0] (x.length * 1)).toList:=by
   rw [Nat.mul_one,toList_madeCells_one];simp [zap]
  rw [e];exact hown
 have HE1:=hid hE1;have Hown1:=hid hown1;clear hE1 hown1;clear hown hgrow;go_wp2_with fail
 go_loopw [15] (fun v15 wr=>∃ j:Nat,v15=.int .i64 j∧j≤x.length∧Hid (zc2 wr w.heap.size (.slice (some ⟨w.heap.size,0,none⟩) x.length x.length) (zi7 x k y j))∧Hid (∀ i,i<j→far (zas (zi5 x k y) i)=false)∧Hid (Ext w wr)) (fun v15 _=>x.length - (zal v15).toNat)
 case atStart=>exact ⟨0,rfl,Nat.zero_le _,Hown1,hid (fun i hi=>by omega),HE1⟩
 case round =>
  clear Hown1;obtain ⟨j,rfl,hj,HO,HN,HE⟩:=hrel;by_cases hjn:j<x.length
  ·obtain ⟨bx1,ox,rfl,hcx0⟩:=Hcx.out j _ (zau hjn);obtain ⟨by1,oy,rfl,hcy0⟩:=Hcy.out j _ (zau (by rw [Hyl.out];exact hjn));have hc1:=HE.out.cell hcx0;have hc2:=HE.out.cell hcy0;have hO:zc2 wr w.heap.size (.slice (some ⟨w.heap.size,0,none⟩) (zi7 x k y j).length x.length) (zi7 x k y j):=(by rw [Hto.out j hj];exact HO.out);have hc3:=zi4 hO j (by rw [Hto.out j hj];exact hjn);have hfz:wr.frozen? ⟨w.heap.size,j,none⟩=false:=World.ownsRow.frozenAt hO j;have hset:=zi3 hO j (zas x j+k * zas y j);rw [Hst.out j hjn,Hto.out j hj] at hset;have hs9:=hset;rw [← Hto.out (j+1) hjn] at hs9;have hc9:=zi4 hs9 j (by rw [Hto.out (j+1) hjn];exact hjn);rw [Hat.out j hjn] at hc9;have hEz:Ext w (wr.setCell ⟨w.heap.size,j,none⟩ (.int .i64 (zas x j+k * zas y j))):=HE.out.setCell (Nat.le_refl _) _;obtain ⟨b1,b2⟩:=Bx.out j hjn;obtain ⟨b3,b4⟩:=Bp.out j hjn;have hfa:=Hpa.out j hjn;have hj0:(0:Int)≤(j:Int):=(by omega);have hj1:(j:Int)<(x.length:Int):=(by omega);have Hset:=hid hset;have HEz:=hid hEz;have Hfa:=hid hfa;have Hc9:=hid hc9;clear hset hEz hfa hc9;clear hO hs9 hcx0 hcy0;generalize zas x j=zx at *;generalize zas y j=zy at *;go_wp2_with fail
   go_region
   have h9:=((Ext.refl _).drew).cell Hc9.out;have hS:=((Ext.refl _).drew).ownI Hset.out;have hE9:=HEz.out.drew;have HS:=hid hS;have HE9:=hid hE9;clear hS hE9;generalize hzz:zx+k * zy=z at *;have h3:(1000<z)∨(¬ 1000<z∧z < -1000)∨(¬ 1000<z∧¬ z < -1000):=(by omega);clear hc1 hc2 hc3 hfz hzz b1 b2 b3 b4;rcases h3 with g | ⟨g,g2⟩ | ⟨g,g2⟩
   ·have hd:decide (z > 1000)=true:=decide_eq_true g;have hnone:zi6 x k y=none:=by
     unfold zi6;rw [if_pos (zgk (k:=j) (by rw [Hpl.out];exact hjn) (by rw [Hfa.out];exact zgh g))]
    have Hnone:=hid hnone;clear hnone;go_wp2
    go_ret2
    exact ⟨by rw [Hnone.out] <;> rfl,HE9.out⟩
   ·have hd:decide (z > 1000)=false:=decide_eq_false g;have hd2:decide (z < -1000)=true:=decide_eq_true g2;have hnone:zi6 x k y=none:=by
     unfold zi6;rw [if_pos (zgk (k:=j) (by rw [Hpl.out];exact hjn) (by rw [Hfa.out];exact zgi g2))]
    have Hnone:=hid hnone;clear hnone;go_wp2
    go_ret2
    exact ⟨by rw [Hnone.out] <;> rfl,HE9.out⟩
   ·have hd:decide (z > 1000)=false:=decide_eq_false g;have hd2:decide (z < -1000)=false:=decide_eq_false g2;have hnf:=zgj g g2;have Hnf:=hid hnf;clear hnf;go_wp2
    go_roundw
    case rel =>
     refine ⟨j+1,by go_num,hjn,HS,hid (fun i hi=>?_),HE9⟩;rcases Nat.lt_or_ge i j with q | q
     ·exact HN.out i q
     ·obtain rfl:i=j:=by omega
      rw [Hfa.out];exact Hnf.out
    case measure=>simp [zal];omega
  ·have hjl:j=x.length:=(by omega);have hnj:¬ (j:Int)<(x.length:Int):=(by omega);have hO:=HO.out;rw [hjl,Hfu.out] at hO;have hsome:zi6 x k y=some (zi5 x k y):=by
    unfold zi6;rw [if_neg];rw [zgl (fun i hi=>HN.out i (by rw [Hpl.out] at hi;omega))];exact Bool.false_ne_true
   have hO9:zc2 wr w.heap.size (.slice (some ⟨w.heap.size,0,none⟩) x.length x.length) (zi5 x k y):=hO;have HO9:=hid hO9;have Hsome:=hid hsome;clear hO9 hsome;clear hO hjl;go_wp2
   go_ret2
   exact ⟨by rw [Hsome.out];exact ⟨_,rfl,HO9.out⟩,HE.out⟩
end
section
section
variable {P : Program} {ops : Array Oper} {Q : Exit → Act → World → Prop} {md : Region.Mode} {S : World → Prop} {z : Nat}
def ziH (P:Program)(md:Region.Mode)(ops:Array Oper)(Q:Exit→Act→World→Prop)(S:World→Prop)(z:Nat):Nat→Array Bool→Act→World→Prop
 | 0,ls,a,w=>Region.ready md ops ls=[]∧Q .normal a w
 | f+1,ls,a,w=>(Region.ready md ops ls=[]→Q .normal a w)∧∀ i∈Region.ready md ops ls,wpOp P ops Q i (fun a' w'=>(i<z→S w')∧ziH P md ops Q S z f (ls.setIfInBounds i true) a' w') a w
theorem ziH.any : ∀ {f:Nat}{ls:Array Bool}{a:Act}{w:World},ziH P md ops Q S z f ls a w→wpAny P md ops Q f ls a w
 | 0,_,_,_,h=>h
 | _+1,_,_,_,h=>⟨h.1,fun i hi=>wpOp_mono (fun _ _ g=>ziH.any g.2) (h.2 i hi)⟩
def wBV (md:Region.Mode)(ops:Array Oper):Nat→Nat→Nat→Bool
 | 0,j,i=>Region.waitsFor md ops j i
 | f+1,j,i=>Region.waitsFor md ops j i || (List.range ops.size).any fun k=>Region.waitsFor md ops j k && wBV md ops f k i
def zBV (md:Region.Mode)(ops:Array Oper)(z i:Nat):Bool:=(List.range ops.size).all fun j=>decide (j<z) || wBV md ops 12 j i
def ziI (md:Region.Mode)(ops:Array Oper)(ls:Array Bool):Prop:=∀ j oj,ops[j]?=some oj→ls.getD j false=true→∀ e∈oj.after,Region.binds md e=true→ls.getD e.on false=true
def ziJ (md:Region.Mode)(ops:Array Oper)(ls:Array Bool):Bool:=(List.range ops.size).all fun j=>match ops[j]? with | some oj=>!ls.getD j false || oj.after.all fun e=>!Region.binds md e || ls.getD e.on false | none=>true
theorem ziK {ls:Array Bool}(h:ziJ md ops ls=true):ziI md ops ls:=fun j oj hj hl e he hb=>by
 have h1:=List.all_eq_true.1 h j (List.mem_range.2 (Array.getElem?_eq_some_iff.1 hj).1);rw [hj] at h1;simp only [hl,Bool.not_true,Bool.false_or] at h1;have h2:=Array.all_eq_true'.1 h1 e he;simpa [hb] using h2
theorem ziL {i:Nat}{ls:Array Bool}(h:ziI md ops ls)(hi:i∈Region.ready md ops ls):ziI md ops (ls.setIfInBounds i true):=fun j oj hj hl e he hb=>by
 obtain ⟨_,oi,hoi,hall⟩:=mem_ready.1 hi;by_cases q:i=j
 ·subst q;obtain rfl:oj=oi:=Option.some.inj (hj.symm.trans hoi);exact getD_set_true (hall e he hb)
 ·rw [getD_set_ne false q] at hl;exact getD_set_true (h j oj hj hl e he hb)
theorem ziM {i:Nat}{ls:Array Bool}(hc:ziI md ops ls)(hun:ls.getD i true=false):∀ (f j:Nat)(oj:Oper),wBV md ops f j i=true→ops[j]?=some oj→(∀ e∈oj.after,Region.binds md e=true→ls.getD e.on false=true)→False
 | f,j,oj,h,hj,hall=>by
  have one:∀ k,Region.waitsFor md ops j k=true→ls.getD k false=true:=fun k hk=>by
   obtain ⟨o,ho,e,he,hb,hon⟩:=Region.waitsFor_spec hk;obtain rfl:o=oj:=Option.some.inj (ho.symm.trans hj);rw [← hon];exact hall e he hb
  have dir:Region.waitsFor md ops j i=true→False:=fun hk=>by
   have:=one i hk;rw [getD_both hun] at this
   cases this
  match f,h with
  | 0,h=>exact dir h
  | f+1,h =>
   unfold wBV at h
   rw [Bool.or_eq_true] at h
   rcases h with h | h
   ·exact dir h
   ·obtain ⟨k,hk,h2⟩:=List.any_eq_true.1 h
    rw [Bool.and_eq_true] at h2
    obtain ⟨ok,hok⟩:∃ ok,ops[k]?=some ok:=⟨_,Array.getElem?_eq_getElem (List.mem_range.1 hk)⟩
    exact ziM hc hun f k ok h2.2 hok (hc k ok hok (one k h2.1))
theorem ziN {i j:Nat}{oj:Oper}{ls:Array Bool}(hz:zBV md ops z i=true)(hc:ziI md ops ls)(hj:ops[j]?=some oj)(hall:∀ e∈oj.after,Region.binds md e=true→ls.getD e.on false=true)(hun:ls.getD i true=false):j<z:=by
 have h1:=List.all_eq_true.1 hz j (List.mem_range.2 (Array.getElem?_eq_some_iff.1 hj).1);rw [Bool.or_eq_true,decide_eq_true_eq] at h1;rcases h1 with h1 | h1
 ·exact h1
 ·exact (ziM hc hun 12 j oj h1 hj hall).elim
theorem ziO {i:Nat}{oi:Oper}{v:Value}(hi:ops[i]?=some oi)(hs:Region.noSelect ops=true)(hz:zBV md ops z i=true)(hQ:∀ c a w,Q (.panic c) (a.put oi.dst v) w→Q (.panic c) a w) :
  ∀ (f:Nat)(ls:Array Bool)(a:Act)(w:World),(∀ j oj,ops[j]?=some oj→j ≠ i→ls.getD j true=false→(∀ e∈oj.after,Region.binds md e=true→e.on ≠ i)→oi.apart ops oj=true)→ziI md ops ls →
   i∈Region.ready md ops ls→YieldsIf P ops S oi v a→S w→ziH P md ops Q S z f (ls.setIfInBounds i true) (a.put oi.dst v) w→ziH P md ops Q S z (f+1) ls a w:=by
 have hsel:=Region.noSelect_spec hs;intro f;induction f with
 | zero =>
  intro ls a w _ _ hr hy hS h
  refine ⟨fun e=>absurd hr (by rw [e];exact fun k=>by cases k),fun j hj=>?_⟩
  by_cases e:j=i
  ·rw [e]
   exact hy.wpOp hi hS ⟨fun _=>hS,h⟩
  ·have g:=ready_mono hj e
   rw [h.1] at g
   cases g
 | succ f ih =>
  intro ls a w hap hc hr hy hS h
  refine ⟨fun e=>absurd hr (by rw [e];exact fun k=>by cases k),fun j hj=>?_⟩
  by_cases e:j=i
  ·rw [e]
   exact hy.wpOp hi hS ⟨fun _=>hS,h⟩
  ·obtain ⟨hju,oj,hoj,hall⟩:=mem_ready.1 hj
   have hiu:=(mem_ready.1 hr).1
   have hjz:=ziN hz hc hoj hall hiu
   have hno:∀ e∈oj.after,Region.binds md e=true→e.on ≠ i:=fun e he hb k=>by
    have:=hall e he hb;rw [k,getD_both hiu] at this
    cases this
   have h2:=wpOp_putIf hoj (hap j oj hoj e hju hno) (fun cs b=>hsel i oi cs b hi) (fun cs b=>hsel j oj cs b hoj) hQ hy (h.2 j (ready_mono hj e))
   refine wpOp_mono (fun a' w' g=>⟨fun _=>g.2.1 hjz,ih (ls.setIfInBounds j true) a' w' (fun k ok hk hki hku hkn=>?_) (ziL hc hj) (ready_mono hr (Ne.symm e)) g.1 (g.2.1 hjz) ?_⟩) h2
   ·refine hap k ok hk hki ?_ hkn
    by_cases q:j=k
    ·rw [← q];exact hju
    ·rw [getD_set_ne true q] at hku;exact hku
   ·rw [Array.setIfInBounds_comm _ _ e]
    exact g.2.2
theorem ziP {i:Nat}{oi:Oper}{v:Value}{f:Nat}{ls:Array Bool}{a:Act}{w:World}(hi:ops[i]?=some oi)(hs:Region.noSelect ops=true)(hf:Region.free md ops ls i=true)(hr:(Region.ready md ops ls).contains i=true)(hz:(zBV md ops z i && ziJ md ops ls)=true)
  (hQ:∀ c a w,Q (.panic c) (a.put oi.dst v) w→Q (.panic c) a w) (hy:YieldsIf P ops S oi v a) (hS:S w) (h:ziH P md ops Q S z f (ls.setIfInBounds i true) (a.put oi.dst v) w):ziH P md ops Q S z (f+1) ls a w :=
 ziO hi hs (Bool.and_eq_true _ _ ▸ hz).1 hQ f ls a w (Region.free_spec hi hf) (ziK (Bool.and_eq_true _ _ ▸ hz).2) (by simpa using hr) hy hS h
theorem ziQ {i:Nat}{o:Oper}{f:Nat}{ls:Array Bool}{a:Act}{w:World}(hr:Region.ready md ops ls=[i])(ho:ops[i]?=some o)
  (h:∀ K:Act→World→Prop,Shut (∀ a w,S w→(S w→ziH P md ops Q S z f (ls.setIfInBounds i true) a w)→K a w)→if Region.wanted o (yielded ops a.tmps)=true then Oper.wp P o a w K Q else K (a.put o.dst undef) w):ziH P md ops Q S z (f+1) ls a w:=by
 refine ⟨fun e=>(by rw [hr] at e;cases e),fun j hj=>?_⟩;rw [hr,List.mem_singleton] at hj;subst hj;exact wpOp_step ho fun K hK=>h K fun a w hS g=>hK a w ⟨fun _=>hS,g hS⟩
theorem ziR {i:Nat}{o:Oper}{f:Nat}{ls:Array Bool}{a:Act}{w:World}(hr:Region.ready md ops ls=[i])(hz:z≤i)(ho:ops[i]?=some o)
  (h:∀ K:Act→World→Prop,Shut (∀ a w,ziH P md ops Q S z f (ls.setIfInBounds i true) a w→K a w)→if Region.wanted o (yielded ops a.tmps)=true then Oper.wp P o a w K Q else K (a.put o.dst undef) w):ziH P md ops Q S z (f+1) ls a w:=by
 refine ⟨fun e=>(by rw [hr] at e;cases e),fun j hj=>?_⟩;rw [hr,List.mem_singleton] at hj;subst hj;exact wpOp_step ho fun K hK=>h K fun a w g=>hK a w ⟨fun k=>absurd k (by omega),g⟩
theorem ziS {f:Nat}{ls:Array Bool}{a:Act}{w:World}(hr:Region.ready md ops ls=[])(h:Q .normal a w):ziH P md ops Q S z f ls a w:=by
 cases f with
 | zero=>exact ⟨hr,h⟩
 | succ f=>exact ⟨fun _=>h,fun i hi=>by rw [hr] at hi;cases hi⟩
theorem ziT {id:Nat}{a:Act}{w:World}(z:Nat)(S:World→Prop)(hm:P.follows .mixedOrders=true)(hS:S w.drew)(h:S w.drew→ziH P .any ops Q S z ops.size (Array.replicate ops.size false) a w.drew):(Code.region id ops true).wp P Q a w :=
 wp_region_any hm (ziH.any (h hS))
end
end
section
open Go.RowKit Go.Lib Go.Shelf
theorem ziU (w:World)(vx:Value)(x:List Int)(hx:Sl w vx (zap x)):Mat (w.alloc (.cells #[vx] 26)) (.slice (some ⟨w.heap.size,0,none⟩) 1 1) [x]:=by
 have hext:Ext w (w.alloc (.cells #[vx] 26)):=(Ext.refl w).alloc _;refine ⟨[vx],rfl,.inr ⟨w.heap.size,0,1,rfl,Nat.le_refl _,by unfold maxLen;omega,?_⟩,?_⟩
 ·intro i u hu;match i,hu with
  | 0,hu=>simp at hu;subst hu;rw [World.cell?_alloc_new];rfl
  | i+1,hu=>simp at hu
 ·intro i u hu;match i,hu with
  | 0,hu=>simp at hu;subst hu;exact hext.sl hx
  | i+1,hu=>simp at hu
theorem ziV (vp vx:Value)(p x:List Int)(w:World)(hp:Sl w vp (zap p))(hx:Sl w vx (zap x))(hlp:p.length≤1000000)(hlx:x.length≤1000000)(h0:zgo p x=0) :
  Calls Tryz.prog 162 #[vp,vx] w fun e w'=>e=.returned (.tuple #[vx,.int .i64 0])∧Ext w w':=by
 have hext:Ext w (w.alloc (.cells #[vx] 26)):=(Ext.refl w).alloc _;have hc:=zgn vp (.slice (some ⟨w.heap.size,0,none⟩) 1 1) p [x] _ (hext.sl hp) (ziU w vx x hx) hlp (by simp) (fun i=>by match i with | 0=>simpa using hlx | i+1=>simp)
 have he:zgg p [x]=0:=h0;rw [he] at hc;have Hc:=hid hc;clear hc he h0;have Hext:=hid hext;clear hext;obtain ⟨ap,cp,rfl,_,_,_⟩:=hp.parts;obtain ⟨ax,cx,rfl,_,_,_⟩:=hx.parts;clear hp hx;go_enter Tryz.func162,Tryz.ntmps162
 go_wp2_with fail
 refine Hc.out.mono ?_;rintro e w1 ⟨rfl,rfl⟩;go_wp2
 go_ret2
 exact ⟨rfl,Hext.out⟩
theorem ziW {x:List Int}{j:Nat}(h:j<x.length):zap (x.take (j+1))=zap (x.take j)++[.int .i64 (zas x j)]:=by
 unfold zap zas;rw [List.take_succ_eq_append_getElem h,List.map_append,List.getD_eq_getElem?_getD,List.getElem?_eq_getElem h];rfl
theorem ziX (vp vx vy:Value)(p x y:List Int)(k:Int)(w:World)(hp:Sl w vp (zap p))(hx:Sl w vx (zap x))(hy:Sl w vy (zap y))(hxe:zgo p x=0)(hye:zgo p y=0)(hk:k=1∨k=-1)(hse:zgo p (zi5 x k y)=0) :
  Calls Tryz.prog 121 #[vp,vx,vy,.int .i64 k] w fun e w'=>∃ v,e=.returned (.tuple #[v,.int .i64 0])∧zc2 w' w.heap.size v (zi5 x k y)∧Ext w w':=by
 obtain ⟨i0,hi,hz0,hz1,hz2⟩:=info_parts zc1;obtain ⟨hpe,hre⟩:=zg1 hxe;obtain ⟨hxl,hxb⟩:=zg0 hre;obtain ⟨hyl,hyb⟩:=zg0 (zg1 hye).2;obtain ⟨hp0,hp6,_⟩:=zc0 hpe;have hext:Ext w (w.alloc (.cells #[vx,vy] 26)):=(Ext.refl w).alloc _;have hc:=zgn vp (.slice (some ⟨w.heap.size,0,none⟩) 2 2) p [x,y] _ (hext.sl hp) (zh6 w vx vy x y hx hy) (by omega) (by simp) (fun i=>by match i with | 0=>simp;omega | 1=>simp;omega | i+2=>simp)
 have he0:zgg p [x,y]=0:=zh4 hxe hye;rw [he0] at hc;have hpl:=zi8 (k:=k) (show x.length=y.length by omega);have hrs:=fun v W (hE:Ext w W)(hv:Sl W v (zap (zi5 x k y)))=>ziV vp v p (zi5 x k y) W (hE.sl hp) hv (by omega) (by omega) hse;have hat:=fun j (hj:j<x.length)=>zi9 (k:=k) (show x.length=y.length by omega) hj;have hsn:=fun j (hj:j<x.length)=>ziW (x:=zi5 x k y) (j:=j) (by rw [hpl];exact hj);obtain ⟨ap,cp,rfl,_,_,_⟩:=hp.parts;obtain ⟨ax,cx,rfl,_,_,hcx⟩:=hx.parts;obtain ⟨ay,cy,rfl,_,_,hcy⟩:=hy.parts;simp only [zar] at *;have hyx:y.length=x.length:=by omega
 have hx9:x.length≤1000:=by omega
 rw [hyx] at hc hext ⊢;have Hc:=hid hc;have Hext:=hid hext;have Hpl:=hid hpl;have Hrs:=hid hrs;have Hat:=hid hat;have Hsn:=hid hsn;have Hcx:=hid hcx;have Hcy:=hid hcy;have Hxb:=hid hxb;have Hyb:=hid hyb;have Hyx:=hid hyx;clear hc hext hpl hrs hat hsn hcx hcy hxb hyb hyx;clear hp hx hy hxe hye hse hpe hre hxl hyl hp0 hp6 he0;go_enter Tryz.func121,Tryz.ntmps121
 go_wp2_with fail
 refine Hc.out.mono ?_;rintro e w1 ⟨rfl,rfl⟩;go_wp2_with fail
 generalize w.alloc (.cells #[.slice ax x.length cx,.slice ay x.length cy] 26)=w1 at *;go_loopw [11,23] (fun v11 v23 wr=>∃ j:Nat,v23=.int .i64 j∧j≤x.length∧Hid (wr.ownsRow w.heap.size 3 1 v11 j (zap ((zi5 x k y).take j)))∧Hid (Ext w wr)) (fun _ v23 _=>x.length - (zal v23).toNat)
 case atStart=>exact ⟨0,rfl,Nat.zero_le _,hid (World.ownsRow_nil _ _ _ 1),Hext⟩
 case round =>
  obtain ⟨j,rfl,hj,HO,HE⟩:=hrel;obtain ⟨a11,c11,e11⟩:=zc3 HO.out;subst e11;by_cases hjn:j<x.length
  ·obtain ⟨bx1,ox,rfl,hcx0⟩:=Hcx.out j _ (zau hjn);obtain ⟨by1,oy,rfl,hcy0⟩:=Hcy.out j _ (zau (by rw [Hyx.out];exact hjn));have hc1:=HE.out.cell hcx0;have hc2:=HE.out.cell hcy0;obtain ⟨b1,b2⟩:=Hxb.out j hjn;obtain ⟨b3,b4⟩:=Hyb.out j (by rw [Hyx.out];exact hjn);have hs:=Hsn.out j hjn;rw [Hat.out j hjn] at hs;have hj0:(0:Int)≤(j:Int):=(by omega);have hj1:(j:Int)<(x.length:Int):=(by omega);have hk1:-1000≤k * zas y j:=by rcases hk with rfl | rfl <;> omega
   have hk2:k * zas y j≤1000:=by rcases hk with rfl | rfl <;> omega
   have Hs:=hid hs;clear hs;generalize zas x j=zx at *;generalize zas y j=zy at *;have hm3:j+1≤maxLen:=(by unfold maxLen;omega);have hm4:(j+1) * 8≤140737488355328:=(by omega);have hbase:=HE.out.size;have hkz:IntKind.i64.wrap (k * zy)=k * zy:=(by rw [IntKind.wrap_i64];omega);have hzz:IntKind.i64.wrap (zx+k * zy)=zx+k * zy:=(by rw [IntKind.wrap_i64];omega);go_wp2_with fail
   refine ziT 15 (fun w'=>Ext w w'∧w'.cell? ⟨bx1,ox+j,none⟩=some (.int .i64 zx)∧w'.cell? ⟨by1,oy+j,none⟩=some (.int .i64 zy)) (by kernel_rfl) (⟨HE.out.drew,HE.out.drew.cell hcx0,HE.out.drew.cell hcy0⟩) (fun hHeld=>?_);refine ziP (i:=0) (v:=?v0) rfl (by kernel_rfl) (by kernel_rfl) (by kernel_rfl) (by kernel_rfl) (fun _ _ _ h=>h) (Or.inl ⟨by rfl,?y0⟩) hHeld ?r0
   case y0=>(intro w hSw;(try dsimp only at hSw);go_simp;try with_reducible rfl)
   case r0 =>
   refine ziP (i:=1) (v:=?v1) rfl (by kernel_rfl) (by kernel_rfl) (by kernel_rfl) (by kernel_rfl) (fun _ _ _ h=>h) (Or.inl ⟨by rfl,?y1⟩) hHeld ?r1
   case y1=>(intro w hSw;(try dsimp only at hSw);go_simp;try with_reducible rfl)
   case r1 =>
   refine ziP (i:=2) (v:=?v2) rfl (by kernel_rfl) (by kernel_rfl) (by kernel_rfl) (by kernel_rfl) (fun _ _ _ h=>h) (Or.inl ⟨by rfl,?y2⟩) hHeld ?r2
   case y2=>(intro w hSw;(try dsimp only at hSw);go_simp;try with_reducible rfl)
   case r2 =>
   refine ziP (i:=3) (v:=?v3) rfl (by kernel_rfl) (by kernel_rfl) (by kernel_rfl) (by kernel_rfl) (fun _ _ _ h=>h) (Or.inl ⟨by rfl,?y3⟩) hHeld ?r3
   case y3=>(intro w hSw;(try dsimp only at hSw);go_simp;try with_reducible rfl)
   case r3 =>
   refine ziP (i:=4) (v:=?v4) rfl (by kernel_rfl) (by kernel_rfl) (by kernel_rfl) (by kernel_rfl) (fun _ _ _ h=>h) (Or.inl ⟨by rfl,?y4⟩) hHeld ?r4
   case y4=>(intro w hSw;(try dsimp only at hSw);go_simp;try with_reducible rfl)
   case r4 =>
   refine ziP (i:=5) (v:=?v5) rfl (by kernel_rfl) (by kernel_rfl) (by kernel_rfl) (by kernel_rfl) (fun _ _ _ h=>h) (Or.inl ⟨by rfl,?y5⟩) hHeld ?r5
   case y5=>(intro w hSw;(try dsimp only at hSw);go_simp;try with_reducible rfl)
   case r5 =>
   refine ziP (i:=6) (v:=?v6) rfl (by kernel_rfl) (by kernel_rfl) (by kernel_rfl) (by kernel_rfl) (fun _ _ _ h=>h) (Or.inl ⟨by rfl,?y6⟩) hHeld ?r6
   case y6=>(intro w hSw;(try dsimp only at hSw);go_simp;try with_reducible rfl)
   case r6 =>
   refine ziP (i:=7) (v:=?v7) rfl (by kernel_rfl) (by kernel_rfl) (by kernel_rfl) (by kernel_rfl) (fun _ _ _ h=>h) (Or.inl ⟨by rfl,?y7⟩) hHeld ?r7
   case y7=>(intro w hSw;(try dsimp only at hSw);go_simp;try with_reducible rfl)
   case r7 =>
   refine ziP (i:=8) (v:=?v8) rfl (by kernel_rfl) (by kernel_rfl) (by kernel_rfl) (by kernel_rfl) (fun _ _ _ h=>h) (Or.inl ⟨by rfl,?y8⟩) hHeld ?r8
   case y8=>(intro w hSw;(try dsimp only at hSw);go_simp;try with_reducible rfl)
   case r8 =>
   refine ziP (i:=9) (v:=?v9) rfl (by kernel_rfl) (by kernel_rfl) (by kernel_rfl) (by kernel_rfl) (fun _ _ _ h=>h) (Or.inl ⟨by rfl,?y9⟩) hHeld ?r9
   case y9=>(intro w hSw;(try dsimp only at hSw);go_simp;try with_reducible rfl)
   case r9 =>
   refine ziP (i:=10) (v:=?v10) rfl (by kernel_rfl) (by kernel_rfl) (by kernel_rfl) (by kernel_rfl) (fun _ _ _ h=>h) (Or.inl ⟨by rfl,?y10⟩) hHeld ?r10
   case y10=>(intro w hSw;(try dsimp only at hSw);go_simp;try with_reducible rfl)
   case r10 =>
   refine ziP (i:=11) (v:=?v11) rfl (by kernel_rfl) (by kernel_rfl) (by kernel_rfl) (by kernel_rfl) (fun _ _ _ h=>h) (Or.inl ⟨by rfl,?y11⟩) hHeld ?r11
   case y11=>(intro w hSw;(try dsimp only at hSw);go_simp;try with_reducible rfl)
   case r11 =>
   refine ziQ (i:=12) (by kernel_rfl) rfl (fun K hK=>?_);go_simp
   have hE5:Ext w (wr.alloc (.cells #[.int .i64 (zx+k * zy)] 3)).drew:=(HE.out.alloc _).drew;have ho5:=(HO.out.alloc (.cells #[.int .i64 (zx+k * zy)] 3)).drew;refine hK.out _ _ (⟨hE5,hE5.cell hcx0,hE5.cell hcy0⟩) (fun hHeld=>?_);clear hK K;refine ziQ (i:=13) (by kernel_rfl) rfl (fun K hK=>?_);refine step_append_lies _ rfl (.tmp 26) (.tmp 38) 26 rfl w.heap.size 3 i0 (.int .i64 0) 1 8 Tryz.underlying26 hi hz0 hz1 hz2 rfl (by decide) (.slice a11 j c11) j (zap ((zi5 x k y).take j)) (by rfl) ho5 ⟨wr.heap.size,0,none⟩ 1 1 [.int .i64 (zx+k * zy)] (by rfl) rfl (fun q u hu=>(Ext.refl _).drew.cell (cell_one_new wr _ _ q u hu)) (by simp [Value.oneCell']) (by decide) hm3 hm4 hE5.size _ rfl ?_;intro g1 c1 V1 hown2 hgrow2 hat2 hlt2;have HX:=hid (hE5.grown hgrow2 fun q hq=>(World.ownsRow.lt ho5 q hq).1);clear hat2 hlt2 hgrow2 hE5 ho5;refine hK.out _ _ (⟨HX.out,HX.out.cell hcx0,HX.out.cell hcy0⟩) (fun hHeld=>?_);clear hK K;refine ziP (i:=14) (v:=?v14) rfl (by kernel_rfl) (by kernel_rfl) (by kernel_rfl) (by kernel_rfl) (fun _ _ _ h=>h) (Or.inl ⟨by rfl,?y14⟩) hHeld ?r14
   case y14=>(intro w hSw;(try dsimp only at hSw);go_simp;try with_reducible rfl)
   case r14 =>
   refine ziS (by kernel_rfl) ?_;have Hs7:=hid (show V1.ownsRow w.heap.size 3 1 (.slice (some ⟨g1,0,none⟩) (j+1) c1) (j+1) (zap ((zi5 x k y).take (j+1))) by rw [Hs.out];exact hown2);have HE7:=HX;clear hown2 hc1 hc2 hm3 hm4 hbase hcx0 hcy0;go_wp2_with fail
   go_roundw
   case rel=>exact ⟨j+1,by go_num,hjn,Hs7,HE7⟩
   case measure=>simp [zal];omega
  ·have hjl:j=x.length:=(by omega);have hnj:¬ (j:Int)<(x.length:Int):=(by omega);have hO:=HO.out;rw [hjl,List.take_of_length_le (by rw [Hpl.out];exact Nat.le_refl _)] at hO;have hO9:zc2 wr w.heap.size (.slice a11 x.length c11) (zi5 x k y):=by
    unfold zc2;rw [Hpl.out];exact hO
   have hr9:=Hrs.out (.slice a11 x.length c11) wr HE.out hO9.sl;have HO9:=hid hO9;have Hr9:=hid hr9;clear hO9 hr9;subst hjl;clear hO;go_wp2_with fail
   refine Hr9.out.mono ?_;rintro e w9 ⟨rfl,hx9⟩;have HO10:=hid (hx9.ownI HO9.out);have HE10:=hid (HE.out.trans hx9);clear hx9;go_wp2
   go_ret2
   exact ⟨_,rfl,HO10.out,HE10.out⟩
theorem ziY (vp vx vy:Value)(p x y:List Int)(w:World)(hp:Sl w vp (zap p))(hx:Sl w vx (zap x))(hy:Sl w vy (zap y))(hxe:zgo p x=0)(hye:zgo p y=0)(hse:zgo p (zi5 x 1 y)=0) :
  Calls Tryz.prog 85 #[vp,vx,vy] w fun e w'=>∃ v,e=.returned (.tuple #[v,.int .i64 0])∧zc2 w' w.heap.size v (zi5 x 1 y)∧Ext w w':=by
 have hs:=ziX vp vx vy p x y 1 w hp hx hy hxe hye (.inl rfl) hse;obtain ⟨ap,cp,rfl,_,_,_⟩:=hp.parts;obtain ⟨ax,cx,rfl,_,_,_⟩:=hx.parts;obtain ⟨ay,cy,rfl,_,_,_⟩:=hy.parts;have Hs:=hid hs;clear hs;clear hp hx hy hxe hye hse;go_enter Tryz.func85,Tryz.ntmps85
 go_wp2_with fail
 refine Hs.out.mono ?_;rintro e w9 ⟨v,rfl,ho,hx9⟩;have Ho:=hid ho;have Hx9:=hid hx9;obtain ⟨av,cv,ev⟩:=zc3 ho;subst ev;clear ho hx9;go_wp2
 go_ret2
 exact ⟨_,rfl,Ho.out,Hx9.out⟩
theorem ziZ (vp vx vy:Value)(p x y:List Int)(w:World)(hp:Sl w vp (zap p))(hx:Sl w vx (zap x))(hy:Sl w vy (zap y))(hxe:zgo p x=0)(hye:zgo p y=0)(hse:zgo p (zi5 x (-1) y)=0) :
  Calls Tryz.prog 86 #[vp,vx,vy] w fun e w'=>∃ v,e=.returned (.tuple #[v,.int .i64 0])∧zc2 w' w.heap.size v (zi5 x (-1) y)∧Ext w w':=by
 have hs:=ziX vp vx vy p x y (-1) w hp hx hy hxe hye (.inr rfl) hse;obtain ⟨ap,cp,rfl,_,_,_⟩:=hp.parts;obtain ⟨ax,cx,rfl,_,_,_⟩:=hx.parts;obtain ⟨ay,cy,rfl,_,_,_⟩:=hy.parts;have Hs:=hid hs;clear hs;clear hp hx hy hxe hye hse;go_enter Tryz.func86,Tryz.ntmps86
 go_wp2_with fail
 refine Hs.out.mono ?_;rintro e w9 ⟨v,rfl,ho,hx9⟩;have Ho:=hid ho;have Hx9:=hid hx9;obtain ⟨av,cv,ev⟩:=zc3 ho;subst ev;clear ho hx9;go_wp2
 go_ret2
 exact ⟨_,rfl,Ho.out,Hx9.out⟩
end
section
open Go.RowKit Go.Lib
theorem zja {n:Int}{d k l:Nat}(hd:0<d)(hn:nDigits n.natAbs≤k)(h2:nDigits d≤l):nDigits (mkRat n d).num.natAbs≤k∧nDigits (mkRat n d).den≤l:=by
 constructor
 ·refine Nat.le_trans (Dec.nDigits_mono ?_) hn;rw [zdF n d (by omega),Int.natAbs_tdiv];exact Nat.div_le_self _ _
 ·refine Nat.le_trans (Dec.nDigits_mono ?_) h2;rw [Rat.den_mkRat,if_neg (by omega)];exact Nat.div_le_self _ _
theorem zjb {k l:Nat}{a b:Rat}(ha:Ft k a)(hb:Ft l b):Ft (k+l) (a * b):=by
 unfold Ft;rw [Rat.mul_def'];refine zja (Nat.mul_pos a.den_pos b.den_pos) ?_ ?_
 ·rw [Int.natAbs_mul];exact Nat.le_trans (zbD _ _) (Nat.add_le_add ha.1 hb.1)
 ·exact Nat.le_trans (zbD _ _) (Nat.add_le_add ha.2 hb.2)
theorem zjc : Ft 1 (0:Rat):=⟨Dec.nDigits_le (by omega) (by decide),Dec.nDigits_le (by omega) (by decide)⟩
theorem zjd {x:List Rat}{k:Nat}(hk:k<x.length)(r:Rat):((rcs x).set (k * 2) (.string (I r.num))).set (k * 2+1) (.string (I (r.den:Int)))=rcs (x.set k r):=by
 induction x generalizing k with
 | nil=>simp at hk
 | cons s x ih =>
  rw [zeX]
  cases k with
  | zero=>simp [zeX]
  | succ k =>
   have:=ih (k:=k) (by simpa using hk)
   rw [show (k+1) * 2=k * 2+1+1 by omega,List.set_cons_succ,List.set_cons_succ,List.set_cons_succ,List.set_cons_succ,List.set_cons_succ,this,zeX]
def zje (w:World)(B g n:Nat)(x:List Rat):Prop:=∃ xs:List Value,w.ownsRow B 109 2 (.slice (some ⟨g,0,none⟩) n n) n xs∧xs.take (2 * x.length)=rcs x
theorem zje.ext {w w':World}(h:Ext w w'){B g n:Nat}{x:List Rat}(k:zje w B g n x):zje w' B g n x:=by
 obtain ⟨xs,h1,h2⟩:=k;exact ⟨xs,h.own h1,h2⟩
theorem zje.more {w:World}{B g n:Nat}{x:List Rat}(k:zje w B g n x)(hx:x.length<n)(r:Rat):zje ((w.setCell ⟨g,x.length * 2,none⟩ (.string (I r.num))).setCell ⟨g,x.length * 2+1,none⟩ (.string (I (r.den:Int)))) B g n (x++[r]):=by
 obtain ⟨xs,h1,h2⟩:=k;have hl:xs.length=n * 2:=h1.1;refine ⟨_,((h1.stored (x.length * 2) (.string (I r.num))).1.stored (x.length * 2+1) (.string (I (r.den:Int)))).1,?_⟩;rw [List.length_append,List.length_singleton,zeZ,← h2];apply List.ext_getElem?;intro i;rw [List.getElem?_take];by_cases hi:i<2 * x.length
 ·rw [if_pos (by omega),List.getElem?_append_left (by rw [List.length_take];omega),List.getElem?_set_ne (by omega),List.getElem?_set_ne (by omega),List.getElem?_take,if_pos hi]
 ·rcases (by omega:i=2 * x.length∨i=2 * x.length+1∨2 * x.length+2≤i) with rfl | rfl | h3
  ·rw [if_pos (by omega),List.getElem?_append_right (by rw [List.length_take];omega),List.getElem?_set_ne (by omega),Nat.mul_comm 2 x.length,List.getElem?_set_self (by omega)];rw [List.length_take,show x.length * 2 - min (x.length * 2) xs.length=0 by omega];rfl
  ·rw [if_pos (by omega),List.getElem?_append_right (by rw [List.length_take];omega),Nat.mul_comm 2 x.length,List.getElem?_set_self (by rw [List.length_set];omega)];rw [List.length_take,show x.length * 2+1 - min (x.length * 2) xs.length=1 by omega];rfl
  ·rw [if_neg (by omega),List.getElem?_eq_none];rw [List.length_append,List.length_take];simp;omega
theorem zje.cell {w:World}{B g n:Nat}{x:List Rat}(k:zje w B g n x){i:Nat}(hi:i<n):w.cell? ⟨g,i * 2,none⟩=some (zeq w g (i * 2))∧w.cell? ⟨g,i * 2+1,none⟩=some (zeq w g (i * 2+1))∧w.frozen? ⟨g,i * 2,none⟩=false∧w.frozen? ⟨g,i * 2+1,none⟩=false:=by
 obtain ⟨xs,h1,h2⟩:=k;have hl:xs.length=n * 2:=h1.1;have e1:=h1.cellAt (i * 2) (by omega);have e2:=h1.cellAt (i * 2+1) (by omega);rw [List.getElem?_eq_getElem (by omega)] at e1 e2;exact ⟨by unfold zeq;rw [e1];rfl,by unfold zeq;rw [e2];rfl,h1.frozenAt _,h1.frozenAt _⟩
theorem zje.full {w:World}{B g n:Nat}{x:List Rat}(k:zje w B g n x)(hx:x.length=n):zfb w B (.slice (some ⟨g,0,none⟩) n n) x:=by
 obtain ⟨xs,h1,h2⟩:=k;have hl:xs.length=n * 2:=h1.1;rw [List.take_of_length_le (by omega)] at h2;unfold zfb;rw [hx,← h2];exact h1
theorem zjf (n:Nat)(w:World)(he:Env w)(hn:n≤1000) :
  Calls Tryz.prog 64 #[.int .i64 n] w fun e w'=>e=.returned (.slice (some ⟨w.heap.size,0,none⟩) n n)∧zfb w' w.heap.size (.slice (some ⟨w.heap.size,0,none⟩) n n) (List.replicate n 0)∧Ext w w':=by
 obtain ⟨i0,hi,hz0,hz1,hz2⟩:=info_parts zfc;have hnum:=fun W (h:Ext w W)=>zfg 0 W (he.ext h) (by omega) (by omega);rw [show (((0:Int):Rat))=(0:Rat) from rfl] at hnum;unfold Rv at hnum;have Hnum:=hid hnum;clear hnum;clear he;go_enter Tryz.func64,Tryz.ntmps64
 go_wp2_with (at_make;refine wpList_make_full _ rfl _ _ 79 rfl w.heap.size 109 i0 _ 2 Tryz.underlying79 hi hz0 hz1 _ _ _ _ n rfl rfl rfl rfl (by rw [hz2];omega) (by unfold maxLen;omega) (Nat.le_refl _) ?_;intro w1 hown hgrow)
 have hx1:Ext w w1:=(Ext.refl w).grown hgrow (by simp);have hp:zje w1 w.heap.size w.heap.size n []:=⟨_,hown,rfl⟩;clear hown hgrow;have Hx1:=hid hx1;have Hp:=hid hp;clear hx1 hp;go_wp2_with fail
 go_loopw [4,9] (fun v4 v9 wr=>∃ k:Nat,v9=.int .i64 k∧k≤n∧zje wr w.heap.size w.heap.size n (List.replicate k 0)∧Ext w wr) (fun _ v9 _=>n - (zal v9).toNat)
 case atStart=>exact ⟨0,rfl,Nat.zero_le _,Hp.out,Hx1.out⟩
 case round =>
  obtain ⟨k,rfl,hk,hpt,hE⟩:=hrel;have Hpt:=hid hpt;have HE:=hid hE;clear hpt hE;by_cases hkl:k<n
  ·have hk0:(0:Int)≤(k:Int):=(by omega);have hk1:(k:Int)<(n:Int):=(by omega);go_wp2_with fail
   refine (Hnum.out wr HE.out).mono ?_;rintro e W2 ⟨rfl,hx2⟩;have hpt2:=Hpt.out.ext hx2;obtain ⟨g0,g1,f0,f1⟩:=hpt2.cell hkl;have hmo:=hpt2.more (by rw [List.length_replicate];exact hkl) 0;rw [List.length_replicate] at hmo;rw [show List.replicate k (0:Rat)++[0]=List.replicate (k+1) 0 by rw [List.replicate_succ']] at hmo;have hE2:=((HE.out.trans hx2).setCell (p:=⟨w.heap.size,k * 2,none⟩) (Nat.le_refl _) (.string (I (0:Rat).num))).setCell (p:=⟨w.heap.size,k * 2+1,none⟩) (Nat.le_refl _) (.string (I (((0:Rat).den:Nat):Int)));clear hx2 hpt2;have Hmo:=hid hmo;have HE2:=hid hE2;clear hmo hE2;go_wp2_with fail
   go_roundw
   case rel=>exact ⟨k+1,by go_num,by omega,Hmo.out,HE2.out⟩
   case measure=>simp [zal];omega
  ·obtain rfl:k=n:=by omega
   have hfu:=Hpt.out.full (by rw [List.length_replicate]);have Hfu:=hid hfu;clear hfu;go_wp2
   go_ret
   exact ⟨rfl,Hfu.out,HE.out⟩
theorem zje.put {w:World}{B g n:Nat}(k:zje w B g n [])(i j:Nat)(u v:Value):zje ((w.setCell ⟨g,i,none⟩ u).setCell ⟨g,j,none⟩ v) B g n []:=by
 obtain ⟨xs,h1,_⟩:=k;exact ⟨_,((h1.stored i u).1.stored j v).1,rfl⟩
theorem zjg {w:World}{B g n:Nat}{x:List Rat}(h:zfb w B (.slice (some ⟨g,0,none⟩) n n) x)(hx:x.length=n):zje w B g n []:=by
 unfold zfb at h;rw [hx] at h;exact ⟨_,h,rfl⟩
def KS (w w':World)(g n b:Nat)(u v:Value):Prop:=Ext w w'∧zje w' w.heap.size g n []∧zep w' b u v
theorem KS.ext {w w' w2:World}{g n b:Nat}{u v:Value}(h:KS w w' g n b u v)(hx:Ext w' w2):KS w w2 g n b u v:=⟨h.1.trans hx,h.2.1.ext hx,h.2.2.ext hx⟩
theorem KS.put {w w':World}{g n b:Nat}{u v:Value}(h:KS w w' g n b u v)(hg:w.heap.size≤g)(hne:b ≠ g)(i j:Nat)(x y:Value):KS w ((w'.setCell ⟨g,i,none⟩ x).setCell ⟨g,j,none⟩ y) g n b u v :=
 ⟨(h.1.setCell hg _).setCell hg _,h.2.1.put i j x y,(heap_setCell_other _ ⟨g,j,none⟩ b y hne).trans ((heap_setCell_other w' ⟨g,i,none⟩ b x hne).trans h.2.2)⟩
theorem KS.all {w w':World}{g n b k:Nat}{u v f0 f1:Value}{a0 a1:Addr}(h:KS w w' g n b u v)(hk:k<n)(h0:w.cell? a0=some f0)(h1:w.cell? a1=some f1) :
  KS w w' g n b u v∧w'.cell? ⟨g,k * 2,none⟩=some (zeq w' g (k * 2))∧w'.cell? ⟨g,k * 2+1,none⟩=some (zeq w' g (k * 2+1))∧w'.frozen? ⟨g,k * 2,none⟩=false∧w'.frozen? ⟨g,k * 2+1,none⟩=false∧w'.cell? ⟨b,0,none⟩=some u∧w'.cell? ⟨b,1,none⟩=some v∧w'.cell? a0=some f0∧w'.cell? a1=some f1:=by
 obtain ⟨e1,e2,e3,e4⟩:=h.2.1.cell hk;exact ⟨h,e1,e2,e3,e4,h.2.2.c0,h.2.2.c1,h.1.cell h0,h.1.cell h1⟩
theorem zjh {w:World}{B g n:Nat}{x:List Rat}{k:Nat}(h:zfb w B (.slice (some ⟨g,0,none⟩) n n) x)(hx:x.length=n)(hk:k<n)(r:Rat):zfb ((w.setCell ⟨g,k * 2,none⟩ (.string (I r.num))).setCell ⟨g,k * 2+1,none⟩ (.string (I (r.den:Int)))) B (.slice (some ⟨g,0,none⟩) n n) (x.set k r):=by
 unfold zfb at h ⊢;rw [hx] at h;rw [List.length_set,hx,← zjd (by omega)];exact ((h.stored (k * 2) _).1.stored (k * 2+1) _).1
end
end Go.Proofs.YtkdgmahilfnnmaaGreatDoor
