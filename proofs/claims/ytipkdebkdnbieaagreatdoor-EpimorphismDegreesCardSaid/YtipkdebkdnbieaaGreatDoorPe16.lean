/- Walks: near, quick and the sign of a size's terms. -/
import Derived.Test.YtipkdebkdnbieaaGreatDoorPe11
import Derived.Test.YtipkdebkdnbieaaGreatDoorPe15
set_option maxRecDepth 100000
set_option maxHeartbeats 2000000
namespace Go.Proofs.YtipkdebkdnbieaaGreatDoor
open Go.RowKit Go.Lib
attribute [local go_sem] Oper.semAt_some
def okE (m:Int)(e:Int × Int):Prop:=(e.1=2∨e.1=3∨e.1=5∨e.1=7∨e.1=11∨e.1=13)∧-m≤e.2∧e.2≤m
theorem zjs {e:Int × Int}{m:Int}(h:okE m e):0≤lg e.1∧lg e.1≤248332305:=by
 rcases h.1 with h | h | h | h | h | h <;> rw [h] <;> decide
theorem zjt (p:Int)(h:p=2∨p=3∨p=5∨p=7∨p=11∨p=13)(w:World):Calls Tryz.prog 221 #[.int .i64 p] w fun e w'=>e=.returned (.tuple #[.int .i64 (lg p),.bool true])∧w=w':=by
 rcases h with rfl | rfl | rfl | rfl | rfl | rfl
 ·exact zfW w
 ·exact zfX w
 ·exact zfY w
 ·exact zjh w
 ·exact zjj w
 ·exact zjl w
theorem zju {n a:Int}(h1:-10000000≤n)(h2:n≤10000000)(h3:0≤a)(h4:a≤248332306):-2483323060000000≤n * a∧n * a≤2483323060000000:=by
 constructor
 ·have:=Int.mul_le_mul_of_nonneg_right h1 h3;omega
 ·have:=Int.mul_le_mul_of_nonneg_right h2 h3;omega
theorem zjv {e:Int × Int}(h:okE 10000000 e):-2483323060000000≤loP e.1 e.2∧loP e.1 e.2≤2483323060000000∧-2483323060000000≤hiP e.1 e.2∧hiP e.1 e.2≤2483323060000000:=by
 have hb:=zjs h;have h1:=zju (a:=lg e.1) h.2.1 h.2.2 hb.1 (by omega);have h2:=zju (a:=lg e.1+1) h.2.1 h.2.2 (by omega) (by omega);unfold loP hiP;split <;> omega
theorem zjw {l:List (Int × Int)}(h:∀ e∈l,okE 10000000 e):-2483323060000000 * (l.length:Int)≤zeP l∧zeP l≤2483323060000000 * (l.length:Int)∧-2483323060000000 * (l.length:Int)≤zeQ l∧zeQ l≤2483323060000000 * (l.length:Int):=by
 induction l with
 | nil=>simp [zeP,zeQ]
 | cons e l ih =>
  have:=ih fun x hx=>h x (List.mem_cons_of_mem _ hx)
  have hb:=zjv (h e (List.mem_cons_self ..))
  simp only [zeP,zeQ,List.length_cons,Int.natCast_add,Int.natCast_one]
  omega
theorem zjx {m k:Int}{e:Int × Int}(h:okE m e)(hk:m≤k):okE k e:=⟨h.1,by have:=h.2.1;omega,by have:=h.2.2;omega⟩
theorem zjy (l:List (Int × Int)):(List.range l.length).map (zga l)=l:=by
 apply List.ext_getElem
 ·simp
 ·intro i h1 h2;simp [zga,List.getD_eq_getElem?_getD,List.getElem?_eq_getElem h2]
def zjz (e:Int × Int):Prop:=(e.1=2∨e.1=3∨e.1=5∨e.1=7∨e.1=11∨e.1=13)∧Fit e.2
theorem zj0 {l:List (Int × Int)}(h:∀ e∈l,zjz e)(k:Nat):zjz (zga l k):=by
 unfold zga;rw [List.getD_eq_getElem?_getD];rcases Nat.lt_or_ge k l.length with g | g
 ·rw [List.getElem?_eq_getElem g];exact h _ (List.getElem_mem g)
 ·rw [List.getElem?_eq_none g];exact ⟨Or.inl rfl,Nat.le_trans (Dec.nDigits_le (n:=0) (k:=1) (by decide) (by decide)) (by decide)⟩
theorem zj1 {m:Int}{e:Int × Int}(hm:m≤10000000)(h:okE m e):Fit e.2:=by
 have h1:=h.2.1;have h2:=h.2.2;have h3:e.2.natAbs≤10000000:=by omega
 exact Nat.le_trans (Dec.nDigits_le (k:=9) (by decide) (Nat.lt_of_le_of_lt h3 (by decide))) (by decide)
theorem zj2 {m:Int}{l:List (Int × Int)}{k:Nat}(hm:0≤m)(h:¬ okE m (zga l k)):zga l k∈l:=by
 unfold zga at *;rw [List.getD_eq_getElem?_getD] at *;rcases Nat.lt_or_ge k l.length with g | g
 ·rw [List.getElem?_eq_getElem g];exact List.getElem_mem g
 ·rw [List.getElem?_eq_none g] at h;exact absurd ⟨Or.inl rfl,by simpa using hm,hm⟩ h
theorem zj3 {β:Type}{B:Nat}{t:TypeId}{v:β→Value}:Go.Own (fun (s:β) W=>Boxed W B t (v s)):=by
 intro s X Y row hv hg hrow;refine Boxed.kept (v:=v s) hv hg (fun e'=>?_);obtain ⟨o,ho,hc⟩:=hrow B e'.symm;rw [show X.heap[B]?=_ from hv] at ho;cases ho;cases hc
theorem zj4 {β:Type}{B:Nat}{u v x:Value}:Go.Own (fun (_:β) W=>zf4 W B u v x):=by
 intro s X Y row hv hg hrow;refine (hg.block B hv.lt (fun e'=>?_)).trans hv;obtain ⟨o,ho,hc⟩:=hrow B e'.symm;rw [show X.heap[B]?=_ from hv] at ho;cases ho;cases hc
theorem zf4.new (w:World)(u v x:Value):zf4 (w.alloc (.cells #[u,v,x] 174)) w.heap.size u v x:=World.alloc_heap_new w _
theorem zj5 {w W W1:World}{B:Nat}{m lo hi:Int}{u v x:Value}(HB:Below w.heap.size w W)(hx:Ext W W1)
  (g1:Boxed W1 (w.heap.size+1) 3 (.int .i64 m)) (g2:Boxed W1 (w.heap.size+1+1) 3 (.int .i64 lo)) (g3:Boxed W1 (w.heap.size+1+1+1) 3 (.int .i64 hi))
  (h4:Boxed W (w.heap.size+1+1+1+1) 4 (.bool false)) (h5:zf4 W (w.heap.size+1+1+1+1+1) u v x) (a b:Int) :
  KeepsFrom B W ((W1.setCell ⟨w.heap.size+1+1,0,none⟩ (.int .i64 a)).setCell ⟨w.heap.size+1+1+1,0,none⟩ (.int .i64 b)).drew ∧
  zfZ w.heap.size (w.heap.size+1+1+1+1+1) W ((W1.setCell ⟨w.heap.size+1+1,0,none⟩ (.int .i64 a)).setCell ⟨w.heap.size+1+1+1,0,none⟩ (.int .i64 b)).drew ∧
  Boxed ((W1.setCell ⟨w.heap.size+1+1,0,none⟩ (.int .i64 a)).setCell ⟨w.heap.size+1+1+1,0,none⟩ (.int .i64 b)).drew (w.heap.size+1) 3 (.int .i64 m) ∧
  Boxed ((W1.setCell ⟨w.heap.size+1+1,0,none⟩ (.int .i64 a)).setCell ⟨w.heap.size+1+1+1,0,none⟩ (.int .i64 b)).drew (w.heap.size+1+1) 3 (.int .i64 a) ∧
  Boxed ((W1.setCell ⟨w.heap.size+1+1,0,none⟩ (.int .i64 a)).setCell ⟨w.heap.size+1+1+1,0,none⟩ (.int .i64 b)).drew (w.heap.size+1+1+1) 3 (.int .i64 b) ∧
  Boxed ((W1.setCell ⟨w.heap.size+1+1,0,none⟩ (.int .i64 a)).setCell ⟨w.heap.size+1+1+1,0,none⟩ (.int .i64 b)).drew (w.heap.size+1+1+1+1) 4 (.bool false) ∧
  zf4 ((W1.setCell ⟨w.heap.size+1+1,0,none⟩ (.int .i64 a)).setCell ⟨w.heap.size+1+1+1,0,none⟩ (.int .i64 b)).drew (w.heap.size+1+1+1+1+1) u v x ∧
  Below w.heap.size w ((W1.setCell ⟨w.heap.size+1+1,0,none⟩ (.int .i64 a)).setCell ⟨w.heap.size+1+1+1,0,none⟩ (.int .i64 b)).drew:=by
 have hs:w.heap.size≤W.heap.size:=HB.size;have other:∀ k:Nat,k ≠ w.heap.size+1+1→k ≠ w.heap.size+1+1+1→((W1.setCell ⟨w.heap.size+1+1,0,none⟩ (.int .i64 a)).setCell ⟨w.heap.size+1+1+1,0,none⟩ (.int .i64 b)).drew.heap[k]?=W1.heap[k]?:=fun k h1 h2 =>
  (Below.heap_setCell _ ⟨w.heap.size+1+1+1,0,none⟩ _ k h2).trans (Below.heap_setCell _ ⟨w.heap.size+1+1,0,none⟩ _ k h1)
 have hWb:Below w.heap.size W ((W1.setCell ⟨w.heap.size+1+1,0,none⟩ (.int .i64 a)).setCell ⟨w.heap.size+1+1+1,0,none⟩ (.int .i64 b)).drew :=
  (((Below.mono hx hs).setCell (p:=⟨w.heap.size+1+1,0,none⟩) (by dsimp only;omega) _).setCell (p:=⟨w.heap.size+1+1+1,0,none⟩) (by dsimp only;omega) _).drew
 have b5:zf4 ((W1.setCell ⟨w.heap.size+1+1,0,none⟩ (.int .i64 a)).setCell ⟨w.heap.size+1+1+1,0,none⟩ (.int .i64 b)).drew (w.heap.size+1+1+1+1+1) u v x:=(other _ (by omega) (by omega)).trans (hx.heap h5);refine ⟨⟨hWb.size,fun k o _ hk ho=>?_⟩,⟨hWb,b5.trans h5.symm⟩,(other _ (by omega) (by omega)).trans g1,?_,?_,(other _ (by omega) (by omega)).trans (hx.heap h4),b5,HB.trans hWb⟩
 ·have hk1:=hx.heap hk;refine (other k ?_ ?_).trans hk1
  ·rintro rfl;rw [show W1.heap[w.heap.size+1+1]?=_ from g2] at hk1;cases hk1;cases ho
  ·rintro rfl;rw [show W1.heap[w.heap.size+1+1+1]?=_ from g3] at hk1;cases hk1;cases ho
 ·exact (Below.heap_setCell _ ⟨w.heap.size+1+1+1,0,none⟩ _ _ (by dsimp only;omega)).trans (Boxed.set _ g2)
 ·exact Boxed.set _ (show Boxed _ (w.heap.size+1+1+1) 3 (.int .i64 hi) from (Below.heap_setCell _ ⟨w.heap.size+1+1,0,none⟩ _ _ (by dsimp only;omega)).trans g3)
theorem zj6 {w W W1:World}{B:Nat}{lo hi:Value}(HB:Below w.heap.size w W)(hx:Ext W W1)
  (h2:Boxed W1 (w.heap.size+1+1) 3 lo) (h3:Boxed W1 (w.heap.size+1+1+1) 3 hi) (h4:Boxed W1 (w.heap.size+1+1+1+1) 4 (.bool false)) :
  KeepsFrom B W (((W1.setCell ⟨w.heap.size+1+1,0,none⟩ (.int .i64 0)).setCell ⟨w.heap.size+1+1+1,0,none⟩ (.int .i64 0)).setCell ⟨w.heap.size+1+1+1+1,0,none⟩ (.bool false)) ∧
  Boxed (((W1.setCell ⟨w.heap.size+1+1,0,none⟩ (.int .i64 0)).setCell ⟨w.heap.size+1+1+1,0,none⟩ (.int .i64 0)).setCell ⟨w.heap.size+1+1+1+1,0,none⟩ (.bool false)) (w.heap.size+1+1) 3 (.int .i64 0) ∧
  Boxed (((W1.setCell ⟨w.heap.size+1+1,0,none⟩ (.int .i64 0)).setCell ⟨w.heap.size+1+1+1,0,none⟩ (.int .i64 0)).setCell ⟨w.heap.size+1+1+1+1,0,none⟩ (.bool false)) (w.heap.size+1+1+1) 3 (.int .i64 0) ∧
  Boxed (((W1.setCell ⟨w.heap.size+1+1,0,none⟩ (.int .i64 0)).setCell ⟨w.heap.size+1+1+1,0,none⟩ (.int .i64 0)).setCell ⟨w.heap.size+1+1+1+1,0,none⟩ (.bool false)) (w.heap.size+1+1+1+1) 4 (.bool false) ∧
  Below w.heap.size w (((W1.setCell ⟨w.heap.size+1+1,0,none⟩ (.int .i64 0)).setCell ⟨w.heap.size+1+1+1,0,none⟩ (.int .i64 0)).setCell ⟨w.heap.size+1+1+1+1,0,none⟩ (.bool false)):=by
 have hs:w.heap.size≤W.heap.size:=HB.size;have other:∀ k:Nat,k ≠ w.heap.size+1+1→k ≠ w.heap.size+1+1+1→k ≠ w.heap.size+1+1+1+1→(((W1.setCell ⟨w.heap.size+1+1,0,none⟩ (.int .i64 0)).setCell ⟨w.heap.size+1+1+1,0,none⟩ (.int .i64 0)).setCell ⟨w.heap.size+1+1+1+1,0,none⟩ (.bool false)).heap[k]?=W1.heap[k]?:=fun k h1 h2 h3 =>
  (Below.heap_setCell _ ⟨w.heap.size+1+1+1+1,0,none⟩ _ k h3).trans ((Below.heap_setCell _ ⟨w.heap.size+1+1+1,0,none⟩ _ k h2).trans (Below.heap_setCell _ ⟨w.heap.size+1+1,0,none⟩ _ k h1))
 have hWb:Below w.heap.size W (((W1.setCell ⟨w.heap.size+1+1,0,none⟩ (.int .i64 0)).setCell ⟨w.heap.size+1+1+1,0,none⟩ (.int .i64 0)).setCell ⟨w.heap.size+1+1+1+1,0,none⟩ (.bool false)) :=
  (((Below.mono hx hs).setCell (p:=⟨w.heap.size+1+1,0,none⟩) (by dsimp only;omega) _).setCell (p:=⟨w.heap.size+1+1+1,0,none⟩) (by dsimp only;omega) _).setCell (p:=⟨w.heap.size+1+1+1+1,0,none⟩) (by dsimp only;omega) _
 refine ⟨⟨hWb.size,fun k o _ hk ho=>?_⟩,?_,?_,?_,HB.trans hWb⟩
 ·have hk1:=hx.heap hk;refine (other k ?_ ?_ ?_).trans hk1
  ·rintro rfl;rw [show W1.heap[w.heap.size+1+1]?=_ from h2] at hk1;cases hk1;cases ho
  ·rintro rfl;rw [show W1.heap[w.heap.size+1+1+1]?=_ from h3] at hk1;cases hk1;cases ho
  ·rintro rfl;rw [show W1.heap[w.heap.size+1+1+1+1]?=_ from h4] at hk1;cases hk1;cases ho
 ·exact (Below.heap_setCell _ ⟨w.heap.size+1+1+1+1,0,none⟩ _ _ (by dsimp only;omega)).trans ((Below.heap_setCell _ ⟨w.heap.size+1+1+1,0,none⟩ _ _ (by dsimp only;omega)).trans (Boxed.set _ h2))
 ·exact (Below.heap_setCell _ ⟨w.heap.size+1+1+1+1,0,none⟩ _ _ (by dsimp only;omega)).trans (Boxed.set _ (show Boxed _ (w.heap.size+1+1+1) 3 hi from (Below.heap_setCell _ ⟨w.heap.size+1+1,0,none⟩ _ _ (by dsimp only;omega)).trans h3))
 ·exact Boxed.set _ (show Boxed _ (w.heap.size+1+1+1+1) 4 (.bool false) from (Below.heap_setCell _ ⟨w.heap.size+1+1+1,0,none⟩ _ _ (by dsimp only;omega)).trans ((Below.heap_setCell _ ⟨w.heap.size+1+1,0,none⟩ _ _ (by dsimp only;omega)).trans h4))
theorem zj7 (tv:Value)(l:List (Int × Int))(d:Nat)(m:Int)(w:World)(ht:TmV w tv l d)(hl:l.length≤100)(hm0:0≤m)(hm:m≤10000000)(hok:∀ e∈l,zjz e)(hr:(∀ e∈l,okE m e)∨zfK w) :
  Calls Tryz.prog 204 #[tv,.int .i64 m] w fun e w'=>((∀ e∈l,okE m e)→e=.returned (.tuple #[.int .i64 (zeP l),.int .i64 (zeQ l),.bool true]))∧((¬ ∀ e∈l,okE m e)→e=.returned (.tuple #[.int .i64 0,.int .i64 0,.bool false]))∧Ext w w':=by
 obtain ⟨vp,vf,rfl,hp,hf⟩:=ht;obtain ⟨aa,ca,rfl,_,_,hcx⟩:=hp.parts;obtain ⟨ab,cb,rfl,_,_,hcy⟩:=hf.parts;rw [zar,List.length_map] at *;rw [zgd,List.length_map] at *;have Hcx:=hid hcx;clear hcx hp;have Hcy:=hid hcy;clear hcy hf;have hokn:=fun k=>zj0 hok k;have Hok:=hid hokn;have Hr:=hid hr;clear hokn hok hr;refine (callsIn_wide (n:=3)).1 ?_;refine callsIn_of_wp_marks Tryz.func204 rfl trivial ?_ rfl;simp only [Tryz.ntmps204,List.size_toArray,List.length_cons,List.length_nil,Nat.reduceAdd,Nat.reduceSub,Array.replicate_succ,Array.replicate_zero,List.push_toArray,List.append_toArray,List.nil_append,List.cons_append];gi_wp2_with fail;refine ⟨trivial,?_⟩;refine (zgf Fence.wide _ trivial rfl _ _ _ _).mono ?_;rintro e w' ⟨rfl,rfl⟩;have b1:=((((Boxed.new (w.alloc (.cells #[.slice aa l.length ca,.slice ab l.length cb,.string (I ((d:Nat):Int))] 174)) 3 (.int .i64 m)).alloc (.cells #[.int .i64 0] 3)).alloc (.cells #[.int .i64 0] 3)).alloc (.cells #[.bool false] 4)).alloc (.cells #[.slice aa l.length ca,.slice ab l.length cb,.string (I ((d:Nat):Int))] 174);have b2:=(((Boxed.new ((w.alloc (.cells #[.slice aa l.length ca,.slice ab l.length cb,.string (I ((d:Nat):Int))] 174)).alloc (.cells #[.int .i64 m] 3)) 3 (.int .i64 0)).alloc (.cells #[.int .i64 0] 3)).alloc (.cells #[.bool false] 4)).alloc (.cells #[.slice aa l.length ca,.slice ab l.length cb,.string (I ((d:Nat):Int))] 174);have b3:=((Boxed.new (((w.alloc (.cells #[.slice aa l.length ca,.slice ab l.length cb,.string (I ((d:Nat):Int))] 174)).alloc (.cells #[.int .i64 m] 3)).alloc (.cells #[.int .i64 0] 3)) 3 (.int .i64 0)).alloc (.cells #[.bool false] 4)).alloc (.cells #[.slice aa l.length ca,.slice ab l.length cb,.string (I ((d:Nat):Int))] 174);have b4:=(Boxed.new ((((w.alloc (.cells #[.slice aa l.length ca,.slice ab l.length cb,.string (I ((d:Nat):Int))] 174)).alloc (.cells #[.int .i64 m] 3)).alloc (.cells #[.int .i64 0] 3)).alloc (.cells #[.int .i64 0] 3)) 4 (.bool false)).alloc (.cells #[.slice aa l.length ca,.slice ab l.length cb,.string (I ((d:Nat):Int))] 174);have b5:=zf4.new (((((w.alloc (.cells #[.slice aa l.length ca,.slice ab l.length cb,.string (I ((d:Nat):Int))] 174)).alloc (.cells #[.int .i64 m] 3)).alloc (.cells #[.int .i64 0] 3)).alloc (.cells #[.int .i64 0] 3)).alloc (.cells #[.bool false] 4)) (.slice aa l.length ca) (.slice ab l.length cb) (.string (I ((d:Nat):Int)));have hE:=(((((Ext.refl w).alloc (.cells #[.slice aa l.length ca,.slice ab l.length cb,.string (I ((d:Nat):Int))] 174)).alloc (.cells #[.int .i64 m] 3)).alloc (.cells #[.int .i64 0] 3)).alloc (.cells #[.int .i64 0] 3)).alloc (.cells #[.bool false] 4) |>.alloc (.cells #[.slice aa l.length ca,.slice ab l.length cb,.string (I ((d:Nat):Int))] 174);simp only [World.size_alloc] at b1 b2 b3 b4 b5;have HE:=hid hE;clear hE;generalize hV:((((((w.alloc (.cells #[.slice aa l.length ca,.slice ab l.length cb,.string (I ((d:Nat):Int))] 174)).alloc (.cells #[.int .i64 m] 3)).alloc (.cells #[.int .i64 0] 3)).alloc (.cells #[.int .i64 0] 3)).alloc (.cells #[.bool false] 4)).alloc (.cells #[.slice aa l.length ca,.slice ab l.length cb,.string (I ((d:Nat):Int))] 174))=V at *;have hVs:V.heap.size=w.heap.size+6:=by rw [← hV];simp
 clear hV;simp only [World.size_alloc];gi_wp2_with fail;refine wpIn_rangeFunc_ownG (n:=3) rfl (by omega) (gf:=222) (lb:=#[.pointer (some ⟨w.heap.size+1+1+1+1+1,0,none⟩)]) rfl trivial (enters_of Tryz.func222 (by kernel_rfl) rfl)
  (zgg Fence.wide (3 - 1) trivial rfl (by omega) (w.heap.size+1+1+1+1+1) w.heap.size aa ab ca cb _ l (by omega) V b5
   (fun i hi=>by obtain ⟨b,off,e,hc⟩:=Hcx.out i _ (zgc l i hi);exact ⟨b,off,e,World.block_lt_of_cell? _ _ hc,HE.out.cell hc⟩)
   (fun i hi=>by obtain ⟨b,off,e,hc⟩:=Hcy.out i _ (zgb l i hi);exact ⟨b,off,e,World.block_lt_of_cell? _ _ hc,HE.out.cell hc⟩))
  (fun h k=>⟨h.1.trans k.1,k.2.trans h.2⟩) (fun W l o o' hl h hc hw=>⟨belowK_b HE.out.size W l o o' hl h hc hw,World.putObj_heap_other (by omega)⟩) (Below.refl _ _) (fun _=>rfl)
  (fun pre W=>Boxed W (w.heap.size+1) 3 (.int .i64 m)∧Boxed W (w.heap.size+1+1) 3 (.int .i64 (zeP (pre.map (zga l))))∧Boxed W (w.heap.size+1+1+1) 3 (.int .i64 (zeQ (pre.map (zga l))))∧Boxed W (w.heap.size+1+1+1+1) 4 (.bool false)∧zf4 W (w.heap.size+1+1+1+1+1) (.slice aa l.length ca) (.slice ab l.length cb) (.string (I ((d:Nat):Int)))∧Below w.heap.size w W∧∀ k∈pre,okE m (zga l k))
  (fun c pre W=>c=.ret∧(∃ k∈pre,¬ okE m (zga l k))∧Boxed W (w.heap.size+1+1) 3 (.int .i64 0)∧Boxed W (w.heap.size+1+1+1) 3 (.int .i64 0)∧Boxed W (w.heap.size+1+1+1+1) 4 (.bool false)∧Below w.heap.size w W)
  (OwnFrom.and (Go.Own.from zj3 _) (OwnFrom.and (Go.Own.from zj3 _) (OwnFrom.and (Go.Own.from zj3 _) (OwnFrom.and (Go.Own.from zj3 _) (OwnFrom.and (Go.Own.from zj4 _) (OwnFrom.and (ownFrom_below (Nat.le_refl _) HE.out.size) (fun _ _ _ _ hs _ _=>hs)))))))
  (fun c=>OwnFrom.and (fun _ _ _ _ hs _ _=>hs) (OwnFrom.and (fun _ _ _ _ hs _ _=>hs) (OwnFrom.and (Go.Own.from zj3 _) (OwnFrom.and (Go.Own.from zj3 _) (OwnFrom.and (Go.Own.from zj3 _) (ownFrom_below (Nat.le_refl _) HE.out.size))))))
  ⟨b1,b2,b3,b4,b5,HE.out,fun k hk=>by cases hk⟩
  (fun p=>{ tmps:=#[.agg #[.slice aa l.length ca,.slice ab l.length cb,.string (I ((d:Nat):Int))],.int .i64 m,.pointer (some ⟨w.heap.size,0,none⟩),.pointer (some ⟨w.heap.size+1,0,none⟩),.pointer (some ⟨w.heap.size+1+1,0,none⟩),.pointer (some ⟨w.heap.size+1+1+1,0,none⟩),.pointer (some ⟨w.heap.size+1+1+1+1,0,none⟩),
     .int .i64 (zga l p).1,.string (I (zga l p).2),undef,undef,undef,undef,undef,
     .agg #[.slice aa l.length ca,.slice ab l.length cb,.string (I ((d:Nat):Int))],.func (.func 222) #[] #[.pointer (some ⟨w.heap.size+1+1+1+1+1,0,none⟩)],
     .int .i64 (zga l p).1,.string (I (zga l p).2),undef,undef,undef,undef,undef,undef,undef,undef,undef,undef,undef,undef,undef,undef,undef,undef,undef,undef,undef,undef,undef,undef,undef,undef,undef,undef,undef,undef,undef,undef,undef,undef,undef,undef,undef,undef,undef,undef,undef,undef,undef,undef,undef,undef,undef,undef,undef,undef,undef,undef],defers:=[] }) ?assign ?body ?done ?stop
 case assign =>
  intro l p W K hK;gi_wp2;exact hK
 case body =>
  rintro lp pre p W ⟨hb1,hb2,hb3,hb4,hb5,hB,hpre⟩ hlt;have hq0:=Hok.out p;rcases Classical.em (okE m (zga l p)) with hq | hnq
  ·skip;have hlb:=zjs hq;have hpre2:∀ k∈pre++[p],okE m (zga l k):=fun k hk=>by
    rcases List.mem_append.1 hk with h | h
    ·exact hpre k h
    ·rw [List.mem_singleton] at h;subst h;exact hq
   have Hpre:=hid hpre2;clear hpre2;have hlen:((pre.map (zga l)).length:Int)≤100:=(by simp;omega);have hsb:=zjw (l:=pre.map (zga l)) (fun e he=>by obtain ⟨k,hk,rfl⟩:=List.mem_map.1 he;exact zjx (hpre k hk) hm);have e1:zeP ((pre++[p]).map (zga l))=zeP (pre.map (zga l))+loP (zga l p).1 (zga l p).2:=(by rw [List.map_append,zeT];simp [zeP]);have e2:zeQ ((pre++[p]).map (zga l))=zeQ (pre.map (zga l))+hiP (zga l p).1 (zga l p).2:=(by rw [List.map_append,zeU];simp [zeQ]);have hlh:=zjv (zjx hq hm);obtain ⟨hq1,hq2,hq3⟩:=hq;clear hpre hq0;have hf:=fun W'=>zjt (zga l p).1 hq1 W';have hpa:=zju (n:=(zga l p).2) (a:=lg (zga l p).1) (by omega) (by omega) hlb.1 (by omega);have hpb:=zju (n:=(zga l p).2) (a:=lg (zga l p).1+1) (by omega) (by omega) (by omega) (by omega);have hs:=zfN (zga l p).2 W (by omega) (by omega);have elo:loP (zga l p).1 (zga l p).2=if (zga l p).1=2 then (zga l p).2 * lg (zga l p).1 else min ((zga l p).2 * lg (zga l p).1) ((zga l p).2 * (lg (zga l p).1+1)):=rfl;have ehi:hiP (zga l p).1 (zga l p).2=if (zga l p).1=2 then (zga l p).2 * lg (zga l p).1 else max ((zga l p).2 * lg (zga l p).1) ((zga l p).2 * (lg (zga l p).1+1)):=rfl;have E1:=hid e1;have E2:=hid e2;clear e1 e2;generalize zeP (pre.map (zga l))=lo at *;generalize zeQ (pre.map (zga l))=hi at *;generalize loP (zga l p).1 (zga l p).2=lp' at *;generalize hiP (zga l p).1 (zga l p).2=hp' at *;generalize lg (zga l p).1=g at *;generalize (zga l p).1=p0 at *;generalize (zga l p).2=k0 at *;generalize (List.map (zga l) pre).length=pl at *;have Hs:=hid hs;clear hs;have Hf:=hid hf;clear hf;have Hlo:=hid elo;clear elo;have Hhi:=hid ehi;clear ehi;have HB:=hid hB;clear hB;have H5:=hid hb5;clear hb5;have H4:=hid hb4;clear hb4;gi_wp2_with fail;refine ⟨trivial,?_⟩;refine (callsIn_wide.2 Hs.out).mono ?_;rintro e W1 ⟨rfl,hx1⟩;have g1:Boxed W1 (w.heap.size+1) 3 (.int .i64 m):=hx1.heap hb1;have g2:Boxed W1 (w.heap.size+1+1) 3 (.int .i64 lo):=hx1.heap hb2;have g3:Boxed W1 (w.heap.size+1+1+1) 3 (.int .i64 hi):=hx1.heap hb3;have hc1:=g1.cell;have hc2:=g2.cell;have hc3:=g3.cell;have hz2:=g2.frozen;have hz3:=g3.frozen;have G2:=hid g2;have G3:=hid g3;clear g2 g3 hb2 hb3;have G1:=hid g1;clear g1;have Hx1:=hid hx1;clear hx1;gi_wp2_with fail;refine ⟨trivial,?_⟩;refine (callsIn_wide.2 (Hf.out _)).mono ?_;rintro e w' ⟨rfl,rfl⟩;by_cases h2:p0=2
   ·subst h2;have elo:lp'=k0 * g:=Hlo.out;have ehi:hp'=k0 * g:=Hhi.out;clear Hlo Hhi;subst elo ehi;gi_wp2_with fail;refine zjr (by kernel_rfl) (by kernel_rfl) ?_;refine wpAnyIn_take (i:=1) (v:=?vn1) rfl rfl (by kernel_rfl) (by kernel_rfl) (by kernel_rfl) (fun _ _ _ h=>h) ⟨Or.inl ⟨by rfl,?yn1⟩,fun _=>rfl⟩ ?rn1
    case yn1=>(intro w;go_simp;try with_reducible rfl)
    case rn1 =>
    refine wpAnyIn_take (i:=2) (v:=?vn2) rfl rfl (by kernel_rfl) (by kernel_rfl) (by kernel_rfl) (fun _ _ _ h=>h) ⟨Or.inl ⟨by rfl,?yn2⟩,fun _=>rfl⟩ ?rn2
    case yn2=>(intro w;go_simp;try with_reducible rfl)
    case rn2 =>
    refine wpAnyIn_take (i:=3) (v:=?vn3) rfl rfl (by kernel_rfl) (by kernel_rfl) (by kernel_rfl) (fun _ _ _ h=>h) ⟨Or.inl ⟨by rfl,?yn3⟩,fun _=>rfl⟩ ?rn3
    case yn3=>(intro w;go_simp;try with_reducible rfl)
    case rn3 =>
    refine wpAnyIn_take (i:=4) (v:=?vn4) rfl rfl (by kernel_rfl) (by kernel_rfl) (by kernel_rfl) (fun _ _ _ h=>h) ⟨Or.inl ⟨by rfl,?yn4⟩,fun _=>rfl⟩ ?rn4
    case yn4=>(intro w;go_simp;try with_reducible rfl)
    case rn4 =>
    refine wpAnyIn_take (i:=5) (v:=?vn5) rfl rfl (by kernel_rfl) (by kernel_rfl) (by kernel_rfl) (fun _ _ _ h=>h) ⟨Or.inl ⟨by rfl,?yn5⟩,fun _=>rfl⟩ ?rn5
    case yn5=>(intro w;go_simp;try with_reducible rfl)
    case rn5 =>
    refine wpAnyIn_take (i:=6) (v:=?vn6) rfl rfl (by kernel_rfl) (by kernel_rfl) (by kernel_rfl) (fun _ _ _ h=>h) ⟨Or.inl ⟨by rfl,?yn6⟩,fun _=>rfl⟩ ?rn6
    case yn6=>(intro w;go_simp;try with_reducible rfl)
    case rn6 =>
    refine wpAnyIn_take (i:=7) (v:=?vn7) rfl rfl (by kernel_rfl) (by kernel_rfl) (by kernel_rfl) (fun _ _ _ h=>h) ⟨Or.inl ⟨by rfl,?yn7⟩,fun _=>rfl⟩ ?rn7
    case yn7=>(intro w;go_simp;try with_reducible rfl)
    case rn7 =>
    refine wpAnyIn_take (i:=10) (v:=?vn8) rfl rfl (by kernel_rfl) (by kernel_rfl) (by kernel_rfl) (fun _ _ _ h=>h) ⟨Or.inl ⟨by rfl,?yn8⟩,fun _=>rfl⟩ ?rn8
    case yn8=>(intro w;go_simp;try with_reducible rfl)
    case rn8 =>
    refine wpAnyIn_take (i:=11) (v:=?vn9) rfl rfl (by kernel_rfl) (by kernel_rfl) (by kernel_rfl) (fun _ _ _ h=>h) ⟨Or.inl ⟨by rfl,?yn9⟩,fun _=>rfl⟩ ?rn9
    case yn9=>(intro w;go_simp;try with_reducible rfl)
    case rn9 =>
    refine wpAnyIn_take (i:=12) (v:=?vn10) rfl rfl (by kernel_rfl) (by kernel_rfl) (by kernel_rfl) (fun _ _ _ h=>h) ⟨Or.inl ⟨by rfl,?yn10⟩,fun _=>rfl⟩ ?rn10
    case yn10=>(intro w;go_simp;try with_reducible rfl)
    case rn10 =>
    refine wpAnyIn_take (i:=13) (v:=?vn11) rfl rfl (by kernel_rfl) (by kernel_rfl) (by kernel_rfl) (fun _ _ _ h=>h) ⟨Or.inl ⟨by rfl,?yn11⟩,fun _=>rfl⟩ ?rn11
    case yn11=>(intro w;go_simp;try with_reducible rfl)
    case rn11 =>
    refine wpAnyIn_take (i:=14) (v:=?vn12) rfl rfl (by kernel_rfl) (by kernel_rfl) (by kernel_rfl) (fun _ _ _ h=>h) ⟨Or.inl ⟨by rfl,?yn12⟩,fun _=>rfl⟩ ?rn12
    case yn12=>(intro w;go_simp;try with_reducible rfl)
    case rn12 =>
    refine wpAnyIn_take (i:=15) (v:=?vn13) rfl rfl (by kernel_rfl) (by kernel_rfl) (by kernel_rfl) (fun _ _ _ h=>h) ⟨Or.inl ⟨by rfl,?yn13⟩,fun _=>rfl⟩ ?rn13
    case yn13=>(intro w;go_simp;try with_reducible rfl)
    case rn13 =>
    refine wpAnyIn_take (i:=16) (v:=?vn14) rfl rfl (by kernel_rfl) (by kernel_rfl) (by kernel_rfl) (fun _ _ _ h=>h) ⟨Or.inl ⟨by rfl,?yn14⟩,fun _=>rfl⟩ ?rn14
    case yn14=>(intro w;go_simp;try with_reducible rfl)
    case rn14 =>
    refine wpAnyIn_ready (rs:=[0,9]) (by kernel_rfl) (by simp) ?_;refine AllReadyIn.cons rfl (fun K hK=>?_) (AllReadyIn.cons rfl (fun K hK=>?_) AllReadyIn.nil)
    ·go_simp
     refine hK _ _ ?_;clear hK K;refine wpAnyIn_take (i:=8) (v:=?vn15) rfl rfl (by kernel_rfl) (by kernel_rfl) (by kernel_rfl) (fun _ _ _ h=>h) ⟨Or.inl ⟨by rfl,?yn15⟩,fun _=>rfl⟩ ?rn15
     case yn15=>(intro w;go_simp;try with_reducible rfl)
     case rn15 =>
     refine wpAnyIn_ready (rs:=[9,18]) (by kernel_rfl) (by simp) ?_;refine AllReadyIn.cons rfl (fun K hK=>?_) (AllReadyIn.cons rfl (fun K hK=>?_) AllReadyIn.nil)
     ·go_simp
      refine hK _ _ ?_;clear hK K;refine wpAnyIn_take (i:=17) (v:=?vn16) rfl rfl (by kernel_rfl) (by kernel_rfl) (by kernel_rfl) (fun _ _ _ h=>h) ⟨Or.inl ⟨by rfl,?yn16⟩,fun _=>rfl⟩ ?rn16
      case yn16=>(intro w;go_simp;try with_reducible rfl)
      case rn16 =>
      refine wpAnyIn_ready (rs:=[18]) (by kernel_rfl) (by simp) ?_;refine AllReadyIn.cons rfl (fun K hK=>?_) AllReadyIn.nil;go_simp
      refine hK _ _ ?_;clear hK K;refine wpAnyIn_ready (rs:=[19]) (by kernel_rfl) (by simp) ?_;refine AllReadyIn.cons rfl (fun K hK=>?_) AllReadyIn.nil;go_simp
      refine hK _ _ ?_;clear hK K;refine wpAnyIn_done (by kernel_rfl) ?_ _;refine NoPanic.normal ?_;gi_wp2_with fail;rw [IntWalk.i64_in (k0 * g) (by omega),IntWalk.i64_in (lo+k0 * g) (by omega),IntWalk.i64_in (hi+k0 * g) (by omega)];obtain ⟨q1,q2,q3,q4,q5,q6,q7,q8⟩:=zj5 (B:=V.heap.size) HB.out Hx1.out G1.out G2.out G3.out H4.out H5.out (lo+k0 * g) (hi+k0 * g);exact ⟨q1,q2,q3,by rw [E1.out];exact q4,by rw [E2.out];exact q5,q6,q7,q8,Hpre.out⟩
     ·go_simp
      refine hK _ _ ?_;clear hK K;refine wpAnyIn_ready (rs:=[9]) (by kernel_rfl) (by simp) ?_;refine AllReadyIn.cons rfl (fun K hK=>?_) AllReadyIn.nil;go_simp
      refine hK _ _ ?_;clear hK K;refine wpAnyIn_take (i:=17) (v:=?vn17) rfl rfl (by kernel_rfl) (by kernel_rfl) (by kernel_rfl) (fun _ _ _ h=>h) ⟨Or.inl ⟨by rfl,?yn17⟩,fun _=>rfl⟩ ?rn17
      case yn17=>(intro w;go_simp;try with_reducible rfl)
      case rn17 =>
      refine wpAnyIn_ready (rs:=[19]) (by kernel_rfl) (by simp) ?_;refine AllReadyIn.cons rfl (fun K hK=>?_) AllReadyIn.nil;go_simp
      refine hK _ _ ?_;clear hK K;refine wpAnyIn_done (by kernel_rfl) ?_ _;refine NoPanic.normal ?_;gi_wp2_with fail;rw [IntWalk.i64_in (k0 * g) (by omega),IntWalk.i64_in (lo+k0 * g) (by omega),IntWalk.i64_in (hi+k0 * g) (by omega)];obtain ⟨q1,q2,q3,q4,q5,q6,q7,q8⟩:=zj5 (B:=V.heap.size) HB.out Hx1.out G1.out G2.out G3.out H4.out H5.out (lo+k0 * g) (hi+k0 * g);exact ⟨q1,q2,q3,by rw [E1.out];exact q4,by rw [E2.out];exact q5,q6,q7,q8,Hpre.out⟩
    ·go_simp
     refine hK _ _ ?_;clear hK K;refine wpAnyIn_take (i:=17) (v:=?vn18) rfl rfl (by kernel_rfl) (by kernel_rfl) (by kernel_rfl) (fun _ _ _ h=>h) ⟨Or.inl ⟨by rfl,?yn18⟩,fun _=>rfl⟩ ?rn18
     case yn18=>(intro w;go_simp;try with_reducible rfl)
     case rn18 =>
     refine wpAnyIn_ready (rs:=[0]) (by kernel_rfl) (by simp) ?_;refine AllReadyIn.cons rfl (fun K hK=>?_) AllReadyIn.nil;go_simp
     refine hK _ _ ?_;clear hK K;refine wpAnyIn_take (i:=8) (v:=?vn19) rfl rfl (by kernel_rfl) (by kernel_rfl) (by kernel_rfl) (fun _ _ _ h=>h) ⟨Or.inl ⟨by rfl,?yn19⟩,fun _=>rfl⟩ ?rn19
     case yn19=>(intro w;go_simp;try with_reducible rfl)
     case rn19 =>
     refine wpAnyIn_ready (rs:=[18]) (by kernel_rfl) (by simp) ?_;refine AllReadyIn.cons rfl (fun K hK=>?_) AllReadyIn.nil;go_simp
     refine hK _ _ ?_;clear hK K;refine wpAnyIn_ready (rs:=[19]) (by kernel_rfl) (by simp) ?_;refine AllReadyIn.cons rfl (fun K hK=>?_) AllReadyIn.nil;go_simp
     refine hK _ _ ?_;clear hK K;refine wpAnyIn_done (by kernel_rfl) ?_ _;refine NoPanic.normal ?_;gi_wp2_with fail;rw [IntWalk.i64_in (k0 * g) (by omega),IntWalk.i64_in (lo+k0 * g) (by omega),IntWalk.i64_in (hi+k0 * g) (by omega)];obtain ⟨q1,q2,q3,q4,q5,q6,q7,q8⟩:=zj5 (B:=V.heap.size) HB.out Hx1.out G1.out G2.out G3.out H4.out H5.out (lo+k0 * g) (hi+k0 * g);exact ⟨q1,q2,q3,by rw [E1.out];exact q4,by rw [E2.out];exact q5,q6,q7,q8,Hpre.out⟩
   ·have elo:=Hlo.out;have ehi:=Hhi.out;rw [if_neg h2] at elo ehi;clear Hlo Hhi;subst elo ehi;gi_wp2_with fail;refine zjr (by kernel_rfl) (by kernel_rfl) ?_;refine wpAnyIn_take (i:=1) (v:=?vn20) rfl rfl (by kernel_rfl) (by kernel_rfl) (by kernel_rfl) (fun _ _ _ h=>h) ⟨Or.inl ⟨by rfl,?yn20⟩,fun _=>rfl⟩ ?rn20
    case yn20=>(intro w;go_simp;try with_reducible rfl)
    case rn20 =>
    refine wpAnyIn_take (i:=2) (v:=?vn21) rfl rfl (by kernel_rfl) (by kernel_rfl) (by kernel_rfl) (fun _ _ _ h=>h) ⟨Or.inl ⟨by rfl,?yn21⟩,fun _=>rfl⟩ ?rn21
    case yn21=>(intro w;go_simp;try with_reducible rfl)
    case rn21 =>
    refine wpAnyIn_take (i:=3) (v:=?vn22) rfl rfl (by kernel_rfl) (by kernel_rfl) (by kernel_rfl) (fun _ _ _ h=>h) ⟨Or.inl ⟨by rfl,?yn22⟩,fun _=>rfl⟩ ?rn22
    case yn22=>(intro w;go_simp;try with_reducible rfl)
    case rn22 =>
    refine wpAnyIn_take (i:=4) (v:=?vn23) rfl rfl (by kernel_rfl) (by kernel_rfl) (by kernel_rfl) (fun _ _ _ h=>h) ⟨Or.inl ⟨by rfl,?yn23⟩,fun _=>rfl⟩ ?rn23
    case yn23=>(intro w;go_simp;try with_reducible rfl)
    case rn23 =>
    refine wpAnyIn_take (i:=5) (v:=?vn24) rfl rfl (by kernel_rfl) (by kernel_rfl) (by kernel_rfl) (fun _ _ _ h=>h) ⟨Or.inl ⟨by rfl,?yn24⟩,fun _=>rfl⟩ ?rn24
    case yn24=>(intro w;go_simp;try with_reducible rfl)
    case rn24 =>
    refine wpAnyIn_take (i:=6) (v:=?vn25) rfl rfl (by kernel_rfl) (by kernel_rfl) (by kernel_rfl) (fun _ _ _ h=>h) ⟨Or.inl ⟨by rfl,?yn25⟩,fun _=>rfl⟩ ?rn25
    case yn25=>(intro w;go_simp;try with_reducible rfl)
    case rn25 =>
    refine wpAnyIn_take (i:=7) (v:=?vn26) rfl rfl (by kernel_rfl) (by kernel_rfl) (by kernel_rfl) (fun _ _ _ h=>h) ⟨Or.inl ⟨by rfl,?yn26⟩,fun _=>rfl⟩ ?rn26
    case yn26=>(intro w;go_simp;try with_reducible rfl)
    case rn26 =>
    refine wpAnyIn_take (i:=10) (v:=?vn27) rfl rfl (by kernel_rfl) (by kernel_rfl) (by kernel_rfl) (fun _ _ _ h=>h) ⟨Or.inl ⟨by rfl,?yn27⟩,fun _=>rfl⟩ ?rn27
    case yn27=>(intro w;go_simp;try with_reducible rfl)
    case rn27 =>
    refine wpAnyIn_take (i:=11) (v:=?vn28) rfl rfl (by kernel_rfl) (by kernel_rfl) (by kernel_rfl) (fun _ _ _ h=>h) ⟨Or.inl ⟨by rfl,?yn28⟩,fun _=>rfl⟩ ?rn28
    case yn28=>(intro w;go_simp;try with_reducible rfl)
    case rn28 =>
    refine wpAnyIn_take (i:=12) (v:=?vn29) rfl rfl (by kernel_rfl) (by kernel_rfl) (by kernel_rfl) (fun _ _ _ h=>h) ⟨Or.inl ⟨by rfl,?yn29⟩,fun _=>rfl⟩ ?rn29
    case yn29=>(intro w;go_simp;try with_reducible rfl)
    case rn29 =>
    refine wpAnyIn_take (i:=13) (v:=?vn30) rfl rfl (by kernel_rfl) (by kernel_rfl) (by kernel_rfl) (fun _ _ _ h=>h) ⟨Or.inl ⟨by rfl,?yn30⟩,fun _=>rfl⟩ ?rn30
    case yn30=>(intro w;go_simp;try with_reducible rfl)
    case rn30 =>
    refine wpAnyIn_take (i:=14) (v:=?vn31) rfl rfl (by kernel_rfl) (by kernel_rfl) (by kernel_rfl) (fun _ _ _ h=>h) ⟨Or.inl ⟨by rfl,?yn31⟩,fun _=>rfl⟩ ?rn31
    case yn31=>(intro w;go_simp;try with_reducible rfl)
    case rn31 =>
    refine wpAnyIn_take (i:=15) (v:=?vn32) rfl rfl (by kernel_rfl) (by kernel_rfl) (by kernel_rfl) (fun _ _ _ h=>h) ⟨Or.inl ⟨by rfl,?yn32⟩,fun _=>rfl⟩ ?rn32
    case yn32=>(intro w;go_simp;try with_reducible rfl)
    case rn32 =>
    refine wpAnyIn_take (i:=16) (v:=?vn33) rfl rfl (by kernel_rfl) (by kernel_rfl) (by kernel_rfl) (fun _ _ _ h=>h) ⟨Or.inl ⟨by rfl,?yn33⟩,fun _=>rfl⟩ ?rn33
    case yn33=>(intro w;go_simp;try with_reducible rfl)
    case rn33 =>
    refine wpAnyIn_ready (rs:=[0,9]) (by kernel_rfl) (by simp) ?_;refine AllReadyIn.cons rfl (fun K hK=>?_) (AllReadyIn.cons rfl (fun K hK=>?_) AllReadyIn.nil)
    ·go_simp
     refine hK _ _ ?_;clear hK K;refine wpAnyIn_take (i:=8) (v:=?vn34) rfl rfl (by kernel_rfl) (by kernel_rfl) (by kernel_rfl) (fun _ _ _ h=>h) ⟨Or.inl ⟨by rfl,?yn34⟩,fun _=>rfl⟩ ?rn34
     case yn34=>(intro w;go_simp;try with_reducible rfl)
     case rn34 =>
     refine wpAnyIn_ready (rs:=[9,18]) (by kernel_rfl) (by simp) ?_;refine AllReadyIn.cons rfl (fun K hK=>?_) (AllReadyIn.cons rfl (fun K hK=>?_) AllReadyIn.nil)
     ·go_simp
      refine hK _ _ ?_;clear hK K;refine wpAnyIn_take (i:=17) (v:=?vn35) rfl rfl (by kernel_rfl) (by kernel_rfl) (by kernel_rfl) (fun _ _ _ h=>h) ⟨Or.inl ⟨by rfl,?yn35⟩,fun _=>rfl⟩ ?rn35
      case yn35=>(intro w;go_simp;try with_reducible rfl)
      case rn35 =>
      refine wpAnyIn_ready (rs:=[18]) (by kernel_rfl) (by simp) ?_;refine AllReadyIn.cons rfl (fun K hK=>?_) AllReadyIn.nil;go_simp
      refine hK _ _ ?_;clear hK K;refine wpAnyIn_ready (rs:=[19]) (by kernel_rfl) (by simp) ?_;refine AllReadyIn.cons rfl (fun K hK=>?_) AllReadyIn.nil;go_simp
      refine hK _ _ ?_;clear hK K;refine wpAnyIn_done (by kernel_rfl) ?_ _;refine NoPanic.normal ?_;gi_wp2_with fail;rw [IntWalk.i64_in (k0 * g) (by omega),IntWalk.i64_in (k0 * (g+1)) (by omega),IntWalk.i64_in (lo+min (k0 * g) (k0 * (g+1))) (by omega),IntWalk.i64_in (hi+max (k0 * g) (k0 * (g+1))) (by omega)];obtain ⟨q1,q2,q3,q4,q5,q6,q7,q8⟩:=zj5 (B:=V.heap.size) HB.out Hx1.out G1.out G2.out G3.out H4.out H5.out (lo+min (k0 * g) (k0 * (g+1))) (hi+max (k0 * g) (k0 * (g+1)));exact ⟨q1,q2,q3,by rw [E1.out];exact q4,by rw [E2.out];exact q5,q6,q7,q8,Hpre.out⟩
     ·go_simp
      refine hK _ _ ?_;clear hK K;refine wpAnyIn_ready (rs:=[9]) (by kernel_rfl) (by simp) ?_;refine AllReadyIn.cons rfl (fun K hK=>?_) AllReadyIn.nil;go_simp
      refine hK _ _ ?_;clear hK K;refine wpAnyIn_take (i:=17) (v:=?vn36) rfl rfl (by kernel_rfl) (by kernel_rfl) (by kernel_rfl) (fun _ _ _ h=>h) ⟨Or.inl ⟨by rfl,?yn36⟩,fun _=>rfl⟩ ?rn36
      case yn36=>(intro w;go_simp;try with_reducible rfl)
      case rn36 =>
      refine wpAnyIn_ready (rs:=[19]) (by kernel_rfl) (by simp) ?_;refine AllReadyIn.cons rfl (fun K hK=>?_) AllReadyIn.nil;go_simp
      refine hK _ _ ?_;clear hK K;refine wpAnyIn_done (by kernel_rfl) ?_ _;refine NoPanic.normal ?_;gi_wp2_with fail;rw [IntWalk.i64_in (k0 * g) (by omega),IntWalk.i64_in (k0 * (g+1)) (by omega),IntWalk.i64_in (lo+min (k0 * g) (k0 * (g+1))) (by omega),IntWalk.i64_in (hi+max (k0 * g) (k0 * (g+1))) (by omega)];obtain ⟨q1,q2,q3,q4,q5,q6,q7,q8⟩:=zj5 (B:=V.heap.size) HB.out Hx1.out G1.out G2.out G3.out H4.out H5.out (lo+min (k0 * g) (k0 * (g+1))) (hi+max (k0 * g) (k0 * (g+1)));exact ⟨q1,q2,q3,by rw [E1.out];exact q4,by rw [E2.out];exact q5,q6,q7,q8,Hpre.out⟩
    ·go_simp
     refine hK _ _ ?_;clear hK K;refine wpAnyIn_take (i:=17) (v:=?vn37) rfl rfl (by kernel_rfl) (by kernel_rfl) (by kernel_rfl) (fun _ _ _ h=>h) ⟨Or.inl ⟨by rfl,?yn37⟩,fun _=>rfl⟩ ?rn37
     case yn37=>(intro w;go_simp;try with_reducible rfl)
     case rn37 =>
     refine wpAnyIn_ready (rs:=[0]) (by kernel_rfl) (by simp) ?_;refine AllReadyIn.cons rfl (fun K hK=>?_) AllReadyIn.nil;go_simp
     refine hK _ _ ?_;clear hK K;refine wpAnyIn_take (i:=8) (v:=?vn38) rfl rfl (by kernel_rfl) (by kernel_rfl) (by kernel_rfl) (fun _ _ _ h=>h) ⟨Or.inl ⟨by rfl,?yn38⟩,fun _=>rfl⟩ ?rn38
     case yn38=>(intro w;go_simp;try with_reducible rfl)
     case rn38 =>
     refine wpAnyIn_ready (rs:=[18]) (by kernel_rfl) (by simp) ?_;refine AllReadyIn.cons rfl (fun K hK=>?_) AllReadyIn.nil;go_simp
     refine hK _ _ ?_;clear hK K;refine wpAnyIn_ready (rs:=[19]) (by kernel_rfl) (by simp) ?_;refine AllReadyIn.cons rfl (fun K hK=>?_) AllReadyIn.nil;go_simp
     refine hK _ _ ?_;clear hK K;refine wpAnyIn_done (by kernel_rfl) ?_ _;refine NoPanic.normal ?_;gi_wp2_with fail;rw [IntWalk.i64_in (k0 * g) (by omega),IntWalk.i64_in (k0 * (g+1)) (by omega),IntWalk.i64_in (lo+min (k0 * g) (k0 * (g+1))) (by omega),IntWalk.i64_in (hi+max (k0 * g) (k0 * (g+1))) (by omega)];obtain ⟨q1,q2,q3,q4,q5,q6,q7,q8⟩:=zj5 (B:=V.heap.size) HB.out Hx1.out G1.out G2.out G3.out H4.out H5.out (lo+min (k0 * g) (k0 * (g+1))) (hi+max (k0 * g) (k0 * (g+1)));exact ⟨q1,q2,q3,by rw [E1.out];exact q4,by rw [E2.out];exact q5,q6,q7,q8,Hpre.out⟩
  ·skip;have hmem:=zj2 hm0 hnq;have hall:¬ ∀ e∈l,okE m e:=fun h=>hnq (h _ hmem);have hex:∃ k∈pre++[p],¬ okE m (zga l k):=⟨p,by simp,hnq⟩;have hout:(zga l p).2 < -m∨m<(zga l p).2:=by
    rcases Int.lt_or_le (zga l p).2 (-m) with h | h
    ·exact .inl h
    ·rcases Int.lt_or_le m (zga l p).2 with h2 | h2
     ·exact .inr h2
     ·exact absurd ⟨hq0.1,h,h2⟩ hnq
   have hrv:=(Hr.out.resolve_left hall).ext hB;have hfit:=hq0.2;clear hnq hmem hall hpre hq0;generalize hnp:zga l p=e0 at *;generalize e0.2=k0 at *;have Hex:=hid hex;have HB:=hid hB;have H1:=hid hb1;have H2:=hid hb2;have H3:=hid hb3;have H4:=hid hb4;have H5:=hid hb5;clear hex hB hb1 hb2 hb3 hb4 hb5;rcases Classical.em (-9223372036854775808≤k0∧k0≤9223372036854775807) with hin | hin
   ·have hs:=zfN k0 W hin.1 hin.2;have Hs:=hid hs;clear hs hrv hfit;gi_wp2_with fail;refine ⟨trivial,?_⟩;refine (callsIn_wide.2 Hs.out).mono ?_;rintro e W1 ⟨rfl,hx1⟩;have g1:Boxed W1 (w.heap.size+1) 3 (.int .i64 m):=hx1.heap H1.out;have g2:Boxed W1 (w.heap.size+1+1) 3 (.int .i64 (zeP (pre.map (zga l)))):=hx1.heap H2.out;have g3:Boxed W1 (w.heap.size+1+1+1) 3 (.int .i64 (zeQ (pre.map (zga l)))):=hx1.heap H3.out;have g4:Boxed W1 (w.heap.size+1+1+1+1) 4 (.bool false):=hx1.heap H4.out;have hc1:=g1.cell;have hc2:=g2.cell;have hc3:=g3.cell;have hc4:=g4.cell;have hz2:=g2.frozen;have hz3:=g3.frozen;have hz4:=g4.frozen;have hq:=zj6 (B:=V.heap.size) HB.out hx1 g2 g3 g4;have Hq:=hid hq;clear hq g1 g2 g3 g4 hx1;rcases hout with ho | ho
    ·gi_wp2_with fail;obtain ⟨q1,q2,q3,q4,q5⟩:=Hq.out;exact ⟨q1,rfl,Hex.out,q2,q3,q4,q5⟩
    ·gi_wp2_with fail;obtain ⟨q1,q2,q3,q4,q5⟩:=Hq.out;exact ⟨q1,rfl,Hex.out,q2,q3,q4,q5⟩
   ·have hs:=zfO k0 W hrv (by omega) hfit;have Hs:=hid hs;clear hs hrv hfit;gi_wp2_with fail;refine ⟨trivial,?_⟩;refine (callsIn_wide.2 Hs.out).mono ?_;rintro e W1 ⟨rfl,hx1⟩;have g1:Boxed W1 (w.heap.size+1) 3 (.int .i64 m):=hx1.heap H1.out;have g2:Boxed W1 (w.heap.size+1+1) 3 (.int .i64 (zeP (pre.map (zga l)))):=hx1.heap H2.out;have g3:Boxed W1 (w.heap.size+1+1+1) 3 (.int .i64 (zeQ (pre.map (zga l)))):=hx1.heap H3.out;have g4:Boxed W1 (w.heap.size+1+1+1+1) 4 (.bool false):=hx1.heap H4.out;have hc1:=g1.cell;have hc2:=g2.cell;have hc3:=g3.cell;have hc4:=g4.cell;have hz2:=g2.frozen;have hz3:=g3.frozen;have hz4:=g4.frozen;have hq:=zj6 (B:=V.heap.size) HB.out hx1 g2 g3 g4;have Hq:=hid hq;clear hq g1 g2 g3 g4 hx1;gi_wp2_with fail;obtain ⟨q1,q2,q3,q4,q5⟩:=Hq.out;exact ⟨q1,rfl,Hex.out,q2,q3,q4,q5⟩
 case done =>
  rintro D ys W hD rfl ⟨hb1,hb2,hb3,hb4,hb5,hB,hpre⟩ hK;have hall:∀ e∈l,okE m e:=fun e he=>by
   obtain ⟨i,hi,rfl⟩:=List.getElem_of_mem he;have:=hpre i (List.mem_range.2 hi);rwa [show zga l i=l[i] by unfold zga;rw [List.getD_eq_getElem?_getD,List.getElem?_eq_getElem hi];rfl] at this
  have Hall:=hid hall;clear hpre hall;rw [zjy] at hb2 hb3;have hc2:=hb2.cell;have hc3:=hb3.cell;have hc4:=hb4.cell;have hz2:=hb2.frozen;have hz3:=hb3.frozen;have hz4:=hb4.frozen;have HB:=hid hB;clear hB;have H2:=hid hb2;have H3:=hid hb3;have H4:=hid hb4;clear hb1 hb2 hb3 hb4 hb5;gi_wp2_with fail;gi_region;have hd:w.heap.size≤D:=by omega
  have hK2:((((W.setCell ⟨w.heap.size+1+1,0,none⟩ (.int .i64 (zeP l))).setCell ⟨w.heap.size+1+1+1,0,none⟩ (.int .i64 (zeQ l))).setCell ⟨w.heap.size+1+1+1+1,0,none⟩ (.bool true)).drew).heap[D]?=some (.deferred (some [])) :=
   (Below.heap_setCell _ ⟨w.heap.size+1+1+1+1,0,none⟩ _ D (by dsimp only;omega)).trans ((Below.heap_setCell _ ⟨w.heap.size+1+1+1,0,none⟩ _ D (by dsimp only;omega)).trans ((Below.heap_setCell _ ⟨w.heap.size+1+1,0,none⟩ _ D (by dsimp only;omega)).trans hK))
  have x2:Boxed (((W.setCell ⟨w.heap.size+1+1,0,none⟩ (.int .i64 (zeP l))).setCell ⟨w.heap.size+1+1+1,0,none⟩ (.int .i64 (zeQ l))).setCell ⟨w.heap.size+1+1+1+1,0,none⟩ (.bool true)).drew (w.heap.size+1+1) 3 (.int .i64 (zeP l)) :=
   (Below.heap_setCell _ ⟨w.heap.size+1+1+1+1,0,none⟩ _ _ (by dsimp only;omega)).trans ((Below.heap_setCell _ ⟨w.heap.size+1+1+1,0,none⟩ _ _ (by dsimp only;omega)).trans (Boxed.set _ H2.out))
  have x3:Boxed (((W.setCell ⟨w.heap.size+1+1,0,none⟩ (.int .i64 (zeP l))).setCell ⟨w.heap.size+1+1+1,0,none⟩ (.int .i64 (zeQ l))).setCell ⟨w.heap.size+1+1+1+1,0,none⟩ (.bool true)).drew (w.heap.size+1+1+1) 3 (.int .i64 (zeQ l)) :=
   (Below.heap_setCell _ ⟨w.heap.size+1+1+1+1,0,none⟩ _ _ (by dsimp only;omega)).trans (Boxed.set (v:=.int .i64 (zeQ l)) _ ((Below.heap_setCell _ ⟨w.heap.size+1+1,0,none⟩ _ _ (by dsimp only;omega)).trans H3.out))
  have x4:Boxed (((W.setCell ⟨w.heap.size+1+1,0,none⟩ (.int .i64 (zeP l))).setCell ⟨w.heap.size+1+1+1,0,none⟩ (.int .i64 (zeQ l))).setCell ⟨w.heap.size+1+1+1+1,0,none⟩ (.bool true)).drew (w.heap.size+1+1+1+1) 4 (.bool true) :=
   Boxed.set (v:=.bool false) _ ((Below.heap_setCell _ ⟨w.heap.size+1+1+1,0,none⟩ _ _ (by dsimp only;omega)).trans ((Below.heap_setCell _ ⟨w.heap.size+1+1,0,none⟩ _ _ (by dsimp only;omega)).trans H4.out))
  have hB2:Below w.heap.size w (((W.setCell ⟨w.heap.size+1+1,0,none⟩ (.int .i64 (zeP l))).setCell ⟨w.heap.size+1+1+1,0,none⟩ (.int .i64 (zeQ l))).setCell ⟨w.heap.size+1+1+1+1,0,none⟩ (.bool true)).drew :=
   (((HB.out.setCell (p:=⟨w.heap.size+1+1,0,none⟩) (by dsimp only;omega) _).setCell (p:=⟨w.heap.size+1+1+1,0,none⟩) (by dsimp only;omega) _).setCell (p:=⟨w.heap.size+1+1+1+1,0,none⟩) (by dsimp only;omega) _).drew
  generalize (((W.setCell ⟨w.heap.size+1+1,0,none⟩ (.int .i64 (zeP l))).setCell ⟨w.heap.size+1+1+1,0,none⟩ (.int .i64 (zeQ l))).setCell ⟨w.heap.size+1+1+1+1,0,none⟩ (.bool true)).drew=X at *;have hB3:=hid hB2;clear hB2;gi_wp2_with fail;refine ⟨by simp,.inl ⟨_,_,rfl,run_takeDeferred hK2,?_⟩⟩;have d2:=(show Boxed (X.putObj D (.deferred none)) (w.heap.size+1+1) 3 (.int .i64 (zeP l)) from (World.putObj_heap_other (by omega)).trans x2).cell;have d3:=(show Boxed (X.putObj D (.deferred none)) (w.heap.size+1+1+1) 3 (.int .i64 (zeQ l)) from (World.putObj_heap_other (by omega)).trans x3).cell;have d4:=(show Boxed (X.putObj D (.deferred none)) (w.heap.size+1+1+1+1) 4 (.bool true) from (World.putObj_heap_other (by omega)).trans x4).cell;have hE2:Ext w (X.putObj D (.deferred none)):=Below.trans hB3.out (belowK_b (w:=w) (Nat.le_refl _) X D _ _ hd hK2 rfl rfl);exact ⟨.tuple #[.int .i64 (zeP l),.int .i64 (zeQ l),.bool true],by simp [results,Tryz.results204,go_sem,d2,d3,d4],fun _=>rfl,fun h=>absurd Hall.out h,hE2⟩
 case stop =>
  rintro D c pre W hD _ ⟨rfl,hex,hb2,hb3,hb4,hB⟩ hK;have hall:¬ ∀ e∈l,okE m e:=fun h=>by
   obtain ⟨k,_,hk⟩:=hex;exact hk (h _ (zj2 hm0 hk))
  have hd:w.heap.size≤D:=by omega
  have Hall:=hid hall;have HB:=hid hB;clear hex hall hB;gi_wp2_with fail;refine ⟨by simp,.inl ⟨_,_,rfl,run_takeDeferred hK,?_⟩⟩;have d2:=(show Boxed (W.putObj D (.deferred none)) (w.heap.size+1+1) 3 (.int .i64 0) from (World.putObj_heap_other (by omega)).trans hb2).cell;have d3:=(show Boxed (W.putObj D (.deferred none)) (w.heap.size+1+1+1) 3 (.int .i64 0) from (World.putObj_heap_other (by omega)).trans hb3).cell;have d4:=(show Boxed (W.putObj D (.deferred none)) (w.heap.size+1+1+1+1) 4 (.bool false) from (World.putObj_heap_other (by omega)).trans hb4).cell;have hE2:Ext w (W.putObj D (.deferred none)):=Below.trans HB.out (belowK_b (w:=w) (Nat.le_refl _) W D _ _ hd hK rfl rfl);exact ⟨.tuple #[.int .i64 0,.int .i64 0,.bool false],by simp [results,Tryz.results204,go_sem,d2,d3,d4],fun h=>absurd h Hall.out,fun _=>rfl,hE2⟩
theorem zj8 (tv:Value)(l:List (Int × Int))(d:Nat)(m:Int)(w:World)(ht:TmV w tv l d)(hl:l.length≤100)(hm0:0≤m)(hm:m≤10000000)(hok:∀ e∈l,okE m e) :
  Calls Tryz.prog 204 #[tv,.int .i64 m] w fun e w'=>e=.returned (.tuple #[.int .i64 (zeP l),.int .i64 (zeQ l),.bool true])∧Ext w w' :=
 (zj7 tv l d m w ht hl hm0 hm (fun e he=>⟨(hok e he).1,zj1 hm (hok e he)⟩) (.inl hok)).mono fun _ _ ⟨h1,_,h2⟩=>⟨h1 hok,h2⟩
end Go.Proofs.YtipkdebkdnbieaaGreatDoor
