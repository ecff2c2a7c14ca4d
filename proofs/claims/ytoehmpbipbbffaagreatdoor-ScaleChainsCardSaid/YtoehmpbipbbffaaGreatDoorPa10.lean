/- Walks: schismaref03's To and Of at one digit. Walks: schismaref03's plus, above, minus at one digit. Walks: schismaref03's AddW and SignW at one digit. Walk: schismaref03's MulW at one digit. Walks: schismaref03's little, SignW, Of. Walks: schismaref03's Make and Frac of one digit. Walks: schismaref03's Add and Mul of small fractions. Walks: law 31's add, times, less. -/
import Derived.Test.YtoehmpbipbbffaaGreatDoorPa06
import Derived.Test.YtoehmpbipbbffaaGreatDoorShelfF
import Derived.Shelf.Strings.Prefix
import Derived.Test.YtoehmpbipbbffaaGreatDoorPa09
import Derived.Deep.QuietTactic
import Derived.Deep.RegionHeld3
import Derived.Test.YtoehmpbipbbffaaGreatDoorPa07
set_option maxRecDepth 100000
set_option maxHeartbeats 800000
namespace Go.Proofs.YtoehmpbipbbffaaGreatDoor
open Go.RowKit Go.Lib Go.Shelf
attribute [local go_sem] Oper.semAt_some
theorem zgu {T:TypeId}{W:World}{c:Nat}{u v s:Value}{xs:List Int}(hs:Sl W s (zak xs))(hb:zdV T W c u v)(hu:∀ z,u ≠ .int .i64 z)(hv:∀ z,v ≠ .int .i64 z)(x y:Value):Sl ((W.setCell ⟨c,0,none⟩ x).setCell ⟨c,1,none⟩ y) s (zak xs):=by
 rcases hs with ⟨a,cap,e,hm,h0⟩ | ⟨b,off,cap,e,h1,h2,hc⟩
 ·exact .inl ⟨a,cap,e,hm,h0⟩
 ·refine .inr ⟨b,off,cap,e,h1,h2,fun i q hq=>?_⟩;have h:=hc i q hq;have hbc:b ≠ c:=by
   rintro rfl;obtain ⟨z,rfl⟩:∃ z,q=.int .i64 z:=by
    unfold zak at hq;rw [List.getElem?_map] at hq
    cases hz:xs[i]? with
    | none=>rw [hz] at hq;cases hq
    | some z=>rw [hz] at hq;exact ⟨z,(Option.some.inj hq).symm⟩
   unfold World.cell? at h;dsimp only at h;rw [hb] at h;rcases (by omega:off+i=0∨off+i=1∨2≤off+i) with g | g | g
   ·rw [g] at h;exact hu z (Option.some.inj h)
   ·rw [g] at h;exact hv z (Option.some.inj h)
   ·have:(#[u,v]:Array Value)[off+i]?=none:=Array.getElem?_eq_none (by simpa using g);simp [this] at h
  rw [World.cell?_setCell_other _ _ _ _ (by intro e';simp only [Addr.mk.injEq] at e';exact hbc e'.1.symm),World.cell?_setCell_other _ _ _ _ (by intro e';simp only [Addr.mk.injEq] at e';exact hbc e'.1.symm)];exact h
def dg (z:Int):List Int:=if z=0 then [] else [(z.natAbs:Int)]
def W1 (w:World)(v:Value)(z:Int):Prop:=∃ u,v=.agg #[.bool (decide (z<0)),u]∧Sl w u (zak (dg z))
theorem W1.ext {w w':World}{v:Value}{z:Int}(hx:Ext w w')(h:W1 w v z):W1 w' v z:=by
 obtain ⟨u,e,h⟩:=h;exact ⟨u,e,hx.sl h⟩
def zgv (b:Bool)(m:Nat):Int:=if b then -(m:Int) else m
theorem zgw (u:Value)(b:Bool)(m zs:Nat)(w:World)(hu:Sl w u (zak ((m:Int)::List.replicate zs 0)))(hz:zs≤100) :
  Calls Tryz.prog 85 #[.agg #[.bool b,u]] w fun e w'=>∃ v,e=.returned v∧W1 w' v (zgv b m)∧Ext w w':=by
 refine (zew u b _ w hu (by simp;omega)).mono ?_;rintro e w' ⟨u',k,rfl,hk,h0,h1,hs,hx⟩;refine ⟨_,rfl,⟨u',?_,?_⟩,hx⟩
 all_goals
  have hk1:k≤1:=by
   rcases Nat.lt_or_ge 1 k with g | g
   ·exfalso;obtain ⟨j,rfl⟩:∃ j,k=j+2:=⟨k - 2,by omega⟩;refine h1 (j+1) (by omega) ?_;rw [List.getElem?_cons_succ,List.getElem?_replicate,if_pos (by simp at hk;omega)]
   ·exact g
  have hkm:(k=0∧m=0)∨(k=1∧m ≠ 0):=by
   rcases (by omega:k=0∨k=1) with e | e
   ·left;have:=h0 0 (by omega) (by simp);simp at this;exact ⟨e,by omega⟩
   ·right;refine ⟨e,fun g=>h1 0 (by omega) ?_⟩;rw [g];rfl
 ·rcases hkm with ⟨rfl,rfl⟩ | ⟨rfl,hm⟩
  ·cases b <;> simp [zgv]
  ·cases b
   ·simp [zgv]
   ·simp [zgv];omega
 ·rcases hkm with ⟨rfl,rfl⟩ | ⟨rfl,hm⟩
  ·have:dg (zgv b 0)=[]:=by cases b <;> rfl
   rw [this];exact hs
  ·have:dg (zgv b m)=[(m:Int)]:=by
    unfold dg zgv
    cases b
    ·rw [if_neg (by simp;omega)];simp
    ·rw [if_neg (by simp;omega)];simp
   rw [this];exact hs
theorem zgx (z:Int):Lib.hasPrefix (I z).data.toList (⟨#[45]⟩:ByteArray).data.toList=decide (z<0):=by
 unfold Lib.hasPrefix;rw [show (I z).data.toList=(I z).toList from (Lib.toList_data _).symm];show ([45]:List UInt8).isPrefixOf (I z).toList=_;rcases (by omega:z<0∨0≤z) with h | h
 ·obtain ⟨n,rfl⟩:∃ n:Nat,z=-(n:Int):=⟨z.natAbs,by omega⟩;rw [zbo n (by omega),decide_eq_true h];rfl
 ·obtain ⟨n,rfl⟩:∃ n:Nat,z=(n:Int):=⟨z.toNat,by omega⟩;rw [zav,zbg,decide_eq_false (by omega)]
  cases hd:decDigits n with
  | nil=>rfl
  | cons c l =>
   have h1:=Dec.dig_dec n c (by rw [hd];exact List.mem_cons_self ..)
   show ([45].isPrefixOf (c::l))=false
   have hc:((45:UInt8) == c)=false:=by
    rw [beq_eq_false_iff_ne];rintro rfl;revert h1;decide
   simp [List.isPrefixOf,hc]
theorem zgy (z:Int)(w:World)(h0:-1000000000<z)(h1:z<1000000000) :
  Calls Tryz.prog 56 #[.string (I z)] w fun e w'=>∃ v,e=.returned v∧W1 w' v z∧Ext w w':=by
 obtain ⟨i0,hi,hz0,hz1,hz2⟩:=info_parts zej;obtain ⟨m,hm⟩:∃ m:Nat,m=z.natAbs:=⟨_,rfl⟩;have hpf:=fun W=>Any.strings_HasPrefix Tryz.lHasPrefix (I z) ⟨#[45]⟩ W;rw [zgx] at hpf;have hat:=fun W=>zaB (m:Int) (by omega) (by omega) W;rw [zav] at hat;have hsz:(D m).size≤9∧0<(D m).size:=by
  rw [zau];exact ⟨Dec.nDigits_le (by omega) (by show m<1000000000;omega),nDigits_pos m⟩
 have htr:=fun (W:World)(u:Value)(hu:Sl W u (zak [(m:Int)]))=>zgw u (decide (z<0)) m 0 W hu (by omega);have hsg:zgv (decide (z<0)) m=z:=by
  unfold zgv;by_cases h:z<0
  ·rw [decide_eq_true h,if_pos rfl];omega
  ·rw [decide_eq_false h,if_neg (by simp)];omega
 rw [hsg] at htr;have hcut:z<0→(I z).extract 1 (I z).size=D m∧(1:Int)≤((I z).size:Int):=fun h=>by
  obtain rfl:z=-(m:Int):=by omega
  refine ⟨zbx m (by omega),?_⟩;rw [zbp m (by omega)];omega
 have hpos:¬ z<0→I z=D m:=fun h=>by rw [← zav];congr 1;omega
 have hex:(D m).extract 0 (D m).size=D m:=by
  apply ByteArray.ext;rw [ByteArray.data_extract];show (D m).data.extract 0 (D m).data.size=_;rw [Array.extract_size]
 have hmb:(m:Int)<1000000000:=by omega
 generalize hb:decide (z<0)=b at *;generalize hsI:I z=sz at *;generalize hsD:D m=sm at *;have hb0:b=true→z<0:=fun h=>by rw [h] at hb;exact of_decide_eq_true hb
 have hb1:b=false→¬ z<0:=fun h=>by rw [h] at hb;exact of_decide_eq_false hb
 have ht0:sm.extract 0 0=⟨#[]⟩:=by
  apply ByteArray.ext;rw [ByteArray.data_extract,Array.extract_empty_of_stop_le_start (Nat.le_refl _)]
 have hE1:Ext w ((w.alloc (.cells #[.bool false,.slice none 0 0] 97)).alloc (.cells #[.bool b,.slice none 0 0] 97)):=((Ext.refl w).alloc _).alloc _;have b1:=(zdV.new 97 w (.bool false) (.slice none 0 0)).ext ((Ext.refl _).alloc (.cells #[.bool b,.slice none 0 0] 97));have b2:=zdV.new 97 (w.alloc (.cells #[.bool false,.slice none 0 0] 97)) (.bool b) (.slice none 0 0);rw [World.size_alloc] at b2;obtain ⟨hs9,hs0⟩:=hsz;have hs9i:(sm.size:Int)≤9:=by omega
 have hs0i:(0:Int)<(sm.size:Int):=by omega
 have hsd:decide ((sm.size:Int) > 0)=true:=decide_eq_true (by omega);have hmx:max (0:Int) ((sm.size:Int) - 9)=0:=by omega
 have hwx:IntKind.i64.wrap ((sm.size:Int) - 9)=(sm.size:Int) - 9:=by rw [IntKind.wrap_i64];omega
 have Hpf:=hid hpf;have Hat:=hid hat;have Htr:=hid htr;have HE1:=hid hE1;have B1:=hid b1;have B2:=hid b2;clear hpf hat htr hE1 b1 b2 hsg hb hm h0 h1
 cases b
 ·have hsm:sz=sm:=by exact hpos (hb1 rfl)
  subst hsm;clear hsI hsD hcut hpos hb0 hb1;have q0:=B2.out.c0;have q1:=B2.out.c1;have f1:=B2.out.fz 1;go_enter Tryz.func56,Tryz.ntmps56
  go_wp2_with fail
  refine (Hpf.out _).mono ?_;rintro e w1 ⟨rfl,rfl⟩;go_wp2_with fail
  refine wp_loop_rounds 2 ?_;rw [rounds_succ];go_wp2_with fail
  refine (Hat.out _).mono ?_;rintro e w2 ⟨rfl,hx2⟩;have hb2':=B2.out.ext hx2;have hEw2:=HE1.out.trans hx2;have hR2:=B1.out.ext hx2;have r1:=hb2'.c1;have hbase:w.heap.size≤w2.heap.size:=hEw2.size;have HB2:=hid hb2';have HEw2:=hid hEw2;have HR2:=hid hR2;clear hb2' hx2 hEw2 hR2 q0 q1 f1;go_wp2_with (at_builtin;refine wpList_append_own _ rfl _ _ 28 rfl w.heap.size 3 i0 (.int .i64 0) 1 8 Tryz.underlying28 hi hz0 hz1 hz2 rfl (by decide) _ _ _ rfl ((World.ownsRow_nil w2 _ _ 1).alloc _) ⟨w2.heap.size,0,none⟩ 1 1 [.int .i64 m] rfl rfl (cell_one_new _ _ _) (by simp [Value.oneCell']) (by decide) (by decide) (by rw [World.size_alloc];omega) ?_;intro v7 V7 hown7 hgrow7 _;have hbV:zdV 97 V7 (w.heap.size+1) (.bool false) (.slice none 0 0):=zgf (((Ext.refl w2).alloc _).heap HB2.out) ((World.ownsRow_nil w2 w.heap.size 3 1).alloc (.cells #[.int .i64 m] 3)) (by decide) hgrow7;have hrV:zdV 97 V7 w.heap.size (.bool false) (.slice none 0 0):=zgf (((Ext.refl w2).alloc _).heap HR2.out) ((World.ownsRow_nil w2 w.heap.size 3 1).alloc (.cells #[.int .i64 m] 3)) (by decide) hgrow7;have d1:=hbV.c1;have e1:=hbV.fz 1;obtain ⟨a7,c7,rfl⟩:=zel hown7)
  have hEV:Ext w (V7.setCell ⟨w.heap.size+1,1,none⟩ (.slice a7 (0+1) c7)):=((HEw2.out.alloc _).grown hgrow7 (fun k hk=>(World.ownsRow.lt ((World.ownsRow_nil w2 w.heap.size 3 1).alloc (.cells #[.int .i64 m] 3)) k hk).1)).setCell (by show w.heap.size≤w.heap.size+1;omega) _;have hb8:=hbV.put1 (.slice a7 (0+1) c7);have hr8:=hrV.past1 (c:=w.heap.size+1) 1 (by omega) (.slice a7 (0+1) c7);have hs8:Sl (V7.setCell ⟨w.heap.size+1,1,none⟩ (.slice a7 (0+1) c7)) (.slice a7 (0+1) c7) (zak [(m:Int)]):=zai (zgi hbV hown7 (by decide) 1 (.slice a7 (0+1) c7));have HEV:=hid hEV;have Hb8:=hid hb8;have Hr8:=hid hr8;have Hs8:=hid hs8;clear hEV hb8 hr8 hs8 hown7 hgrow7 hbV hrV d1 e1 r1 hbase;generalize V7.setCell ⟨w.heap.size+1,1,none⟩ (.slice a7 (0+1) c7)=V8 at *;have s0:=Hb8.out.c0;have s1:=Hb8.out.c1;rw [rounds_succ];go_wp2_with fail
  have htr8:=Htr.out V8 _ Hs8.out;have Htr8:=hid htr8;clear htr8;go_wp2_with fail
  refine Htr8.out.mono ?_;rintro e W9 ⟨v9,rfl,hw9,hx9⟩;obtain ⟨u9,rfl,hs9'⟩:=hw9;obtain ⟨a9,c9,rfl,_,_,_⟩:=hs9'.parts;have hK:K0 97 w W9 w.heap.size:=⟨HEV.out.trans hx9,_,_,Hr8.out.ext hx9⟩;have k0:=hK.res.c0;have k1:=hK.res.c1;have z0:=hK.res.fz 0;have z1:=hK.res.fz 1;obtain ⟨hb5,hx5⟩:=hK.fin (Nat.le_refl _) (.bool (decide (z<0))) (.slice a9 (zak (dg z)).length c9);have hs5:=zgu hs9' (Hr8.out.ext hx9) (by simp) (by simp) (.bool (decide (z<0))) (.slice a9 (zak (dg z)).length c9);have Hb5:=hid hb5;have Hx5:=hid hx5;clear hb5 hx5;go_wp2_with fail
  have hd0':=Hb5.out.c0;have hd1':=Hb5.out.c1;exact bodyPost_ret (v:=.agg #[.bool (decide (z<0)),.slice a9 (zak (dg z)).length c9]) (by simp [results,Tryz.results56,go_sem,hd0',hd1']) rfl ⟨_,rfl,⟨_,rfl,hs5⟩,Hx5.out⟩
 ·obtain ⟨hc1,hc2⟩:=hcut (hb0 rfl);clear hsI hsD hcut hpos hb0 hb1;have q0:=B2.out.c0;have q1:=B2.out.c1;have f1:=B2.out.fz 1;go_enter Tryz.func56,Tryz.ntmps56
  go_wp2_with fail
  refine (Hpf.out _).mono ?_;rintro e w1 ⟨rfl,rfl⟩;go_wp2_with fail
  refine wp_loop_rounds 2 ?_;rw [rounds_succ];go_wp2_with fail
  refine (Hat.out _).mono ?_;rintro e w2 ⟨rfl,hx2⟩;have hb2':=B2.out.ext hx2;have hEw2:=HE1.out.trans hx2;have hR2:=B1.out.ext hx2;have r1:=hb2'.c1;have hbase:w.heap.size≤w2.heap.size:=hEw2.size;have HB2:=hid hb2';have HEw2:=hid hEw2;have HR2:=hid hR2;clear hb2' hx2 hEw2 hR2 q0 q1 f1;go_wp2_with (at_builtin;refine wpList_append_own _ rfl _ _ 28 rfl w.heap.size 3 i0 (.int .i64 0) 1 8 Tryz.underlying28 hi hz0 hz1 hz2 rfl (by decide) _ _ _ rfl ((World.ownsRow_nil w2 _ _ 1).alloc _) ⟨w2.heap.size,0,none⟩ 1 1 [.int .i64 m] rfl rfl (cell_one_new _ _ _) (by simp [Value.oneCell']) (by decide) (by decide) (by rw [World.size_alloc];omega) ?_;intro v7 V7 hown7 hgrow7 _;have hbV:zdV 97 V7 (w.heap.size+1) (.bool true) (.slice none 0 0):=zgf (((Ext.refl w2).alloc _).heap HB2.out) ((World.ownsRow_nil w2 w.heap.size 3 1).alloc (.cells #[.int .i64 m] 3)) (by decide) hgrow7;have hrV:zdV 97 V7 w.heap.size (.bool false) (.slice none 0 0):=zgf (((Ext.refl w2).alloc _).heap HR2.out) ((World.ownsRow_nil w2 w.heap.size 3 1).alloc (.cells #[.int .i64 m] 3)) (by decide) hgrow7;have d1:=hbV.c1;have e1:=hbV.fz 1;obtain ⟨a7,c7,rfl⟩:=zel hown7)
  have hEV:Ext w (V7.setCell ⟨w.heap.size+1,1,none⟩ (.slice a7 (0+1) c7)):=((HEw2.out.alloc _).grown hgrow7 (fun k hk=>(World.ownsRow.lt ((World.ownsRow_nil w2 w.heap.size 3 1).alloc (.cells #[.int .i64 m] 3)) k hk).1)).setCell (by show w.heap.size≤w.heap.size+1;omega) _;have hb8:=hbV.put1 (.slice a7 (0+1) c7);have hr8:=hrV.past1 (c:=w.heap.size+1) 1 (by omega) (.slice a7 (0+1) c7);have hs8:Sl (V7.setCell ⟨w.heap.size+1,1,none⟩ (.slice a7 (0+1) c7)) (.slice a7 (0+1) c7) (zak [(m:Int)]):=zai (zgi hbV hown7 (by decide) 1 (.slice a7 (0+1) c7));have HEV:=hid hEV;have Hb8:=hid hb8;have Hr8:=hid hr8;have Hs8:=hid hs8;clear hEV hb8 hr8 hs8 hown7 hgrow7 hbV hrV d1 e1 r1 hbase;generalize V7.setCell ⟨w.heap.size+1,1,none⟩ (.slice a7 (0+1) c7)=V8 at *;have s0:=Hb8.out.c0;have s1:=Hb8.out.c1;rw [rounds_succ];go_wp2_with fail
  have htr8:=Htr.out V8 _ Hs8.out;have Htr8:=hid htr8;clear htr8;go_wp2_with fail
  refine Htr8.out.mono ?_;rintro e W9 ⟨v9,rfl,hw9,hx9⟩;obtain ⟨u9,rfl,hs9'⟩:=hw9;obtain ⟨a9,c9,rfl,_,_,_⟩:=hs9'.parts;have hK:K0 97 w W9 w.heap.size:=⟨HEV.out.trans hx9,_,_,Hr8.out.ext hx9⟩;have k0:=hK.res.c0;have k1:=hK.res.c1;have z0:=hK.res.fz 0;have z1:=hK.res.fz 1;obtain ⟨hb5,hx5⟩:=hK.fin (Nat.le_refl _) (.bool (decide (z<0))) (.slice a9 (zak (dg z)).length c9);have hs5:=zgu hs9' (Hr8.out.ext hx9) (by simp) (by simp) (.bool (decide (z<0))) (.slice a9 (zak (dg z)).length c9);have Hb5:=hid hb5;have Hx5:=hid hx5;clear hb5 hx5;go_wp2_with fail
  have hd0':=Hb5.out.c0;have hd1':=Hb5.out.c1;exact bodyPost_ret (v:=.agg #[.bool (decide (z<0)),.slice a9 (zak (dg z)).length c9]) (by simp [results,Tryz.results56,go_sem,hd0',hd1']) rfl ⟨_,rfl,⟨_,rfl,hs5⟩,Hx5.out⟩
theorem zgz {w:World}{v:Value}{m:Nat}(h:Sl w v (zak (dg (m:Int)))):(m=0∧∃ a c,v=.slice a 0 c∧c≤maxLen)∨(0<m∧∃ b off c,v=.slice (some ⟨b,off,none⟩) 1 c∧w.cell? ⟨b,off,none⟩=some (.int .i64 (m:Int))∧1≤c∧c≤maxLen):=by
 rcases Nat.eq_zero_or_pos m with rfl | hm
 ·obtain ⟨a,c,rfl,hc,_,_⟩:=h.parts;exact .inl ⟨rfl,a,c,rfl,hc⟩
 ·have e:dg (m:Int)=[(m:Int)]:=by unfold dg;rw [if_neg (by omega),Int.natAbs_natCast]
  rw [e] at h;obtain ⟨a,c,rfl,hc,h1,h2⟩:=h.parts;obtain ⟨b,off,rfl,h3⟩:=h2 0 (.int .i64 (m:Int)) rfl;exact .inr ⟨hm,b,off,c,rfl,h3,h1,hc⟩
theorem zg0 (x:Int):dg x=dg ((x.natAbs:Nat):Int):=by
 unfold dg;by_cases h:x=0
 ·subst h;rfl
 ·rw [if_neg h,if_neg (by omega),Int.natAbs_natCast]
theorem zg1 {w:World}{v:Value}{xs:List Int}(h:Sl w v (zak xs)):∃ a l c,v=.slice a l c∧Sl w (.slice a l c) (zak xs):=by
 obtain ⟨a,c,rfl,_,_,_⟩:=h.parts;exact ⟨a,_,c,rfl,h⟩
theorem zg2 {w:World}{v:Value}{z:Int}(h:W1 w v z):∃ b a l c,v=.agg #[.bool b,.slice a l c]∧W1 w (.agg #[.bool b,.slice a l c]) z:=by
 obtain ⟨u,rfl,hs⟩:=h;obtain ⟨a,l,c,rfl,hs⟩:=zg1 hs;exact ⟨_,a,l,c,rfl,_,rfl,hs⟩
theorem zg3 {w:World}{v:Value}{z:Int}(h:W1 w v z){T:TypeId}{c:Nat}{p q:Value}(hb:zdV T w c p q)(hu:∀ z,p ≠ .int .i64 z)(hv:∀ z,q ≠ .int .i64 z)(x y:Value):W1 ((w.setCell ⟨c,0,none⟩ x).setCell ⟨c,1,none⟩ y) v z:=by
 obtain ⟨u,e,hs⟩:=h;exact ⟨u,e,zgu hs hb hu hv x y⟩
theorem zg4 {w:World}{B E s g n cap:Nat}{xs:List Value}(h:w.ownsRow B E s (.slice (some ⟨g,0,none⟩) n cap) n xs)(k:Nat):w.frozen? ⟨g,k,none⟩=false:=by
 rcases h.2 with ⟨e,_⟩ | ⟨g',cap',cur,e,hb,hg,_⟩
 ·cases e
 ·injection e with e1 _ _;injection e1 with e1;injection e1 with e1;subst e1;exact frozen_of_row _ _ _ _ _ hg
theorem zg5 {w:World}{v:Value}{z:Int}(h:W1 w v z):(z=0∧∃ a c,v=.agg #[.bool false,.slice a 0 c])∨(z ≠ 0∧∃ b off c,v=.agg #[.bool (decide (z<0)),.slice (some ⟨b,off,none⟩) 1 c]∧w.cell? ⟨b,off,none⟩=some (.int .i64 (z.natAbs:Int))):=by
 obtain ⟨u,rfl,hs⟩:=h;rw [zg0] at hs;rcases zgz hs with ⟨h0,a,c,rfl,_⟩ | ⟨h0,b,off,c,rfl,h1,_,_⟩
 ·left;obtain rfl:z=0:=by omega
  exact ⟨rfl,a,c,rfl⟩
 ·exact .inr ⟨by omega,b,off,c,rfl,h1⟩
theorem zg6 (v:Value)(z:Int)(w:World)(h:W1 w v z)(hz:0<z) :
  Calls Tryz.prog 55 #[v] w fun e w'=>e=.returned (.int .i64 1)∧Ext w w':=by
 rcases zg5 h with ⟨h0,_⟩ | ⟨_,b,off,c,rfl,h1⟩
 ·omega
 ·rw [decide_eq_false (by omega)];have hE:Ext w (w.alloc (.cells #[.bool false,.slice (some ⟨b,off,none⟩) 1 c] 97)):=(Ext.refl w).alloc _;have b1:=zdV.new 97 w (.bool false) (.slice (some ⟨b,off,none⟩) 1 c);have q0:=b1.c0;have q1:=b1.c1;have HE:=hid hE;clear hE b1 h;go_enter Tryz.func55,Tryz.ntmps55
  go_wp2
  go_ret
  exact ⟨rfl,HE.out⟩
theorem zg7 (z:Int)(w:World)(he:Env w)(h0:-1000000000<z)(h1:z<1000000000) :
  Calls Tryz.prog 67 #[.int .i64 z] w fun e w'=>∃ v,e=.returned v∧W1 w' v z∧Ext w w':=by
 have hi:=fun W (hE:Ext w W)=>zes z W (he.ext hE) (by omega) (by omega);have ht:=fun W=>zgy z W h0 h1;have hE0:Ext w (w.alloc (.cells #[.bool false,.slice none 0 0] 97)):=(Ext.refl w).alloc _;have b1:=zdV.new 97 w (.bool false) (.slice none 0 0);generalize I z=s at *;have Hi:=hid hi;have Ht:=hid ht;have HE0:=hid hE0;have B1:=hid b1;clear hi ht hE0 b1 he;go_enter Tryz.func67,Tryz.ntmps67
 go_wp2_with fail
 refine (Hi.out _ HE0.out).mono ?_;rintro e w1 ⟨rfl,hx1⟩;have Hx1:=hid hx1;clear hx1;go_wp2_with fail
 refine (Ht.out w1).mono ?_;rintro e w9 ⟨v9,rfl,hw9,hx9⟩;obtain ⟨b9,a9,l9,c9,rfl,hw9⟩:=zg2 hw9;have hx:=Hx1.out.trans hx9;have hr9:=B1.out.ext hx;have hk9:K0 97 w w9 w.heap.size:=⟨HE0.out.trans hx,_,_,hr9⟩;have k0:=hk9.res.c0;have k1:=hk9.res.c1;have z0:=hk9.res.fz 0;have z1:=hk9.res.fz 1;obtain ⟨hb5,hx5⟩:=hk9.fin (Nat.le_refl _) (.bool b9) (.slice a9 l9 c9);have hs5:=zg3 hw9 hr9 (by simp) (by simp) (.bool b9) (.slice a9 l9 c9);have Hb5:=hid hb5;have Hx5:=hid hx5;have Hs5:=hid hs5;clear hb5 hx5 hs5 hk9 hr9 hx9 hw9 hx;go_wp2_with fail
 have hd0:=Hb5.out.c0;have hd1:=Hb5.out.c1;exact bodyPost_ret (v:=.agg #[.bool b9,.slice a9 l9 c9]) (by simp [results,Tryz.results67,go_sem,hd0,hd1]) rfl ⟨_,rfl,Hs5.out,Hx5.out⟩
theorem zg8 (z:Int)(d:Nat)(hd:0<d):(mkRat z d).num=zgv (decide (z<0)) (z.natAbs / Nat.gcd z.natAbs d)∧(mkRat z d).den=d / Nat.gcd z.natAbs d:=by
 have e1:=zdk z d (by omega);have e2:=zdl z d (by omega);have hg:0<Nat.gcd z.natAbs d:=Nat.gcd_pos_of_pos_right _ hd;refine ⟨?_,?_⟩
 ·rw [e1];unfold zgv;rcases (by omega:z<0∨0≤z) with h | h
  ·rw [decide_eq_true h,if_pos rfl];have:z=-((z.natAbs:Nat):Int):=(by omega);generalize Nat.gcd z.natAbs d=g at *;generalize z.natAbs=m at *;rw [this,Int.neg_tdiv,Int.ofNat_tdiv]
  ·rw [decide_eq_false (by omega),if_neg (by simp)];have:z=((z.natAbs:Nat):Int):=(by omega);generalize Nat.gcd z.natAbs d=g at *;generalize z.natAbs=m at *;rw [this,Int.ofNat_tdiv]
 ·rw [← Int.ofNat_tdiv] at e2;exact Int.ofNat_inj.1 e2
theorem zg9 (v:Value)(z:Int)(d:Nat)(w:World)(he:Env w)(hv:W1 w v z)(hz:z.natAbs<1000000000)(hd:0<d)(hd9:d<1000000000) :
  Calls Tryz.prog 102 #[v,.int .i64 (d:Int)] w fun e w'=>e=.returned (Rv (mkRat z d))∧Ext w w':=by
 obtain ⟨m,hm⟩:∃ m,m=z.natAbs:=⟨_,rfl⟩;obtain ⟨g,hg⟩:∃ g,g=Nat.gcd z.natAbs d:=⟨_,rfl⟩;have hgp:0<g:=by rw [hg];exact Nat.gcd_pos_of_pos_right _ hd
 have hgd:g≤d:=by rw [hg];exact Nat.gcd_le_right _ hd
 obtain ⟨e1,e2⟩:=zg8 z d hd;rw [← hg,← hm] at e1;rw [← hg] at e2;unfold Rv;rw [e1,e2];have hq1:m / g≤m:=Nat.div_le_self _ _;have hq2:d / g≤d:=Nat.div_le_self _ _;have hi:=fun (z:Int)(h0:-1000000000≤z)(h1:z≤1000000000) W (hE:Ext w W)=>zes z W (he.ext hE) (by omega) (by omega);have hnat1:(m:Int).tdiv (g:Int)=((m / g:Nat):Int):=(Int.ofNat_tdiv m g).symm;have hnat2:(d:Int).tdiv (g:Int)=((d / g:Nat):Int):=(Int.ofNat_tdiv d g).symm;have hnat3:(m:Int) / (g:Int)=((m / g:Nat):Int):=by simp
 have hnat4:(d:Int) / (g:Int)=((d / g:Nat):Int):=by simp
 rw [hm] at hq1 hnat1 hnat3;rw [← hm] at hq1 hnat1 hnat3;have hw:∃ sb u,v=.agg #[.bool sb,u]∧sb=decide (z<0):=by
  obtain ⟨u,e,_⟩:=hv;exact ⟨_,u,e,rfl⟩
 have hgcd:Nat.gcd m d=g:=by rw [hm,hg]
 rw [← hm] at hz;generalize hq:m / g=q at *;generalize hr:d / g=r at *;have hm2:(m:Int)=(z.natAbs:Int):=by omega
 have Hm:=hid hm2;clear hm2 hq hr;rcases zg5 hv with ⟨h0,a0,c0,rfl⟩ | ⟨h0,b0,o0,c0,rfl,h1⟩
 ·have hm0:m=0:=by omega
  clear hm Hm;subst hm0;clear hnat3 hnat4;have hnat1:(0:Int).tdiv (g:Int)=(q:Int):=hnat1;have hsq:zgv (decide (z<0)) q=(q:Int):=by unfold zgv;rw [decide_eq_false (by omega)];rfl
  rw [hsq];clear hw hsq;have hE0:Ext w ((w.alloc (.cells #[.bool false,.slice a0 0 c0] 97)).alloc (.cells #[.string ⟨#[]⟩,.string ⟨#[]⟩] 57)):=((Ext.refl w).alloc _).alloc _;have b1:=(zdV.new 97 w (.bool false) (.slice a0 0 c0)).ext ((Ext.refl _).alloc (.cells #[.string ⟨#[]⟩,.string ⟨#[]⟩] 57));have b2:=zdV.new 57 (w.alloc (.cells #[.bool false,.slice a0 0 c0] 97)) (.string ⟨#[]⟩) (.string ⟨#[]⟩);rw [World.size_alloc] at b2;skip;generalize hV:(w.alloc (.cells #[.bool false,.slice a0 0 c0] 97)).alloc (.cells #[.string ⟨#[]⟩,.string ⟨#[]⟩] 57)=V at *;have p0:=b1.c0;have p1:=b1.c1;have hk:K0 57 w V (w.heap.size+1):=⟨hE0,_,_,b2⟩;have Hk:=hid hk;have B1:=hid b1;have Hi:=hid hi;have Hgcd:=hid hgcd;clear hE0 b1 b2 hk hv hi hgcd e1 e2 hg he;go_enter Tryz.func102,Tryz.ntmps102
  go_wp2_with fail
  go_loopw [6,7] (fun v6 v7 wr=>∃ a b:Nat,v6=.int .i64 (a:Int)∧v7=.int .i64 (b:Int)∧Hid (Nat.gcd a b=g)∧a<1000000000∧b<1000000000∧Hid (Ext V wr)) (fun _ v7 _=>(zag v7).toNat)
  case atStart=>exact ⟨0,d,rfl,rfl,Hgcd,by omega,hd9,hid (Ext.refl _)⟩
  case round =>
   obtain ⟨a,b,rfl,rfl,hab,ha9,hb9,hEr⟩:=hrel;by_cases h0:0<b
   ·have hbz:(0:Int)<(b:Int):=(by omega);have hb0:¬ (b:Int)=0:=(by omega);have hbn:¬ b=0:=(by omega);have hbb:((b:Int) == 0)=false:=beq_eq_false_iff_ne.2 hb0;have hmd:(a:Int).tmod (b:Int)=((a % b:Nat):Int):=(Int.ofNat_tmod a b).symm;have hmd2:(a:Int) % (b:Int)=((a % b:Nat):Int):=(by simp);have hml:=Nat.mod_lt a h0;have hgs:Hid (Nat.gcd b (a % b)=g):=hid (by rw [← hab.out,Nat.gcd_comm a b,Nat.gcd_rec b a,Nat.gcd_comm]);obtain ⟨c,hc⟩:∃ c,a % b=c:=⟨_,rfl⟩;rw [hc] at hmd hmd2 hml hgs;have Hc:=hid hc;clear hc;have hcb:(c:Int)≤1000000000:=(by omega);go_wp2_with fail
    go_quiet (fail)
    go_wp2_with fail
    go_roundw
    case rel=>exact ⟨b,c,by first | rfl | go_num,by first | rfl | go_num,hgs,hb9,by omega,hid (hEr.out.drewN _)⟩
    case measure=>simp [zag];omega
   ·obtain rfl:b=0:=by omega
    have hag:a=g:=(by have:=hab.out;rwa [Nat.gcd_zero_right] at this);subst hag;have hg0:¬ (a:Int)=0:=(by omega);have hgn:¬ a=0:=(by omega);have hgb:((a:Int) == 0)=false:=beq_eq_false_iff_ne.2 hg0;have hkr:=Hk.out.ext hEr.out;have p0:=hEr.out.cell p0;have hqb:(q:Int)≤1000000000:=(by omega);have hrb:(r:Int)≤1000000000:=(by omega);have hi1:=fun W (hx:Ext wr W)=>Hi.out (q:Int) (by omega) (by omega) W (hkr.x.trans hx);have hi2:=fun W (hx:Ext wr W)=>Hi.out (r:Int) (by omega) (by omega) W (hkr.x.trans hx);generalize hs1:I ((q:Int))=s1 at *;generalize hs2:I (r:Int)=s2 at *;have Hs1:=hid hs1;have Hs2:=hid hs2;clear hs1 hs2;have Hkr:=hid hkr;have Hi1:=hid hi1;have Hi2:=hid hi2;clear hkr hi1 hi2 hab;go_wp2_with fail
    go_quiet (fail)
    have p0:=((Ext.refl wr).drewN nq).cell p0;go_wp2_with fail
    refine (Hi1.out _ ((Ext.refl wr).drewN _)).mono ?_;rintro e w8 ⟨rfl,hx8⟩;have Hx8:=hid (((Ext.refl wr).drewN nq).trans hx8);clear hx8 p0;go_wp2_with fail
    refine (Hi2.out w8 Hx8.out).mono ?_;rintro e w9 ⟨rfl,hx9⟩;have hk9:=Hkr.out.ext (Hx8.out.trans hx9);have k0:=hk9.res.c0;have k1:=hk9.res.c1;have z0:=hk9.res.fz 0;have z1:=hk9.res.fz 1;obtain ⟨hb5,hx5⟩:=hk9.fin (by omega) (.string s1) (.string s2);have Hb5:=hid hb5;have Hx5:=hid hx5;clear hb5 hx5 hk9 hx9;go_wp2_with fail
    have hd0:=Hb5.out.c0;have hd1:=Hb5.out.c1;exact bodyPost_ret (v:=.agg #[.string s1,.string s2]) (by simp [results,Tryz.results102,go_sem,hd0,hd1]) rfl ⟨by rw [Hs1.out,Hs2.out],Hx5.out⟩
 ·rw [← hm] at h1;clear hm;rcases (by omega:z<0∨¬ z<0) with hs | hs
  ·have hsq:zgv (decide (z<0)) q=-(q:Int):=(by unfold zgv;rw [decide_eq_true hs];rfl);rw [hsq];rw [decide_eq_true hs] at *;clear hw hsq hs;have hE0:Ext w ((w.alloc (.cells #[.bool true,.slice (some ⟨b0,o0,none⟩) 1 c0] 97)).alloc (.cells #[.string ⟨#[]⟩,.string ⟨#[]⟩] 57)):=((Ext.refl w).alloc _).alloc _;have b1:=(zdV.new 97 w (.bool true) (.slice (some ⟨b0,o0,none⟩) 1 c0)).ext ((Ext.refl _).alloc (.cells #[.string ⟨#[]⟩,.string ⟨#[]⟩] 57));have b2:=zdV.new 57 (w.alloc (.cells #[.bool true,.slice (some ⟨b0,o0,none⟩) 1 c0] 97)) (.string ⟨#[]⟩) (.string ⟨#[]⟩);rw [World.size_alloc] at b2;have hl1:=hE0.cell h1;generalize hV:(w.alloc (.cells #[.bool true,.slice (some ⟨b0,o0,none⟩) 1 c0] 97)).alloc (.cells #[.string ⟨#[]⟩,.string ⟨#[]⟩] 57)=V at *;have p0:=b1.c0;have p1:=b1.c1;have hk:K0 57 w V (w.heap.size+1):=⟨hE0,_,_,b2⟩;have Hk:=hid hk;have B1:=hid b1;have Hi:=hid hi;have Hgcd:=hid hgcd;clear hE0 b1 b2 hk hv hi hgcd e1 e2 hg he;go_enter Tryz.func102,Tryz.ntmps102
   go_wp2_with fail
   go_loopw [6,7] (fun v6 v7 wr=>∃ a b:Nat,v6=.int .i64 (a:Int)∧v7=.int .i64 (b:Int)∧Hid (Nat.gcd a b=g)∧a<1000000000∧b<1000000000∧Hid (Ext V wr)) (fun _ v7 _=>(zag v7).toNat)
   case atStart=>exact ⟨m,d,rfl,rfl,Hgcd,by omega,hd9,hid (Ext.refl _)⟩
   case round =>
    obtain ⟨a,b,rfl,rfl,hab,ha9,hb9,hEr⟩:=hrel;by_cases h0:0<b
    ·have hbz:(0:Int)<(b:Int):=(by omega);have hb0:¬ (b:Int)=0:=(by omega);have hbn:¬ b=0:=(by omega);have hbb:((b:Int) == 0)=false:=beq_eq_false_iff_ne.2 hb0;have hmd:(a:Int).tmod (b:Int)=((a % b:Nat):Int):=(Int.ofNat_tmod a b).symm;have hmd2:(a:Int) % (b:Int)=((a % b:Nat):Int):=(by simp);have hml:=Nat.mod_lt a h0;have hgs:Hid (Nat.gcd b (a % b)=g):=hid (by rw [← hab.out,Nat.gcd_comm a b,Nat.gcd_rec b a,Nat.gcd_comm]);obtain ⟨c,hc⟩:∃ c,a % b=c:=⟨_,rfl⟩;rw [hc] at hmd hmd2 hml hgs;have Hc:=hid hc;clear hc;have hcb:(c:Int)≤1000000000:=(by omega);go_wp2_with fail
     go_quiet (fail)
     go_wp2_with fail
     go_roundw
     case rel=>exact ⟨b,c,by first | rfl | go_num,by first | rfl | go_num,hgs,hb9,by omega,hid (hEr.out.drewN _)⟩
     case measure=>simp [zag];omega
    ·obtain rfl:b=0:=by omega
     have hag:a=g:=(by have:=hab.out;rwa [Nat.gcd_zero_right] at this);subst hag;have hg0:¬ (a:Int)=0:=(by omega);have hgn:¬ a=0:=(by omega);have hgb:((a:Int) == 0)=false:=beq_eq_false_iff_ne.2 hg0;have hkr:=Hk.out.ext hEr.out;have p0:=hEr.out.cell p0;have hqb:(q:Int)≤1000000000:=(by omega);have hrb:(r:Int)≤1000000000:=(by omega);have hi1:=fun W (hx:Ext wr W)=>Hi.out (-(q:Int)) (by omega) (by omega) W (hkr.x.trans hx);have hi2:=fun W (hx:Ext wr W)=>Hi.out (r:Int) (by omega) (by omega) W (hkr.x.trans hx);generalize hs1:I (-(q:Int))=s1 at *;generalize hs2:I (r:Int)=s2 at *;have Hs1:=hid hs1;have Hs2:=hid hs2;clear hs1 hs2;have Hkr:=hid hkr;have Hi1:=hid hi1;have Hi2:=hid hi2;clear hkr hi1 hi2 hab;go_wp2_with fail
     go_quiet (fail)
     have p0:=((Ext.refl wr).drewN nq).cell p0;go_wp2_with fail
     refine (Hi1.out _ ((Ext.refl wr).drewN _)).mono ?_;rintro e w8 ⟨rfl,hx8⟩;have Hx8:=hid (((Ext.refl wr).drewN nq).trans hx8);clear hx8 p0;go_wp2_with fail
     refine (Hi2.out w8 Hx8.out).mono ?_;rintro e w9 ⟨rfl,hx9⟩;have hk9:=Hkr.out.ext (Hx8.out.trans hx9);have k0:=hk9.res.c0;have k1:=hk9.res.c1;have z0:=hk9.res.fz 0;have z1:=hk9.res.fz 1;obtain ⟨hb5,hx5⟩:=hk9.fin (by omega) (.string s1) (.string s2);have Hb5:=hid hb5;have Hx5:=hid hx5;clear hb5 hx5 hk9 hx9;go_wp2_with fail
     have hd0:=Hb5.out.c0;have hd1:=Hb5.out.c1;exact bodyPost_ret (v:=.agg #[.string s1,.string s2]) (by simp [results,Tryz.results102,go_sem,hd0,hd1]) rfl ⟨by rw [Hs1.out,Hs2.out],Hx5.out⟩
  ·have hsq:zgv (decide (z<0)) q=(q:Int):=(by unfold zgv;rw [decide_eq_false hs];rfl);rw [hsq];rw [decide_eq_false hs] at *;clear hw hsq hs;have hE0:Ext w ((w.alloc (.cells #[.bool false,.slice (some ⟨b0,o0,none⟩) 1 c0] 97)).alloc (.cells #[.string ⟨#[]⟩,.string ⟨#[]⟩] 57)):=((Ext.refl w).alloc _).alloc _;have b1:=(zdV.new 97 w (.bool false) (.slice (some ⟨b0,o0,none⟩) 1 c0)).ext ((Ext.refl _).alloc (.cells #[.string ⟨#[]⟩,.string ⟨#[]⟩] 57));have b2:=zdV.new 57 (w.alloc (.cells #[.bool false,.slice (some ⟨b0,o0,none⟩) 1 c0] 97)) (.string ⟨#[]⟩) (.string ⟨#[]⟩);rw [World.size_alloc] at b2;have hl1:=hE0.cell h1;generalize hV:(w.alloc (.cells #[.bool false,.slice (some ⟨b0,o0,none⟩) 1 c0] 97)).alloc (.cells #[.string ⟨#[]⟩,.string ⟨#[]⟩] 57)=V at *;have p0:=b1.c0;have p1:=b1.c1;have hk:K0 57 w V (w.heap.size+1):=⟨hE0,_,_,b2⟩;have Hk:=hid hk;have B1:=hid b1;have Hi:=hid hi;have Hgcd:=hid hgcd;clear hE0 b1 b2 hk hv hi hgcd e1 e2 hg he;go_enter Tryz.func102,Tryz.ntmps102
   go_wp2_with fail
   go_loopw [6,7] (fun v6 v7 wr=>∃ a b:Nat,v6=.int .i64 (a:Int)∧v7=.int .i64 (b:Int)∧Hid (Nat.gcd a b=g)∧a<1000000000∧b<1000000000∧Hid (Ext V wr)) (fun _ v7 _=>(zag v7).toNat)
   case atStart=>exact ⟨m,d,rfl,rfl,Hgcd,by omega,hd9,hid (Ext.refl _)⟩
   case round =>
    obtain ⟨a,b,rfl,rfl,hab,ha9,hb9,hEr⟩:=hrel;by_cases h0:0<b
    ·have hbz:(0:Int)<(b:Int):=(by omega);have hb0:¬ (b:Int)=0:=(by omega);have hbn:¬ b=0:=(by omega);have hbb:((b:Int) == 0)=false:=beq_eq_false_iff_ne.2 hb0;have hmd:(a:Int).tmod (b:Int)=((a % b:Nat):Int):=(Int.ofNat_tmod a b).symm;have hmd2:(a:Int) % (b:Int)=((a % b:Nat):Int):=(by simp);have hml:=Nat.mod_lt a h0;have hgs:Hid (Nat.gcd b (a % b)=g):=hid (by rw [← hab.out,Nat.gcd_comm a b,Nat.gcd_rec b a,Nat.gcd_comm]);obtain ⟨c,hc⟩:∃ c,a % b=c:=⟨_,rfl⟩;rw [hc] at hmd hmd2 hml hgs;have Hc:=hid hc;clear hc;have hcb:(c:Int)≤1000000000:=(by omega);go_wp2_with fail
     go_quiet (fail)
     go_wp2_with fail
     go_roundw
     case rel=>exact ⟨b,c,by first | rfl | go_num,by first | rfl | go_num,hgs,hb9,by omega,hid (hEr.out.drewN _)⟩
     case measure=>simp [zag];omega
    ·obtain rfl:b=0:=by omega
     have hag:a=g:=(by have:=hab.out;rwa [Nat.gcd_zero_right] at this);subst hag;have hg0:¬ (a:Int)=0:=(by omega);have hgn:¬ a=0:=(by omega);have hgb:((a:Int) == 0)=false:=beq_eq_false_iff_ne.2 hg0;have hkr:=Hk.out.ext hEr.out;have p0:=hEr.out.cell p0;have hqb:(q:Int)≤1000000000:=(by omega);have hrb:(r:Int)≤1000000000:=(by omega);have hi1:=fun W (hx:Ext wr W)=>Hi.out (q:Int) (by omega) (by omega) W (hkr.x.trans hx);have hi2:=fun W (hx:Ext wr W)=>Hi.out (r:Int) (by omega) (by omega) W (hkr.x.trans hx);generalize hs1:I ((q:Int))=s1 at *;generalize hs2:I (r:Int)=s2 at *;have Hs1:=hid hs1;have Hs2:=hid hs2;clear hs1 hs2;have Hkr:=hid hkr;have Hi1:=hid hi1;have Hi2:=hid hi2;clear hkr hi1 hi2 hab;go_wp2_with fail
     go_quiet (fail)
     have p0:=((Ext.refl wr).drewN nq).cell p0;go_wp2_with fail
     refine (Hi1.out _ ((Ext.refl wr).drewN _)).mono ?_;rintro e w8 ⟨rfl,hx8⟩;have Hx8:=hid (((Ext.refl wr).drewN nq).trans hx8);clear hx8 p0;go_wp2_with fail
     refine (Hi2.out w8 Hx8.out).mono ?_;rintro e w9 ⟨rfl,hx9⟩;have hk9:=Hkr.out.ext (Hx8.out.trans hx9);have k0:=hk9.res.c0;have k1:=hk9.res.c1;have z0:=hk9.res.fz 0;have z1:=hk9.res.fz 1;obtain ⟨hb5,hx5⟩:=hk9.fin (by omega) (.string s1) (.string s2);have Hb5:=hid hb5;have Hx5:=hid hx5;clear hb5 hx5 hk9 hx9;go_wp2_with fail
     have hd0:=Hb5.out.c0;have hd1:=Hb5.out.c1;exact bodyPost_ret (v:=.agg #[.string s1,.string s2]) (by simp [results,Tryz.results102,go_sem,hd0,hd1]) rfl ⟨by rw [Hs1.out,Hs2.out],Hx5.out⟩
theorem zgA (va vb:Value)(x:Int)(d:Nat)(w:World)(he:Env w)(ha:W1 w va x)(hb:W1 w vb (d:Int))(hx:x.natAbs<1000000000)(hd:0<d)(hd9:d<1000000000) :
  Calls Tryz.prog 66 #[va,vb] w fun e w'=>e=.returned (Rv (mkRat x d))∧Ext w w':=by
 have hsg:=fun W (hE:Ext w W)=>zg6 vb (d:Int) W (hb.ext hE) (by omega);have hli:=fun W (hE:Ext w W)=>zg9 va x d W (he.ext hE) (ha.ext hE) hx hd hd9;unfold Rv at hli ⊢;generalize I (mkRat x d).num=s1 at *;generalize I ((mkRat x d).den:Int)=s2 at *;obtain ⟨bx,aa,la,ca,rfl,hla⟩:∃ (bx:Bool)(aa:Option Addr)(la ca:Nat),va=.agg #[.bool bx,.slice aa la ca]∧la≤1:=by
  rcases zg5 ha with ⟨_,a,c,e⟩ | ⟨_,b,o,c,e,_⟩
  ·exact ⟨_,a,0,c,e,by omega⟩
  ·exact ⟨_,_,1,c,e,by omega⟩
 rcases zg5 hb with ⟨h0,_⟩ | ⟨_,b0,o0,c0,rfl,h1⟩
 ·omega
 ·rw [decide_eq_false (by omega)] at *;rw [Int.natAbs_natCast] at h1;have hk2:=zdX 97 97 57 w (.bool bx) (.slice aa la ca) (.bool false) (.slice (some ⟨b0,o0,none⟩) 1 c0) (.string ⟨#[]⟩) (.string ⟨#[]⟩);generalize hV:((w.alloc (.cells #[.bool bx,.slice aa la ca] 97)).alloc (.cells #[.bool false,.slice (some ⟨b0,o0,none⟩) 1 c0] 97)).alloc (.cells #[.string ⟨#[]⟩,.string ⟨#[]⟩] 57)=V at *;obtain ⟨hk,_⟩:=hk2;have p0:=hk.a.c0;have p1:=hk.a.c1;have q0:=hk.b.c0;have q1:=hk.b.c1;have hlai:(la:Int)≤1:=by omega
  have Hk:=hid hk;have Hsg:=hid hsg;have Hli:=hid hli;have H1:=hid h1;clear hk hsg hli h1 ha hb he hla;go_enter Tryz.func66,Tryz.ntmps66
  go_wp2_with fail
  refine (Hsg.out V Hk.out.x).mono ?_;rintro e w1 ⟨rfl,hx1⟩;have hk1:=Hk.out.ext hx1;have p0:=hk1.a.c0;have p1:=hk1.a.c1;have q0:=hk1.b.c0;have q1:=hk1.b.c1;have h1:=hk1.x.cell H1.out;have Hk1:=hid hk1;clear hk1 hx1;go_wp2_with fail
  go_region_held3 (fun w'=>w'.cell? ⟨b0,o0,none⟩=some (.int .i64 (d:Int))∧K2 97 97 57 w w' w.heap.size (.bool bx) (.slice aa la ca) (w.heap.size+1) (.bool false) (.slice (some ⟨b0,o0,none⟩) 1 c0) (w.heap.size+1+1)∧w'.cell? ⟨w.heap.size,0,none⟩=some (.bool bx)∧w'.cell? ⟨w.heap.size,1,none⟩=some (.slice aa la ca)∧w'.cell? ⟨w.heap.size+1,0,none⟩=some (.bool false)∧w'.cell? ⟨w.heap.size+1,1,none⟩=some (.slice (some ⟨b0,o0,none⟩) 1 c0)∧w'.cell? ⟨w.heap.size+1+1,0,none⟩=some (zdL w' (w.heap.size+1+1) 0)∧w'.cell? ⟨w.heap.size+1+1,1,none⟩=some (zdL w' (w.heap.size+1+1) 1)∧w'.frozen? ⟨w.heap.size+1+1,0,none⟩=false∧w'.frozen? ⟨w.heap.size+1+1,1,none⟩=false)
   (first | exact ⟨HkA.out.x.cell H1.out,HkA.out.all⟩ | exact ⟨(Hk1.out.ext ((Ext.refl w1).drew)).x.cell H1.out,(Hk1.out.ext ((Ext.refl w1).drew)).all⟩ | exact ⟨(HkA.out.put (by omega) (by omega) (by omega) (.string s1) (.string s2)).x.cell H1.out,(HkA.out.put (by omega) (by omega) (by omega) (.string s1) (.string s2)).all⟩)
   (first | (go_at_call 102;refine (Hli.out _ Hk1.out.x.drew).mono ?_;rintro e9 VA ⟨rfl,hxa⟩;have HkA:=hid (Hk1.out.ext (((Ext.refl w1).drew).trans hxa));clear hxa))
  all_goals
   obtain ⟨hb,hfx⟩:=HkA.out.fin (by omega) (.string s1) (.string s2);have Hfx:=hid hfx;clear hfx;generalize (VA.setCell ⟨w.heap.size+1+1,0,none⟩ (.string s1)).setCell ⟨w.heap.size+1+1,1,none⟩ (.string s2)=W5 at *;have hd0:=hb.c0;have hd1:=hb.c1;go_wp2_with fail
   exact bodyPost_ret (v:=.agg #[.string s1,.string s2]) (by simp [results,Tryz.results66,go_sem,hd0,hd1]) rfl ⟨rfl,Hfx.out⟩
theorem zgB (x:Int)(d:Nat)(w:World)(he:Env w)(hx:x.natAbs<1000000000)(hd:0<d)(hd9:d<1000000000) :
  Calls Tryz.prog 44 #[.int .i64 x,.int .i64 (d:Int)] w fun e w'=>e=.returned (Rv (mkRat x d))∧Ext w w':=by
 have ho1:=fun W (hE:Ext w W)=>zg7 x W (he.ext hE) (by omega) (by omega);have ho2:=fun W (hE:Ext w W)=>zg7 (d:Int) W (he.ext hE) (by omega) (by omega);have hmk:=fun W va vb (hE:Ext w W)(ha:W1 W va x)(hb:W1 W vb (d:Int))=>zgA va vb x d W (he.ext hE) ha hb hx hd hd9;unfold Rv at hmk ⊢;generalize I (mkRat x d).num=s1 at *;generalize I ((mkRat x d).den:Int)=s2 at *;have hE0:Ext w (w.alloc (.cells #[.string ⟨#[]⟩,.string ⟨#[]⟩] 57)):=(Ext.refl w).alloc _;have b1:=zdV.new 57 w (.string ⟨#[]⟩) (.string ⟨#[]⟩);have Ho1:=hid ho1;have Ho2:=hid ho2;have Hmk:=hid hmk;have HE0:=hid hE0;have B1:=hid b1;clear ho1 ho2 hmk hE0 b1 he;go_enter Tryz.func44,Tryz.ntmps44
 go_wp2_with fail
 refine (Ho1.out _ HE0.out).mono ?_;rintro e w1 ⟨v1,rfl,hw1,hx1⟩;obtain ⟨b7,a7,l7,c7,rfl,hw1⟩:=zg2 hw1;have Hx1:=hid hx1;have Hw1:=hid hw1;clear hx1 hw1;go_wp2_with fail
 refine (Ho2.out w1 (HE0.out.trans Hx1.out)).mono ?_;rintro e w2 ⟨v2,rfl,hw2,hx2⟩;obtain ⟨b8,a8,l8,c8,rfl,hw2⟩:=zg2 hw2;have hm2:=Hmk.out w2 _ _ ((HE0.out.trans Hx1.out).trans hx2) (Hw1.out.ext hx2) hw2;have Hx2:=hid (Hx1.out.trans hx2);have Hm2:=hid hm2;clear hx2 hw2 hm2;go_wp2_with fail
 refine Hm2.out.mono ?_;rintro e w3 ⟨rfl,hx3⟩;have hx:=Hx2.out.trans hx3;have hk9:K0 57 w w3 w.heap.size:=⟨HE0.out.trans hx,_,_,B1.out.ext hx⟩;have k0:=hk9.res.c0;have k1:=hk9.res.c1;have z0:=hk9.res.fz 0;have z1:=hk9.res.fz 1;obtain ⟨hb5,hx5⟩:=hk9.fin (Nat.le_refl _) (.string s1) (.string s2);have Hb5:=hid hb5;have Hx5:=hid hx5;clear hb5 hx5 hk9 hx hx3;go_wp2_with fail
 have hd0:=Hb5.out.c0;have hd1:=Hb5.out.c1;exact bodyPost_ret (v:=.agg #[.string s1,.string s2]) (by simp [results,Tryz.results44,go_sem,hd0,hd1]) rfl ⟨rfl,Hx5.out⟩
theorem zgC (x:Int)(d:Nat)(w:World)(he:Env w)(hx:x.natAbs<1000000000)(hd:0<d)(hd9:d<1000000000) :
  Calls Tryz.prog 18 #[.int .i64 x,.int .i64 (d:Int)] w fun e w'=>e=.returned (Rv (mkRat x d))∧Ext w w':=by
 have hmk:=fun W (hE:Ext w W)=>zgB x d W (he.ext hE) hx hd hd9;unfold Rv at hmk ⊢;generalize I (mkRat x d).num=s1 at *;generalize I ((mkRat x d).den:Int)=s2 at *;have hE0:Ext w (w.alloc (.cells #[.string ⟨#[]⟩,.string ⟨#[]⟩] 57)):=(Ext.refl w).alloc _;have b1:=zdV.new 57 w (.string ⟨#[]⟩) (.string ⟨#[]⟩);have Hmk:=hid hmk;have HE0:=hid hE0;have B1:=hid b1;clear hmk hE0 b1 he;go_enter Tryz.func18,Tryz.ntmps18
 go_wp2_with fail
 refine (Hmk.out _ HE0.out).mono ?_;rintro e w3 ⟨rfl,hx⟩;have hk9:K0 57 w w3 w.heap.size:=⟨HE0.out.trans hx,_,_,B1.out.ext hx⟩;have k0:=hk9.res.c0;have k1:=hk9.res.c1;have z0:=hk9.res.fz 0;have z1:=hk9.res.fz 1;obtain ⟨hb5,hx5⟩:=hk9.fin (Nat.le_refl _) (.string s1) (.string s2);have Hb5:=hid hb5;have Hx5:=hid hx5;clear hb5 hx5 hk9 hx;go_wp2_with fail
 have hd0:=Hb5.out.c0;have hd1:=Hb5.out.c1;exact bodyPost_ret (v:=.agg #[.string s1,.string s2]) (by simp [results,Tryz.results18,go_sem,hd0,hd1]) rfl ⟨rfl,Hx5.out⟩
theorem zgD {a b:Rat}(h:a.den=b.den):a+b=mkRat (a.num+b.num) a.den:=by
 rw [Rat.add_def',← h,← Int.add_mul];exact Rat.mkRat_mul_right (by have:=a.den_pos;omega)
def Sn (r:Rat):Prop:=r.num.natAbs≤30000∧r.den≤1000
theorem Sn.add {a b:Rat}(ha:Sn a)(hb:Sn b):a.num.natAbs * b.den+b.num.natAbs * a.den<1000000000∧a.den * b.den<1000000000∧a.num.natAbs+b.num.natAbs<1000000000∧a.den<1000000000∧b.den<1000000000:=by
 have h1:a.num.natAbs * b.den≤30000 * 1000:=Nat.mul_le_mul ha.1 hb.2;have h2:b.num.natAbs * a.den≤30000 * 1000:=Nat.mul_le_mul hb.1 ha.2;have h3:a.den * b.den≤1000 * 1000:=Nat.mul_le_mul ha.2 hb.2;have h4:=ha.1;have h5:=ha.2;have h6:=hb.1;have h7:=hb.2;omega
theorem zgE (w:World)(x y:Value)(t:TypeId):∀ j u,[x,y][j]?=some u→(w.alloc (.cells #[x,y] t)).cell? ((⟨w.heap.size,0,none⟩:Addr).add j)=some u:=by
 intro j u hj;have h:=World.alloc_heap_new w (.cells #[x,y] t);rw [show ((⟨w.heap.size,0,none⟩:Addr).add j)=⟨w.heap.size,j,none⟩ by unfold Addr.add;split <;> simp_all]
 unfold World.cell?;dsimp only;rw [h];have hlt:j<2:=(List.getElem?_eq_some_iff.1 hj).1;rcases (by omega:j=0∨j=1) with rfl | rfl
 ·cases hj;rfl
 ·cases hj;rfl
theorem zgF {x y:List Rat}{k:Nat}{a b:Rat}(ha:x[k]?=some a)(hb:y[k]?=some b):(zeS x y).take (k+1)=(zeS x y).take k++[a+b]:=by
 have h:(zeS x y)[k]?=some (a+b):=by
  unfold zeS;rw [List.getElem?_zipWith,ha,hb]
 obtain ⟨hk,e⟩:=List.getElem?_eq_some_iff.1 h;rw [List.take_succ_eq_append_getElem hk,e]
theorem zgG {x:List Rat}{k:Nat}{a:Rat}(q:Rat)(ha:x[k]?=some a):(zeU x q).take (k+1)=(zeU x q).take k++[a * q]:=by
 have h:(zeU x q)[k]?=some (a * q):=by
  unfold zeU;rw [List.getElem?_map,ha];rfl
 obtain ⟨hk,e⟩:=List.getElem?_eq_some_iff.1 h;rw [List.take_succ_eq_append_getElem hk,e]
theorem zgH : mkRat (-1) 1=-1:=by rw [Rat.mkRat_one];rfl
theorem zgI : ∀ {x y:List Rat},zeS x (zeU y (-1))=zeT x y
 | [],y=>by simp [zeS,zeT]
 | a::x,[]=>by simp [zeS,zeT,zeU]
 | a::x,b::y=>by
  have ih:=zgI (x:=x) (y:=y);unfold zeS zeT zeU at ih ⊢;rw [List.map_cons,List.zipWith_cons_cons,List.zipWith_cons_cons,ih];congr 1;grind
theorem Sn.neg {r:Rat}(h:Sn r):Sn (r * -1):=by
 have e:r * -1=-r:=by grind
 rw [e];unfold Sn;rw [Rat.neg_num,Rat.neg_den,Int.natAbs_neg];exact h
end Go.Proofs.YtoehmpbipbbffaaGreatDoor
