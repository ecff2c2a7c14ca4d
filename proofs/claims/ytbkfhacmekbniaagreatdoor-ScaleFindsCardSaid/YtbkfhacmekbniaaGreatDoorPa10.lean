/- Walks: schismaref03's To and Of at one digit. Walks: schismaref03's plus, above, minus at one digit. Walks: schismaref03's AddW and SignW at one digit. -/
import Derived.Test.YtbkfhacmekbniaaGreatDoorPa06
import Derived.Test.YtbkfhacmekbniaaGreatDoorShelfF
import Derived.Shelf.Strings.Prefix
import Derived.Test.YtbkfhacmekbniaaGreatDoorPa09
import Derived.Deep.QuietTactic
import Derived.Deep.RegionHeld3
set_option maxRecDepth 100000
set_option maxHeartbeats 800000
namespace Go.Proofs.YtbkfhacmekbniaaGreatDoor
open Go.RowKit Go.Lib Go.Shelf
attribute [local go_sem] Oper.semAt_some
theorem zgw {T:TypeId}{W:World}{c:Nat}{u v s:Value}{xs:List Int}(hs:Sl W s (zak xs))(hb:zdV T W c u v)(hu:∀ z,u ≠ .int .i64 z)(hv:∀ z,v ≠ .int .i64 z)(x y:Value):Sl ((W.setCell ⟨c,0,none⟩ x).setCell ⟨c,1,none⟩ y) s (zak xs):=by
 rcases hs with ⟨a,cap,e,hm,h0⟩ | ⟨b,off,cap,e,h1,h2,hc⟩
 ·exact .inl ⟨a,cap,e,hm,h0⟩
 ·refine .inr ⟨b,off,cap,e,h1,h2,fun i q hq=>?_⟩;have h:=hc i q hq;have hbc:b ≠ c:=by
   rintro rfl;obtain ⟨z,rfl⟩:∃ z,q=.int .i64 z:=by
    unfold zak at hq;rw [List.getElem?_map] at hq
    cases hz:xs[i]? with
    | none=>rw [hz] at hq;cases hq
    | some z=>rw [hz] at hq;exact ⟨z,(Option.some.inj hq).symm⟩
   unfold World.cell? at h;dsimp only at h;rw [hb] at h;rcases (by omega:off+i=0∨off+i=1∨2≤off+i) with g | g | g
   ·rw [g] at h;exact hu z (Option.some.inj h)
   ·rw [g] at h;exact hv z (Option.some.inj h)
   ·have:(#[u,v]:Array Value)[off+i]?=none:=Array.getElem?_eq_none (by simpa using g);simp [this] at h
  rw [World.cell?_setCell_other _ _ _ _ (by intro e';simp only [Addr.mk.injEq] at e';exact hbc e'.1.symm),World.cell?_setCell_other _ _ _ _ (by intro e';simp only [Addr.mk.injEq] at e';exact hbc e'.1.symm)];exact h
def dg (z:Int):List Int:=if z=0 then [] else [(z.natAbs:Int)]
def W1 (w:World)(v:Value)(z:Int):Prop:=∃ u,v=.agg #[.bool (decide (z<0)),u]∧Sl w u (zak (dg z))
theorem W1.ext {w w':World}{v:Value}{z:Int}(hx:Ext w w')(h:W1 w v z):W1 w' v z:=by
 obtain ⟨u,e,h⟩:=h;exact ⟨u,e,hx.sl h⟩
def zgx (b:Bool)(m:Nat):Int:=if b then -(m:Int) else m
theorem zgy (u:Value)(b:Bool)(m zs:Nat)(w:World)(hu:Sl w u (zak ((m:Int)::List.replicate zs 0)))(hz:zs≤100) :
  Calls Tryz.prog 111 #[.agg #[.bool b,u]] w fun e w'=>∃ v,e=.returned v∧W1 w' v (zgx b m)∧Ext w w':=by
 refine (zew u b _ w hu (by simp;omega)).mono ?_;rintro e w' ⟨u',k,rfl,hk,h0,h1,hs,hx⟩;refine ⟨_,rfl,⟨u',?_,?_⟩,hx⟩
 all_goals
  have hk1:k≤1:=by
   rcases Nat.lt_or_ge 1 k with g | g
   ·exfalso;obtain ⟨j,rfl⟩:∃ j,k=j+2:=⟨k - 2,by omega⟩;refine h1 (j+1) (by omega) ?_;rw [List.getElem?_cons_succ,List.getElem?_replicate,if_pos (by simp at hk;omega)]
   ·exact g
  have hkm:(k=0∧m=0)∨(k=1∧m ≠ 0):=by
   rcases (by omega:k=0∨k=1) with e | e
   ·left;have:=h0 0 (by omega) (by simp);simp at this;exact ⟨e,by omega⟩
   ·right;refine ⟨e,fun g=>h1 0 (by omega) ?_⟩;rw [g];rfl
 ·rcases hkm with ⟨rfl,rfl⟩ | ⟨rfl,hm⟩
  ·cases b <;> simp [zgx]
  ·cases b
   ·simp [zgx]
   ·simp [zgx];omega
 ·rcases hkm with ⟨rfl,rfl⟩ | ⟨rfl,hm⟩
  ·have:dg (zgx b 0)=[]:=by cases b <;> rfl
   rw [this];exact hs
  ·have:dg (zgx b m)=[(m:Int)]:=by
    unfold dg zgx
    cases b
    ·rw [if_neg (by simp;omega)];simp
    ·rw [if_neg (by simp;omega)];simp
   rw [this];exact hs
theorem zgz (u:Value)(b:Bool)(w:World)(hu:Sl w u (zak [])) :
  Calls Tryz.prog 111 #[.agg #[.bool b,u]] w fun e w'=>∃ v,e=.returned v∧W1 w' v 0∧Ext w w':=by
 refine (zew u b _ w hu (by simp)).mono ?_;rintro e w' ⟨u',k,rfl,hk,h0,h1,hs,hx⟩;obtain rfl:k=0:=by simpa using hk
 exact ⟨_,rfl,⟨u',by simp,hs⟩,hx⟩
theorem zg0 (z:Int):Lib.hasPrefix (I z).data.toList (⟨#[45]⟩:ByteArray).data.toList=decide (z<0):=by
 unfold Lib.hasPrefix;rw [show (I z).data.toList=(I z).toList from (Lib.toList_data _).symm];show ([45]:List UInt8).isPrefixOf (I z).toList=_;rcases (by omega:z<0∨0≤z) with h | h
 ·obtain ⟨n,rfl⟩:∃ n:Nat,z=-(n:Int):=⟨z.natAbs,by omega⟩;rw [zbo n (by omega),decide_eq_true h];rfl
 ·obtain ⟨n,rfl⟩:∃ n:Nat,z=(n:Int):=⟨z.toNat,by omega⟩;rw [zav,zbg,decide_eq_false (by omega)]
  cases hd:decDigits n with
  | nil=>rfl
  | cons c l =>
   have h1:=Dec.dig_dec n c (by rw [hd];exact List.mem_cons_self ..)
   show ([45].isPrefixOf (c::l))=false
   have hc:((45:UInt8) == c)=false:=by
    rw [beq_eq_false_iff_ne];rintro rfl;revert h1;decide
   simp [List.isPrefixOf,hc]
theorem zg1 (z:Int)(w:World)(h0:-1000000000<z)(h1:z<1000000000) :
  Calls Tryz.prog 79 #[.string (I z)] w fun e w'=>∃ v,e=.returned v∧W1 w' v z∧Ext w w':=by
 obtain ⟨i0,hi,hz0,hz1,hz2⟩:=info_parts zej;obtain ⟨m,hm⟩:∃ m:Nat,m=z.natAbs:=⟨_,rfl⟩;have hpf:=fun W=>Any.strings_HasPrefix Tryz.lHasPrefix (I z) ⟨#[45]⟩ W;rw [zg0] at hpf;have hat:=fun W=>zaB (m:Int) (by omega) (by omega) W;rw [zav] at hat;have hsz:(D m).size≤9∧0<(D m).size:=by
  rw [zau];exact ⟨Dec.nDigits_le (by omega) (by show m<1000000000;omega),nDigits_pos m⟩
 have htr:=fun (W:World)(u:Value)(hu:Sl W u (zak [(m:Int)]))=>zgy u (decide (z<0)) m 0 W hu (by omega);have hsg:zgx (decide (z<0)) m=z:=by
  unfold zgx;by_cases h:z<0
  ·rw [decide_eq_true h,if_pos rfl];omega
  ·rw [decide_eq_false h,if_neg (by simp)];omega
 rw [hsg] at htr;have hcut:z<0→(I z).extract 1 (I z).size=D m∧(1:Int)≤((I z).size:Int):=fun h=>by
  obtain rfl:z=-(m:Int):=by omega
  refine ⟨zbx m (by omega),?_⟩;rw [zbp m (by omega)];omega
 have hpos:¬ z<0→I z=D m:=fun h=>by rw [← zav];congr 1;omega
 have hex:(D m).extract 0 (D m).size=D m:=by
  apply ByteArray.ext;rw [ByteArray.data_extract];show (D m).data.extract 0 (D m).data.size=_;rw [Array.extract_size]
 have hmb:(m:Int)<1000000000:=by omega
 generalize hb:decide (z<0)=b at *;generalize hsI:I z=sz at *;generalize hsD:D m=sm at *;have hb0:b=true→z<0:=fun h=>by rw [h] at hb;exact of_decide_eq_true hb
 have hb1:b=false→¬ z<0:=fun h=>by rw [h] at hb;exact of_decide_eq_false hb
 have ht0:sm.extract 0 0=⟨#[]⟩:=by
  apply ByteArray.ext;rw [ByteArray.data_extract,Array.extract_empty_of_stop_le_start (Nat.le_refl _)]
 have hE1:Ext w ((w.alloc (.cells #[.bool false,.slice none 0 0] 120)).alloc (.cells #[.bool b,.slice none 0 0] 120)):=((Ext.refl w).alloc _).alloc _;have b1:=(zdV.new 120 w (.bool false) (.slice none 0 0)).ext ((Ext.refl _).alloc (.cells #[.bool b,.slice none 0 0] 120));have b2:=zdV.new 120 (w.alloc (.cells #[.bool false,.slice none 0 0] 120)) (.bool b) (.slice none 0 0);rw [World.size_alloc] at b2;obtain ⟨hs9,hs0⟩:=hsz;have hs9i:(sm.size:Int)≤9:=by omega
 have hs0i:(0:Int)<(sm.size:Int):=by omega
 have hsd:decide ((sm.size:Int) > 0)=true:=decide_eq_true (by omega);have hmx:max (0:Int) ((sm.size:Int) - 9)=0:=by omega
 have hwx:IntKind.i64.wrap ((sm.size:Int) - 9)=(sm.size:Int) - 9:=by rw [IntKind.wrap_i64];omega
 have Hpf:=hid hpf;have Hat:=hid hat;have Htr:=hid htr;have HE1:=hid hE1;have B1:=hid b1;have B2:=hid b2;clear hpf hat htr hE1 b1 b2 hsg hb hm h0 h1
 cases b
 ·have hsm:sz=sm:=by exact hpos (hb1 rfl)
  subst hsm;clear hsI hsD hcut hpos hb0 hb1;have q0:=B2.out.c0;have q1:=B2.out.c1;have f1:=B2.out.fz 1;go_enter Tryz.func79,Tryz.ntmps79
  go_wp2_with fail
  refine (Hpf.out _).mono ?_;rintro e w1 ⟨rfl,rfl⟩;go_wp2_with fail
  refine wp_loop_rounds 2 ?_;rw [rounds_succ];go_wp2_with fail
  refine (Hat.out _).mono ?_;rintro e w2 ⟨rfl,hx2⟩;have hb2':=B2.out.ext hx2;have hEw2:=HE1.out.trans hx2;have hR2:=B1.out.ext hx2;have r1:=hb2'.c1;have hbase:w.heap.size≤w2.heap.size:=hEw2.size;have HB2:=hid hb2';have HEw2:=hid hEw2;have HR2:=hid hR2;clear hb2' hx2 hEw2 hR2 q0 q1 f1;go_wp2_with (at_builtin;refine wpList_append_own _ rfl _ _ 28 rfl w.heap.size 3 i0 (.int .i64 0) 1 8 Tryz.underlying28 hi hz0 hz1 hz2 rfl (by decide) _ _ _ rfl ((World.ownsRow_nil w2 _ _ 1).alloc _) ⟨w2.heap.size,0,none⟩ 1 1 [.int .i64 m] rfl rfl (cell_one_new _ _ _) (by simp [Value.oneCell']) (by decide) (by decide) (by rw [World.size_alloc];omega) ?_;intro v7 V7 hown7 hgrow7 _;have hbV:zdV 120 V7 (w.heap.size+1) (.bool false) (.slice none 0 0):=zgh (((Ext.refl w2).alloc _).heap HB2.out) ((World.ownsRow_nil w2 w.heap.size 3 1).alloc (.cells #[.int .i64 m] 3)) (by decide) hgrow7;have hrV:zdV 120 V7 w.heap.size (.bool false) (.slice none 0 0):=zgh (((Ext.refl w2).alloc _).heap HR2.out) ((World.ownsRow_nil w2 w.heap.size 3 1).alloc (.cells #[.int .i64 m] 3)) (by decide) hgrow7;have d1:=hbV.c1;have e1:=hbV.fz 1;obtain ⟨a7,c7,rfl⟩:=zel hown7)
  have hEV:Ext w (V7.setCell ⟨w.heap.size+1,1,none⟩ (.slice a7 (0+1) c7)):=((HEw2.out.alloc _).grown hgrow7 (fun k hk=>(World.ownsRow.lt ((World.ownsRow_nil w2 w.heap.size 3 1).alloc (.cells #[.int .i64 m] 3)) k hk).1)).setCell (by show w.heap.size≤w.heap.size+1;omega) _;have hb8:=hbV.put1 (.slice a7 (0+1) c7);have hr8:=hrV.past1 (c:=w.heap.size+1) 1 (by omega) (.slice a7 (0+1) c7);have hs8:Sl (V7.setCell ⟨w.heap.size+1,1,none⟩ (.slice a7 (0+1) c7)) (.slice a7 (0+1) c7) (zak [(m:Int)]):=zai (zgk hbV hown7 (by decide) 1 (.slice a7 (0+1) c7));have HEV:=hid hEV;have Hb8:=hid hb8;have Hr8:=hid hr8;have Hs8:=hid hs8;clear hEV hb8 hr8 hs8 hown7 hgrow7 hbV hrV d1 e1 r1 hbase;generalize V7.setCell ⟨w.heap.size+1,1,none⟩ (.slice a7 (0+1) c7)=V8 at *;have s0:=Hb8.out.c0;have s1:=Hb8.out.c1;rw [rounds_succ];go_wp2_with fail
  have htr8:=Htr.out V8 _ Hs8.out;have Htr8:=hid htr8;clear htr8;go_wp2_with fail
  refine Htr8.out.mono ?_;rintro e W9 ⟨v9,rfl,hw9,hx9⟩;obtain ⟨u9,rfl,hs9'⟩:=hw9;obtain ⟨a9,c9,rfl,_,_,_⟩:=hs9'.parts;have hK:K0 120 w W9 w.heap.size:=⟨HEV.out.trans hx9,_,_,Hr8.out.ext hx9⟩;have k0:=hK.res.c0;have k1:=hK.res.c1;have z0:=hK.res.fz 0;have z1:=hK.res.fz 1;obtain ⟨hb5,hx5⟩:=hK.fin (Nat.le_refl _) (.bool (decide (z<0))) (.slice a9 (zak (dg z)).length c9);have hs5:=zgw hs9' (Hr8.out.ext hx9) (by simp) (by simp) (.bool (decide (z<0))) (.slice a9 (zak (dg z)).length c9);have Hb5:=hid hb5;have Hx5:=hid hx5;clear hb5 hx5;go_wp2_with fail
  have hd0':=Hb5.out.c0;have hd1':=Hb5.out.c1;exact bodyPost_ret (v:=.agg #[.bool (decide (z<0)),.slice a9 (zak (dg z)).length c9]) (by simp [results,Tryz.results79,go_sem,hd0',hd1']) rfl ⟨_,rfl,⟨_,rfl,hs5⟩,Hx5.out⟩
 ·obtain ⟨hc1,hc2⟩:=hcut (hb0 rfl);clear hsI hsD hcut hpos hb0 hb1;have q0:=B2.out.c0;have q1:=B2.out.c1;have f1:=B2.out.fz 1;go_enter Tryz.func79,Tryz.ntmps79
  go_wp2_with fail
  refine (Hpf.out _).mono ?_;rintro e w1 ⟨rfl,rfl⟩;go_wp2_with fail
  refine wp_loop_rounds 2 ?_;rw [rounds_succ];go_wp2_with fail
  refine (Hat.out _).mono ?_;rintro e w2 ⟨rfl,hx2⟩;have hb2':=B2.out.ext hx2;have hEw2:=HE1.out.trans hx2;have hR2:=B1.out.ext hx2;have r1:=hb2'.c1;have hbase:w.heap.size≤w2.heap.size:=hEw2.size;have HB2:=hid hb2';have HEw2:=hid hEw2;have HR2:=hid hR2;clear hb2' hx2 hEw2 hR2 q0 q1 f1;go_wp2_with (at_builtin;refine wpList_append_own _ rfl _ _ 28 rfl w.heap.size 3 i0 (.int .i64 0) 1 8 Tryz.underlying28 hi hz0 hz1 hz2 rfl (by decide) _ _ _ rfl ((World.ownsRow_nil w2 _ _ 1).alloc _) ⟨w2.heap.size,0,none⟩ 1 1 [.int .i64 m] rfl rfl (cell_one_new _ _ _) (by simp [Value.oneCell']) (by decide) (by decide) (by rw [World.size_alloc];omega) ?_;intro v7 V7 hown7 hgrow7 _;have hbV:zdV 120 V7 (w.heap.size+1) (.bool true) (.slice none 0 0):=zgh (((Ext.refl w2).alloc _).heap HB2.out) ((World.ownsRow_nil w2 w.heap.size 3 1).alloc (.cells #[.int .i64 m] 3)) (by decide) hgrow7;have hrV:zdV 120 V7 w.heap.size (.bool false) (.slice none 0 0):=zgh (((Ext.refl w2).alloc _).heap HR2.out) ((World.ownsRow_nil w2 w.heap.size 3 1).alloc (.cells #[.int .i64 m] 3)) (by decide) hgrow7;have d1:=hbV.c1;have e1:=hbV.fz 1;obtain ⟨a7,c7,rfl⟩:=zel hown7)
  have hEV:Ext w (V7.setCell ⟨w.heap.size+1,1,none⟩ (.slice a7 (0+1) c7)):=((HEw2.out.alloc _).grown hgrow7 (fun k hk=>(World.ownsRow.lt ((World.ownsRow_nil w2 w.heap.size 3 1).alloc (.cells #[.int .i64 m] 3)) k hk).1)).setCell (by show w.heap.size≤w.heap.size+1;omega) _;have hb8:=hbV.put1 (.slice a7 (0+1) c7);have hr8:=hrV.past1 (c:=w.heap.size+1) 1 (by omega) (.slice a7 (0+1) c7);have hs8:Sl (V7.setCell ⟨w.heap.size+1,1,none⟩ (.slice a7 (0+1) c7)) (.slice a7 (0+1) c7) (zak [(m:Int)]):=zai (zgk hbV hown7 (by decide) 1 (.slice a7 (0+1) c7));have HEV:=hid hEV;have Hb8:=hid hb8;have Hr8:=hid hr8;have Hs8:=hid hs8;clear hEV hb8 hr8 hs8 hown7 hgrow7 hbV hrV d1 e1 r1 hbase;generalize V7.setCell ⟨w.heap.size+1,1,none⟩ (.slice a7 (0+1) c7)=V8 at *;have s0:=Hb8.out.c0;have s1:=Hb8.out.c1;rw [rounds_succ];go_wp2_with fail
  have htr8:=Htr.out V8 _ Hs8.out;have Htr8:=hid htr8;clear htr8;go_wp2_with fail
  refine Htr8.out.mono ?_;rintro e W9 ⟨v9,rfl,hw9,hx9⟩;obtain ⟨u9,rfl,hs9'⟩:=hw9;obtain ⟨a9,c9,rfl,_,_,_⟩:=hs9'.parts;have hK:K0 120 w W9 w.heap.size:=⟨HEV.out.trans hx9,_,_,Hr8.out.ext hx9⟩;have k0:=hK.res.c0;have k1:=hK.res.c1;have z0:=hK.res.fz 0;have z1:=hK.res.fz 1;obtain ⟨hb5,hx5⟩:=hK.fin (Nat.le_refl _) (.bool (decide (z<0))) (.slice a9 (zak (dg z)).length c9);have hs5:=zgw hs9' (Hr8.out.ext hx9) (by simp) (by simp) (.bool (decide (z<0))) (.slice a9 (zak (dg z)).length c9);have Hb5:=hid hb5;have Hx5:=hid hx5;clear hb5 hx5;go_wp2_with fail
  have hd0':=Hb5.out.c0;have hd1':=Hb5.out.c1;exact bodyPost_ret (v:=.agg #[.bool (decide (z<0)),.slice a9 (zak (dg z)).length c9]) (by simp [results,Tryz.results79,go_sem,hd0',hd1']) rfl ⟨_,rfl,⟨_,rfl,hs5⟩,Hx5.out⟩
theorem zg2 {w:World}{v:Value}{m:Nat}(h:Sl w v (zak (dg (m:Int)))):(m=0∧∃ a c,v=.slice a 0 c∧c≤maxLen)∨(0<m∧∃ b off c,v=.slice (some ⟨b,off,none⟩) 1 c∧w.cell? ⟨b,off,none⟩=some (.int .i64 (m:Int))∧1≤c∧c≤maxLen):=by
 rcases Nat.eq_zero_or_pos m with rfl | hm
 ·obtain ⟨a,c,rfl,hc,_,_⟩:=h.parts;exact .inl ⟨rfl,a,c,rfl,hc⟩
 ·have e:dg (m:Int)=[(m:Int)]:=by unfold dg;rw [if_neg (by omega),Int.natAbs_natCast]
  rw [e] at h;obtain ⟨a,c,rfl,hc,h1,h2⟩:=h.parts;obtain ⟨b,off,rfl,h3⟩:=h2 0 (.int .i64 (m:Int)) rfl;exact .inr ⟨hm,b,off,c,rfl,h3,h1,hc⟩
def zg3 (c:Prop)[Decidable c](k:Nat):List Int:=if c then [] else [(k:Int)]
theorem zg4 {c:Prop}[Decidable c]{k:Nat}(h:c):zg3 c k=[]:=if_pos h
theorem zg5 {c:Prop}[Decidable c]{k:Nat}(h:¬ c):zg3 c k=[(k:Int)]:=if_neg h
theorem zg6 {w:World}{B:Nat}{v:Value}{m:Int}(h:w.ownsRow B 3 1 v (0+1) ([]++[.int .i64 m])):Sl w v (zak [m]):=zai h
theorem zg7 (va vb:Value)(m n:Nat)(w:World)(ha:Sl w va (zak (dg (m:Int))))(hb:Sl w vb (zak (dg (n:Int))))(hmn:m+n<1000000000) :
  Calls Tryz.prog 177 #[va,vb] w fun e w'=>∃ u,e=.returned u∧Sl w' u (zak (zg3 (m=0∧n=0) (m+n)))∧Ext w w':=by
 obtain ⟨i0,hi,hz0,hz1,hz2⟩:=info_parts zej;rcases zg2 ha with ⟨rfl,aa,ca,rfl,_⟩ | ⟨hm,b,off,ca,rfl,h1,_,_⟩
 ·rcases zg2 hb with ⟨rfl,ab,cb,rfl,_⟩ | ⟨hn,b',off',cb,rfl,h2,_,_⟩
  ·rw [zg4 ⟨rfl,rfl⟩];clear ha hb;go_enter Tryz.func177,Tryz.ntmps177
   go_wp2_with fail
   refine wp_loop_rounds 2 ?_;rw [rounds_succ];go_wp2
   go_ret
   exact ⟨_,rfl,.inl ⟨none,0,rfl,Nat.zero_le _,rfl⟩,Ext.refl w⟩
  ·rw [zg5 (by omega)];have e1:(((0+n:Nat)):Int)=(n:Int):=(by omega);rw [e1];have hr:(n:Int).tmod 1000000000=(n:Int):=Int.tmod_eq_of_lt (by omega) (by omega);have hq:(n:Int).tdiv 1000000000=0:=Int.tdiv_eq_zero_of_lt (by omega) (by omega);have hb1:-9223372036854775808≤(n:Int)∧(n:Int)≤9223372036854775807:=(by omega);clear ha hb e1;go_enter Tryz.func177,Tryz.ntmps177
   go_wp2_with fail
   refine wp_loop_rounds 2 ?_;rw [rounds_succ];go_wp2_with (at_builtin;refine wpList_append_own _ rfl _ _ 28 rfl w.heap.size 3 i0 (.int .i64 0) 1 8 Tryz.underlying28 hi hz0 hz1 hz2 rfl (by decide) _ _ _ rfl ((World.ownsRow_nil w _ _ 1).alloc _) ⟨w.heap.size,0,none⟩ 1 1 [.int .i64 ((n:Int))] rfl rfl (cell_one_new _ _ _) (by simp [Value.oneCell']) (by decide) (by decide) (by rw [World.size_alloc];omega) ?_;intro v7 V7 hown7 hgrow7 _;obtain ⟨a7,c7,rfl⟩:=zel hown7)
   have hEV:Ext w V7:=((Ext.refl w).alloc _).grown hgrow7 (fun k hk=>(World.ownsRow.lt ((World.ownsRow_nil w w.heap.size 3 1).alloc (.cells #[.int .i64 ((n:Int))] 3)) k hk).1);have HEV:=hid hEV;have Hs7:=hid (zg6 hown7);clear hEV hown7 hgrow7;rw [rounds_succ];go_wp2
   go_ret
   exact ⟨_,rfl,Hs7.out,HEV.out⟩
 ·rcases zg2 hb with ⟨rfl,ab,cb,rfl,_⟩ | ⟨hn,b',off',cb,rfl,h2,_,_⟩
  ·rw [zg5 (by omega)];have e1:(((m+0:Nat)):Int)=(m:Int):=(by omega);rw [e1];have hr:(m:Int).tmod 1000000000=(m:Int):=Int.tmod_eq_of_lt (by omega) (by omega);have hq:(m:Int).tdiv 1000000000=0:=Int.tdiv_eq_zero_of_lt (by omega) (by omega);clear ha hb e1;go_enter Tryz.func177,Tryz.ntmps177
   go_wp2_with fail
   refine wp_loop_rounds 2 ?_;rw [rounds_succ];go_wp2_with (at_builtin;refine wpList_append_own _ rfl _ _ 28 rfl w.heap.size 3 i0 (.int .i64 0) 1 8 Tryz.underlying28 hi hz0 hz1 hz2 rfl (by decide) _ _ _ rfl ((World.ownsRow_nil w _ _ 1).alloc _) ⟨w.heap.size,0,none⟩ 1 1 [.int .i64 ((m:Int))] rfl rfl (cell_one_new _ _ _) (by simp [Value.oneCell']) (by decide) (by decide) (by rw [World.size_alloc];omega) ?_;intro v7 V7 hown7 hgrow7 _;obtain ⟨a7,c7,rfl⟩:=zel hown7)
   have hEV:Ext w V7:=((Ext.refl w).alloc _).grown hgrow7 (fun k hk=>(World.ownsRow.lt ((World.ownsRow_nil w w.heap.size 3 1).alloc (.cells #[.int .i64 ((m:Int))] 3)) k hk).1);have HEV:=hid hEV;have Hs7:=hid (zg6 hown7);clear hEV hown7 hgrow7;rw [rounds_succ];go_wp2
   go_ret
   exact ⟨_,rfl,Hs7.out,HEV.out⟩
  ·rw [zg5 (by omega)];have e1:(((m+n:Nat)):Int)=(m:Int)+(n:Int):=(by omega);rw [e1];have hr:((m:Int)+(n:Int)).tmod 1000000000=(m:Int)+(n:Int):=Int.tmod_eq_of_lt (by omega) (by omega);have hq:((m:Int)+(n:Int)).tdiv 1000000000=0:=Int.tdiv_eq_zero_of_lt (by omega) (by omega);clear ha hb e1;go_enter Tryz.func177,Tryz.ntmps177
   go_wp2_with fail
   refine wp_loop_rounds 2 ?_;rw [rounds_succ];go_wp2_with (at_builtin;refine wpList_append_own _ rfl _ _ 28 rfl w.heap.size 3 i0 (.int .i64 0) 1 8 Tryz.underlying28 hi hz0 hz1 hz2 rfl (by decide) _ _ _ rfl ((World.ownsRow_nil w _ _ 1).alloc _) ⟨w.heap.size,0,none⟩ 1 1 [.int .i64 ((m:Int)+(n:Int))] rfl rfl (cell_one_new _ _ _) (by simp [Value.oneCell']) (by decide) (by decide) (by rw [World.size_alloc];omega) ?_;intro v7 V7 hown7 hgrow7 _;obtain ⟨a7,c7,rfl⟩:=zel hown7)
   have hEV:Ext w V7:=((Ext.refl w).alloc _).grown hgrow7 (fun k hk=>(World.ownsRow.lt ((World.ownsRow_nil w w.heap.size 3 1).alloc (.cells #[.int .i64 ((m:Int)+(n:Int))] 3)) k hk).1);have HEV:=hid hEV;have Hs7:=hid (zg6 hown7);clear hEV hown7 hgrow7;rw [rounds_succ];go_wp2
   go_ret
   exact ⟨_,rfl,Hs7.out,HEV.out⟩
theorem zg8 (va vb:Value)(m n:Nat)(w:World)(ha:Sl w va (zak (dg (m:Int))))(hb:Sl w vb (zak (dg (n:Int))))(hmn:n≤m)(hm9:m<1000000000) :
  Calls Tryz.prog 179 #[va,vb] w fun e w'=>∃ u,e=.returned u∧Sl w' u (zak (zg3 (m=0) (m - n)))∧Ext w w':=by
 obtain ⟨i0,hi,hz0,hz1,hz2⟩:=info_parts zej;rcases zg2 ha with ⟨rfl,aa,ca,rfl,_⟩ | ⟨hm,b,off,ca,rfl,h1,_,_⟩
 ·rw [zg4 rfl];obtain ⟨ab,cb,rfl,_,_,_⟩:=hb.parts;generalize (zak (dg (n:Int))).length=lb at *;clear ha hb;go_enter Tryz.func179,Tryz.ntmps179
  go_wp2_with fail
  refine wp_loop_rounds 2 ?_;rw [rounds_succ];go_wp2
  go_ret
  exact ⟨_,rfl,.inl ⟨none,0,rfl,Nat.zero_le _,rfl⟩,Ext.refl w⟩
 ·rcases zg2 hb with ⟨rfl,ab,cb,rfl,_⟩ | ⟨hn,b',off',cb,rfl,h2,_,_⟩
  ·rw [zg5 (by omega)];have e1:(((m - 0:Nat)):Int)=(m:Int):=(by omega);rw [e1];have hlt:¬ (m:Int)<0:=(by omega);clear ha hb e1;go_enter Tryz.func179,Tryz.ntmps179
   go_wp2_with fail
   refine wp_loop_rounds 2 ?_;rw [rounds_succ];go_wp2_with (at_builtin;refine wpList_append_own _ rfl _ _ 28 rfl w.heap.size 3 i0 (.int .i64 0) 1 8 Tryz.underlying28 hi hz0 hz1 hz2 rfl (by decide) _ _ _ rfl ((World.ownsRow_nil w _ _ 1).alloc _) ⟨w.heap.size,0,none⟩ 1 1 [.int .i64 ((m:Int))] rfl rfl (cell_one_new _ _ _) (by simp [Value.oneCell']) (by decide) (by decide) (by rw [World.size_alloc];omega) ?_;intro v7 V7 hown7 hgrow7 _;obtain ⟨a7,c7,rfl⟩:=zel hown7)
   have hEV:Ext w V7:=((Ext.refl w).alloc _).grown hgrow7 (fun k hk=>(World.ownsRow.lt ((World.ownsRow_nil w w.heap.size 3 1).alloc (.cells #[.int .i64 ((m:Int))] 3)) k hk).1);have HEV:=hid hEV;have Hs7:=hid (zg6 hown7);clear hEV hown7 hgrow7;rw [rounds_succ];go_wp2
   go_ret
   exact ⟨_,rfl,Hs7.out,HEV.out⟩
  ·rw [zg5 (by omega)];have e1:(((m - n:Nat)):Int)=(m:Int) - (n:Int):=(by omega);rw [e1];have hlt:¬ (m:Int) - (n:Int)<0:=(by omega);clear ha hb e1;go_enter Tryz.func179,Tryz.ntmps179
   go_wp2_with fail
   refine wp_loop_rounds 2 ?_;rw [rounds_succ];go_wp2_with (at_builtin;refine wpList_append_own _ rfl _ _ 28 rfl w.heap.size 3 i0 (.int .i64 0) 1 8 Tryz.underlying28 hi hz0 hz1 hz2 rfl (by decide) _ _ _ rfl ((World.ownsRow_nil w _ _ 1).alloc _) ⟨w.heap.size,0,none⟩ 1 1 [.int .i64 ((m:Int) - (n:Int))] rfl rfl (cell_one_new _ _ _) (by simp [Value.oneCell']) (by decide) (by decide) (by rw [World.size_alloc];omega) ?_;intro v7 V7 hown7 hgrow7 _;obtain ⟨a7,c7,rfl⟩:=zel hown7)
   have hEV:Ext w V7:=((Ext.refl w).alloc _).grown hgrow7 (fun k hk=>(World.ownsRow.lt ((World.ownsRow_nil w w.heap.size 3 1).alloc (.cells #[.int .i64 ((m:Int) - (n:Int))] 3)) k hk).1);have HEV:=hid hEV;have Hs7:=hid (zg6 hown7);clear hEV hown7 hgrow7;rw [rounds_succ];go_wp2
   go_ret
   exact ⟨_,rfl,Hs7.out,HEV.out⟩
theorem zg9 (va vb:Value)(m n:Nat)(w:World)(ha:Sl w va (zak (dg (m:Int))))(hb:Sl w vb (zak (dg (n:Int))))(hm9:m<1000000000)(hn9:n<1000000000) :
  Calls Tryz.prog 178 #[va,vb] w fun e w'=>∃ z:Int,e=.returned (.int .i64 z)∧(0≤z ↔ n≤m)∧Ext w w':=by
 rcases zg2 ha with ⟨rfl,aa,ca,rfl,_⟩ | ⟨hm,b,off,ca,rfl,h1,_,_⟩
 ·rcases zg2 hb with ⟨rfl,ab,cb,rfl,_⟩ | ⟨hn,b',off',cb,rfl,h2,_,_⟩
  ·clear ha hb;go_enter Tryz.func178,Tryz.ntmps178
   go_wp2_with fail
   refine wp_loop_rounds 2 ?_;rw [rounds_succ];go_wp2
   go_ret
   exact ⟨_,rfl,by omega,Ext.refl w⟩
  ·clear ha hb;go_enter Tryz.func178,Tryz.ntmps178
   go_wp2
   go_ret
   exact ⟨_,rfl,by omega,Ext.refl w⟩
 ·rcases zg2 hb with ⟨rfl,ab,cb,rfl,_⟩ | ⟨hn,b',off',cb,rfl,h2,_,_⟩
  ·clear ha hb;go_enter Tryz.func178,Tryz.ntmps178
   go_wp2
   go_ret
   exact ⟨_,rfl,by omega,Ext.refl w⟩
  ·clear ha hb;rcases (by omega:m<n∨(¬ m<n∧n<m)∨(¬ m<n∧¬ n<m)) with g | ⟨g,g2⟩ | ⟨g,g2⟩
   ·have gi:(m:Int)<(n:Int):=(by omega);go_enter Tryz.func178,Tryz.ntmps178
    go_wp2_with fail
    refine wp_loop_rounds 2 ?_;rw [rounds_succ];go_wp2_with fail
    go_quiet (fail)
    go_wp2
    go_ret
    first | exact ⟨_,rfl,by omega,((Ext.refl w).drewN _).drewN _⟩ | exact ⟨_,rfl,by omega,(Ext.refl w).drewN _⟩
   ·have gi:¬ (m:Int)<(n:Int):=(by omega);have gj:(n:Int)<(m:Int):=(by omega);go_enter Tryz.func178,Tryz.ntmps178
    go_wp2_with fail
    refine wp_loop_rounds 2 ?_;rw [rounds_succ];go_wp2_with fail
    go_quiet (fail)
    go_wp2_with fail
    go_quiet (fail)
    go_wp2
    go_ret
    first | exact ⟨_,rfl,by omega,((Ext.refl w).drewN _).drewN _⟩ | exact ⟨_,rfl,by omega,(Ext.refl w).drewN _⟩
   ·have gi:¬ (m:Int)<(n:Int):=(by omega);have gj:¬ (n:Int)<(m:Int):=(by omega);go_enter Tryz.func178,Tryz.ntmps178
    go_wp2_with fail
    refine wp_loop_rounds 2 ?_;rw [rounds_succ];go_wp2_with fail
    go_quiet (fail)
    go_wp2_with fail
    go_quiet (fail)
    go_wp2_with fail
    rw [rounds_succ];go_wp2
    go_ret
    first | exact ⟨_,rfl,by omega,((Ext.refl w).drewN _).drewN _⟩ | exact ⟨_,rfl,by omega,(Ext.refl w).drewN _⟩
theorem zgA (x:Int):dg x=dg ((x.natAbs:Nat):Int):=by
 unfold dg;by_cases h:x=0
 ·subst h;rfl
 ·rw [if_neg h,if_neg (by omega),Int.natAbs_natCast]
theorem zgB (u:Value)(b:Bool)(c:Prop)[Decidable c](k:Nat)(w:World)(hu:Sl w u (zak (zg3 c k)))(hc:c→k=0) :
  Calls Tryz.prog 111 #[.agg #[.bool b,u]] w fun e w'=>∃ v,e=.returned v∧W1 w' v (zgx b k)∧Ext w w':=by
 by_cases h:c
 ·rw [zg4 h] at hu;rw [hc h];have:zgx b 0=0:=by cases b <;> rfl
  rw [this];exact zgz u b w hu
 ·rw [zg5 h] at hu;exact zgy u b k 0 w hu (by omega)
theorem zgC {w:World}{v:Value}{xs:List Int}(h:Sl w v (zak xs)):∃ a l c,v=.slice a l c∧Sl w (.slice a l c) (zak xs):=by
 obtain ⟨a,c,rfl,_,_,_⟩:=h.parts;exact ⟨a,_,c,rfl,h⟩
theorem zgD {w:World}{v:Value}{z:Int}(h:W1 w v z):∃ b a l c,v=.agg #[.bool b,.slice a l c]∧W1 w (.agg #[.bool b,.slice a l c]) z:=by
 obtain ⟨u,rfl,hs⟩:=h;obtain ⟨a,l,c,rfl,hs⟩:=zgC hs;exact ⟨_,a,l,c,rfl,_,rfl,hs⟩
theorem zgE {w:World}{v:Value}{z:Int}(h:W1 w v z){T:TypeId}{c:Nat}{p q:Value}(hb:zdV T w c p q)(hu:∀ z,p ≠ .int .i64 z)(hv:∀ z,q ≠ .int .i64 z)(x y:Value):W1 ((w.setCell ⟨c,0,none⟩ x).setCell ⟨c,1,none⟩ y) v z:=by
 obtain ⟨u,e,hs⟩:=h;exact ⟨u,e,zgw hs hb hu hv x y⟩
theorem zgF (va vb:Value)(x y:Int)(w:World)(ha:W1 w va x)(hb:W1 w vb y)(hxy:x.natAbs+y.natAbs<1000000000) :
  Calls Tryz.prog 135 #[va,vb] w fun e w'=>∃ v,e=.returned v∧W1 w' v (x+y)∧Ext w w':=by
 obtain ⟨ua,rfl,hsa⟩:=ha;obtain ⟨ub,rfl,hsb⟩:=hb;rw [zgA] at hsa hsb;have hpl:=fun W (hE:Ext w W)=>zg7 ua ub x.natAbs y.natAbs W (hE.sl hsa) (hE.sl hsb) hxy;have hab:=fun W (hE:Ext w W)=>zg9 ua ub x.natAbs y.natAbs W (hE.sl hsa) (hE.sl hsb) (by omega) (by omega);have hm1:=fun W (hE:Ext w W)(h:y.natAbs≤x.natAbs)=>zg8 ua ub x.natAbs y.natAbs W (hE.sl hsa) (hE.sl hsb) h (by omega);have hm2:=fun W (hE:Ext w W)(h:x.natAbs≤y.natAbs)=>zg8 ub ua y.natAbs x.natAbs W (hE.sl hsb) (hE.sl hsa) h (by omega);obtain ⟨aa,ca,rfl,_,_,_⟩:=hsa.parts;obtain ⟨ab,cb,rfl,_,_,_⟩:=hsb.parts;generalize (zak (dg ((x.natAbs:Nat):Int))).length=la at *;generalize (zak (dg ((y.natAbs:Nat):Int))).length=lb at *;have hbx:decide (x<0)=true ↔ x<0:=decide_eq_true_iff;have hby:decide (y<0)=true ↔ y<0:=decide_eq_true_iff;generalize hbx0:decide (x<0)=bx at *;generalize hby0:decide (y<0)=by1 at *;have Hpl:=hid hpl;have Hab:=hid hab;have Hm1:=hid hm1;have Hm2:=hid hm2;clear hpl hab hm1 hm2 hbx0 hby0;have hk2:=zdX 120 120 120 w (.bool bx) (.slice aa la ca) (.bool by1) (.slice ab lb cb) (.bool false) (.slice none 0 0);have Hsa:=hid hsa;have Hsb:=hid hsb;clear hsa hsb;generalize hV:((w.alloc (.cells #[.bool bx,.slice aa la ca] 120)).alloc (.cells #[.bool by1,.slice ab lb cb] 120)).alloc (.cells #[.bool false,.slice none 0 0] 120)=V at *;obtain ⟨hk,hr⟩:=hk2;have Hk:=hid hk;have Hr:=hid hr;have p0:=hk.a.c0;have p1:=hk.a.c1;have q0:=hk.b.c0;have q1:=hk.b.c1;clear hk hr;by_cases hs:bx=by1
 ·have hsum:zgx bx (x.natAbs+y.natAbs)=x+y:=by
   unfold zgx;subst hs
   cases bx
   ·have h1:¬ x<0:=fun h=>by have:=hbx.2 h;cases this
    have h2:¬ y<0:=fun h=>by have:=hby.2 h;cases this
    simp;omega
   ·have h1:=hbx.1 rfl;have h2:=hby.1 rfl;simp;omega
  have Hsum:=hid hsum;have HcA:Hid ((x.natAbs=0∧y.natAbs=0)→x.natAbs+y.natAbs=0):=hid (fun h=>by omega);clear hsum hbx hby hxy;subst hs
  cases bx
  ·go_enter Tryz.func135,Tryz.ntmps135
   go_wp2_with fail
   have HkV:=Hk;go_region_held3 (fun w'=>K2 120 120 120 w w' w.heap.size (.bool false) (.slice aa la ca) (w.heap.size+1) (.bool false) (.slice ab lb cb) (w.heap.size+1+1)∧w'.cell? ⟨w.heap.size,0,none⟩=some (.bool false)∧w'.cell? ⟨w.heap.size,1,none⟩=some (.slice aa la ca)∧w'.cell? ⟨w.heap.size+1,0,none⟩=some (.bool false)∧w'.cell? ⟨w.heap.size+1,1,none⟩=some (.slice ab lb cb)∧w'.cell? ⟨w.heap.size+1+1,0,none⟩=some (zdL w' (w.heap.size+1+1) 0)∧w'.cell? ⟨w.heap.size+1+1,1,none⟩=some (zdL w' (w.heap.size+1+1) 1)∧w'.frozen? ⟨w.heap.size+1+1,0,none⟩=false∧w'.frozen? ⟨w.heap.size+1+1,1,none⟩=false)
    (first | exact HkB.out.all | exact HkA.out.all | exact (K2.ext HkV.out ((Ext.refl V).drew)).all | exact (K2.put HkB.out (by omega) (by omega) (by omega) _ _).all)
    (first
     | (go_at_call 111;refine (zgB _ false _ _ VA HuA.out HcA.out).mono ?_;rintro e9 VB ⟨v9,rfl,hw9,hxb⟩;obtain ⟨b9,a9,l9,c9,rfl,hw9⟩:=zgD hw9;have HkB:=hid (K2.ext HkA.out hxb);have HrB:=hid ((HrA.out).ext hxb);have Hw9:=hid hw9;clear hxb hw9)
     | (go_at_call 177;refine (Hpl.out _ ((Hk.out.x).drew)).mono ?_;rintro e9 VA ⟨u8,rfl,hu8,hxa⟩;obtain ⟨a8,l8,c8,rfl,hu8⟩:=zgC hu8;have HkA:=hid (K2.ext HkV.out (((Ext.refl V).drew).trans hxa));have HrA:=hid ((Hr.out).ext (((Ext.refl V).drew).trans hxa));have HuA:=hid hu8;clear hxa hu8))
   all_goals
    obtain ⟨hb,hfx⟩:=HkB.out.fin (by omega) (.bool b9) (.slice a9 l9 c9);have hs5:=zgE Hw9.out HrB.out (by simp) (by simp) (.bool b9) (.slice a9 l9 c9);have Hfx:=hid hfx;have Hs5:=hid hs5;clear hfx hs5;generalize (VB.setCell ⟨w.heap.size+1+1,0,none⟩ (.bool b9)).setCell ⟨w.heap.size+1+1,1,none⟩ (.slice a9 l9 c9)=W5 at *;have hd0:=hb.c0;have hd1:=hb.c1;go_wp2_with fail
    exact bodyPost_ret (v:=.agg #[.bool b9,.slice a9 l9 c9]) (by simp [results,Tryz.results135,go_sem,hd0,hd1]) rfl ⟨_,rfl,by rw [← Hsum.out];exact Hs5.out,Hfx.out⟩
  ·go_enter Tryz.func135,Tryz.ntmps135
   go_wp2_with fail
   have HkV:=Hk;go_region_held3 (fun w'=>K2 120 120 120 w w' w.heap.size (.bool true) (.slice aa la ca) (w.heap.size+1) (.bool true) (.slice ab lb cb) (w.heap.size+1+1)∧w'.cell? ⟨w.heap.size,0,none⟩=some (.bool true)∧w'.cell? ⟨w.heap.size,1,none⟩=some (.slice aa la ca)∧w'.cell? ⟨w.heap.size+1,0,none⟩=some (.bool true)∧w'.cell? ⟨w.heap.size+1,1,none⟩=some (.slice ab lb cb)∧w'.cell? ⟨w.heap.size+1+1,0,none⟩=some (zdL w' (w.heap.size+1+1) 0)∧w'.cell? ⟨w.heap.size+1+1,1,none⟩=some (zdL w' (w.heap.size+1+1) 1)∧w'.frozen? ⟨w.heap.size+1+1,0,none⟩=false∧w'.frozen? ⟨w.heap.size+1+1,1,none⟩=false)
    (first | exact HkB.out.all | exact HkA.out.all | exact (K2.ext HkV.out ((Ext.refl V).drew)).all | exact (K2.put HkB.out (by omega) (by omega) (by omega) _ _).all)
    (first
     | (go_at_call 111;refine (zgB _ true _ _ VA HuA.out HcA.out).mono ?_;rintro e9 VB ⟨v9,rfl,hw9,hxb⟩;obtain ⟨b9,a9,l9,c9,rfl,hw9⟩:=zgD hw9;have HkB:=hid (K2.ext HkA.out hxb);have HrB:=hid ((HrA.out).ext hxb);have Hw9:=hid hw9;clear hxb hw9)
     | (go_at_call 177;refine (Hpl.out _ ((Hk.out.x).drew)).mono ?_;rintro e9 VA ⟨u8,rfl,hu8,hxa⟩;obtain ⟨a8,l8,c8,rfl,hu8⟩:=zgC hu8;have HkA:=hid (K2.ext HkV.out (((Ext.refl V).drew).trans hxa));have HrA:=hid ((Hr.out).ext (((Ext.refl V).drew).trans hxa));have HuA:=hid hu8;clear hxa hu8))
   all_goals
    obtain ⟨hb,hfx⟩:=HkB.out.fin (by omega) (.bool b9) (.slice a9 l9 c9);have hs5:=zgE Hw9.out HrB.out (by simp) (by simp) (.bool b9) (.slice a9 l9 c9);have Hfx:=hid hfx;have Hs5:=hid hs5;clear hfx hs5;generalize (VB.setCell ⟨w.heap.size+1+1,0,none⟩ (.bool b9)).setCell ⟨w.heap.size+1+1,1,none⟩ (.slice a9 l9 c9)=W5 at *;have hd0:=hb.c0;have hd1:=hb.c1;go_wp2_with fail
    exact bodyPost_ret (v:=.agg #[.bool b9,.slice a9 l9 c9]) (by simp [results,Tryz.results135,go_sem,hd0,hd1]) rfl ⟨_,rfl,by rw [← Hsum.out];exact Hs5.out,Hfx.out⟩
 ·have hcs:(bx=false∧by1=true)∨(bx=true∧by1=false):=by cases bx <;> cases by1 <;> simp_all
  rcases hcs with ⟨rfl,rfl⟩ | ⟨rfl,rfl⟩
  ·have hsx:0≤x∧y<0:=by
    have:=(show ¬ x<0 from fun h=>by have:=hbx.2 h;cases this);have h2:=hby.1 rfl;omega
   clear hbx hby hs;go_enter Tryz.func135,Tryz.ntmps135
   go_wp2_with fail
   refine (Hab.out V Hk.out.x).mono ?_;rintro e V1 ⟨z,rfl,hz,hx1⟩;have hk1:=Hk.out.ext hx1;have hr1:=Hr.out.ext hx1;have p0:=hk1.a.c0;have p1:=hk1.a.c1;have q0:=hk1.b.c0;have q1:=hk1.b.c1;have Hk:=hid hk1;have Hr:=hid hr1;clear hk1 hr1 hx1;obtain ⟨V,hVV⟩:∃ V,V=V1:=⟨_,rfl⟩;subst hVV;by_cases hge:y.natAbs≤x.natAbs
   ·have hz0:0≤z:=hz.2 hge;have Hsum:Hid (zgx false (x.natAbs - y.natAbs)=x+y):=hid (by unfold zgx;simp;omega);have HcA:Hid (x.natAbs=0→x.natAbs - y.natAbs=0):=hid (fun h=>by omega);clear hz hsx;go_wp2_with fail
    have HkV:=Hk;go_region_held3 (fun w'=>K2 120 120 120 w w' w.heap.size (.bool false) (.slice aa la ca) (w.heap.size+1) (.bool true) (.slice ab lb cb) (w.heap.size+1+1)∧w'.cell? ⟨w.heap.size,0,none⟩=some (.bool false)∧w'.cell? ⟨w.heap.size,1,none⟩=some (.slice aa la ca)∧w'.cell? ⟨w.heap.size+1,0,none⟩=some (.bool true)∧w'.cell? ⟨w.heap.size+1,1,none⟩=some (.slice ab lb cb)∧w'.cell? ⟨w.heap.size+1+1,0,none⟩=some (zdL w' (w.heap.size+1+1) 0)∧w'.cell? ⟨w.heap.size+1+1,1,none⟩=some (zdL w' (w.heap.size+1+1) 1)∧w'.frozen? ⟨w.heap.size+1+1,0,none⟩=false∧w'.frozen? ⟨w.heap.size+1+1,1,none⟩=false)
     (first | exact HkB.out.all | exact HkA.out.all | exact (K2.ext HkV.out ((Ext.refl V).drew)).all | exact (K2.put HkB.out (by omega) (by omega) (by omega) _ _).all)
     (first
      | (go_at_call 111;refine (zgB _ false _ _ VA HuA.out HcA.out).mono ?_;rintro e9 VB ⟨v9,rfl,hw9,hxb⟩;obtain ⟨b9,a9,l9,c9,rfl,hw9⟩:=zgD hw9;have HkB:=hid (K2.ext HkA.out hxb);have HrB:=hid ((HrA.out).ext hxb);have Hw9:=hid hw9;clear hxb hw9)
      | (go_at_call 179;refine (Hm1.out _ ((Hk.out.x).drew) hge).mono ?_;rintro e9 VA ⟨u8,rfl,hu8,hxa⟩;obtain ⟨a8,l8,c8,rfl,hu8⟩:=zgC hu8;have HkA:=hid (K2.ext HkV.out (((Ext.refl V).drew).trans hxa));have HrA:=hid ((Hr.out).ext (((Ext.refl V).drew).trans hxa));have HuA:=hid hu8;clear hxa hu8))
    all_goals
     obtain ⟨hb,hfx⟩:=HkB.out.fin (by omega) (.bool b9) (.slice a9 l9 c9);have hs5:=zgE Hw9.out HrB.out (by simp) (by simp) (.bool b9) (.slice a9 l9 c9);have Hfx:=hid hfx;have Hs5:=hid hs5;clear hfx hs5;generalize (VB.setCell ⟨w.heap.size+1+1,0,none⟩ (.bool b9)).setCell ⟨w.heap.size+1+1,1,none⟩ (.slice a9 l9 c9)=W5 at *;have hd0:=hb.c0;have hd1:=hb.c1;go_wp2_with fail
     exact bodyPost_ret (v:=.agg #[.bool b9,.slice a9 l9 c9]) (by simp [results,Tryz.results135,go_sem,hd0,hd1]) rfl ⟨_,rfl,by rw [← Hsum.out];exact Hs5.out,Hfx.out⟩
   ·have hz0:¬ 0≤z:=fun h=>hge (hz.1 h);have hle:x.natAbs≤y.natAbs:=(by omega);have Hsum:Hid (zgx true (y.natAbs - x.natAbs)=x+y):=hid (by unfold zgx;simp;omega);have HcA:Hid (y.natAbs=0→y.natAbs - x.natAbs=0):=hid (fun h=>by omega);clear hz hsx;go_wp2_with fail
    have HkV:=Hk;go_region_held3 (fun w'=>K2 120 120 120 w w' w.heap.size (.bool false) (.slice aa la ca) (w.heap.size+1) (.bool true) (.slice ab lb cb) (w.heap.size+1+1)∧w'.cell? ⟨w.heap.size,0,none⟩=some (.bool false)∧w'.cell? ⟨w.heap.size,1,none⟩=some (.slice aa la ca)∧w'.cell? ⟨w.heap.size+1,0,none⟩=some (.bool true)∧w'.cell? ⟨w.heap.size+1,1,none⟩=some (.slice ab lb cb)∧w'.cell? ⟨w.heap.size+1+1,0,none⟩=some (zdL w' (w.heap.size+1+1) 0)∧w'.cell? ⟨w.heap.size+1+1,1,none⟩=some (zdL w' (w.heap.size+1+1) 1)∧w'.frozen? ⟨w.heap.size+1+1,0,none⟩=false∧w'.frozen? ⟨w.heap.size+1+1,1,none⟩=false)
     (first | exact HkB.out.all | exact HkA.out.all | exact (K2.ext HkV.out ((Ext.refl V).drew)).all | exact (K2.put HkB.out (by omega) (by omega) (by omega) _ _).all)
     (first
      | (go_at_call 111;refine (zgB _ true _ _ VA HuA.out HcA.out).mono ?_;rintro e9 VB ⟨v9,rfl,hw9,hxb⟩;obtain ⟨b9,a9,l9,c9,rfl,hw9⟩:=zgD hw9;have HkB:=hid (K2.ext HkA.out hxb);have HrB:=hid ((HrA.out).ext hxb);have Hw9:=hid hw9;clear hxb hw9)
      | (go_at_call 179;refine (Hm2.out _ ((Hk.out.x).drew) hle).mono ?_;rintro e9 VA ⟨u8,rfl,hu8,hxa⟩;obtain ⟨a8,l8,c8,rfl,hu8⟩:=zgC hu8;have HkA:=hid (K2.ext HkV.out (((Ext.refl V).drew).trans hxa));have HrA:=hid ((Hr.out).ext (((Ext.refl V).drew).trans hxa));have HuA:=hid hu8;clear hxa hu8))
    all_goals
     obtain ⟨hb,hfx⟩:=HkB.out.fin (by omega) (.bool b9) (.slice a9 l9 c9);have hs5:=zgE Hw9.out HrB.out (by simp) (by simp) (.bool b9) (.slice a9 l9 c9);have Hfx:=hid hfx;have Hs5:=hid hs5;clear hfx hs5;generalize (VB.setCell ⟨w.heap.size+1+1,0,none⟩ (.bool b9)).setCell ⟨w.heap.size+1+1,1,none⟩ (.slice a9 l9 c9)=W5 at *;have hd0:=hb.c0;have hd1:=hb.c1;go_wp2_with fail
     exact bodyPost_ret (v:=.agg #[.bool b9,.slice a9 l9 c9]) (by simp [results,Tryz.results135,go_sem,hd0,hd1]) rfl ⟨_,rfl,by rw [← Hsum.out];exact Hs5.out,Hfx.out⟩
  ·have hsx:x<0∧0≤y:=by
    have:=(show ¬ y<0 from fun h=>by have:=hby.2 h;cases this);have h2:=hbx.1 rfl;omega
   clear hbx hby hs;go_enter Tryz.func135,Tryz.ntmps135
   go_wp2_with fail
   refine (Hab.out V Hk.out.x).mono ?_;rintro e V1 ⟨z,rfl,hz,hx1⟩;have hk1:=Hk.out.ext hx1;have hr1:=Hr.out.ext hx1;have p0:=hk1.a.c0;have p1:=hk1.a.c1;have q0:=hk1.b.c0;have q1:=hk1.b.c1;have Hk:=hid hk1;have Hr:=hid hr1;clear hk1 hr1 hx1;obtain ⟨V,hVV⟩:∃ V,V=V1:=⟨_,rfl⟩;subst hVV;by_cases hge:y.natAbs≤x.natAbs
   ·have hz0:0≤z:=hz.2 hge;have Hsum:Hid (zgx true (x.natAbs - y.natAbs)=x+y):=hid (by unfold zgx;simp;omega);have HcA:Hid (x.natAbs=0→x.natAbs - y.natAbs=0):=hid (fun h=>by omega);clear hz hsx;go_wp2_with fail
    have HkV:=Hk;go_region_held3 (fun w'=>K2 120 120 120 w w' w.heap.size (.bool true) (.slice aa la ca) (w.heap.size+1) (.bool false) (.slice ab lb cb) (w.heap.size+1+1)∧w'.cell? ⟨w.heap.size,0,none⟩=some (.bool true)∧w'.cell? ⟨w.heap.size,1,none⟩=some (.slice aa la ca)∧w'.cell? ⟨w.heap.size+1,0,none⟩=some (.bool false)∧w'.cell? ⟨w.heap.size+1,1,none⟩=some (.slice ab lb cb)∧w'.cell? ⟨w.heap.size+1+1,0,none⟩=some (zdL w' (w.heap.size+1+1) 0)∧w'.cell? ⟨w.heap.size+1+1,1,none⟩=some (zdL w' (w.heap.size+1+1) 1)∧w'.frozen? ⟨w.heap.size+1+1,0,none⟩=false∧w'.frozen? ⟨w.heap.size+1+1,1,none⟩=false)
     (first | exact HkB.out.all | exact HkA.out.all | exact (K2.ext HkV.out ((Ext.refl V).drew)).all | exact (K2.put HkB.out (by omega) (by omega) (by omega) _ _).all)
     (first
      | (go_at_call 111;refine (zgB _ true _ _ VA HuA.out HcA.out).mono ?_;rintro e9 VB ⟨v9,rfl,hw9,hxb⟩;obtain ⟨b9,a9,l9,c9,rfl,hw9⟩:=zgD hw9;have HkB:=hid (K2.ext HkA.out hxb);have HrB:=hid ((HrA.out).ext hxb);have Hw9:=hid hw9;clear hxb hw9)
      | (go_at_call 179;refine (Hm1.out _ ((Hk.out.x).drew) hge).mono ?_;rintro e9 VA ⟨u8,rfl,hu8,hxa⟩;obtain ⟨a8,l8,c8,rfl,hu8⟩:=zgC hu8;have HkA:=hid (K2.ext HkV.out (((Ext.refl V).drew).trans hxa));have HrA:=hid ((Hr.out).ext (((Ext.refl V).drew).trans hxa));have HuA:=hid hu8;clear hxa hu8))
    all_goals
     obtain ⟨hb,hfx⟩:=HkB.out.fin (by omega) (.bool b9) (.slice a9 l9 c9);have hs5:=zgE Hw9.out HrB.out (by simp) (by simp) (.bool b9) (.slice a9 l9 c9);have Hfx:=hid hfx;have Hs5:=hid hs5;clear hfx hs5;generalize (VB.setCell ⟨w.heap.size+1+1,0,none⟩ (.bool b9)).setCell ⟨w.heap.size+1+1,1,none⟩ (.slice a9 l9 c9)=W5 at *;have hd0:=hb.c0;have hd1:=hb.c1;go_wp2_with fail
     exact bodyPost_ret (v:=.agg #[.bool b9,.slice a9 l9 c9]) (by simp [results,Tryz.results135,go_sem,hd0,hd1]) rfl ⟨_,rfl,by rw [← Hsum.out];exact Hs5.out,Hfx.out⟩
   ·have hz0:¬ 0≤z:=fun h=>hge (hz.1 h);have hle:x.natAbs≤y.natAbs:=(by omega);have Hsum:Hid (zgx false (y.natAbs - x.natAbs)=x+y):=hid (by unfold zgx;simp;omega);have HcA:Hid (y.natAbs=0→y.natAbs - x.natAbs=0):=hid (fun h=>by omega);clear hz hsx;go_wp2_with fail
    have HkV:=Hk;go_region_held3 (fun w'=>K2 120 120 120 w w' w.heap.size (.bool true) (.slice aa la ca) (w.heap.size+1) (.bool false) (.slice ab lb cb) (w.heap.size+1+1)∧w'.cell? ⟨w.heap.size,0,none⟩=some (.bool true)∧w'.cell? ⟨w.heap.size,1,none⟩=some (.slice aa la ca)∧w'.cell? ⟨w.heap.size+1,0,none⟩=some (.bool false)∧w'.cell? ⟨w.heap.size+1,1,none⟩=some (.slice ab lb cb)∧w'.cell? ⟨w.heap.size+1+1,0,none⟩=some (zdL w' (w.heap.size+1+1) 0)∧w'.cell? ⟨w.heap.size+1+1,1,none⟩=some (zdL w' (w.heap.size+1+1) 1)∧w'.frozen? ⟨w.heap.size+1+1,0,none⟩=false∧w'.frozen? ⟨w.heap.size+1+1,1,none⟩=false)
     (first | exact HkB.out.all | exact HkA.out.all | exact (K2.ext HkV.out ((Ext.refl V).drew)).all | exact (K2.put HkB.out (by omega) (by omega) (by omega) _ _).all)
     (first
      | (go_at_call 111;refine (zgB _ false _ _ VA HuA.out HcA.out).mono ?_;rintro e9 VB ⟨v9,rfl,hw9,hxb⟩;obtain ⟨b9,a9,l9,c9,rfl,hw9⟩:=zgD hw9;have HkB:=hid (K2.ext HkA.out hxb);have HrB:=hid ((HrA.out).ext hxb);have Hw9:=hid hw9;clear hxb hw9)
      | (go_at_call 179;refine (Hm2.out _ ((Hk.out.x).drew) hle).mono ?_;rintro e9 VA ⟨u8,rfl,hu8,hxa⟩;obtain ⟨a8,l8,c8,rfl,hu8⟩:=zgC hu8;have HkA:=hid (K2.ext HkV.out (((Ext.refl V).drew).trans hxa));have HrA:=hid ((Hr.out).ext (((Ext.refl V).drew).trans hxa));have HuA:=hid hu8;clear hxa hu8))
    all_goals
     obtain ⟨hb,hfx⟩:=HkB.out.fin (by omega) (.bool b9) (.slice a9 l9 c9);have hs5:=zgE Hw9.out HrB.out (by simp) (by simp) (.bool b9) (.slice a9 l9 c9);have Hfx:=hid hfx;have Hs5:=hid hs5;clear hfx hs5;generalize (VB.setCell ⟨w.heap.size+1+1,0,none⟩ (.bool b9)).setCell ⟨w.heap.size+1+1,1,none⟩ (.slice a9 l9 c9)=W5 at *;have hd0:=hb.c0;have hd1:=hb.c1;go_wp2_with fail
     exact bodyPost_ret (v:=.agg #[.bool b9,.slice a9 l9 c9]) (by simp [results,Tryz.results135,go_sem,hd0,hd1]) rfl ⟨_,rfl,by rw [← Hsum.out];exact Hs5.out,Hfx.out⟩
end Go.Proofs.YtbkfhacmekbniaaGreatDoor
