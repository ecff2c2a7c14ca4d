/- Walk: schismaref03's To at any length. (Printed by wip/cku.py.) Walk: size.check and size.Check at any size of strings of at most 40 bytes (Rb: a slice of pairs of strings that reads). Walks: slices.IndexFunc and slices.ContainsFunc at []api.Rational of any strings, with any closure; law 31's short; whether a size has a long number. Walks: schismaref03.Sign of a fraction, law 31's closes. Walks: law 31's Make. scale.note over a plain right scale. Walks: scale.Find of a right scale with the octave as its period. Walk: scale.Steps of a right scale. Plain: the notes of a scale at large indices; Find of a note is its index. -/
import Derived.Test.YtoehmpbipbbffaaGreatDoorPa26
import Derived.Test.YtoehmpbipbbffaaGreatDoorPa25
import Derived.Test.YtoehmpbipbbffaaGreatDoorPa10
import Derived.Laws.AppendOwnNone
import Derived.Deep.DeepCutAuto
import Derived.Deep.RegionHeld3
import Derived.Test.YtoehmpbipbbffaaGreatDoorPa07
import Derived.Test.YtoehmpbipbbffaaGreatDoorPa08
import Derived.Shelf.Abstract
import Derived.Test.YtoehmpbipbbffaaGreatDoorPa24
import Derived.Test.YtoehmpbipbbffaaGreatDoorPa17
import Derived.Test.YtoehmpbipbbffaaGreatDoorPa16
import Derived.Test.YtoehmpbipbbffaaGreatDoorPa18
import Derived.Test.YtoehmpbipbbffaaGreatDoorPa23
import Derived.Test.YtoehmpbipbbffaaGreatDoorPa05
import Derived.Test.YtoehmpbipbbffaaGreatDoorPa15
set_option maxRecDepth 100000
set_option maxHeartbeats 4000000
namespace Go.Proofs.YtoehmpbipbbffaaGreatDoor
section
open Go.RowKit Go.Lib Go.Shelf
attribute [local go_sem] Oper.semAt_some
structure zn8 (l:List UInt8)(w0:World)(b:Bool)(S:ByteArray)(z:Nat)(o:List Nat)(v:Value)(wr:World):Prop where
 s:S=⟨(l.take z).toArray⟩
 zl:z≤l.length
 k:z=0∨l.length=z+9 * o.length
 n:o.length+z≤l.length
 sm:Dec.Small o
 pv:Dec.pv o=Dec.val 0 (l.drop z)
 own:zmQ wr w0.heap.size v o
 box:zdV 97 wr (w0.heap.size+1) (.bool b) v
 res:zdV 97 wr w0.heap.size (.bool false) (.slice none 0 0)
 x:Ext w0 wr
theorem zn9 (z:Int)(w:World)(hl:(decDigits z.natAbs).length≤900) :
  Calls Tryz.prog 56 #[.string (I z)] w fun e w'=>∃ v,e=.returned v∧WB w' v z∧Ext w w':=by
 obtain ⟨i0,hi,hz0,hz1,hz2⟩:=info_parts zej;obtain ⟨m,hm⟩:∃ m:Nat,m=z.natAbs:=⟨_,rfl⟩;obtain ⟨l,hld⟩:∃ l,l=decDigits z.natAbs:=⟨_,rfl⟩;have hd:Dec.Dig l:=by rw [hld];exact Dec.dig_dec _
 have hpf:=fun W=>Any.strings_HasPrefix Tryz.lHasPrefix (I z) ⟨#[45]⟩ W;rw [zgx] at hpf;have hDl:D m=⟨l.toArray⟩:=by rw [hm,hld];rfl
 have hval:Dec.val 0 l=z.natAbs:=by rw [hld];exact Dec.val_dec _
 rw [← hld] at hl;have hsg:zgv (decide (z<0)) z.natAbs=z:=by
  unfold zgv;by_cases h:z<0
  ·rw [decide_eq_true h,if_pos rfl];omega
  ·rw [decide_eq_false h,if_neg (by simp)];omega
 have hcut:z<0→(I z).extract 1 (I z).size=⟨l.toArray⟩∧(1:Int)≤((I z).size:Int):=fun h=>by
  obtain rfl:z=-(m:Int):=by omega
  refine ⟨(zbx m (by omega)).trans hDl,?_⟩;rw [zbp m (by omega)];omega
 have hpos:¬ z<0→I z=⟨l.toArray⟩:=fun h=>by rw [← hDl,← zav];congr 1;omega
 have htr:=fun (W:World)(u:Value)(o:List Nat)(hs:Sl W u (nis o))(hsm:Dec.Small o)(hlo:o.length≤1000)(hv:Dec.pv o=z.natAbs)=>znb u (decide (z<0)) o W hs hsm hlo;have htr2:∀ (W:World)(u:Value)(o:List Nat)(hs:Sl W u (nis o))(hsm:Dec.Small o)(hlo:o.length≤1000)(hv:Dec.pv o=z.natAbs),Calls Tryz.prog 85 #[.agg #[.bool (decide (z<0)),u]] W fun e w'=>∃ v,e=.returned v∧WB w' v z∧Ext W w':=fun W u o h1 h2 h3 h4=>by
  have:=htr W u o h1 h2 h3 h4;rw [h4,hsg] at this;exact this
 rw [← hval] at htr2;generalize hb:decide (z<0)=b at *;have hb0:b=true→z<0:=fun h=>by rw [h] at hb;exact of_decide_eq_true hb
 have hb1:b=false→¬ z<0:=fun h=>by rw [h] at hb;exact of_decide_eq_false hb
 generalize hsI:I z=sz at *;obtain ⟨V,hV⟩:∃ V,V=(w.alloc (.cells #[.bool false,.slice none 0 0] 97)).alloc (.cells #[.bool b,.slice none 0 0] 97):=⟨_,rfl⟩;have hx:Ext w V:=by rw [hV];exact ((Ext.refl w).alloc _).alloc _
 have b1:=(zdV.new 97 w (.bool false) (.slice none 0 0)).ext ((Ext.refl _).alloc (.cells #[.bool b,.slice none 0 0] 97));have b2:=zdV.new 97 (w.alloc (.cells #[.bool false,.slice none 0 0] 97)) (.bool b) (.slice none 0 0);rw [World.size_alloc] at b2;rw [← hV] at b1 b2;have hst:zn8 l w b ⟨l.toArray⟩ l.length [] (.slice none 0 0) V:=⟨by rw [List.take_length],Nat.le_refl _,.inr (by simp),by simp,by simp [Dec.Small],by rw [List.drop_length];rfl,⟨rfl,.inl ⟨rfl,rfl⟩⟩,b2,b1,hx⟩;have q0:=b2.c0;have hsz0:(⟨l.toArray⟩:ByteArray).size=l.length:=by show l.toArray.size=_;rw [List.size_toArray]
 have Hst:=Lib.hid hst;have Hsz0:=Lib.hid hsz0;have Hpf:=Lib.hid hpf;have Htr:=Lib.hid htr2;have Hd:=Lib.hid hd;have Hl:=Lib.hid hl;generalize hS0:(⟨l.toArray⟩:ByteArray)=S0 at *;have Hcut:=Lib.hid hcut;have Hpos:=Lib.hid hpos;have Hb0:=Lib.hid hb0;have Hb1:=Lib.hid hb1;subst hV;clear hpf htr htr2 hd hst b1 b2 hx hsg hb hm hsz0 hDl hld hval hcut hpos hb0 hb1 hsI hS0
 cases b
 ·have e:=Hpos.out (Hb1.out rfl);subst e;go_enter Tryz.func56,Tryz.ntmps56
  go_wp2_with fail
  refine (Hpf.out _).mono ?_;rintro e w1 ⟨rfl,rfl⟩;go_wp2_with fail
  go_loopw [3] (fun v3 wr=>∃ (S:ByteArray)(k:Nat)(o:List Nat)(a:Option Addr)(c L:Nat),v3=.string S∧S.size=k∧L=o.length∧Hid (zn8 l w false S k o (.slice a L c) wr)) (fun v3 _=>match v3 with | .string S=>S.size | _=>0)
  case atStart=>exact ⟨_,l.length,[],none,0,0,rfl,Hsz0.out,rfl,Hst⟩
  case round =>
   obtain ⟨S,k,o,ao,co,L,rfl,hk,hL,HR⟩:=hrel;rcases Nat.eq_zero_or_pos k with hk0 | hk0
   ·subst hk0;have htr:=Htr.out wr (.slice ao L co) o HR.out.own.sl HR.out.sm (by have:=HR.out.n;have:=Hl.out;omega) (by rw [HR.out.pv,List.drop_zero]);have r0:=HR.out.box.c0;have r1:=HR.out.box.c1;have Htr1:=Lib.hid htr;clear htr hL;go_wp2_with fail
    refine Htr1.out.mono ?_;rintro e W9 ⟨v9,rfl,hw9,hx9⟩;obtain ⟨b9,a9,l9,c9,rfl,hw9,_⟩:=hw9.letl;have hr9:=HR.out.res.ext hx9;have k0:=hr9.c0;have k1:=hr9.c1;have z0:=hr9.fz 0;have z1:=hr9.fz 1;have hb5:=hr9.put (.bool b9) (.slice a9 l9 c9);have hs5:=hw9.past hr9 (by simp) (by simp) (.bool b9) (.slice a9 l9 c9);have hx5:Ext w ((W9.setCell ⟨w.heap.size,0,none⟩ (.bool b9)).setCell ⟨w.heap.size,1,none⟩ (.slice a9 l9 c9)):=((HR.out.x.trans hx9).setCell (Nat.le_refl _) _).setCell (Nat.le_refl _) _;have Hb5:=Lib.hid hb5;have Hx5:=Lib.hid hx5;have Hs5:=Lib.hid hs5;clear hb5 hx5 hs5 hr9 hx9 hw9;go_wp2_with fail
    have hd0:=Hb5.out.c0;have hd1:=Hb5.out.c1;exact bodyPost_ret (v:=.agg #[.bool b9,.slice a9 l9 c9]) (by simp [results,Tryz.results56,go_sem,hd0,hd1]) rfl ⟨_,rfl,Hs5.out,Hx5.out⟩
   ·obtain ⟨a,ha⟩:∃ a:Nat,a=k - 9:=⟨_,rfl⟩;obtain ⟨c,hc⟩:∃ c,c=(l.take k).drop a:=⟨_,rfl⟩;have hzl:=HR.out.zl;have hcl:c.length=k - a:=(by rw [hc,List.length_drop,List.length_take];omega);have hdc:Dec.Dig c:=(by rw [hc];exact Dec.dig_drop (Dec.dig_take Hd.out _) _);have hat:=fun W=>zn7 c hdc (by intro e;rw [e] at hcl;simp at hcl;omega) (by omega) W;have hv9:Dec.val 0 c<1000000000:=by
     have:=Dec.val_take_lt c c.length hdc (by omega);rw [List.take_length] at this;exact this
    have hstep:Dec.pv (o++[Dec.val 0 c])=Dec.val 0 (l.drop a):=by
     rw [hc];exact Dec.cut_step l a k o.length o (by omega) (by have:=HR.out.k;omega) rfl HR.out.pv
    have hext:S.extract 0 a=⟨(l.take a).toArray⟩:=by
     rw [HR.out.s,zas,List.drop_zero,List.take_take,Nat.min_eq_left (by omega)]
    have hext1:S.extract a k=⟨c.toArray⟩:=by
     rw [HR.out.s,zas,List.take_take,Nat.min_self,hc]
    have hsa:(S.extract 0 a).size=a:=(by rw [hext];exact zmS (by omega));rw [← hext1] at hat;have hak:a<k:=(by omega);have hmx:max (0:Int) ((k:Int) - 9)=(a:Int):=(by omega);have hkl:k≤900:=(by have:=Hl.out;omega);have hL9:L+1≤1000:=(by have:=HR.out.n;have:=Hl.out;omega);have hnew:(a=0∨l.length=a+9 * (L+1))∧L+1+a≤l.length:=(by have:=HR.out.k;have:=HR.out.n;omega);have hki:(0:Int)<(k:Int):=(by omega);have ha0:(0:Int)≤(a:Int):=(by omega);have hak1:(a:Int)≤(k:Int):=(by omega);generalize Dec.val 0 c=m at *;have Hat:=Lib.hid hat;have Hstep:=Lib.hid hstep;have Hext:=Lib.hid hext;have Hsa:=Lib.hid hsa;have Hnew:=Lib.hid hnew;have Hzl:=Lib.hid hzl;have HL:=Lib.hid hL;have Hv9:=Lib.hid hv9;have Hak:=Lib.hid hak;clear hat hstep hext hext1 hsa hnew hzl hdc hcl hc ha hL;go_wp2_with fail
    refine (Hat.out _).mono ?_;rintro e w2 ⟨rfl,hx2⟩;have hb2:=HR.out.box.ext hx2;have hr2:=HR.out.res.ext hx2;have hown:=hx2.ownN HR.out.own;unfold zmQ at hown;rw [← HL.out] at hown;have r1:=hb2.c1;have hE2:=HR.out.x.trans hx2;have hbase:w.heap.size≤w2.heap.size:=hE2.size;have HB2:=Lib.hid hb2;have HR2:=Lib.hid hr2;have Hown:=Lib.hid hown;have HE2:=Lib.hid hE2;have Hbase:=Lib.hid hbase;clear hb2 hr2 hown hE2 hx2 hbase;go_wp2_with (at_builtin;refine wpList_append_own _ rfl _ _ 28 rfl w.heap.size 3 i0 (.int .i64 0) 1 8 Tryz.underlying28 hi hz0 hz1 hz2 rfl (by decide) _ _ _ rfl (Hown.out.alloc _) ⟨w2.heap.size,0,none⟩ 1 1 [.int .i64 m] rfl rfl (cell_one_new _ _ _) (by simp [Value.oneCell']) (by unfold maxLen;omega) (by omega) (by rw [World.size_alloc];exact Nat.le_trans Hbase.out (Nat.le_succ _)) ?_;intro v7 V7 hown7 hgrow7 _;have hbV:zdV 97 V7 (w.heap.size+1) (.bool false) (.slice ao L co):=zgf (((Ext.refl w2).alloc _).heap HB2.out) (Hown.out.alloc (.cells #[.int .i64 m] 3)) (by decide) hgrow7;have hrV:zdV 97 V7 w.heap.size (.bool false) (.slice none 0 0):=zgf (((Ext.refl w2).alloc _).heap HR2.out) (Hown.out.alloc (.cells #[.int .i64 m] 3)) (by decide) hgrow7;have d1:=hbV.c1;have e1:=hbV.fz 1;obtain ⟨a7,c7,rfl⟩:=zel hown7)
    have hEV:Ext w (V7.setCell ⟨w.heap.size+1,1,none⟩ (.slice a7 (L+1) c7)):=((HE2.out.alloc _).grown hgrow7 (fun k hk=>(World.ownsRow.lt Hown.out k hk).1)).setCell (by show w.heap.size≤w.heap.size+1;omega) _;have hb8:=hbV.put1 (.slice a7 (L+1) c7);have hr8:=hrV.past1 (c:=w.heap.size+1) 1 (by omega) (.slice a7 (L+1) c7);have ho8:=zgi hbV hown7 (by decide) 1 (.slice a7 (L+1) c7);have hn:zn8 l w false (S.extract 0 a) a (o++[m]) (.slice a7 (L+1) c7) (V7.setCell ⟨w.heap.size+1,1,none⟩ (.slice a7 (L+1) c7)):=by
     refine ⟨Hext.out,Nat.le_trans (Nat.le_of_lt Hak.out) Hzl.out,?_,?_,Dec.small_snoc HR.out.sm Hv9.out,Hstep.out,?_,hb8,hr8,hEV⟩
     ·rw [List.length_append,List.length_singleton,← HL.out];exact Hnew.out.1
     ·rw [List.length_append,List.length_singleton,← HL.out];exact Hnew.out.2
     ·unfold zmQ nis;rw [List.length_append,List.length_singleton,← HL.out,List.map_append];exact ho8
    have Hn:=Lib.hid hn;clear hn hEV hb8 hr8 ho8 hown7 hgrow7 hbV hrV d1 e1 r1;go_wp2_with fail
    go_roundw
    case rel=>exact ⟨_,a,o++[m],_,_,L+1,rfl,Hsa.out,by rw [List.length_append,List.length_singleton,← HL.out],Hn⟩
    case measure =>
     show (S.extract 0 a).size<S.size;rw [Hsa.out,hk];exact Hak.out
 ·obtain ⟨e1,e2⟩:=Hcut.out (Hb0.out rfl);subst e1;go_enter Tryz.func56,Tryz.ntmps56
  go_wp2_with fail
  refine (Hpf.out _).mono ?_;rintro e w1 ⟨rfl,rfl⟩;go_wp2_with fail
  go_loopw [3] (fun v3 wr=>∃ (S:ByteArray)(k:Nat)(o:List Nat)(a:Option Addr)(c L:Nat),v3=.string S∧S.size=k∧L=o.length∧Hid (zn8 l w true S k o (.slice a L c) wr)) (fun v3 _=>match v3 with | .string S=>S.size | _=>0)
  case atStart=>exact ⟨_,l.length,[],none,0,0,rfl,Hsz0.out,rfl,Hst⟩
  case round =>
   obtain ⟨S,k,o,ao,co,L,rfl,hk,hL,HR⟩:=hrel;rcases Nat.eq_zero_or_pos k with hk0 | hk0
   ·subst hk0;have htr:=Htr.out wr (.slice ao L co) o HR.out.own.sl HR.out.sm (by have:=HR.out.n;have:=Hl.out;omega) (by rw [HR.out.pv,List.drop_zero]);have r0:=HR.out.box.c0;have r1:=HR.out.box.c1;have Htr1:=Lib.hid htr;clear htr hL;go_wp2_with fail
    refine Htr1.out.mono ?_;rintro e W9 ⟨v9,rfl,hw9,hx9⟩;obtain ⟨b9,a9,l9,c9,rfl,hw9,_⟩:=hw9.letl;have hr9:=HR.out.res.ext hx9;have k0:=hr9.c0;have k1:=hr9.c1;have z0:=hr9.fz 0;have z1:=hr9.fz 1;have hb5:=hr9.put (.bool b9) (.slice a9 l9 c9);have hs5:=hw9.past hr9 (by simp) (by simp) (.bool b9) (.slice a9 l9 c9);have hx5:Ext w ((W9.setCell ⟨w.heap.size,0,none⟩ (.bool b9)).setCell ⟨w.heap.size,1,none⟩ (.slice a9 l9 c9)):=((HR.out.x.trans hx9).setCell (Nat.le_refl _) _).setCell (Nat.le_refl _) _;have Hb5:=Lib.hid hb5;have Hx5:=Lib.hid hx5;have Hs5:=Lib.hid hs5;clear hb5 hx5 hs5 hr9 hx9 hw9;go_wp2_with fail
    have hd0:=Hb5.out.c0;have hd1:=Hb5.out.c1;exact bodyPost_ret (v:=.agg #[.bool b9,.slice a9 l9 c9]) (by simp [results,Tryz.results56,go_sem,hd0,hd1]) rfl ⟨_,rfl,Hs5.out,Hx5.out⟩
   ·obtain ⟨a,ha⟩:∃ a:Nat,a=k - 9:=⟨_,rfl⟩;obtain ⟨c,hc⟩:∃ c,c=(l.take k).drop a:=⟨_,rfl⟩;have hzl:=HR.out.zl;have hcl:c.length=k - a:=(by rw [hc,List.length_drop,List.length_take];omega);have hdc:Dec.Dig c:=(by rw [hc];exact Dec.dig_drop (Dec.dig_take Hd.out _) _);have hat:=fun W=>zn7 c hdc (by intro e;rw [e] at hcl;simp at hcl;omega) (by omega) W;have hv9:Dec.val 0 c<1000000000:=by
     have:=Dec.val_take_lt c c.length hdc (by omega);rw [List.take_length] at this;exact this
    have hstep:Dec.pv (o++[Dec.val 0 c])=Dec.val 0 (l.drop a):=by
     rw [hc];exact Dec.cut_step l a k o.length o (by omega) (by have:=HR.out.k;omega) rfl HR.out.pv
    have hext:S.extract 0 a=⟨(l.take a).toArray⟩:=by
     rw [HR.out.s,zas,List.drop_zero,List.take_take,Nat.min_eq_left (by omega)]
    have hext1:S.extract a k=⟨c.toArray⟩:=by
     rw [HR.out.s,zas,List.take_take,Nat.min_self,hc]
    have hsa:(S.extract 0 a).size=a:=(by rw [hext];exact zmS (by omega));rw [← hext1] at hat;have hak:a<k:=(by omega);have hmx:max (0:Int) ((k:Int) - 9)=(a:Int):=(by omega);have hkl:k≤900:=(by have:=Hl.out;omega);have hL9:L+1≤1000:=(by have:=HR.out.n;have:=Hl.out;omega);have hnew:(a=0∨l.length=a+9 * (L+1))∧L+1+a≤l.length:=(by have:=HR.out.k;have:=HR.out.n;omega);have hki:(0:Int)<(k:Int):=(by omega);have ha0:(0:Int)≤(a:Int):=(by omega);have hak1:(a:Int)≤(k:Int):=(by omega);generalize Dec.val 0 c=m at *;have Hat:=Lib.hid hat;have Hstep:=Lib.hid hstep;have Hext:=Lib.hid hext;have Hsa:=Lib.hid hsa;have Hnew:=Lib.hid hnew;have Hzl:=Lib.hid hzl;have HL:=Lib.hid hL;have Hv9:=Lib.hid hv9;have Hak:=Lib.hid hak;clear hat hstep hext hext1 hsa hnew hzl hdc hcl hc ha hL;go_wp2_with fail
    refine (Hat.out _).mono ?_;rintro e w2 ⟨rfl,hx2⟩;have hb2:=HR.out.box.ext hx2;have hr2:=HR.out.res.ext hx2;have hown:=hx2.ownN HR.out.own;unfold zmQ at hown;rw [← HL.out] at hown;have r1:=hb2.c1;have hE2:=HR.out.x.trans hx2;have hbase:w.heap.size≤w2.heap.size:=hE2.size;have HB2:=Lib.hid hb2;have HR2:=Lib.hid hr2;have Hown:=Lib.hid hown;have HE2:=Lib.hid hE2;have Hbase:=Lib.hid hbase;clear hb2 hr2 hown hE2 hx2 hbase;go_wp2_with (at_builtin;refine wpList_append_own _ rfl _ _ 28 rfl w.heap.size 3 i0 (.int .i64 0) 1 8 Tryz.underlying28 hi hz0 hz1 hz2 rfl (by decide) _ _ _ rfl (Hown.out.alloc _) ⟨w2.heap.size,0,none⟩ 1 1 [.int .i64 m] rfl rfl (cell_one_new _ _ _) (by simp [Value.oneCell']) (by unfold maxLen;omega) (by omega) (by rw [World.size_alloc];exact Nat.le_trans Hbase.out (Nat.le_succ _)) ?_;intro v7 V7 hown7 hgrow7 _;have hbV:zdV 97 V7 (w.heap.size+1) (.bool true) (.slice ao L co):=zgf (((Ext.refl w2).alloc _).heap HB2.out) (Hown.out.alloc (.cells #[.int .i64 m] 3)) (by decide) hgrow7;have hrV:zdV 97 V7 w.heap.size (.bool false) (.slice none 0 0):=zgf (((Ext.refl w2).alloc _).heap HR2.out) (Hown.out.alloc (.cells #[.int .i64 m] 3)) (by decide) hgrow7;have d1:=hbV.c1;have e1:=hbV.fz 1;obtain ⟨a7,c7,rfl⟩:=zel hown7)
    have hEV:Ext w (V7.setCell ⟨w.heap.size+1,1,none⟩ (.slice a7 (L+1) c7)):=((HE2.out.alloc _).grown hgrow7 (fun k hk=>(World.ownsRow.lt Hown.out k hk).1)).setCell (by show w.heap.size≤w.heap.size+1;omega) _;have hb8:=hbV.put1 (.slice a7 (L+1) c7);have hr8:=hrV.past1 (c:=w.heap.size+1) 1 (by omega) (.slice a7 (L+1) c7);have ho8:=zgi hbV hown7 (by decide) 1 (.slice a7 (L+1) c7);have hn:zn8 l w true (S.extract 0 a) a (o++[m]) (.slice a7 (L+1) c7) (V7.setCell ⟨w.heap.size+1,1,none⟩ (.slice a7 (L+1) c7)):=by
     refine ⟨Hext.out,Nat.le_trans (Nat.le_of_lt Hak.out) Hzl.out,?_,?_,Dec.small_snoc HR.out.sm Hv9.out,Hstep.out,?_,hb8,hr8,hEV⟩
     ·rw [List.length_append,List.length_singleton,← HL.out];exact Hnew.out.1
     ·rw [List.length_append,List.length_singleton,← HL.out];exact Hnew.out.2
     ·unfold zmQ nis;rw [List.length_append,List.length_singleton,← HL.out,List.map_append];exact ho8
    have Hn:=Lib.hid hn;clear hn hEV hb8 hr8 ho8 hown7 hgrow7 hbV hrV d1 e1 r1;go_wp2_with fail
    go_roundw
    case rel=>exact ⟨_,a,o++[m],_,_,L+1,rfl,Hsa.out,by rw [List.length_append,List.length_singleton,← HL.out],Hn⟩
    case measure =>
     show (S.extract 0 a).size<S.size;rw [Hsa.out,hk];exact Hak.out
end
section
open Go.RowKit Go.Lib
def Rb (w:World)(v:Value)(l:List (ByteArray × ByteArray)):Prop :=
 ∃ a cap,v=.slice a l.length cap∧cap≤maxLen∧l.length≤cap∧∀ i e,l[i]?=some e→∃ b off,a=some ⟨b,off,none⟩∧w.cell? ⟨b,off+i * 2,none⟩=some (.string e.1)∧w.cell? ⟨b,off+i * 2+1,none⟩=some (.string e.2)
def FrK (k:Nat)(e:ByteArray × ByteArray):Prop:=∃ r:Rat,Rv r=.agg #[.string e.1,.string e.2]∧Ft k r
def rp (r:Rat):ByteArray × ByteArray:=(I r.num,I (r.den:Int))
theorem FrK.rp {k:Nat}{e:ByteArray × ByteArray}(h:FrK k e):∃ r,e=rp r∧Ft k r:=by
 obtain ⟨r,hr,hf⟩:=h;unfold Rv at hr;injection hr with hr;have h0:=congrArg (fun a:Array Value=>a[0]?) hr;have h1:=congrArg (fun a:Array Value=>a[1]?) hr;simp at h0 h1;exact ⟨r,Prod.ext h0.symm h1.symm,hf⟩
theorem FrK.mono {k m:Nat}{e:ByteArray × ByteArray}(h:FrK k e)(hk:k≤m):FrK m e:=by
 obtain ⟨r,h1,h2⟩:=h;exact ⟨r,h1,h2.mono hk⟩
end
section
open Go.RowKit Go.Lib Go.Shelf
attribute [local go_sem] Oper.semAt_some
theorem znA (g:Nat)(v:Value)(l:List (ByteArray × ByteArray))(P:ByteArray × ByteArray→Bool)(w:World)(hv:Rb w v l)(hl:l.length≤1000)
  (eg:∀ args w,(callFunc g args).run Tryz.prog w=.ok (.enter g args) w)
  (hp:∀ W,Ext w W→∀ e∈l,Calls Tryz.prog g (#[.agg #[.string e.1,.string e.2]]++#[]) W fun u w'=>u=.returned (.bool (P e))∧Ext W w') :
  Calls Tryz.prog 54 #[v,.func (.func g) #[] #[]] w fun u w'=>(∃ z:Int,u=.returned (.int .i64 z)∧decide (0≤z)=l.any P∧-1≤z∧z≤1000)∧Ext w w':=by
 obtain ⟨a,c,rfl,_,_,hc⟩:=hv;generalize hn:l.length=n at *;have Hn:=Lib.hid hn;have Hp:=Lib.hid hp;have Hc:=Lib.hid hc;clear hc hn hp;go_enter Tryz.func54,Tryz.ntmps54
 go_wp2_with fail
 go_loopw [5,8] (fun v5 v8 wr=>∃ k:Nat,v8=.int .i64 k∧k≤n∧(l.take k).any P=false∧Ext w wr) (fun _ v8 _=>n - (zag v8).toNat)
 case atStart=>exact ⟨0,rfl,Nat.zero_le _,rfl,Ext.refl _⟩
 case round =>
  obtain ⟨k,rfl,hk,hall,hE⟩:=hrel;have Hall:=Lib.hid hall;clear hall;by_cases hlt:k<n
  ·obtain ⟨e,hr⟩:∃ e,l[k]?=some e:=⟨_,List.getElem?_eq_getElem (by rw [Hn.out];exact hlt)⟩;obtain ⟨b,off,rfl,h0,h1⟩:=Hc.out k e hr;have hc0:=hE.cell h0;have hc1:=hE.cell h1;have hd:=Hp.out wr hE e (List.mem_of_getElem? hr);have HE:=Lib.hid hE;have Hr:=Lib.hid hr;clear hr h0 h1 hE;generalize e.1=sa at *;generalize e.2=sb at *;generalize hdx:P e=dx at *;have Hd:=Lib.hid hd;have Hdx:=Lib.hid hdx;clear hd hdx;have hk0:(0:Int)≤(k:Int):=(by omega);have hk1:(k:Int)<(n:Int):=(by omega);go_wp2_with fail
   refine Hd.out.mono ?_;rintro u W2 ⟨rfl,hx2⟩;have HE2:=Lib.hid (HE.out.trans hx2);clear hx2
   cases dx with
   | true =>
    go_wp2
    go_ret
    exact ⟨⟨_,rfl,by rw [zfH P Hr.out Hdx.out];exact decide_eq_true (by omega),by omega,by omega⟩,HE2.out⟩
   | false =>
    go_wp2_with fail
    go_roundw
    case rel=>exact ⟨k+1,by go_num,hlt,zfG P Hr.out Hall.out Hdx.out,HE2.out⟩
    case measure=>simp [zag];omega
  ·have hkk:¬ (k:Int)<(n:Int):=(by omega);have hkl:k=n:=(by omega);have Hkl:=Lib.hid hkl;clear hkl;have HE:=Lib.hid hE;clear hE;go_wp2
   go_ret
   exact ⟨⟨-1,rfl,by have h:=Hall.out;rw [Hkl.out,← Hn.out,List.take_length] at h;rw [h];rfl,by omega,by omega⟩,HE.out⟩
theorem znB (g:Nat)(v:Value)(l:List (ByteArray × ByteArray))(P:ByteArray × ByteArray→Bool)(w:World)(hv:Rb w v l)(hl:l.length≤1000)
  (eg:∀ args w,(callFunc g args).run Tryz.prog w=.ok (.enter g args) w)
  (hp:∀ W,Ext w W→∀ e∈l,Calls Tryz.prog g (#[.agg #[.string e.1,.string e.2]]++#[]) W fun u w'=>u=.returned (.bool (P e))∧Ext W w') :
  Calls Tryz.prog 24 #[v,.func (.func g) #[] #[]] w fun u w'=>u=.returned (.bool (l.any P))∧Ext w w':=by
 have hi:=znA g v l P w hv hl eg hp;obtain ⟨a,c,rfl,_,_,_⟩:=hv;have Hi:=Lib.hid hi;clear hi hp;generalize l.any P=b at *;go_enter Tryz.func24,Tryz.ntmps24
 go_wp2_with fail
 refine Hi.out.mono ?_;rintro u w1 ⟨⟨z,rfl,hz,h1,h2⟩,hx⟩;have Hz:=Lib.hid hz;have Hx:=Lib.hid hx;clear hz hx;go_wp2
 go_ret
 exact ⟨ze8 Hz.out,Hx.out⟩
theorem znC (r:Rat)(w:World)(hf:Ft 400 r) :
  Calls Tryz.prog 26 #[Rv r] w fun e w'=>e=.returned (.int .i64 r.num.sign)∧Ext w w':=by
 have hto:=fun W=>zn9 r.num W (by rw [decDigits_length];have:=hf.1;omega);have hsg:=fun v W (h:WB W v r.num)=>zn5 v r.num W h;have b1:=zdK.new w (.string (I r.num)) (.string (I (r.den:Int)));have hE:Ext w (w.alloc (.cells #[.string (I r.num),.string (I (r.den:Int))] 57)):=(Ext.refl w).alloc _;have q0:=b1.c0;have q1:=b1.c1;unfold Rv;generalize I r.num=s1 at *;generalize I (r.den:Int)=s2 at *;generalize r.num=z at *;have HE:=Lib.hid hE;have Hto:=Lib.hid hto;have Hsg:=Lib.hid hsg;clear hE hto hsg b1 hf;go_enter Tryz.func26,Tryz.ntmps26
 go_wp2_with fail
 refine (Hto.out _).mono ?_;rintro e w2 ⟨v,rfl,hwb,hx2⟩;have Hs2:=Lib.hid (Hsg.out v w2 hwb);obtain ⟨bx,ap,cp,rfl,hbx,hpp⟩:=hwb.let_;clear hbx hpp;have Hx2:=Lib.hid (HE.out.trans hx2);clear hx2 hwb;go_wp2_with fail
 refine Hs2.out.mono ?_;rintro e w3 ⟨rfl,hx3⟩;have Hx3:=Lib.hid (Hx2.out.trans hx3);clear hx3;go_wp2
 go_ret
 exact ⟨rfl,Hx3.out⟩
theorem znD (r:Rat)(w:World)(hf:Ft 400 r) :
  Calls Tryz.prog 25 #[Rv r] w fun e w'=>e=.returned (.bool (decide (r ≠ 0)))∧Ext w w':=by
 have hsg:=fun W=>znC r W hf;have b1:=zdK.new w (.string (I r.num)) (.string (I (r.den:Int)));have hE:Ext w (w.alloc (.cells #[.string (I r.num),.string (I (r.den:Int))] 57)):=(Ext.refl w).alloc _;have q0:=b1.c0;have q1:=b1.c1;have hd:decide (r ≠ 0)=!(r.num.sign == 0):=by
  by_cases h:r=0
  ·subst h;decide
  ·rw [decide_eq_true h];have h1:r.num ≠ 0:=fun g=>h (Rat.num_eq_zero.1 g);have h2:r.num.sign ≠ 0:=fun g=>h1 (Int.sign_eq_zero_iff_zero.1 g);rw [beq_eq_false_iff_ne.2 h2];rfl
 rw [hd];unfold Rv at *;generalize I r.num=s1 at *;generalize I (r.den:Int)=s2 at *;generalize r.num.sign=z at *;have HE:=Lib.hid hE;have Hsg:=Lib.hid hsg;clear hE hsg b1 hf hd;go_enter Tryz.func25,Tryz.ntmps25
 go_wp2_with fail
 refine (Hsg.out _).mono ?_;rintro e w2 ⟨rfl,hx2⟩;have Hx2:=Lib.hid (HE.out.trans hx2);clear hx2;go_wp2
 go_ret
 exact ⟨rfl,Hx2.out⟩
theorem znE {a b:Rat}(h:rp a=rp b):a=b:=zdo (by
 unfold rp at h;injection h with h1 h2;unfold Rv;rw [h1,h2])
open Classical in
noncomputable def nzP (e : ByteArray × ByteArray) : Bool:=decide (∃ r : Rat,r ≠ 0 ∧ e=rp r)
open Classical in
theorem znF (r:Rat):nzP (rp r)=decide (r ≠ 0):=by
 unfold nzP;by_cases h:r=0
 ·rw [decide_eq_false (p:=r ≠ 0) (fun g=>g h)];exact decide_eq_false fun ⟨s,hs,e⟩=>hs ((znE e).symm.trans h)
 ·rw [decide_eq_true (p:=r ≠ 0) h];exact decide_eq_true ⟨r,h,rfl⟩
theorem znG (l:List Rat):(l.map rp).any nzP=!(l.all fun r=>decide (r=0)):=by
 induction l with
 | nil=>rfl
 | cons a l ih =>
  rw [List.map_cons,List.any_cons,List.all_cons,ih,znF]
  by_cases h:a=0 <;> simp [h]
theorem znH (vp vg:Value)(p:List Int)(g:List Rat)(w:World)(hp:Sl w vp (zak p))(hg:Rd w vg g)(hg2:2≤g.length)(hg9:g.length≤1000)(hf:∀ r∈g,Ft 400 r) :
  Calls Tryz.prog 9 #[vp,vg] w fun e w'=>e=.returned (.bool (tlZ g))∧Ext w w':=by
 obtain ⟨m,hm⟩:∃ m,g.length=m+1:=⟨g.length - 1,by omega⟩;rcases hg with ⟨a,c,_,_,e⟩ | ⟨b,off,cg,rfl,h1,h2,hc⟩
 ·rw [e] at hg2;simp at hg2
 obtain ⟨o2,ho2⟩:∃ o2,o2=if cg=1 then off else off+2:=⟨_,rfl⟩;have hse2:(if cg=1 then some (⟨b,off,none⟩:Addr) else some ⟨b,off+2,none⟩)=some ⟨b,o2,none⟩:=by rw [ho2];split <;> rfl
 have hdl:((g.drop 1).map rp).length=m:=by rw [List.length_map,List.length_drop];omega
 have hco:=znB 25 (.slice (some ⟨b,o2,none⟩) m (cg - 1)) ((g.drop 1).map rp) nzP w (by
  refine ⟨_,cg - 1,by rw [hdl],by omega,by rw [hdl];omega,fun i e he=>?_⟩;rw [List.getElem?_map,List.getElem?_drop] at he
  cases hx:g[1+i]? with
  | none=>rw [hx] at he;cases he
  | some r =>
   rw [hx] at he
   obtain rfl:=Option.some.inj he
   have hr:=hc (1+i) r hx
   have ho:o2=off+2:=by rw [ho2,if_neg (by omega)]
   refine ⟨b,o2,rfl,?_,?_⟩
   ·have:=hr.1
    rw [show off+(1+i) * 2=o2+i * 2 by omega] at this
    exact this
   ·have:=hr.2
    rw [show off+(1+i) * 2+1=o2+i * 2+1 by omega] at this
    exact this) (by rw [hdl];omega) (fun _ _=>rfl) (fun W _ e he=>by
  rw [List.mem_map] at he;obtain ⟨r,hr,rfl⟩:=he;rw [znF];exact znD r W (hf r (List.mem_of_mem_drop hr)))
 rw [znG] at hco;have e:(!(!((g.drop 1).all fun r=>decide (r=0))))=tlZ g:=by rw [Bool.not_not];rfl
 rw [← e];clear e;obtain ⟨ap,cp,rfl,_,_,_⟩:=hp.parts;rw [hm] at *;have hj1':(1:Int)≤(m:Int)+1:=by omega
 have hcg1:1≤cg:=by omega
 have hcg2:(m:Int)+1≤(cg:Int):=by omega
 have hcgm:cg≤9223372036854775807:=by unfold maxLen at h2;omega
 have Hco:=Lib.hid hco;clear hco hc hf hp ho2 hm hdl hg2 hg9 h1 h2;generalize (zak p).length=np at *;generalize (!((g.drop 1).all fun r=>decide (r=0)))=bb at *;go_enter Tryz.func9,Tryz.ntmps9
 go_wp2_with fail
 refine Hco.out.mono ?_;rintro e w2 ⟨rfl,hx2⟩;have Hx2:=Lib.hid hx2;clear hx2;go_wp2
 go_ret
 exact ⟨rfl,Hx2.out⟩
theorem znI (x:I3)(i:Nat):Sn (zkd x i):=by
 have h:=zkg (x.at i);unfold zkd;generalize (x.at i).tmod 9=z at *;have key:∀ j:Fin 17,Sn (mkRat ((j.val:Int) - 8) 1)∧Sn (mkRat ((j.val:Int) - 8) 2):=by unfold Sn;decide +kernel
 have h2:=key ⟨(z+8).toNat,by omega⟩;dsimp only at h2;rw [show (((z+8).toNat:Nat):Int) - 8=z by omega] at h2;unfold dnm;split
 ·exact h2.2
 ·exact h2.1
theorem znJ (n:Nat)(x:I3):∀ q∈szW n x,Sn q:=by
 intro q hq;unfold szW at hq;obtain ⟨i,_,rfl⟩:=List.mem_map.1 hq;exact znI x i
end
section
open Go.RowKit Go.Lib
section
variable {p : List Int} {N : List (List Rat)} (h : Wd p N)
include h
theorem Wd.nt_bd (k:Int):((k / (N.length:Int):Int):Rat) * 67108864≤sF p (nt p N k)∧sF p (nt p N k)≤((k / (N.length:Int):Int):Rat) * 67108864+67108864:=by
 have h0:=h.pos;have hN:(0:Int)<(N.length:Int):=by omega
 have a1:=Int.emod_nonneg k (show (N.length:Int) ≠ 0 by omega);have a2:=Int.emod_lt_of_pos k hN;rw [h.sF_nt];have:=h.zbd (i:=(k % (N.length:Int)).toNat) (by omega);grind
theorem Wd.nt_sub_quick (k l:Int)(hk0:-1000≤k)(hk1:k≤1000)(hl0:-1000≤l)(hl1:l≤1000):zid p (zeT (nt p N k) (nt p N l)):=by
 obtain ⟨n,hn⟩:=h.dif;have h0:=h.pos;have hN:(0:Int)<(N.length:Int):=by omega
 have e1:=zih (a:=k) (b:=(N.length:Int)) (m:=1000) hN hk0 hk1 (by omega);have e2:=zih (a:=l) (b:=(N.length:Int)) (m:=1000) hN hl0 hl1 (by omega);have b1:=h.nt_bd k;have b2:=h.nt_bd l;have c1:(-1000:Rat)≤((k / (N.length:Int):Int):Rat):=Rat.intCast_le_intCast.2 e1.1;have c2:((k / (N.length:Int):Int):Rat)≤1000:=Rat.intCast_le_intCast.2 e1.2;have c3:(-1000:Rat)≤((l / (N.length:Int):Int):Rat):=Rat.intCast_le_intCast.2 e2.1;have c4:((l / (N.length:Int):Int):Rat)≤1000:=Rat.intCast_le_intCast.2 e2.2;have hs:=zeV p (nt p N k) (nt p N l) (by rw [h.ntlen,h.ntlen]);have hl:=(ziW (x:=nt p N k) (y:=nt p N l) (by rw [h.ntlen,h.ntlen])).trans (h.ntlen k);have hc:((2001 * 67108864:Int):Rat)=2001 * 67108864:=by rw [Rat.intCast_mul];rfl
 exact ziU (c:=2001) (by rw [hl];exact h.pr) (h.nt_nic hn k l) (by omega) (by omega) (by rw [hc];grind) (by rw [hc];grind)
end
end
section
open Go.RowKit Go.Lib
attribute [local go_sem] Oper.semAt_some
theorem zjF.bd {P:List Rat→Bool}{rs:List Qw}{z:Int}(h:zjF P rs z):-1≤z∧z<rs.length:=by
 rcases h with ⟨rfl,_⟩ | ⟨k,r,rfl,hk,_⟩
 ·omega
 ·have:=(List.getElem?_eq_some_iff.1 hk).1;omega
def stQ (n:Nat)(rs:List Qw)(k:Nat):List Rat:=zeT (((rs[k]?).map Qw.x).getD []) (ziI n rs k)
def znK (n:Nat)(rs:List Qw)(k:Nat):List (List Rat):=(List.range k).map (stQ n rs)
theorem znL (n:Nat)(rs:List Qw)(k:Nat):znK n rs (k+1)=znK n rs k++[stQ n rs k]:=by unfold znK;rw [List.range_succ,List.map_append];rfl
def znM (w:World)(n:Nat)(rs:List Qw)(k:Nat)(u:Value)(wr:World):Prop:=∃ out:List Qw,QwM wr w.heap.size w.heap.size u out∧out.map Qw.x=znK n rs k∧out.length=k∧Ext w wr
theorem znM.more {w W V:World}{o:Obj}{n k:Nat}{rs:List Qw}{v5 v7 u:Value}{out:List Qw}(hE:Ext w W)(h:QwM W w.heap.size w.heap.size v5 out)(hm:out.map Qw.x=znK n rs k)(hl:out.length=k)(hr:zf4 W w.heap.size u (stQ n rs k)) 
  (hown:V.ownsRow w.heap.size 32 1 v7 (k+1) (qwc out++[u])) (hgrow:(W.alloc o).grownBy V v5.ownBlock):znM w n rs (k+1) v7 V:=by
 subst hl;have:=QwM.more (r:=⟨_,u,zf8 hr.rd⟩) hE h hr hown hgrow;exact ⟨_,this.1,by rw [List.map_append,hm,znL];rfl,by rw [List.length_append];rfl,this.2⟩
theorem znN (v:Value)(p:List Int)(rs:List Qw)(w:World)(he:Env w)(hv:ScV w v p rs)(h:ziJ p rs)(hp0:0<p.length)(hres:∀ k,k<rs.length→∀ q∈stQ p.length rs k,Ft 30 q) :
  Calls Tryz.prog 14 #[v] w fun e w'=>∃ u,e=.returned (.tuple #[u,.int .i64 0])∧znM w p.length rs rs.length u w':=by
 obtain ⟨j0,hj,hy0,hy1,hy2⟩:=info_parts zf6;have h60:=h.most;have h1:=fun W (hE:Ext w W)=>ziK v p rs W (he.ext hE) (hv.ext hE) h;have hcl:=fun W u x (hx:Rd W u x)(hl:x.length=p.length)=>zj9 u x W hx (by have:=h.few;omega) (by intro e;rw [e] at hl;simp at hl;omega);obtain ⟨vp,vn,rfl,hp,hs,hm⟩:=hv;have hsub:=fun (k:Nat)(r s:Qw)(hr:rs[k+1]?=some r)(hs:rs[k]?=some s) W (hE:Ext w W)=>zhY vp r.u s.u p r.x s.x W (he.ext hE) (hE.sl hp) (hE.rd (hm r (List.mem_of_getElem? hr))) (hE.rd (hm s (List.mem_of_getElem? hs))) h.pe (h.len r (List.mem_of_getElem? hr)) (h.len s (List.mem_of_getElem? hs)) (h.ft r (List.mem_of_getElem? hr)) (h.ft s (List.mem_of_getElem? hs)) (by
  have:=hres (k+1) (List.getElem?_eq_some_iff.1 hr).1;unfold stQ ziI at this;rw [if_neg (by omega),hr,Nat.add_sub_cancel,hs] at this;exact this)
 have hst0:∀ r,rs[0]?=some r→stQ p.length rs 0=r.x:=fun r hr=>by
  unfold stQ ziI;rw [if_pos rfl,hr];show zeT r.x (List.replicate p.length 0)=r.x;rw [← h.len r (List.mem_of_getElem? hr)];exact ziX r.x
 have hst1:∀ k r s,rs[k+1]?=some r→rs[k]?=some s→stQ p.length rs (k+1)=zeT r.x s.x:=fun k r s hr hs=>by
  unfold stQ ziI;rw [if_neg (by omega),hr,Nat.add_sub_cancel,hs];rfl
 have hln:=h.len;have hone:=fun (r:Qw)(hr:r∈rs)=>(hm r hr).parts;have hrd:=fun (r:Qw)(hr:r∈rs) W (hE:Ext w W)=>hE.rd (hm r hr);obtain ⟨ap,cp,rfl,_,_,_⟩:=hp.parts;obtain ⟨an,cn,rfl,_,_,hc⟩:=hs.parts;rw [zam] at *;rw [zf7] at *;generalize hn:rs.length=n at *;have Hn:=Lib.hid hn;have bx:(w.alloc (.cells #[.slice ap p.length cp,.slice an n cn] 36)).heap[w.heap.size]?=some (.cells #[.slice ap p.length cp,.slice an n cn] 36 (0,0)):=World.alloc_heap_new w _;have hE0:Ext w (w.alloc (.cells #[.slice ap p.length cp,.slice an n cn] 36)):=(Ext.refl w).alloc _;have hbox:∀ W,Ext (w.alloc (.cells #[.slice ap p.length cp,.slice an n cn] 36)) W→W.cell? ⟨w.heap.size,0,none⟩=some (.slice ap p.length cp)∧W.cell? ⟨w.heap.size,1,none⟩=some (.slice an n cn):=fun W hE=>by
  have hb:=hE.heap bx;unfold World.cell?;dsimp only;rw [hb];exact ⟨rfl,rfl⟩
 clear hp hs hm he h bx hres hn;have H1:=Lib.hid h1;have Hcl:=Lib.hid hcl;have Hsub:=Lib.hid hsub;have Hst0:=Lib.hid hst0;have Hst1:=Lib.hid hst1;have Hln:=Lib.hid hln;have Hone:=Lib.hid hone;have Hrd:=Lib.hid hrd;have Hc:=Lib.hid hc;have HE0:=Lib.hid hE0;have Hbox:=Lib.hid hbox;clear h1 hcl hsub hst0 hst1 hln hone hrd hc hE0 hbox;go_enter Tryz.func14,Tryz.ntmps14
 go_wp2_with fail
 refine (H1.out _ HE0.out).mono ?_;rintro e w1 ⟨rfl,hx1⟩;obtain ⟨q0,q1⟩:=Hbox.out w1 hx1;have Hx1:=Lib.hid hx1;clear hx1;go_wp2_with fail
 go_loopw [5,6,7,8,17] (fun v5 v6 v7 v8 v17 wr=>∃ k:Nat,v17=.int .i64 k∧k≤n∧znM w1 p.length rs k v5 wr) (fun _ _ _ _ v17 _=>n - (zag v17).toNat)
 case atStart=>exact ⟨0,rfl,Nat.zero_le _,⟨[],QwM.nil _ _ _,rfl,rfl,Ext.refl _⟩⟩
 case round =>
  clear q0 q1;obtain ⟨k,rfl,hk,⟨out,hq,hmq,hlq,hE⟩⟩:=hrel;have hEw:=(HE0.out.trans Hx1.out).trans hE;obtain ⟨a5,c5,rfl⟩:=zel hq.1;rw [hlq] at hq;rw [hlq];by_cases hkn:k<n
  ·obtain ⟨r,hr⟩:∃ r,rs[k]?=some r:=⟨_,List.getElem?_eq_getElem (by rw [Hn.out];exact hkn)⟩;have hmem:=List.mem_of_getElem? hr;obtain ⟨b,off,rfl,hc0⟩:=Hc.out k r.u (by unfold qwc;rw [List.getElem?_map,hr];rfl);obtain ⟨ar,cr,hru,_,_,_⟩:=Hone.out r hmem;have hcu:=hEw.cell hc0;have hrl:r.x.length=p.length:=Hln.out r hmem;rw [hru,hrl] at hcu;have hrr:=Hrd.out r hmem wr hEw;rw [hru,hrl] at hrr;have hk0:(0:Int)≤(k:Int):=(by omega);have hk1:(k:Int)<(n:Int):=(by omega);have hm3:k+1≤maxLen:=(by unfold maxLen;omega);have hm4:(k+1) * 24≤140737488355328:=(by omega);have hqo:=hq.1;rw [hlq] at hqo;obtain ⟨q0,q1⟩:=Hbox.out wr (Hx1.out.trans hE);by_cases hkz:0<k
   ·obtain ⟨j,hkj⟩:∃ j,k=j+1:=⟨k - 1,by omega⟩;obtain ⟨s,hs⟩:∃ s,rs[j]?=some s:=⟨_,List.getElem?_eq_getElem (by rw [Hn.out];omega)⟩;have hsm:=List.mem_of_getElem? hs;obtain ⟨b',off',e',hc2⟩:=Hc.out j s.u (by unfold qwc;rw [List.getElem?_map,hs];rfl)
    cases e'
    obtain ⟨as',cs,hsu,_,_,_⟩:=Hone.out s hsm;have hsl:s.x.length=p.length:=Hln.out s hsm;have hcs:=hEw.cell hc2;rw [hsu,hsl] at hcs;have hst:stQ p.length rs k=zeT r.x s.x:=by
     subst hkj;exact Hst1.out j r s hr hs
    have hsb:=fun W (hx:Ext wr W)=>Hsub.out j r s (by rw [← hkj];exact hr) hs W (hEw.trans hx);rw [hru,hsu,hrl,hsl] at hsb;have hsxl:(zeT r.x s.x).length=p.length:=(ziW (hrl.trans hsl.symm)).trans hrl;have hclo:=fun W g ho=>Hcl.out W (.slice (some ⟨g,0,none⟩) p.length p.length) (zeT r.x s.x) ho hsxl;have hz1:(0:Int)<(k:Int):=(by omega);have hwj:IntKind.i64.wrap ((k:Int) - 1)=(j:Int):=(by rw [IntKind.wrap_i64];omega);have hj0:(0:Int)≤(j:Int):=(by omega);have hj1:(j:Int)<(n:Int):=(by omega);have Hsb:=Lib.hid hsb;have Hclo:=Lib.hid hclo;have Hst:=Lib.hid hst;have Hq:=Lib.hid hq;have Hmq:=Lib.hid hmq;have Hlq:=Lib.hid hlq;have HEw:=Lib.hid hEw;have HE:=Lib.hid hE;have Hkj:=Lib.hid hkj;have Hsxl:=Lib.hid hsxl;clear hsb hclo hst hq hmq hlq hEw hE hrr hc0 hc2 hr hs hmem hsm hrl hsl hru hsu hqo hkj hsxl;go_wp2_with fail
    go_region_held3 (fun w'=>Ext wr w'∧w'.cell? ⟨w.heap.size,0,none⟩=some (.slice ap p.length cp)∧w'.cell? ⟨w.heap.size,1,none⟩=some (.slice (some ⟨b,off,none⟩) n cn)∧w'.cell? ⟨b,off+j,none⟩=some (.slice as' p.length cs))
     (first | (with_reducible assumption) | exact ⟨(Ext.refl wr).drew,q0,q1,hcs⟩)
     (first | (go_at_call 38;refine (Hsb.out _ (And.left (by assumption))).mono ?_;rintro e9 VA ⟨g2,rfl,ho2,hxa⟩;have hEA:=((Ext.refl wr).drew).trans hxa;have hS2:Ext wr VA∧VA.cell? ⟨w.heap.size,0,none⟩=some (.slice ap p.length cp)∧VA.cell? ⟨w.heap.size,1,none⟩=some (.slice (some ⟨b,off,none⟩) n cn)∧VA.cell? ⟨b,off+j,none⟩=some (.slice as' p.length cs):=⟨hEA,hEA.cell q0,hEA.cell q1,hEA.cell hcs⟩;have HEA:=Lib.hid hEA;have Ho2:=Lib.hid ho2.rd;clear hxa hEA ho2))
    all_goals
     clear hS2 q0 q1 hcs hcu;have hcl2:=Hclo.out VA _ Ho2.out;have Hcl2:=Lib.hid hcl2;clear hcl2;go_wp2_with fail
     refine Hcl2.out.mono ?_;rintro e W3 ⟨u3,rfl,ho3,hx3⟩;have hrd3:=ho3.rd;obtain ⟨a3,c3,rfl,_,_,_⟩:=hrd3.parts;have hx13:=HEA.out.trans hx3;have hq3:=hx13.qwM Hq.out;have hE3:=HE.out.trans hx13;have hqo:=hq3.1;rw [Hlq.out] at hqo;have hbase:=hE3.size;have ho4:zf4 W3 w1.heap.size (.slice a3 (zeT r.x s.x).length c3) (zeT r.x s.x):=ho3.mono (HE.out.trans HEA.out).size;have Ho3:=Lib.hid ho4;have Hq3:=Lib.hid hq3;have HE3:=Lib.hid hE3;rw [Hsxl.out] at Ho3;rw [Hsxl.out];clear ho3 ho4 hx3 hx13 hrd3 hq3 hE3;go_wp2_with (at_builtin;refine wpList_append_own _ rfl _ _ 34 rfl w1.heap.size 32 j0 (.slice none 0 0) 1 24 Tryz.underlying34 hj hy0 hy1 hy2 rfl (by decide) _ _ _ rfl (hqo.alloc _) ⟨W3.heap.size,0,none⟩ 1 1 [.slice a3 p.length c3] rfl rfl (cell_one_new _ _ _) (by simp [Value.oneCell']) hm3 hm4 (by rw [World.size_alloc];omega) ?_;intro v7 V7 hown7 hgrow7 _)
     go_roundw
     case rel=>exact ⟨k+1,by go_num,by omega,znM.more HE3.out Hq3.out Hmq.out Hlq.out (by rw [Hst.out];exact Ho3.out) hown7 hgrow7⟩
     case measure=>simp [zag];omega
   ·have hst:stQ p.length rs k=r.x:=by
     obtain rfl:k=0:=by omega
     exact Hst0.out r hr
    have hz1:¬ (0:Int)<(k:Int):=(by omega);have hclo:=Hcl.out wr _ r.x hrr hrl;have Hclo:=Lib.hid hclo;have Hst:=Lib.hid hst;have Hq:=Lib.hid hq;have Hmq:=Lib.hid hmq;have Hlq:=Lib.hid hlq;have HEw:=Lib.hid hEw;have HE:=Lib.hid hE;clear hclo hst hq hmq hlq hEw hE hrr hc0 hr hmem hrl hru hqo;go_wp2_with fail
    refine Hclo.out.mono ?_;rintro e W3 ⟨u3,rfl,ho3,hx3⟩;have hrd3:=ho3.rd;obtain ⟨a3,c3,rfl,_,_,_⟩:=hrd3.parts;have hq3:=hx3.qwM Hq.out;have hE3:=HE.out.trans hx3;have hqo:=hq3.1;rw [Hlq.out] at hqo;have hbase:=hE3.size;have Ho3:=Lib.hid (ho3.mono HE.out.size);have Hq3:=Lib.hid hq3;have HE3:=Lib.hid hE3;clear ho3 hx3 hrd3 hq3 hE3 q0 q1 hcu;go_wp2_with (at_builtin;refine wpList_append_own _ rfl _ _ 34 rfl w1.heap.size 32 j0 (.slice none 0 0) 1 24 Tryz.underlying34 hj hy0 hy1 hy2 rfl (by decide) _ _ _ rfl (hqo.alloc _) ⟨W3.heap.size,0,none⟩ 1 1 [.slice a3 r.x.length c3] rfl rfl (cell_one_new _ _ _) (by simp [Value.oneCell']) hm3 hm4 (by rw [World.size_alloc];omega) ?_;intro v7 V7 hown7 hgrow7 _)
    go_roundw
    case rel=>exact ⟨k+1,by go_num,by omega,znM.more HE3.out Hq3.out Hmq.out Hlq.out (by rw [Hst.out];exact Ho3.out) hown7 hgrow7⟩
    case measure=>simp [zag];omega
  ·obtain rfl:n=k:=by omega
   have Hq:=Lib.hid hq;have Hmq:=Lib.hid hmq;have Hlq:=Lib.hid hlq;have HEw:=Lib.hid hEw;clear hq hmq hlq hEw;go_wp2
   go_ret2
   exact ⟨_,rfl,_,Hq.out.mono (HE0.out.trans Hx1.out).size (HE0.out.trans Hx1.out).size,Hmq.out,Hlq.out,HEw.out⟩
end
section
theorem znO {p:List Int}{a:Rat}{tl:List Rat}(hp:Pr p (a::tl).length)(hb:Bx 256 (a::tl)∨∀ r∈tl,r=0):flN p (a::tl)=(sF p (a::tl) / 67108864).floor:=by
 rw [← zi1 hp hb];by_cases h:∀ r∈tl,r=0
 ·rw [zle hp h];unfold flP;rw [List.tail_cons,if_pos (by rw [List.all_eq_true];simpa using h)];rfl
 ·have he:=ziz hp (hb.resolve_right h) h;rw [zlc (zld hp _) he.1 he.2];unfold flP;rw [List.tail_cons,if_neg (by rw [List.all_eq_true];simpa using h),he.1]
section
variable {p : List Int} {N : List (List Rat)} (h : Wd p N)
include h
end
end
end Go.Proofs.YtoehmpbipbbffaaGreatDoor
