/- Walks: size.Text. The map of a class's different sizes: how its elements read, what it holds. -/
import Derived.Test.YtipjmpdndokdlaaGreatDoorPb22
import Derived.Test.YtipjmpdndokdlaaGreatDoorPb14
import Derived.Test.YtipjmpdndokdlaaGreatDoorShelfG
import Derived.Test.YtipjmpdndokdlaaGreatDoorPb21
import Derived.Maps.RangeWalk
import Derived.Maps.Views
set_option maxRecDepth 100000
set_option maxHeartbeats 800000
namespace Go.Proofs.YtipjmpdndokdlaaGreatDoor
open Go.RowKit Go.Lib Go.Shelf
attribute [local go_sem] Oper.semAt_some
theorem itms_take {p : List Int} {x : List Rat} {k : Nat} {a : Int} {r : Rat} (hp : p[k]?=some a) (hx : x[k]?=some r) :
  itms (p.take (k + 1)) (x.take (k + 1))=itms (p.take k) (x.take k) ++ (itm (itoa a) r).toList:=by
 have e:∀ n,(p.take n).zip (x.take n)=(p.zip x).take n:=fun n=>by simp [List.zip_eq_zipWith,List.take_zipWith]
 have hz:(p.zip x)[k]?=some (a,r):=by
  rw [List.getElem?_zip_eq_some]
  exact ⟨hp,hx⟩
 unfold itms
 rw [e,e,List.take_add_one,hz,List.filterMap_append]
 congr 1
/-- A slice of strings that a call made. -/
def svs (l : List (List UInt8)) : List Value:=l.map fun s => .string ⟨s.toArray⟩
def OwnS (w : World) (B : Nat) (v : Value) (l : List (List UInt8)) : Prop:=w.ownsRow B 9 1 v l.length (svs l)
theorem info_str : (Tryz.prog.info? 9).map (fun i => (i.zero,i.size,i.bytes))=some (some (.string ByteArray.empty),1,16):=by kernel_rfl
theorem OwnS.more {w W7 : World} {v7 : Value} {l : List (List UInt8)} {z : List UInt8} {n : Nat} (hn : l.length=n) (ho : W7.ownsRow w.heap.size 9 1 v7 (n + 1) (svs l ++ [.string ⟨z.toArray⟩])) : OwnS W7 w.heap.size v7 (l ++ [z]):=by
 unfold OwnS
 rw [List.length_append,hn]
 unfold svs at ho ⊢
 rw [List.map_append]
 exact ho
theorem itm_len {a : Int} {r : Rat} {z : List UInt8} (ha : Fit a) (hr : Ft 30 r) (h : itm (itoa a) r=some z) : z.length ≤ 1300000:=by
 have l1:=I_size_le a ha
 have l2:=I_size_le r.num (hr.num (by omega))
 have l3:=I_size_le (r.den:Int) (hr.den (by omega))
 have e:∀ z:Int,(I z).size=(itoa z).length:=fun z=>by show (itoa z).toArray.size=_;simp
 rw [e] at l1 l2 l3
 unfold itm at h
 split at h
 ·cases h
 ·cases h
  have lf:(frL r).length ≤ 800010:=by
   unfold frL
   split
   ·omega
   ·simp only [List.length_append,List.length_cons];omega
  rw [List.length_append]
  unfold sfx
  split
  ·simp only [List.length_nil];omega
  ·split
   ·simp only [List.length_cons];omega
   ·simp only [List.length_cons,List.length_append,List.length_nil];omega
theorem word_one {z : Int} {r : Rat} (h : r=1) : I z=⟨(itoa z ++ sfx r).toArray⟩:=by
 unfold sfx
 rw [if_pos h,List.append_nil]
 rfl
theorem word_pow {z : Int} {r : Rat} (h : r ≠ 1) (hd : r.den=1 ∧ 0 < r.num) : I z ++ (⟨#[94]⟩ ++ frT r)=⟨(itoa z ++ sfx r).toArray⟩:=by
 unfold sfx
 rw [if_neg h,if_pos hd,frT_L]
 unfold I
 apply ByteArray.ext
 apply Array.ext'
 simp
theorem word_par {z : Int} {r : Rat} (h : r ≠ 1) (hd : ¬ (r.den=1 ∧ 0 < r.num)) : I z ++ (⟨#[94,40]⟩ ++ frT r ++ ⟨#[41]⟩)=⟨(itoa z ++ sfx r).toArray⟩:=by
 unfold sfx
 rw [if_neg h,if_neg hd,frT_L]
 unfold I
 apply ByteArray.ext
 apply Array.ext'
 simp
theorem rat_one {r : Rat} : r=1 ↔ r.num=1 ∧ (r.den : Int)=1 :=
 ⟨fun h=>by rw [h];exact ⟨rfl,rfl⟩,fun h=>Rat.ext h.1 (by rw [show r.den=1 by omega];rfl)⟩
theorem itm_some {b : List UInt8} {r : Rat} (h : r.num ≠ 0) : itm b r=some (b ++ sfx r):=by unfold itm;rw [if_neg h]
theorem fit_five {z : Int} (h0 : 0 ≤ z) (h1 : z ≤ 5) : Fit z:=Nat.le_trans (Dec.nDigits_le (k:=1) (by omega) (show z.natAbs < 10 ^ 1 by omega)) (by omega)
theorem frT_size {r : Rat} (hr : Ft 30 r) : (frT r).size ≤ 800010:=by
 have l2:=I_size_le r.num (hr.num (by omega))
 have l3:=I_size_le (r.den:Int) (hr.den (by omega))
 have e:∀ z:Int,(I z).size=(itoa z).length:=fun z=>by show (itoa z).toArray.size=_;simp
 rw [e] at l2 l3
 rw [frT_L]
 show (frL r).toArray.size ≤ _
 rw [List.size_toArray]
 unfold frL
 split
 ·omega
 ·simp only [List.length_append,List.length_cons];omega
theorem sText_c (vp v : Value) (p : List Int) (x : List Rat) (w : World) (he : Env w) (hp : Sl w vp (i64s p)) (hv : Rd w v x) (hpw : p=[2,3] ∨ p=[2,3,5]) (hlen : x.length=p.length) (hx : ∀ r ∈ x,Ft 30 r) :
  Calls Tryz.prog 203 #[vp,v] w fun e w'=>e=.returned (.tuple #[.string ⟨(txt p x).toArray⟩,.int .i64 0])∧Ext w w':=by
 obtain ⟨j0,hj,hy0,hy1,hy2⟩:=info_parts info_str
 have hpe:primesErr p=0∧p.length ≤ 3:=by rcases hpw with e | e <;> rw [e] <;> decide
 have hps:∀ z ∈ p,0 ≤ z∧z ≤ 5:=by rcases hpw with e | e <;> rw [e] <;> decide
 have hck:=sCheck_c vp v p x w he hp hv hpe.1 hlen hx
 have hit:=fun (z:Int) (hz:z ∈ p) W (hE:Ext w W)=>itoa_c z (by have:=hps z hz;omega) (by have:=hps z hz;omega) W (he.ext hE)
 have hnm:=fun W (hE:Ext w W)=>number_c 1 W (he.ext hE) (by omega) (by omega)
 have e1:Rv ((1:Int):Rat)=.agg #[.string ⟨#[49]⟩,.string ⟨#[49]⟩]:=by rw [Rv_int,show I 1=⟨#[49]⟩ from D_one]
 simp only [e1] at hnm
 clear e1
 have hsg:=fun (r:Rat) (hr:r ∈ x) W=>sign_c r.num W ((hx r hr).num (by omega))
 have hft:=fun (r:Rat) (hr:r ∈ x) W=>frText_c r W ((hx r hr).num (by omega)) ((hx r hr).den (by omega))
 obtain ⟨ap,cp,rfl,_,_,hpc⟩:=hp.parts
 obtain ⟨av,cv,rfl,_,_,hvc⟩:=hv.parts
 rw [i64s_length] at *
 have hpe2:=hpe.2
 generalize hn:p.length=n at *
 have Hck:=Lib.hid hck;have Hit:=Lib.hid hit;have Hnm:=Lib.hid hnm;have Hsg:=Lib.hid hsg;have Hft:=Lib.hid hft;have Hpc:=Lib.hid hpc;have Hvc:=Lib.hid hvc;have Hx:=Lib.hid hx;have Hps:=Lib.hid hps;have Hn:=Lib.hid hn;have Hlen:=Lib.hid hlen
 clear hck hit hnm hsg hft hpc hvc hp hv hx hps hpe he hpw hn
 rw [hlen]
 rw [hlen] at Hck
 clear hlen
 go_enter Tryz.func203,Tryz.ntmps203
 go_wp2_with fail
 refine Hck.out.mono ?_
 rintro e w1 ⟨rfl,hx1⟩
 have Hx1:=Lib.hid hx1
 clear hx1
 go_wp2_with fail
 go_loopw [7,19] (fun v7 v19 wr=>∃ k:Nat,v19=.int .i64 k∧k ≤ n∧OwnS wr w.heap.size v7 (itms (p.take k) (x.take k))∧Ext w wr) (fun _ v19 _=>n - (intOf v19).toNat)
 case atStart=>exact ⟨0,rfl,Nat.zero_le _,World.ownsRow_nil _ _ _ _,Hx1.out⟩
 case round =>
  obtain ⟨k,rfl,hk,ho,hE⟩:=hrel
  generalize hL:itms (p.take k) (x.take k)=L at *
  obtain ⟨a7,c7,rfl⟩:=own_shape ho
  by_cases hkn:k < n
  ·obtain ⟨r,hr⟩:∃ r,x[k]?=some r:=⟨_,List.getElem?_eq_getElem (by rw [Hlen.out];exact hkn)⟩
   obtain ⟨z,hz⟩:∃ z,p[k]?=some z:=⟨_,List.getElem?_eq_getElem (by rw [Hn.out];exact hkn)⟩
   have hzm:=List.mem_of_getElem? hz
   have hrm:=List.mem_of_getElem? hr
   obtain ⟨bp,op,rfl,hpc⟩:=Hpc.out k (.int .i64 z) (by unfold i64s;rw [List.getElem?_map,hz];rfl)
   obtain ⟨bv,ov,rfl,hc0,hc1⟩:=Hvc.out k r hr
   have p0:=hE.cell hpc
   have h0:=hE.cell hc0
   have h1:=hE.cell hc1
   have hk0:(0:Int) ≤ (k:Int):=by omega
   have hk1:(k:Int) < (n:Int):=by omega
   have hEb:Ext w (wr.alloc (.cells #[.string (I r.num),.string (I (r.den:Int))] 27)):=hE.alloc _
   have p1:=hEb.cell hpc
   have b1:=Box2.new wr (.string (I r.num)) (.string (I (r.den:Int)))
   have hitk:=Hit.out z hzm _ hEb
   have hst:=itms_take hz hr
   have hll:L.length ≤ 3:=by
    rw [← hL]
    unfold itms
    refine Nat.le_trans (List.length_filterMap_le ..) ?_
    rw [List.length_zip,List.length_take,List.length_take]
    omega
   have Hll:=Lib.hid hll
   have hzI:=I_size_le z (fit_five (Hps.out z hzm).1 (Hps.out z hzm).2)
   have hfs:=frT_size (Hx.out r hrm)
   clear hll
   rw [hL] at hst
   have hnum0:=I_is_zero r.num
   have hden1:=I_is_one (r.den:Int)
   have hnum1:=I_is_one r.num
   generalize hsa:I r.num=sa at *
   generalize hsb:I (r.den:Int)=sb at *
   by_cases h0:r.num=0
   ·rw [decide_eq_true h0] at hnum0
    have hst2:itms (p.take (k + 1)) (x.take (k + 1))=L:=by rw [hst];unfold itm;rw [if_pos h0];simp
    have Hst:=Lib.hid hst2;have HEb:=Lib.hid hEb;have B1:=Lib.hid b1;have Hitk:=Lib.hid hitk;have Ho:=Lib.hid ho
    clear hst hst2 hEb b1 hitk ho hsa hsb hr hz hzm hrm hpc hc0 hc1 hden1 h0
    go_wp2_with fail
    refine Hitk.out.mono ?_
    rintro e w2 ⟨rfl,hx2⟩
    have hb2:=B1.out.ext hx2
    have g0:=hb2.c0;have g1:=hb2.c1
    have Hx2:=Lib.hid (HEb.out.trans hx2);have Ho2:=Lib.hid (((Ext.refl wr).alloc _ |>.trans hx2).own Ho.out)
    clear hx2 hb2
    go_wp2_with fail
    go_roundw
    case rel=>exact ⟨k + 1,by go_num,by omega,by rw [Hst.out];exact Ho2.out,Hx2.out⟩
    case measure=>simp [intOf];omega
   ·rw [decide_eq_false h0] at hnum0
    have Hst:=Lib.hid hst;have HEb:=Lib.hid hEb;have B1:=Lib.hid b1;have Hitk:=Lib.hid hitk;have Ho:=Lib.hid ho;have Hsa:=Lib.hid hsa;have Hsb:=Lib.hid hsb;have Hr:=Lib.hid hrm;have H0:=Lib.hid h0
    clear hst hEb b1 hitk ho hsa hsb hr hz hzm hrm hpc hc0 hc1 h0
    go_wp2_with fail
    refine Hitk.out.mono ?_
    rintro e w2 ⟨rfl,hx2⟩
    have hb2:=B1.out.ext hx2
    have hs2:∀ W,Ext w2.drew W→W.cell? ⟨wr.heap.size,0,none⟩=some (.string sa)∧W.cell? ⟨wr.heap.size,1,none⟩=some (.string sb):=fun W h=>by
     have:=hb2.ext ((Ext.refl w2).drew.trans h)
     exact ⟨this.c0,this.c1⟩
    have g0:=hb2.c0;have g1:=hb2.c1
    obtain ⟨d0,d1⟩:=hs2 _ (Ext.refl _)
    have hnm2:=Hnm.out w2.drew (HEb.out.trans hx2).drew
    have Hx2:=Lib.hid (HEb.out.trans hx2);have Ho2:=Lib.hid (((Ext.refl wr).alloc _ |>.trans hx2).own Ho.out);have Hs2:=Lib.hid hs2;have Hnm2:=Lib.hid hnm2
    clear hx2 hb2 hs2 hnm2
    obtain ⟨b1,hb1⟩:∃ b,decide (r.num=1)=b:=⟨_,rfl⟩
    obtain ⟨b2,hb2⟩:∃ b,decide ((r.den:Int)=1)=b:=⟨_,rfl⟩
    rw [hb1] at hnum1
    rw [hb2] at hden1
    have Hb1:=Lib.hid hb1;have Hb2:=Lib.hid hb2
    clear hb1 hb2
    cases b1 <;> cases b2
    ·go_wp2_with fail
     go_region_held3 (fun w'=>w'.cell? ⟨wr.heap.size,0,none⟩=some (.string sa)∧w'.cell? ⟨wr.heap.size,1,none⟩=some (.string sb))
      (first | (with_reducible assumption) | exact Hs2.out _ (Ext.refl _) | exact Hs2.out _ HxA.out)
      (first
       | (go_at_call 68
          refine Hnm2.out.mono ?_
          rintro e9 VA ⟨rfl,hxa⟩
          have HxA:=Lib.hid hxa
          clear hxa))
     obtain ⟨d0,d1⟩:=Hs2.out _ HxA.out
     have HEA:=Lib.hid (Hx2.out.drew.trans HxA.out)
     have HoA:=Lib.hid (((Ext.refl w2).drew.trans HxA.out).own Ho2.out)
     have hftA:=Hft.out r Hr.out VA
     unfold Rv at hftA
     rw [Hsa.out,Hsb.out] at hftA
     have HftA:=Lib.hid hftA
     clear hftA
     go_wp2_with fail
     refine HftA.out.mono ?_
     rintro e V4 ⟨rfl,hx4⟩
     have HEW:=Lib.hid (HEA.out.trans hx4)
     have HoW:=Lib.hid (hx4.own HoA.out)
     clear hx4
     have hqo:=HoW.out
     have hbase:=HEW.out.size
     have hm3:L.length + 1 ≤ maxLen:=by have:=Hll.out;unfold maxLen;omega
     have hm4:(L.length + 1) * 16 ≤ 140737488355328:=by have:=Hll.out;omega
     go_wp2_with (at_builtin;refine wpList_append_own _ rfl _ _ 284 rfl w.heap.size 9 j0 (.string ByteArray.empty) 1 16 Tryz.underlying284 hj hy0 hy1 hy2 rfl (by decide) _ _ _ rfl (World.ownsRow.alloc hqo _) ⟨V4.heap.size,0,none⟩ 1 1 [_] rfl rfl (cell_one_new _ _ _) (by simp [Value.oneCell']) hm3 hm4 (by rw [World.size_alloc];omega) ?_;intro v7 V7 hown7 hgrow7 _)
     rw [word_par (fun g=>absurd (rat_one.1 g).2 (of_decide_eq_false Hb2.out)) (fun g=>absurd (show (r.den:Int)=1 by omega) (of_decide_eq_false Hb2.out))] at hown7
     clear hqo
     go_roundw
     case rel=>exact ⟨k + 1,by go_num,by omega,by rw [Hst.out,itm_some H0.out,Option.toList_some];exact OwnS.more rfl hown7,ext_grown HEW.out HoW.out hgrow7⟩
     case measure=>simp [intOf];omega
    ·go_wp2_with fail
     go_region_held3 (fun w'=>w'.cell? ⟨wr.heap.size,0,none⟩=some (.string sa)∧w'.cell? ⟨wr.heap.size,1,none⟩=some (.string sb))
      (first | (with_reducible assumption) | exact Hs2.out _ (Ext.refl _) | exact Hs2.out _ HxA.out)
      (first
       | (go_at_call 68
          refine Hnm2.out.mono ?_
          rintro e9 VA ⟨rfl,hxa⟩
          have HxA:=Lib.hid hxa
          clear hxa))
     obtain ⟨d0,d1⟩:=Hs2.out _ HxA.out
     have HEA:=Lib.hid (Hx2.out.drew.trans HxA.out)
     have HoA:=Lib.hid (((Ext.refl w2).drew.trans HxA.out).own Ho2.out)
     have hftA:=Hft.out r Hr.out VA
     unfold Rv at hftA
     rw [Hsa.out,Hsb.out] at hftA
     have HftA:=Lib.hid hftA
     clear hftA
     have hsgA:=Hsg.out r Hr.out VA
     rw [Hsa.out] at hsgA
     have hd1:(r.den:Int)=1:=of_decide_eq_true Hb2.out
     have hne:r ≠ 1:=fun g=>absurd (rat_one.1 g).1 (of_decide_eq_false Hb1.out)
     by_cases hpos:0 < r.num
     ·rw [cmpI_gt hpos] at hsgA
      have Hw:=Lib.hid (word_pow (z:=z) hne ⟨by omega,hpos⟩)
      have HsgA:=Lib.hid hsgA
      clear hsgA hd1 hne hpos
      go_wp2_with fail
      refine HsgA.out.mono ?_
      rintro e W9 ⟨rfl,rfl⟩
      go_wp2_with fail
      refine HftA.out.mono ?_
      rintro e V4 ⟨rfl,hx4⟩
      have HEW:=Lib.hid (HEA.out.trans hx4)
      have HoW:=Lib.hid (hx4.own HoA.out)
      clear hx4
      have hqo:=HoW.out
      have hbase:=HEW.out.size
      have hm3:L.length + 1 ≤ maxLen:=by have:=Hll.out;unfold maxLen;omega
      have hm4:(L.length + 1) * 16 ≤ 140737488355328:=by have:=Hll.out;omega
      go_wp2_with (at_builtin;refine wpList_append_own _ rfl _ _ 284 rfl w.heap.size 9 j0 (.string ByteArray.empty) 1 16 Tryz.underlying284 hj hy0 hy1 hy2 rfl (by decide) _ _ _ rfl (World.ownsRow.alloc hqo _) ⟨V4.heap.size,0,none⟩ 1 1 [_] rfl rfl (cell_one_new _ _ _) (by simp [Value.oneCell']) hm3 hm4 (by rw [World.size_alloc];omega) ?_;intro v7 V7 hown7 hgrow7 _)
      rw [Hw.out] at hown7
      clear hqo
      go_roundw
      case rel=>exact ⟨k + 1,by go_num,by omega,by rw [Hst.out,itm_some H0.out,Option.toList_some];exact OwnS.more rfl hown7,ext_grown HEW.out HoW.out hgrow7⟩
      case measure=>simp [intOf];omega
     ·rw [cmpI_lt (show r.num < 0 by have:=H0.out;omega)] at hsgA
      have Hw:=Lib.hid (word_par (z:=z) hne (fun g=>hpos g.2))
      have HsgA:=Lib.hid hsgA
      clear hsgA hd1 hne hpos
      go_wp2_with fail
      refine HsgA.out.mono ?_
      rintro e W9 ⟨rfl,rfl⟩
      go_wp2_with fail
      refine HftA.out.mono ?_
      rintro e V4 ⟨rfl,hx4⟩
      have HEW:=Lib.hid (HEA.out.trans hx4)
      have HoW:=Lib.hid (hx4.own HoA.out)
      clear hx4
      have hqo:=HoW.out
      have hbase:=HEW.out.size
      have hm3:L.length + 1 ≤ maxLen:=by have:=Hll.out;unfold maxLen;omega
      have hm4:(L.length + 1) * 16 ≤ 140737488355328:=by have:=Hll.out;omega
      go_wp2_with (at_builtin;refine wpList_append_own _ rfl _ _ 284 rfl w.heap.size 9 j0 (.string ByteArray.empty) 1 16 Tryz.underlying284 hj hy0 hy1 hy2 rfl (by decide) _ _ _ rfl (World.ownsRow.alloc hqo _) ⟨V4.heap.size,0,none⟩ 1 1 [_] rfl rfl (cell_one_new _ _ _) (by simp [Value.oneCell']) hm3 hm4 (by rw [World.size_alloc];omega) ?_;intro v7 V7 hown7 hgrow7 _)
      rw [Hw.out] at hown7
      clear hqo
      go_roundw
      case rel=>exact ⟨k + 1,by go_num,by omega,by rw [Hst.out,itm_some H0.out,Option.toList_some];exact OwnS.more rfl hown7,ext_grown HEW.out HoW.out hgrow7⟩
      case measure=>simp [intOf];omega
    ·go_wp2_with fail
     go_region_held3 (fun w'=>w'.cell? ⟨wr.heap.size,0,none⟩=some (.string sa)∧w'.cell? ⟨wr.heap.size,1,none⟩=some (.string sb))
      (first | (with_reducible assumption) | exact Hs2.out _ (Ext.refl _) | exact Hs2.out _ HxA.out)
      (first
       | (go_at_call 68
          refine Hnm2.out.mono ?_
          rintro e9 VA ⟨rfl,hxa⟩
          have HxA:=Lib.hid hxa
          clear hxa))
     obtain ⟨d0,d1⟩:=Hs2.out _ HxA.out
     have HEA:=Lib.hid (Hx2.out.drew.trans HxA.out)
     have HoA:=Lib.hid (((Ext.refl w2).drew.trans HxA.out).own Ho2.out)
     have hftA:=Hft.out r Hr.out VA
     unfold Rv at hftA
     rw [Hsa.out,Hsb.out] at hftA
     have HftA:=Lib.hid hftA
     clear hftA
     go_wp2_with fail
     refine HftA.out.mono ?_
     rintro e V4 ⟨rfl,hx4⟩
     have HEW:=Lib.hid (HEA.out.trans hx4)
     have HoW:=Lib.hid (hx4.own HoA.out)
     clear hx4
     have hqo:=HoW.out
     have hbase:=HEW.out.size
     have hm3:L.length + 1 ≤ maxLen:=by have:=Hll.out;unfold maxLen;omega
     have hm4:(L.length + 1) * 16 ≤ 140737488355328:=by have:=Hll.out;omega
     go_wp2_with (at_builtin;refine wpList_append_own _ rfl _ _ 284 rfl w.heap.size 9 j0 (.string ByteArray.empty) 1 16 Tryz.underlying284 hj hy0 hy1 hy2 rfl (by decide) _ _ _ rfl (World.ownsRow.alloc hqo _) ⟨V4.heap.size,0,none⟩ 1 1 [_] rfl rfl (cell_one_new _ _ _) (by simp [Value.oneCell']) hm3 hm4 (by rw [World.size_alloc];omega) ?_;intro v7 V7 hown7 hgrow7 _)
     rw [word_par (fun g=>absurd (rat_one.1 g).2 (of_decide_eq_false Hb2.out)) (fun g=>absurd (show (r.den:Int)=1 by omega) (of_decide_eq_false Hb2.out))] at hown7
     clear hqo
     go_roundw
     case rel=>exact ⟨k + 1,by go_num,by omega,by rw [Hst.out,itm_some H0.out,Option.toList_some];exact OwnS.more rfl hown7,ext_grown HEW.out HoW.out hgrow7⟩
     case measure=>simp [intOf];omega
    ·go_wp2_with fail
     go_region_held3 (fun w'=>w'.cell? ⟨wr.heap.size,0,none⟩=some (.string sa)∧w'.cell? ⟨wr.heap.size,1,none⟩=some (.string sb))
      (first | (with_reducible assumption) | exact Hs2.out _ (Ext.refl _) | exact Hs2.out _ HxA.out)
      (first
       | (go_at_call 68
          refine Hnm2.out.mono ?_
          rintro e9 VA ⟨rfl,hxa⟩
          have HxA:=Lib.hid hxa
          clear hxa))
     obtain ⟨d0,d1⟩:=Hs2.out _ HxA.out
     have HEA:=Lib.hid (Hx2.out.drew.trans HxA.out)
     have HoA:=Lib.hid (((Ext.refl w2).drew.trans HxA.out).own Ho2.out)
     have hqo:=HoA.out
     have hbase:=HEA.out.size
     have hm3:L.length + 1 ≤ maxLen:=by have:=Hll.out;unfold maxLen;omega
     have hm4:(L.length + 1) * 16 ≤ 140737488355328:=by have:=Hll.out;omega
     go_wp2_with (at_builtin;refine wpList_append_own _ rfl _ _ 284 rfl w.heap.size 9 j0 (.string ByteArray.empty) 1 16 Tryz.underlying284 hj hy0 hy1 hy2 rfl (by decide) _ _ _ rfl (World.ownsRow.alloc hqo _) ⟨VA.heap.size,0,none⟩ 1 1 [_] rfl rfl (cell_one_new _ _ _) (by simp [Value.oneCell']) hm3 hm4 (by rw [World.size_alloc];omega) ?_;intro v7 V7 hown7 hgrow7 _)
     rw [word_one (rat_one.2 ⟨of_decide_eq_true Hb1.out,of_decide_eq_true Hb2.out⟩)] at hown7
     clear hqo
     go_roundw
     case rel=>exact ⟨k + 1,by go_num,by omega,by rw [Hst.out,itm_some H0.out,Option.toList_some];exact OwnS.more rfl hown7,ext_grown HEA.out HoA.out hgrow7⟩
     case measure=>simp [intOf];omega
  ·obtain rfl:n=k:=by omega
   have hLx:itms p x=L:=by
    rw [← hL,List.take_of_length_le (by rw [Hn.out];exact Nat.le_refl _),List.take_of_length_le (by rw [Hlen.out];exact Nat.le_refl _)]
   have hnk:¬ (n:Int) < (n:Int):=by omega
   by_cases h0:L=[]
   ·subst h0
    have ht:txt p x=[49]:=by unfold txt;rw [if_pos hLx]
    have HE:=Lib.hid hE;have Ht:=Lib.hid ht
    clear hLx ht hE ho
    go_wp2_with fail
    exact bodyPost_ret (v:=.tuple #[.string ⟨#[49]⟩,.int .i64 0]) (by simp [results,Tryz.results203,go_sem]) rfl ⟨by rw [Ht.out],HE.out⟩
   ·have ht:txt p x=Lib.join L [32]:=by unfold txt;rw [hLx,if_neg h0]
    have hlz:∀ s ∈ L,s.length ≤ 1300000:=fun s hs=>by
     rw [← hLx] at hs
     unfold itms at hs
     obtain ⟨⟨a,r⟩,hm,hi⟩:=List.mem_filterMap.1 hs
     have h1:=List.of_mem_zip hm
     exact itm_len (fit_five (Hps.out a h1.1).1 (Hps.out a h1.1).2) (Hx.out r h1.2) hi
    have hl3:L.length ≤ 3:=by
     rw [← hLx]
     unfold itms
     refine Nat.le_trans (List.length_filterMap_le ..) ?_
     rw [List.length_zip,Hn.out,Hlen.out]
     omega
    have hl0:0 < L.length:=List.length_pos_iff.2 h0
    have hj:(Lib.join L [32]).length ≤ 10000000:=by
     match L,h0,hlz,hl3 with
     | [a],_,hz,_ =>
      rw [Lib.join_one]
      have:=hz a (by simp)
      omega
     | [a,b],_,hz,_ =>
      have h1:=hz a (by simp)
      have h2:=hz b (by simp)
      rw [Lib.join_length]
      simp only [Lib.lens,List.length_cons,List.length_nil,List.map_cons,List.map_nil,List.sum_cons,List.sum_nil]
      omega
     | [a,b,c],_,hz,_ =>
      have h1:=hz a (by simp)
      have h2:=hz b (by simp)
      have h3:=hz c (by simp)
      rw [Lib.join_length]
      simp only [Lib.lens,List.length_cons,List.length_nil,List.map_cons,List.map_nil,List.sum_cons,List.sum_nil]
      omega
     | _ :: _ :: _ :: _ :: _,_,_,h3=>simp at h3
    have hown:=ho
    unfold OwnS at hown
    obtain ⟨g,cap,hv,hcell⟩:=own_slice hown hl0
    have hjn:Calls Tryz.prog 236 #[.slice a7 L.length c7,.string ⟨#[32]⟩] wr fun e w'=>e=.returned (.string ⟨(Lib.join L [32]).toArray⟩)∧Ext wr w':=by
     rw [hv]
     rcases hown.2 with ⟨_,g0⟩ | ⟨g',cap',cur,hv',hb,hg,k1,k2,k3,k4⟩
     ·omega
     ·rw [hv] at hv'
      injection hv' with e1 e2 e3
      injection e1 with e1
      injection e1 with e1
      subst e1 e3
      have hm:(L.map fun s=>(⟨s.toArray⟩:ByteArray)).map (·.data.toList)=L:=by
       rw [List.map_map]
       exact List.map_id'' (fun s=>rfl) L
      have hgw:g < wr.heap.size:=(Array.getElem?_eq_some_iff.1 hg).1
      have:=Any.strings_Join Tryz.lJoin Tryz.lJoinX g 0 cap (L.map fun s=>⟨s.toArray⟩) ⟨#[32]⟩ wr (fun j y hy=>by
       rw [Nat.zero_add]
       refine hcell j (.string y) ?_
       rw [List.getElem?_map] at hy
       unfold svs
       rw [List.getElem?_map]
       cases hs:L[j]? with
       | none=>rw [hs] at hy;cases hy
       | some s=>rw [hs] at hy;cases hy;rfl) hgw (by rw [List.length_map];omega) (by rw [List.length_map];omega) (by rw [hm];show (Lib.join L [32]).length ≤ _;omega)
      rw [hm,List.length_map] at this
      exact this
    have HE:=Lib.hid hE;have Ht:=Lib.hid ht;have Hjn:=Lib.hid hjn
    have hlw:¬ (L.length:Int)=0:=by omega
    clear hLx ht hE ho hown hjn hj hcell hv hlz hl3
    go_wp2_with fail
    refine Hjn.out.mono ?_
    rintro e w9 ⟨rfl,hx9⟩
    have Hx9:=Lib.hid (HE.out.trans hx9)
    clear hx9
    go_wp2_with fail
    exact bodyPost_ret (v:=.tuple #[.string ⟨(Lib.join L [32]).toArray⟩,.int .i64 0]) (by simp [results,Tryz.results203,go_sem]) rfl ⟨by rw [Ht.out],Hx9.out⟩
end Go.Proofs.YtipjmpdndokdlaaGreatDoor

namespace Go.Proofs.YtipjmpdndokdlaaGreatDoor
open Go.RowKit Go.Lib Go.Shelf
/-- One value reads as one size. -/
theorem Rd.inj {w : World} {v : Value} {x y : List Rat} (hx : Rd w v x) (hy : Rd w v y) : x=y:=by
 obtain ⟨a,c,e1,_,_,hc1⟩:=hx.parts
 obtain ⟨b,d,e2,_,_,hc2⟩:=hy.parts
 rw [e1] at e2
 injection e2 with g1 g2 g3
 subst g1
 refine List.ext_getElem g2 fun i h1 h2=>?_
 obtain ⟨bb,off,ha,c0,c1⟩:=hc1 i _ (List.getElem?_eq_getElem h1)
 obtain ⟨bb2,off2,ha2,d0,d1⟩:=hc2 i _ (List.getElem?_eq_getElem h2)
 rw [ha] at ha2
 cases ha2
 rw [c0] at d0
 rw [c1] at d1
 injection d0 with d0
 injection d0 with d0
 injection d1 with d1
 injection d1 with d1
 have:=I_inj d1
 exact Rat.ext (I_inj d0) (by omega)
def sameSl : Value → Value → Bool
 | .slice a n c,.slice b m d=>decide (a=b) && (decide (n=m) && decide (c=d))
 | _,_=>false
theorem sameSl_eq {u v : Value} (h : sameSl u v=true) : u=v:=by
 unfold sameSl at h
 split at h
 ·simp only [Bool.and_eq_true,decide_eq_true_eq] at h
  rw [h.1,h.2.1,h.2.2]
 ·cases h
theorem sameSl_self {a : Option Addr} {n c : Nat} : sameSl (.slice a n c) (.slice a n c)=true:=by simp [sameSl]
/-- An element reads as the text of its size. -/
def rdT (p : List Int) (out : List Qw) (v : Value) : Option (DataW Unit × List MemPlace):=(out.find? fun r => sameSl r.u v).map fun r => (.lit (.string (txt p r.x)),[])
theorem rdT_some {p : List Int} {out : List Qw} {v : Value} {y : DataW Unit × List MemPlace} (h : rdT p out v=some y) : ∃ r ∈ out,r.u=v ∧ y.1=.lit (.string (txt p r.x)):=by
 unfold rdT at h
 obtain ⟨r,hr,e⟩:=Option.map_eq_some_iff.1 h
 exact ⟨r,List.mem_of_find?_eq_some hr,sameSl_eq (List.find?_some (p:=fun r:Qw=>sameSl r.u v) hr),by rw [← e]⟩
theorem rdT_mem {p : List Int} {out : List Qw} {w : World} (hrd : ∀ r ∈ out,Rd w r.u r.x) {r : Qw} (hr : r ∈ out) : rdT p out r.u=some (.lit (.string (txt p r.x)),[]):=by
 obtain ⟨a,c,hu,_⟩:=(hrd r hr).parts
 unfold rdT
 cases hf:out.find? fun s=>sameSl s.u r.u with
 | none =>
  have:=List.find?_eq_none.1 hf r hr
  rw [hu,sameSl_self] at this
  exact absurd rfl this
 | some s =>
  have hs:=List.mem_of_find?_eq_some hf
  have he:=sameSl_eq (List.find?_some (p:=fun s:Qw=>sameSl s.u r.u) hf)
  have h1:=hrd s hs
  rw [he] at h1
  rw [Option.map_some,h1.inj (hrd r hr)]
/-- The map holds the texts of the first k sizes, each at itself. -/
structure Tells (p : List Int) (out : List Qw) (k : Nat) (D : DataW Unit) : Prop where
 map:Maps.IsMap D
 has:∀ kl,Maps.has D kl=true ↔ ∃ (i:Nat) (r:Qw),i < k∧out[i]?=some r∧kl=.string (txt p r.x)
 tells:∀ kl,Maps.has D kl=true→∀ z,D.atKey kl z=.lit kl
theorem Tells.start (p : List Int) (out : List Qw) : Tells p out 0 (.map []):=by
 refine ⟨Maps.isMap_empty,fun kl=>⟨fun h=>(by cases h),fun ⟨i,r,h,_⟩=>by omega⟩,fun kl h=>by cases h⟩
theorem Tells.step {p : List Int} {out : List Qw} {k : Nat} {D : DataW Unit} (h : Tells p out k D) {r : Qw} (hr : out[k]?=some r) : Tells p out (k + 1) (D.put (.string (txt p r.x)) (.lit (.string (txt p r.x)))):=by
 have hk:WideAt.IsKeyLit (.string (txt p r.x)):=by trivial
 refine ⟨h.map.put _ _,fun kl=>?_,fun kl hh z=>?_⟩
 ·by_cases e:kl=.string (txt p r.x)
  ·rw [e,Maps.has_put_same h.map hk]
   exact ⟨fun _=>⟨k,r,by omega,hr,rfl⟩,fun _=>rfl⟩
  ·rw [Maps.has_put_other e,h.has]
   constructor
   ·rintro ⟨i,s,hi,hs,e2⟩
    exact ⟨i,s,by omega,hs,e2⟩
   ·rintro ⟨i,s,hi,hs,e2⟩
    rcases (by omega:i=k ∨ i < k) with g | g
    ·subst g
     rw [hr] at hs
     cases hs
     exact absurd e2 e
    ·exact ⟨i,s,g,hs,e2⟩
 ·by_cases e:kl=.string (txt p r.x)
  ·rw [e,Maps.atKey_put_same h.map hk]
  ·rw [Maps.has_put_other e] at hh
   rw [Maps.atKey_put_other e]
   exact h.tells kl hh z
theorem txt_len {p : List Int} {x : List Rat} (hpw : p=[2,3] ∨ p=[2,3,5]) (hx : ∀ r ∈ x,Ft 30 r) : (txt p x).length ≤ 10000000:=by
 have hps:∀ z ∈ p,0 ≤ z∧z ≤ 5:=by rcases hpw with e | e <;> rw [e] <;> decide
 have hp3:p.length ≤ 3:=by rcases hpw with e | e <;> rw [e] <;> decide
 have hlz:∀ s ∈ itms p x,s.length ≤ 1300000:=fun s hs=>by
  unfold itms at hs
  obtain ⟨⟨a,r⟩,hm,hi⟩:=List.mem_filterMap.1 hs
  have h1:=List.of_mem_zip hm
  exact itm_len (fit_five (hps a h1.1).1 (hps a h1.1).2) (hx r h1.2) hi
 have hl3:(itms p x).length ≤ 3:=by
  unfold itms
  refine Nat.le_trans (List.length_filterMap_le ..) ?_
  rw [List.length_zip]
  omega
 unfold txt
 split
 ·simp
 ·rename_i h0
  generalize itms p x=L at *
  match L,h0,hlz,hl3 with
  | [a],_,hz,_ =>
   rw [Lib.join_one]
   have:=hz a (by simp)
   omega
  | [a,b],_,hz,_ =>
   have h1:=hz a (by simp)
   have h2:=hz b (by simp)
   rw [Lib.join_length]
   simp only [Lib.lens,List.length_cons,List.length_nil,List.map_cons,List.map_nil,List.sum_cons,List.sum_nil]
   omega
  | [a,b,c],_,hz,_ =>
   have h1:=hz a (by simp)
   have h2:=hz b (by simp)
   have h3:=hz c (by simp)
   rw [Lib.join_length]
   simp only [Lib.lens,List.length_cons,List.length_nil,List.map_cons,List.map_nil,List.sum_cons,List.sum_nil]
   omega
  | _ :: _ :: _ :: _ :: _,_,_,h3=>simp at h3
end Go.Proofs.YtipjmpdndokdlaaGreatDoor
