/- Walks: size.Text. The map of a class's different sizes: how its elements read, what it holds. -/
import Derived.Test.YtiameffonflhgaaGreatDoorPk26
import Derived.Test.YtiameffonflhgaaGreatDoorPk15
import Derived.Test.YtiameffonflhgaaGreatDoorShelfG
import Derived.Test.YtiameffonflhgaaGreatDoorPk25
import Derived.Maps.RangeWalk
import Derived.Maps.Views
set_option maxRecDepth 100000
set_option maxHeartbeats 800000
namespace Go.Proofs.YtiameffonflhgaaGreatDoor
section
open Go.RowKit Go.Lib Go.Shelf
attribute [local go_sem] Oper.semAt_some
theorem zmE {p:List Int}{x:List Rat}{k:Nat}{a:Int}{r:Rat}(hp:p[k]?=some a)(hx:x[k]?=some r) :
  zmr (p.take (k+1)) (x.take (k+1))=zmr (p.take k) (x.take k)++(itm (itoa a) r).toList:=by
 have e:∀ n,(p.take n).zip (x.take n)=(p.zip x).take n:=fun n=>by simp [List.zip_eq_zipWith,List.take_zipWith]
 have hz:(p.zip x)[k]?=some (a,r):=by
  rw [List.getElem?_zip_eq_some];exact ⟨hp,hx⟩
 unfold zmr;rw [e,e,List.take_add_one,hz,List.filterMap_append];congr 1
def svs (l:List (List UInt8)):List Value:=l.map fun s=>.string ⟨s.toArray⟩
def zmF (w:World)(B:Nat)(v:Value)(l:List (List UInt8)):Prop:=w.ownsRow B 9 1 v l.length (svs l)
theorem zmG : (Tryz.prog.info? 9).map (fun i=>(i.zero,i.size,i.bytes))=some (some (.string ByteArray.empty),1,16):=by kernel_rfl
theorem zmF.more {w W7:World}{v7:Value}{l:List (List UInt8)}{z:List UInt8}{n:Nat}(hn:l.length=n)(ho:W7.ownsRow w.heap.size 9 1 v7 (n+1) (svs l++[.string ⟨z.toArray⟩])):zmF W7 w.heap.size v7 (l++[z]):=by
 unfold zmF;rw [List.length_append,hn];unfold svs at ho ⊢;rw [List.map_append];exact ho
theorem zmH {a:Int}{r:Rat}{z:List UInt8}(ha:Fit a)(hr:Ft 30 r)(h:itm (itoa a) r=some z):z.length≤1300000:=by
 have l1:=zbP a ha;have l2:=zbP r.num (hr.num (by omega));have l3:=zbP (r.den:Int) (hr.den (by omega));have e:∀ z:Int,(I z).size=(itoa z).length:=fun z=>by show (itoa z).toArray.size=_;simp
 rw [e] at l1 l2 l3;unfold itm at h;split at h
 ·cases h
 ·cases h
  have lf:(frL r).length≤800010:=by
   unfold frL;split
   ·omega
   ·simp only [List.length_append,List.length_cons];omega
  rw [List.length_append];unfold sfx;split
  ·simp only [List.length_nil];omega
  ·split
   ·simp only [List.length_cons];omega
   ·simp only [List.length_cons,List.length_append,List.length_nil];omega
theorem zmI {z:Int}{r:Rat}(h:r=1):I z=⟨(itoa z++sfx r).toArray⟩:=by
 unfold sfx;rw [if_pos h,List.append_nil];rfl
theorem zmJ {z:Int}{r:Rat}(h:r ≠ 1)(hd:r.den=1∧0<r.num):I z++(⟨#[94]⟩++frT r)=⟨(itoa z++sfx r).toArray⟩:=by
 unfold sfx;rw [if_neg h,if_pos hd,zmq];unfold I;apply ByteArray.ext;apply Array.ext';simp
theorem zmK {z:Int}{r:Rat}(h:r ≠ 1)(hd:¬ (r.den=1∧0<r.num)):I z++(⟨#[94,40]⟩++frT r++⟨#[41]⟩)=⟨(itoa z++sfx r).toArray⟩:=by
 unfold sfx;rw [if_neg h,if_neg hd,zmq];unfold I;apply ByteArray.ext;apply Array.ext';simp
theorem zmL {r:Rat}:r=1 ↔ r.num=1∧(r.den:Int)=1 :=
 ⟨fun h=>by rw [h];exact ⟨rfl,rfl⟩,fun h=>Rat.ext h.1 (by rw [show r.den=1 by omega];rfl)⟩
theorem zmM {b:List UInt8}{r:Rat}(h:r.num ≠ 0):itm b r=some (b++sfx r):=by unfold itm;rw [if_neg h]
theorem zmN {z:Int}(h0:0≤z)(h1:z≤5):Fit z:=Nat.le_trans (Dec.nDigits_le (k:=1) (by omega) (show z.natAbs<10 ^ 1 by omega)) (by omega)
theorem zmO {r:Rat}(hr:Ft 30 r):(frT r).size≤800010:=by
 have l2:=zbP r.num (hr.num (by omega));have l3:=zbP (r.den:Int) (hr.den (by omega));have e:∀ z:Int,(I z).size=(itoa z).length:=fun z=>by show (itoa z).toArray.size=_;simp
 rw [e] at l2 l3;rw [zmq];show (frL r).toArray.size≤_;rw [List.size_toArray];unfold frL;split
 ·omega
 ·simp only [List.length_append,List.length_cons];omega
theorem zmP (vp v:Value)(p:List Int)(x:List Rat)(w:World)(he:Env w)(hp:Sl w vp (zaq p))(hv:Rd w v x)(hpw:p=[2,3]∨p=[2,3,5])(hlen:x.length=p.length)(hx:∀ r∈x,Ft 30 r) :
  Calls Tryz.prog 115 #[vp,v] w fun e w'=>e=.returned (.tuple #[.string ⟨(txt p x).toArray⟩,.int .i64 0])∧Ext w w':=by
 obtain ⟨j0,hj,hy0,hy1,hy2⟩:=info_parts zmG;have hpe:zdV p=0∧p.length≤3:=by rcases hpw with e | e <;> rw [e] <;> decide
 have hps:∀ z∈p,0≤z∧z≤5:=by rcases hpw with e | e <;> rw [e] <;> decide
 have hck:=zfM vp v p x w he hp hv hpe.1 hlen hx;have hit:=fun (z:Int)(hz:z∈p) W (hE:Ext w W)=>zaF z (by have:=hps z hz;omega) (by have:=hps z hz;omega) W (he.ext hE);have hnm:=fun W (hE:Ext w W)=>zf8 1 W (he.ext hE) (by omega) (by omega);have e1:Rv ((1:Int):Rat)=.agg #[.string ⟨#[49]⟩,.string ⟨#[49]⟩]:=by rw [zf7,show I 1=⟨#[49]⟩ from zbu]
 simp only [e1] at hnm;clear e1;have hsg:=fun (r:Rat)(hr:r∈x) W=>zbS r.num W ((hx r hr).num (by omega));have hft:=fun (r:Rat)(hr:r∈x) W=>zex r W ((hx r hr).num (by omega)) ((hx r hr).den (by omega));obtain ⟨ap,cp,rfl,_,_,hpc⟩:=hp.parts;obtain ⟨av,cv,rfl,_,_,hvc⟩:=hv.parts;rw [zas] at *;have hpe2:=hpe.2;generalize hn:p.length=n at *;have Hck:=hid hck;have Hit:=hid hit;have Hnm:=hid hnm;have Hsg:=hid hsg;have Hft:=hid hft;have Hpc:=hid hpc;have Hvc:=hid hvc;have Hx:=hid hx;have Hps:=hid hps;have Hn:=hid hn;have Hlen:=hid hlen;clear hck hit hnm hsg hft hpc hvc hp hv hx hps hpe he hpw hn;rw [hlen];rw [hlen] at Hck;clear hlen;go_enter Tryz.func115,Tryz.ntmps115
 go_wp2_with fail
 refine Hck.out.mono ?_;rintro e w1 ⟨rfl,hx1⟩;have Hx1:=hid hx1;clear hx1;go_wp2_with fail
 go_loopw [7,19] (fun v7 v19 wr=>∃ k:Nat,v19=.int .i64 k∧k≤n∧zmF wr w.heap.size v7 (zmr (p.take k) (x.take k))∧Ext w wr) (fun _ v19 _=>n - (zam v19).toNat)
 case atStart=>exact ⟨0,rfl,Nat.zero_le _,World.ownsRow_nil _ _ _ _,Hx1.out⟩
 case round =>
  obtain ⟨k,rfl,hk,ho,hE⟩:=hrel;generalize hL:zmr (p.take k) (x.take k)=L at *;obtain ⟨a7,c7,rfl⟩:=zec ho;by_cases hkn:k<n
  ·obtain ⟨r,hr⟩:∃ r,x[k]?=some r:=⟨_,List.getElem?_eq_getElem (by rw [Hlen.out];exact hkn)⟩;obtain ⟨z,hz⟩:∃ z,p[k]?=some z:=⟨_,List.getElem?_eq_getElem (by rw [Hn.out];exact hkn)⟩;have hzm:=List.mem_of_getElem? hz;have hrm:=List.mem_of_getElem? hr;obtain ⟨bp,op,rfl,hpc⟩:=Hpc.out k (.int .i64 z) (by unfold zaq;rw [List.getElem?_map,hz];rfl);obtain ⟨bv,ov,rfl,hc0,hc1⟩:=Hvc.out k r hr;have p0:=hE.cell hpc;have h0:=hE.cell hc0;have h1:=hE.cell hc1;have hk0:(0:Int)≤(k:Int):=(by omega);have hk1:(k:Int)<(n:Int):=(by omega);have hEb:Ext w (wr.alloc (.cells #[.string (I r.num),.string (I (r.den:Int))] 65)):=hE.alloc _;have p1:=hEb.cell hpc;have b1:=zdB.new wr (.string (I r.num)) (.string (I (r.den:Int)));have hitk:=Hit.out z hzm _ hEb;have hst:=zmE hz hr;have hll:L.length≤3:=by
    rw [← hL];unfold zmr;refine Nat.le_trans (List.length_filterMap_le ..) ?_;rw [List.length_zip,List.length_take,List.length_take];omega
   have Hll:=hid hll;have hzI:=zbP z (zmN (Hps.out z hzm).1 (Hps.out z hzm).2);have hfs:=zmO (Hx.out r hrm);clear hll;rw [hL] at hst;have hnum0:=zb4 r.num;have hden1:=zdK (r.den:Int);have hnum1:=zdK r.num;generalize hsa:I r.num=sa at *;generalize hsb:I (r.den:Int)=sb at *;by_cases h0:r.num=0
   ·rw [decide_eq_true h0] at hnum0;have hst2:zmr (p.take (k+1)) (x.take (k+1))=L:=(by rw [hst];unfold itm;rw [if_pos h0];simp);have Hst:=hid hst2;have HEb:=hid hEb;have B1:=hid b1;have Hitk:=hid hitk;have Ho:=hid ho;clear hst hst2 hEb b1 hitk ho hsa hsb hr hz hzm hrm hpc hc0 hc1 hden1 h0;go_wp2_with fail
    refine Hitk.out.mono ?_;rintro e w2 ⟨rfl,hx2⟩;have hb2:=B1.out.ext hx2;have g0:=hb2.c0;have g1:=hb2.c1;have Hx2:=hid (HEb.out.trans hx2);have Ho2:=hid (((Ext.refl wr).alloc _ |>.trans hx2).own Ho.out);clear hx2 hb2;go_wp2_with fail
    go_roundw
    case rel=>exact ⟨k+1,by go_num,by omega,by rw [Hst.out];exact Ho2.out,Hx2.out⟩
    case measure=>simp [zam];omega
   ·rw [decide_eq_false h0] at hnum0;have Hst:=hid hst;have HEb:=hid hEb;have B1:=hid b1;have Hitk:=hid hitk;have Ho:=hid ho;have Hsa:=hid hsa;have Hsb:=hid hsb;have Hr:=hid hrm;have H0:=hid h0;clear hst hEb b1 hitk ho hsa hsb hr hz hzm hrm hpc hc0 hc1 h0;go_wp2_with fail
    refine Hitk.out.mono ?_;rintro e w2 ⟨rfl,hx2⟩;have hb2:=B1.out.ext hx2;have hs2:∀ W,Ext w2.drew W→W.cell? ⟨wr.heap.size,0,none⟩=some (.string sa)∧W.cell? ⟨wr.heap.size,1,none⟩=some (.string sb):=fun W h=>by
     have:=hb2.ext ((Ext.refl w2).drew.trans h);exact ⟨this.c0,this.c1⟩
    have g0:=hb2.c0;have g1:=hb2.c1;obtain ⟨d0,d1⟩:=hs2 _ (Ext.refl _);have hnm2:=Hnm.out w2.drew (HEb.out.trans hx2).drew;have Hx2:=hid (HEb.out.trans hx2);have Ho2:=hid (((Ext.refl wr).alloc _ |>.trans hx2).own Ho.out);have Hs2:=hid hs2;have Hnm2:=hid hnm2;clear hx2 hb2 hs2 hnm2;obtain ⟨b1,hb1⟩:∃ b,decide (r.num=1)=b:=⟨_,rfl⟩;obtain ⟨b2,hb2⟩:∃ b,decide ((r.den:Int)=1)=b:=⟨_,rfl⟩;rw [hb1] at hnum1;rw [hb2] at hden1;have Hb1:=hid hb1;have Hb2:=hid hb2;clear hb1 hb2
    cases b1 <;> cases b2
    ·go_wp2_with fail
     go_region_held3 (fun w'=>w'.cell? ⟨wr.heap.size,0,none⟩=some (.string sa)∧w'.cell? ⟨wr.heap.size,1,none⟩=some (.string sb))
      (first | (with_reducible assumption) | exact Hs2.out _ (Ext.refl _) | exact Hs2.out _ HxA.out)
      (first
       | (go_at_call 101
          refine Hnm2.out.mono ?_
          rintro e9 VA ⟨rfl,hxa⟩
          have HxA:=hid hxa
          clear hxa))
     obtain ⟨d0,d1⟩:=Hs2.out _ HxA.out;have HEA:=hid (Hx2.out.drew.trans HxA.out);have HoA:=hid (((Ext.refl w2).drew.trans HxA.out).own Ho2.out);have hftA:=Hft.out r Hr.out VA;unfold Rv at hftA;rw [Hsa.out,Hsb.out] at hftA;have HftA:=hid hftA;clear hftA;go_wp2_with fail
     refine HftA.out.mono ?_;rintro e V4 ⟨rfl,hx4⟩;have HEW:=hid (HEA.out.trans hx4);have HoW:=hid (hx4.own HoA.out);clear hx4;have hqo:=HoW.out;have hbase:=HEW.out.size;have hm3:L.length+1≤maxLen:=(by have:=Hll.out;unfold maxLen;omega);have hm4:(L.length+1) * 16≤140737488355328:=(by have:=Hll.out;omega);go_wp2_with (at_builtin;refine wpList_append_own _ rfl _ _ 213 rfl w.heap.size 9 j0 (.string ByteArray.empty) 1 16 Tryz.underlying213 hj hy0 hy1 hy2 rfl (by decide) _ _ _ rfl (World.ownsRow.alloc hqo _) ⟨V4.heap.size,0,none⟩ 1 1 [_] rfl rfl (cell_one_new _ _ _) (by simp [Value.oneCell']) hm3 hm4 (by rw [World.size_alloc];omega) ?_;intro v7 V7 hown7 hgrow7 _)
     rw [zmK (fun g=>absurd (zmL.1 g).2 (of_decide_eq_false Hb2.out)) (fun g=>absurd (show (r.den:Int)=1 by omega) (of_decide_eq_false Hb2.out))] at hown7;clear hqo;go_roundw
     case rel=>exact ⟨k+1,by go_num,by omega,by rw [Hst.out,zmM H0.out,Option.toList_some];exact zmF.more rfl hown7,zed HEW.out HoW.out hgrow7⟩
     case measure=>simp [zam];omega
    ·go_wp2_with fail
     go_region_held3 (fun w'=>w'.cell? ⟨wr.heap.size,0,none⟩=some (.string sa)∧w'.cell? ⟨wr.heap.size,1,none⟩=some (.string sb))
      (first | (with_reducible assumption) | exact Hs2.out _ (Ext.refl _) | exact Hs2.out _ HxA.out)
      (first
       | (go_at_call 101
          refine Hnm2.out.mono ?_
          rintro e9 VA ⟨rfl,hxa⟩
          have HxA:=hid hxa
          clear hxa))
     obtain ⟨d0,d1⟩:=Hs2.out _ HxA.out;have HEA:=hid (Hx2.out.drew.trans HxA.out);have HoA:=hid (((Ext.refl w2).drew.trans HxA.out).own Ho2.out);have hftA:=Hft.out r Hr.out VA;unfold Rv at hftA;rw [Hsa.out,Hsb.out] at hftA;have HftA:=hid hftA;clear hftA;have hsgA:=Hsg.out r Hr.out VA;rw [Hsa.out] at hsgA;have hd1:(r.den:Int)=1:=of_decide_eq_true Hb2.out;have hne:r ≠ 1:=fun g=>absurd (zmL.1 g).1 (of_decide_eq_false Hb1.out);by_cases hpos:0<r.num
     ·rw [zbo hpos] at hsgA;have Hw:=hid (zmJ (z:=z) hne ⟨by omega,hpos⟩);have HsgA:=hid hsgA;clear hsgA hd1 hne hpos;go_wp2_with fail
      refine HsgA.out.mono ?_;rintro e W9 ⟨rfl,rfl⟩;go_wp2_with fail
      refine HftA.out.mono ?_;rintro e V4 ⟨rfl,hx4⟩;have HEW:=hid (HEA.out.trans hx4);have HoW:=hid (hx4.own HoA.out);clear hx4;have hqo:=HoW.out;have hbase:=HEW.out.size;have hm3:L.length+1≤maxLen:=(by have:=Hll.out;unfold maxLen;omega);have hm4:(L.length+1) * 16≤140737488355328:=(by have:=Hll.out;omega);go_wp2_with (at_builtin;refine wpList_append_own _ rfl _ _ 213 rfl w.heap.size 9 j0 (.string ByteArray.empty) 1 16 Tryz.underlying213 hj hy0 hy1 hy2 rfl (by decide) _ _ _ rfl (World.ownsRow.alloc hqo _) ⟨V4.heap.size,0,none⟩ 1 1 [_] rfl rfl (cell_one_new _ _ _) (by simp [Value.oneCell']) hm3 hm4 (by rw [World.size_alloc];omega) ?_;intro v7 V7 hown7 hgrow7 _)
      rw [Hw.out] at hown7;clear hqo;go_roundw
      case rel=>exact ⟨k+1,by go_num,by omega,by rw [Hst.out,zmM H0.out,Option.toList_some];exact zmF.more rfl hown7,zed HEW.out HoW.out hgrow7⟩
      case measure=>simp [zam];omega
     ·rw [zbm (show r.num<0 by have:=H0.out;omega)] at hsgA;have Hw:=hid (zmK (z:=z) hne (fun g=>hpos g.2));have HsgA:=hid hsgA;clear hsgA hd1 hne hpos;go_wp2_with fail
      refine HsgA.out.mono ?_;rintro e W9 ⟨rfl,rfl⟩;go_wp2_with fail
      refine HftA.out.mono ?_;rintro e V4 ⟨rfl,hx4⟩;have HEW:=hid (HEA.out.trans hx4);have HoW:=hid (hx4.own HoA.out);clear hx4;have hqo:=HoW.out;have hbase:=HEW.out.size;have hm3:L.length+1≤maxLen:=(by have:=Hll.out;unfold maxLen;omega);have hm4:(L.length+1) * 16≤140737488355328:=(by have:=Hll.out;omega);go_wp2_with (at_builtin;refine wpList_append_own _ rfl _ _ 213 rfl w.heap.size 9 j0 (.string ByteArray.empty) 1 16 Tryz.underlying213 hj hy0 hy1 hy2 rfl (by decide) _ _ _ rfl (World.ownsRow.alloc hqo _) ⟨V4.heap.size,0,none⟩ 1 1 [_] rfl rfl (cell_one_new _ _ _) (by simp [Value.oneCell']) hm3 hm4 (by rw [World.size_alloc];omega) ?_;intro v7 V7 hown7 hgrow7 _)
      rw [Hw.out] at hown7;clear hqo;go_roundw
      case rel=>exact ⟨k+1,by go_num,by omega,by rw [Hst.out,zmM H0.out,Option.toList_some];exact zmF.more rfl hown7,zed HEW.out HoW.out hgrow7⟩
      case measure=>simp [zam];omega
    ·go_wp2_with fail
     go_region_held3 (fun w'=>w'.cell? ⟨wr.heap.size,0,none⟩=some (.string sa)∧w'.cell? ⟨wr.heap.size,1,none⟩=some (.string sb))
      (first | (with_reducible assumption) | exact Hs2.out _ (Ext.refl _) | exact Hs2.out _ HxA.out)
      (first
       | (go_at_call 101
          refine Hnm2.out.mono ?_
          rintro e9 VA ⟨rfl,hxa⟩
          have HxA:=hid hxa
          clear hxa))
     obtain ⟨d0,d1⟩:=Hs2.out _ HxA.out;have HEA:=hid (Hx2.out.drew.trans HxA.out);have HoA:=hid (((Ext.refl w2).drew.trans HxA.out).own Ho2.out);have hftA:=Hft.out r Hr.out VA;unfold Rv at hftA;rw [Hsa.out,Hsb.out] at hftA;have HftA:=hid hftA;clear hftA;go_wp2_with fail
     refine HftA.out.mono ?_;rintro e V4 ⟨rfl,hx4⟩;have HEW:=hid (HEA.out.trans hx4);have HoW:=hid (hx4.own HoA.out);clear hx4;have hqo:=HoW.out;have hbase:=HEW.out.size;have hm3:L.length+1≤maxLen:=(by have:=Hll.out;unfold maxLen;omega);have hm4:(L.length+1) * 16≤140737488355328:=(by have:=Hll.out;omega);go_wp2_with (at_builtin;refine wpList_append_own _ rfl _ _ 213 rfl w.heap.size 9 j0 (.string ByteArray.empty) 1 16 Tryz.underlying213 hj hy0 hy1 hy2 rfl (by decide) _ _ _ rfl (World.ownsRow.alloc hqo _) ⟨V4.heap.size,0,none⟩ 1 1 [_] rfl rfl (cell_one_new _ _ _) (by simp [Value.oneCell']) hm3 hm4 (by rw [World.size_alloc];omega) ?_;intro v7 V7 hown7 hgrow7 _)
     rw [zmK (fun g=>absurd (zmL.1 g).2 (of_decide_eq_false Hb2.out)) (fun g=>absurd (show (r.den:Int)=1 by omega) (of_decide_eq_false Hb2.out))] at hown7;clear hqo;go_roundw
     case rel=>exact ⟨k+1,by go_num,by omega,by rw [Hst.out,zmM H0.out,Option.toList_some];exact zmF.more rfl hown7,zed HEW.out HoW.out hgrow7⟩
     case measure=>simp [zam];omega
    ·go_wp2_with fail
     go_region_held3 (fun w'=>w'.cell? ⟨wr.heap.size,0,none⟩=some (.string sa)∧w'.cell? ⟨wr.heap.size,1,none⟩=some (.string sb))
      (first | (with_reducible assumption) | exact Hs2.out _ (Ext.refl _) | exact Hs2.out _ HxA.out)
      (first
       | (go_at_call 101
          refine Hnm2.out.mono ?_
          rintro e9 VA ⟨rfl,hxa⟩
          have HxA:=hid hxa
          clear hxa))
     obtain ⟨d0,d1⟩:=Hs2.out _ HxA.out;have HEA:=hid (Hx2.out.drew.trans HxA.out);have HoA:=hid (((Ext.refl w2).drew.trans HxA.out).own Ho2.out);have hqo:=HoA.out;have hbase:=HEA.out.size;have hm3:L.length+1≤maxLen:=(by have:=Hll.out;unfold maxLen;omega);have hm4:(L.length+1) * 16≤140737488355328:=(by have:=Hll.out;omega);go_wp2_with (at_builtin;refine wpList_append_own _ rfl _ _ 213 rfl w.heap.size 9 j0 (.string ByteArray.empty) 1 16 Tryz.underlying213 hj hy0 hy1 hy2 rfl (by decide) _ _ _ rfl (World.ownsRow.alloc hqo _) ⟨VA.heap.size,0,none⟩ 1 1 [_] rfl rfl (cell_one_new _ _ _) (by simp [Value.oneCell']) hm3 hm4 (by rw [World.size_alloc];omega) ?_;intro v7 V7 hown7 hgrow7 _)
     rw [zmI (zmL.2 ⟨of_decide_eq_true Hb1.out,of_decide_eq_true Hb2.out⟩)] at hown7;clear hqo;go_roundw
     case rel=>exact ⟨k+1,by go_num,by omega,by rw [Hst.out,zmM H0.out,Option.toList_some];exact zmF.more rfl hown7,zed HEA.out HoA.out hgrow7⟩
     case measure=>simp [zam];omega
  ·obtain rfl:n=k:=by omega
   have hLx:zmr p x=L:=by
    rw [← hL,List.take_of_length_le (by rw [Hn.out];exact Nat.le_refl _),List.take_of_length_le (by rw [Hlen.out];exact Nat.le_refl _)]
   have hnk:¬ (n:Int)<(n:Int):=(by omega);by_cases h0:L=[]
   ·subst h0;have ht:txt p x=[49]:=(by unfold txt;rw [if_pos hLx]);have HE:=hid hE;have Ht:=hid ht;clear hLx ht hE ho;go_wp2_with fail
    exact bodyPost_ret (v:=.tuple #[.string ⟨#[49]⟩,.int .i64 0]) (by simp [results,Tryz.results115,go_sem]) rfl ⟨by rw [Ht.out],HE.out⟩
   ·have ht:txt p x=Lib.join L [32]:=(by unfold txt;rw [hLx,if_neg h0]);have hlz:∀ s∈L,s.length≤1300000:=fun s hs=>by
     rw [← hLx] at hs;unfold zmr at hs;obtain ⟨⟨a,r⟩,hm,hi⟩:=List.mem_filterMap.1 hs;have h1:=List.of_mem_zip hm;exact zmH (zmN (Hps.out a h1.1).1 (Hps.out a h1.1).2) (Hx.out r h1.2) hi
    have hl3:L.length≤3:=by
     rw [← hLx];unfold zmr;refine Nat.le_trans (List.length_filterMap_le ..) ?_;rw [List.length_zip,Hn.out,Hlen.out];omega
    have hl0:0<L.length:=List.length_pos_iff.2 h0;have hj:(Lib.join L [32]).length≤10000000:=by
     match L,h0,hlz,hl3 with
     | [a],_,hz,_ =>
      rw [Lib.join_one]
      have:=hz a (by simp)
      omega
     | [a,b],_,hz,_ =>
      have h1:=hz a (by simp)
      have h2:=hz b (by simp)
      rw [Lib.join_length]
      simp only [Lib.lens,List.length_cons,List.length_nil,List.map_cons,List.map_nil,List.sum_cons,List.sum_nil]
      omega
     | [a,b,c],_,hz,_ =>
      have h1:=hz a (by simp)
      have h2:=hz b (by simp)
      have h3:=hz c (by simp)
      rw [Lib.join_length]
      simp only [Lib.lens,List.length_cons,List.length_nil,List.map_cons,List.map_nil,List.sum_cons,List.sum_nil]
      omega
     | _::_::_::_::_,_,_,h3=>simp at h3
    have hown:=ho;unfold zmF at hown;obtain ⟨g,cap,hv,hcell⟩:=zeg hown hl0;have hjn:Calls Tryz.prog 170 #[.slice a7 L.length c7,.string ⟨#[32]⟩] wr fun e w'=>e=.returned (.string ⟨(Lib.join L [32]).toArray⟩)∧Ext wr w':=by
     rw [hv];rcases hown.2 with ⟨_,g0⟩ | ⟨g',cap',cur,hv',hb,hg,k1,k2,k3,k4⟩
     ·omega
     ·rw [hv] at hv';injection hv' with e1 e2 e3;injection e1 with e1;injection e1 with e1;subst e1 e3;have hm:(L.map fun s=>(⟨s.toArray⟩:ByteArray)).map (·.data.toList)=L:=by
       rw [List.map_map];exact List.map_id'' (fun s=>rfl) L
      have hgw:g<wr.heap.size:=(Array.getElem?_eq_some_iff.1 hg).1;have:=Any.strings_Join Tryz.lJoin Tryz.lJoinX g 0 cap (L.map fun s=>⟨s.toArray⟩) ⟨#[32]⟩ wr (fun j y hy=>by
       rw [Nat.zero_add];refine hcell j (.string y) ?_;rw [List.getElem?_map] at hy;unfold svs;rw [List.getElem?_map]
       cases hs:L[j]? with
       | none=>rw [hs] at hy;cases hy
       | some s=>rw [hs] at hy;cases hy;rfl) hgw (by rw [List.length_map];omega) (by rw [List.length_map];omega) (by rw [hm];show (Lib.join L [32]).length≤_;omega)
      rw [hm,List.length_map] at this;exact this
    have HE:=hid hE;have Ht:=hid ht;have Hjn:=hid hjn;have hlw:¬ (L.length:Int)=0:=(by omega);clear hLx ht hE ho hown hjn hj hcell hv hlz hl3;go_wp2_with fail
    refine Hjn.out.mono ?_;rintro e w9 ⟨rfl,hx9⟩;have Hx9:=hid (HE.out.trans hx9);clear hx9;go_wp2_with fail
    exact bodyPost_ret (v:=.tuple #[.string ⟨(Lib.join L [32]).toArray⟩,.int .i64 0]) (by simp [results,Tryz.results115,go_sem]) rfl ⟨by rw [Ht.out],Hx9.out⟩
end
section
open Go.RowKit Go.Lib Go.Shelf
theorem Rd.inj {w:World}{v:Value}{x y:List Rat}(hx:Rd w v x)(hy:Rd w v y):x=y:=by
 obtain ⟨a,c,e1,_,_,hc1⟩:=hx.parts;obtain ⟨b,d,e2,_,_,hc2⟩:=hy.parts;rw [e1] at e2;injection e2 with g1 g2 g3;subst g1;refine List.ext_getElem g2 fun i h1 h2=>?_;obtain ⟨bb,off,ha,c0,c1⟩:=hc1 i _ (List.getElem?_eq_getElem h1);obtain ⟨bb2,off2,ha2,d0,d1⟩:=hc2 i _ (List.getElem?_eq_getElem h2);rw [ha] at ha2
 cases ha2
 rw [c0] at d0;rw [c1] at d1;injection d0 with d0;injection d0 with d0;injection d1 with d1;injection d1 with d1;have:=zb2 d1;exact Rat.ext (zb2 d0) (by omega)
def zmQ : Value→Value→Bool
 | .slice a n c,.slice b m d=>decide (a=b) && (decide (n=m) && decide (c=d))
 | _,_=>false
theorem zmR {u v:Value}(h:zmQ u v=true):u=v:=by
 unfold zmQ at h;split at h
 ·simp only [Bool.and_eq_true,decide_eq_true_eq] at h;rw [h.1,h.2.1,h.2.2]
 ·cases h
theorem zmS {a:Option Addr}{n c:Nat}:zmQ (.slice a n c) (.slice a n c)=true:=by simp [zmQ]
def rdT (p:List Int)(out:List Qw)(v:Value):Option (DataW Unit × List MemPlace):=(out.find? fun r=>zmQ r.u v).map fun r=>(.lit (.string (txt p r.x)),[])
theorem zmT {p:List Int}{out:List Qw}{v:Value}{y:DataW Unit × List MemPlace}(h:rdT p out v=some y):∃ r∈out,r.u=v∧y.1=.lit (.string (txt p r.x)):=by
 unfold rdT at h;obtain ⟨r,hr,e⟩:=Option.map_eq_some_iff.1 h;exact ⟨r,List.mem_of_find?_eq_some hr,zmR (List.find?_some (p:=fun r:Qw=>zmQ r.u v) hr),by rw [← e]⟩
theorem zmU {p:List Int}{out:List Qw}{w:World}(hrd:∀ r∈out,Rd w r.u r.x){r:Qw}(hr:r∈out):rdT p out r.u=some (.lit (.string (txt p r.x)),[]):=by
 obtain ⟨a,c,hu,_⟩:=(hrd r hr).parts;unfold rdT
 cases hf:out.find? fun s=>zmQ s.u r.u with
 | none =>
  have:=List.find?_eq_none.1 hf r hr
  rw [hu,zmS] at this
  exact absurd rfl this
 | some s =>
  have hs:=List.mem_of_find?_eq_some hf
  have he:=zmR (List.find?_some (p:=fun s:Qw=>zmQ s.u r.u) hf)
  have h1:=hrd s hs
  rw [he] at h1
  rw [Option.map_some,h1.inj (hrd r hr)]
structure zmV (p:List Int)(out:List Qw)(k:Nat)(D:DataW Unit):Prop where
 map:Maps.IsMap D
 has:∀ kl,Maps.has D kl=true ↔ ∃ (i:Nat)(r:Qw),i<k∧out[i]?=some r∧kl=.string (txt p r.x)
 tells:∀ kl,Maps.has D kl=true→∀ z,D.atKey kl z=.lit kl
theorem zmV.start (p:List Int)(out:List Qw):zmV p out 0 (.map []):=by
 refine ⟨Maps.isMap_empty,fun kl=>⟨fun h=>(by cases h),fun ⟨i,r,h,_⟩=>by omega⟩,fun kl h=>by cases h⟩
theorem zmV.step {p:List Int}{out:List Qw}{k:Nat}{D:DataW Unit}(h:zmV p out k D){r:Qw}(hr:out[k]?=some r):zmV p out (k+1) (D.put (.string (txt p r.x)) (.lit (.string (txt p r.x)))):=by
 have hk:WideAt.IsKeyLit (.string (txt p r.x)):=by trivial
 refine ⟨h.map.put _ _,fun kl=>?_,fun kl hh z=>?_⟩
 ·by_cases e:kl=.string (txt p r.x)
  ·rw [e,Maps.has_put_same h.map hk];exact ⟨fun _=>⟨k,r,by omega,hr,rfl⟩,fun _=>rfl⟩
  ·rw [Maps.has_put_other e,h.has];constructor
   ·rintro ⟨i,s,hi,hs,e2⟩;exact ⟨i,s,by omega,hs,e2⟩
   ·rintro ⟨i,s,hi,hs,e2⟩;rcases (by omega:i=k∨i<k) with g | g
    ·subst g;rw [hr] at hs
     cases hs
     exact absurd e2 e
    ·exact ⟨i,s,g,hs,e2⟩
 ·by_cases e:kl=.string (txt p r.x)
  ·rw [e,Maps.atKey_put_same h.map hk]
  ·rw [Maps.has_put_other e] at hh;rw [Maps.atKey_put_other e];exact h.tells kl hh z
theorem zmW {p:List Int}{x:List Rat}(hpw:p=[2,3]∨p=[2,3,5])(hx:∀ r∈x,Ft 30 r):(txt p x).length≤10000000:=by
 have hps:∀ z∈p,0≤z∧z≤5:=by rcases hpw with e | e <;> rw [e] <;> decide
 have hp3:p.length≤3:=by rcases hpw with e | e <;> rw [e] <;> decide
 have hlz:∀ s∈zmr p x,s.length≤1300000:=fun s hs=>by
  unfold zmr at hs;obtain ⟨⟨a,r⟩,hm,hi⟩:=List.mem_filterMap.1 hs;have h1:=List.of_mem_zip hm;exact zmH (zmN (hps a h1.1).1 (hps a h1.1).2) (hx r h1.2) hi
 have hl3:(zmr p x).length≤3:=by
  unfold zmr;refine Nat.le_trans (List.length_filterMap_le ..) ?_;rw [List.length_zip];omega
 unfold txt;split
 ·simp
 ·rename_i h0;generalize zmr p x=L at *;match L,h0,hlz,hl3 with
  | [a],_,hz,_ =>
   rw [Lib.join_one]
   have:=hz a (by simp)
   omega
  | [a,b],_,hz,_ =>
   have h1:=hz a (by simp)
   have h2:=hz b (by simp)
   rw [Lib.join_length]
   simp only [Lib.lens,List.length_cons,List.length_nil,List.map_cons,List.map_nil,List.sum_cons,List.sum_nil]
   omega
  | [a,b,c],_,hz,_ =>
   have h1:=hz a (by simp)
   have h2:=hz b (by simp)
   have h3:=hz c (by simp)
   rw [Lib.join_length]
   simp only [Lib.lens,List.length_cons,List.length_nil,List.map_cons,List.map_nil,List.sum_cons,List.sum_nil]
   omega
  | _::_::_::_::_,_,_,h3=>simp at h3
end
end Go.Proofs.YtiameffonflhgaaGreatDoor
