/- Walks: fraction's Add, Mul, Sub, Div, Floor, Sign. Walks: decimal.Canonical, decimal.Check; whole.Check; fraction.Check at right numbers. Plain: sizes over 2.3 and 2.3.5 by a linear form of twenty-six bits; in the box no form comes near zero. Sizes in memory: slices of fractions (two cells an element), slices of sizes. -/
import Derived.Test.YtipkdebkdnbieaaGreatDoorPe07
import Derived.Test.YtipkdebkdnbieaaGreatDoorPe02
set_option maxRecDepth 100000
set_option maxHeartbeats 4000000
namespace Go.Proofs.YtipkdebkdnbieaaGreatDoor
section
open Go.RowKit Go.Lib
theorem ze4 {a b:Int}{j k:Nat}(ha:nDigits a.natAbs≤j)(hb:nDigits b.natAbs≤k):nDigits (a * b).natAbs≤j+k:=by
 rw [Int.natAbs_mul];exact Nat.le_trans (zbD _ _) (Nat.add_le_add ha hb)
theorem ze5 {a b:Int}{k:Nat}(ha:nDigits a.natAbs≤k)(hb:nDigits b.natAbs≤k):nDigits (a+b).natAbs≤k+1:=by
 refine Nat.le_trans (Dec.nDigits_mono (Int.natAbs_add_le a b)) ?_;exact zdj _ _ _ ha hb
theorem ze6 (a b:Rat):((a.den * b.den:Nat):Int)=(a.den:Int) * (b.den:Int):=Int.natCast_mul ..
theorem ze7 {x y:Int}(hx:-1000000000<x∧x<1000000000)(hy:-1000000000<y∧y<1000000000):-1000000000000000000≤x * y∧x * y≤1000000000000000000:=by
 have h1:(x * y).natAbs≤1000000000 * 1000000000:=by
  rw [Int.natAbs_mul];exact Nat.mul_le_mul (by omega) (by omega)
 omega
theorem ze8 (a b:Rat)(w:World)(he:Env w)(ha:Ft 100000 a)(hb:Ft 100000 b) :
  Calls Tryz.prog 170 #[Rv a,Rv b] w fun e w'=>e=.returned (Rv (a+b))∧Ext w w':=by
 have fa1:=ha.num (by omega);have fa2:=ha.den (by omega);have fb1:=hb.num (by omega);have fb2:=hb.den (by omega);have hda:nDigits ((a.den:Int)).natAbs≤100000:=by rw [Int.natAbs_natCast];exact ha.2
 have hdb:nDigits ((b.den:Int)).natAbs≤100000:=by rw [Int.natAbs_natCast];exact hb.2
 have g1:nDigits (a.num * (b.den:Int)).natAbs≤200000:=ze4 ha.1 hdb;have g2:nDigits (b.num * (a.den:Int)).natAbs≤200000:=ze4 hb.1 hda;have g3:nDigits ((a.den:Int) * (b.den:Int)).natAbs≤200000:=ze4 hda hdb;have g4:=ze5 g1 g2;have hba:=fun W=>zez a W fa1 fa2;have hbb:=fun W=>zez b W fb1 fb2;have hk0:=zev w (.string (I a.num)) (.string (I (a.den:Int))) (.string (I b.num)) (.string (I (b.den:Int)));have ta:=ze2 (a.den:Int);have tb:=ze2 (b.den:Int);have hpa:=a.den_pos;have hpb:=b.den_pos;by_cases h1:a.den=1∧b.den=1
 ·obtain ⟨e1,e2⟩:=h1;have hadd:=fun W (h:Ext w W)=>zdB a.num b.num W (he.ext h) fa1 fb1;obtain ⟨s1,s2⟩:=zdI e1 e2;unfold Rv;rw [← s1] at hadd;have s3:I (((a+b).den:Nat):Int)=⟨#[49]⟩:=by rw [s2,za2,zbs]
  rw [s3];rw [decide_eq_true (by omega)] at ta tb;generalize I (a+b).num=st at *;generalize I a.num=sa at *;generalize I b.num=sb at *;generalize I (a.den:Int)=sc at *;generalize I (b.den:Int)=sd at *;have Hadd:=hid hadd;have Hk0:=hid hk0;clear hadd hk0;clear hba hbb g1 g2 g3 g4 fa1 fa2 fb1 fb2 hda hdb s1 s2 s3 he ha hb;go_enter Tryz.func170,Tryz.ntmps170
  go_wp2_with fail
  generalize hV:((w.alloc (.cells #[.string sa,.string sc] 102)).alloc (.cells #[.string sb,.string sd] 102)).alloc (.cells #[.string ⟨#[]⟩,.string ⟨#[]⟩] 102)=V at *;refine (Hadd.out _ Hk0.out.1).mono ?_;rintro e W4 ⟨rfl,hxa⟩;have hkk:=Hk0.out.ext hxa;have Hkk:=hid hkk;clear hkk;clear hxa;have hc0:=(Hkk.out).res.c0;have hc1:=(Hkk.out).res.c1;have hz0:=(Hkk.out).res.fz 0;have hz1:=(Hkk.out).res.fz 1;obtain ⟨hb,hfx⟩:=(Hkk.out).fin (by omega) (.string st) (.string ⟨#[49]⟩);have Hb:=hid hb;have Hfx:=hid hfx;clear hb hfx;go_wp2_with fail
  have hd0:=Hb.out.c0;have hd1:=Hb.out.c1;exact bodyPost_ret (v:=.agg #[.string st,.string ⟨#[49]⟩]) (by simp [results,Tryz.results170,go_sem,hd0,hd1]) rfl ⟨rfl,Hfx.out⟩
 ·have hno:(((I (a.den:Int)).toList == [49])=false)∨(((I (a.den:Int)).toList == [49])=true∧((I (b.den:Int)).toList == [49])=false):=by
   rw [ta,tb];by_cases e:a.den=1
   ·right;exact ⟨decide_eq_true (by omega),decide_eq_false (by omega)⟩
   ·left;exact decide_eq_false (by omega)
  clear ta tb h1;by_cases hl:((lit a.num).2 && (lit (a.den:Int)).2)=true∧((lit b.num).2 && (lit (b.den:Int)).2)=true
  ·obtain ⟨hl1,hl2⟩:=hl;rw [Bool.and_eq_true] at hl1 hl2;have la1:=zew a.num;have la2:=zew (a.den:Int);have lb1:=zew b.num;have lb2:=zew (b.den:Int);rw [zex hl1.1] at la1;rw [zex hl1.2] at la2;rw [zex hl2.1] at lb1;rw [zex hl2.2] at lb2;rw [zex hl1.1,zex hl1.2,hl1.1,hl1.2] at hba;rw [zex hl2.1,zex hl2.2,hl2.1,hl2.2] at hbb;have b1:=ze7 la1 lb2;have b2:=ze7 lb1 la2;have b3:=ze7 la2 lb2;have hdp:0<a.den * b.den:=Nat.mul_pos hpa hpb;have hof:=fun W (h:Ext w W)=>ze0 (a.num * (b.den:Int)+b.num * (a.den:Int)) (a.den * b.den) W (he.ext h) (by omega) (by omega) hdp (by rw [← ze6] at b3;omega);rw [← Rat.add_def',ze6] at hof;unfold Rv at hba hbb hof ⊢;generalize I (a+b).num=st at *;generalize I (((a+b).den:Nat):Int)=su at *;generalize I a.num=sa at *;generalize I b.num=sb at *;generalize I (a.den:Int)=sc at *;generalize I (b.den:Int)=sd at *;have hda0:(0:Int)<(a.den:Int):=(by omega);have hdb0:(0:Int)<(b.den:Int):=(by omega);generalize a.num=na at *;generalize b.num=nb at *;generalize (a.den:Int)=da at *;generalize (b.den:Int)=db at *;have hw1:IntKind.i64.wrap (na * db)=na * db:=IntWalk.i64_in _ (by omega);have hw2:IntKind.i64.wrap (nb * da)=nb * da:=IntWalk.i64_in _ (by omega);have hw3:IntKind.i64.wrap (da * db)=da * db:=IntWalk.i64_in _ (by omega);have hw4:IntKind.i64.wrap (na * db+nb * da)=na * db+nb * da:=IntWalk.i64_in _ (by omega);have Hba:=hid hba;have Hbb:=hid hbb;have Hof:=hid hof;have Hk0:=hid hk0;clear hba hbb hof hk0;clear g1 g2 g3 g4 fa1 fa2 fb1 fb2 hda hdb he ha hb hl1 hl2;rcases hno with h | ⟨h,h'⟩
   all_goals
    go_enter Tryz.func170,Tryz.ntmps170
    go_wp2_with fail
    generalize hV:((w.alloc (.cells #[.string sa,.string sc] 102)).alloc (.cells #[.string sb,.string sd] 102)).alloc (.cells #[.string ⟨#[]⟩,.string ⟨#[]⟩] 102)=V at *;refine (Hba.out _).mono ?_;rintro e W1 ⟨rfl,hxa⟩;have hk1:=Hk0.out.ext hxa;have hc0:=hk1.2.2.1.c0;have hc1:=hk1.2.2.1.c1;have Hk1:=hid hk1;clear hk1;clear hxa;go_wp2_with fail
    refine (Hbb.out _).mono ?_;rintro e W2 ⟨rfl,hxa⟩;have hk2:=Hk1.out.ext hxa;have Hk2:=hid hk2;clear hk2;clear hxa hc0 hc1;go_wp2_with fail
    refine (Hof.out _ Hk2.out.1).mono ?_;rintro e W3 ⟨rfl,hxa⟩;have hkk:=Hk2.out.ext hxa;have Hkk:=hid hkk;clear hkk;clear hxa;have hc0:=(Hkk.out).res.c0;have hc1:=(Hkk.out).res.c1;have hz0:=(Hkk.out).res.fz 0;have hz1:=(Hkk.out).res.fz 1;obtain ⟨hb,hfx⟩:=(Hkk.out).fin (by omega) (.string st) (.string su);have Hb:=hid hb;have Hfx:=hid hfx;clear hb hfx;go_wp2_with fail
    have hd0:=Hb.out.c0;have hd1:=Hb.out.c1;exact bodyPost_ret (v:=.agg #[.string st,.string su]) (by simp [results,Tryz.results170,go_sem,hd0,hd1]) rfl ⟨rfl,Hfx.out⟩
  ·have hcs:((lit a.num).2 && (lit (a.den:Int)).2)=false∨(((lit a.num).2 && (lit (a.den:Int)).2)=true∧((lit b.num).2 && (lit (b.den:Int)).2)=false):=by
    cases e1:((lit a.num).2 && (lit (a.den:Int)).2)
    ·exact .inl rfl
    ·right;refine ⟨rfl,?_⟩
     cases e2:((lit b.num).2 && (lit (b.den:Int)).2)
     ·rfl
     ·exact absurd ⟨e1,e2⟩ hl
   have hm1:=fun W (h:Ext w W)=>zca a.num (b.den:Int) W (he.ext h) fa1 fb2;have hm2:=fun W (h:Ext w W)=>zca b.num (a.den:Int) W (he.ext h) fb1 fa2;have hm3:=fun W (h:Ext w W)=>zca (a.den:Int) (b.den:Int) W (he.ext h) fa2 fb2;have had:=fun W (h:Ext w W)=>zdB (a.num * (b.den:Int)) (b.num * (a.den:Int)) W (he.ext h) (by unfold Fit;omega) (by unfold Fit;omega);have hlo:=fun W (h:Ext w W)=>ze3 (a.num * (b.den:Int)+b.num * (a.den:Int)) (a.den * b.den) W (he.ext h) (by unfold Fit;omega) (by rw [ze6];unfold Fit;omega) (Nat.mul_pos hpa hpb);rw [← Rat.add_def',ze6] at hlo;unfold Rv at hba hbb hlo ⊢;generalize lit a.num=la at *;generalize lit b.num=lb at *;generalize lit (a.den:Int)=lc at *;generalize lit (b.den:Int)=ld at *;generalize I (a.num * (b.den:Int)+b.num * (a.den:Int))=sx at *;generalize I (a.num * (b.den:Int))=sm at *;generalize I (b.num * (a.den:Int))=sn at *;generalize I ((a.den:Int) * (b.den:Int))=so at *;generalize I (a+b).num=st at *;generalize I (((a+b).den:Nat):Int)=su at *;generalize I a.num=sa at *;generalize I b.num=sb at *;generalize I (a.den:Int)=sc at *;generalize I (b.den:Int)=sd at *;have Hba:=hid hba;have Hbb:=hid hbb;have Hk0:=hid hk0;have Hm1:=hid hm1;have Hm2:=hid hm2;have Hm3:=hid hm3;have Had:=hid had;have Hlo:=hid hlo;clear hba hbb hk0 hm1 hm2 hm3 had hlo;clear g1 g2 g3 g4 fa1 fa2 fb1 fb2 hda hdb he ha hb hl;rcases hno with h | ⟨h,h'⟩
   all_goals
    rcases hcs with q1 | ⟨q1,q2⟩
   case' inl.inl | inr.inl =>
    go_enter Tryz.func170,Tryz.ntmps170
    go_wp2_with fail
    generalize hV:((w.alloc (.cells #[.string sa,.string sc] 102)).alloc (.cells #[.string sb,.string sd] 102)).alloc (.cells #[.string ⟨#[]⟩,.string ⟨#[]⟩] 102)=V at *;refine (Hba.out _).mono ?_;rintro e W2 ⟨rfl,hxa⟩;have hK:=Hk0.out.ext hxa;have HK:=hid hK;clear hK;clear hxa
   case' inl.inr | inr.inr =>
    go_enter Tryz.func170,Tryz.ntmps170
    go_wp2_with fail
    generalize hV:((w.alloc (.cells #[.string sa,.string sc] 102)).alloc (.cells #[.string sb,.string sd] 102)).alloc (.cells #[.string ⟨#[]⟩,.string ⟨#[]⟩] 102)=V at *;refine (Hba.out _).mono ?_;rintro e W1 ⟨rfl,hxa⟩;have hk1:=Hk0.out.ext hxa;have hc0:=hk1.2.2.1.c0;have hc1:=hk1.2.2.1.c1;have Hk1:=hid hk1;clear hk1;clear hxa;go_wp2_with fail
    refine (Hbb.out _).mono ?_;rintro e W2 ⟨rfl,hxa⟩;have hK:=Hk1.out.ext hxa;have HK:=hid hK;clear hK;clear hxa hc0 hc1
   all_goals
    go_wp2_with fail
    go_region_held3 (fun w'=>Kp2 w w' w.heap.size (.string sa) (.string sc) (w.heap.size+1) (.string sb) (.string sd) (w.heap.size+1+1)∧w'.cell? ⟨w.heap.size,0,none⟩=some (.string sa)∧w'.cell? ⟨w.heap.size,1,none⟩=some (.string sc)∧w'.cell? ⟨w.heap.size+1,0,none⟩=some (.string sb)∧w'.cell? ⟨w.heap.size+1,1,none⟩=some (.string sd)∧w'.cell? ⟨w.heap.size+1+1,0,none⟩=some (zet w' (w.heap.size+1+1) 0)∧w'.cell? ⟨w.heap.size+1+1,1,none⟩=some (zet w' (w.heap.size+1+1) 1)∧w'.frozen? ⟨w.heap.size+1+1,0,none⟩=false∧w'.frozen? ⟨w.heap.size+1+1,1,none⟩=false)
     (first | exact (Kp2.ext HK.out ((Ext.refl _).drew)).all | exact (Kp2.ext (And.left (by assumption)) hxa).all | exact (Kp2.put (And.left (by assumption)) (by omega) (by omega) (by omega) _ _).all)
     (first
      | (go_at_call_of 165 (Value.string sa);refine (Hm1.out _ (And.left (And.left (by assumption)))).mono ?_;rintro e9 V4 ⟨rfl,hxa⟩;have hkk:=Kp2.ext (And.left (by assumption)) hxa)
      | (go_at_call_of 165 (Value.string sb);refine (Hm2.out _ (And.left (And.left (by assumption)))).mono ?_;rintro e9 V4 ⟨rfl,hxa⟩;have hkk:=Kp2.ext (And.left (by assumption)) hxa)
      | (go_at_call_of 165 (Value.string sc);refine (Hm3.out _ (And.left (And.left (by assumption)))).mono ?_;rintro e9 V4 ⟨rfl,hxa⟩;have hkk:=Kp2.ext (And.left (by assumption)) hxa)
      | (go_at_call 199;refine (Had.out _ (And.left (And.left (by assumption)))).mono ?_;rintro e9 V4 ⟨rfl,hxa⟩;have hkk:=Kp2.ext (And.left (by assumption)) hxa)
      | (go_at_call 192;refine (Hlo.out _ (And.left (And.left (by assumption)))).mono ?_;rintro e9 V4 ⟨rfl,hxa⟩;have hkk:=Kp2.ext (And.left (by assumption)) hxa))
    all_goals
     obtain ⟨hb,hfx⟩:=(hkk).fin (by omega) (.string st) (.string su);have Hfx:=hid hfx;clear hfx hxa hkk;generalize (V4.setCell ⟨w.heap.size+1+1,0,none⟩ (.string st)).setCell ⟨w.heap.size+1+1,1,none⟩ (.string su)=W5 at *;have hd0:=hb.c0;have hd1:=hb.c1;go_wp2_with fail
     exact bodyPost_ret (v:=.agg #[.string st,.string su]) (by simp [results,Tryz.results170,go_sem,hd0,hd1]) rfl ⟨rfl,Hfx.out⟩
theorem ze9 (a b:Rat)(w:World)(he:Env w)(ha:Ft 100000 a)(hb:Ft 100000 b) :
  Calls Tryz.prog 150 #[Rv a,Rv b] w fun e w'=>e=.returned (Rv (a * b))∧Ext w w':=by
 have fa1:=ha.num (by omega);have fa2:=ha.den (by omega);have fb1:=hb.num (by omega);have fb2:=hb.den (by omega);have hda:nDigits ((a.den:Int)).natAbs≤100000:=by rw [Int.natAbs_natCast];exact ha.2
 have hdb:nDigits ((b.den:Int)).natAbs≤100000:=by rw [Int.natAbs_natCast];exact hb.2
 have g1:nDigits (a.num * b.num).natAbs≤200000:=ze4 ha.1 hb.1;have g3:nDigits ((a.den:Int) * (b.den:Int)).natAbs≤200000:=ze4 hda hdb;have hba:=fun W=>zez a W fa1 fa2;have hbb:=fun W=>zez b W fb1 fb2;have hk0:=zev w (.string (I a.num)) (.string (I (a.den:Int))) (.string (I b.num)) (.string (I (b.den:Int)));have hpa:=a.den_pos;have hpb:=b.den_pos;by_cases hl:((lit a.num).2 && (lit (a.den:Int)).2)=true∧((lit b.num).2 && (lit (b.den:Int)).2)=true
 ·obtain ⟨hl1,hl2⟩:=hl;rw [Bool.and_eq_true] at hl1 hl2;have la1:=zew a.num;have la2:=zew (a.den:Int);have lb1:=zew b.num;have lb2:=zew (b.den:Int);rw [zex hl1.1] at la1;rw [zex hl1.2] at la2;rw [zex hl2.1] at lb1;rw [zex hl2.2] at lb2;rw [zex hl1.1,zex hl1.2,hl1.1,hl1.2] at hba;rw [zex hl2.1,zex hl2.2,hl2.1,hl2.2] at hbb;have b1:=ze7 la1 lb1;have b3:=ze7 la2 lb2;have hdp:0<a.den * b.den:=Nat.mul_pos hpa hpb;have hof:=fun W (h:Ext w W)=>ze0 (a.num * b.num) (a.den * b.den) W (he.ext h) (by omega) (by omega) hdp (by rw [← ze6] at b3;omega);rw [← Rat.mul_def',ze6] at hof;unfold Rv at hba hbb hof ⊢;generalize I (a * b).num=st at *;generalize I (((a * b).den:Nat):Int)=su at *;generalize I a.num=sa at *;generalize I b.num=sb at *;generalize I (a.den:Int)=sc at *;generalize I (b.den:Int)=sd at *;have hda0:(0:Int)<(a.den:Int):=by omega
  have hdb0:(0:Int)<(b.den:Int):=by omega
  generalize a.num=na at *;generalize b.num=nb at *;generalize (a.den:Int)=da at *;generalize (b.den:Int)=db at *;have hw1:IntKind.i64.wrap (na * nb)=na * nb:=IntWalk.i64_in _ (by omega);have hw3:IntKind.i64.wrap (da * db)=da * db:=IntWalk.i64_in _ (by omega);have Hba:=hid hba;have Hbb:=hid hbb;have Hof:=hid hof;have Hk0:=hid hk0;clear hba hbb hof hk0;clear g1 g3 fa1 fa2 fb1 fb2 hda hdb he ha hb hl1 hl2;go_enter Tryz.func150,Tryz.ntmps150
  go_wp2_with fail
  generalize hV:((w.alloc (.cells #[.string sa,.string sc] 102)).alloc (.cells #[.string sb,.string sd] 102)).alloc (.cells #[.string ⟨#[]⟩,.string ⟨#[]⟩] 102)=V at *;refine (Hba.out _).mono ?_;rintro e W1 ⟨rfl,hxa⟩;have hk1:=Hk0.out.ext hxa;have hc0:=hk1.2.2.1.c0;have hc1:=hk1.2.2.1.c1;have Hk1:=hid hk1;clear hk1;clear hxa;go_wp2_with fail
  refine (Hbb.out _).mono ?_;rintro e W2 ⟨rfl,hxa⟩;have hk2:=Hk1.out.ext hxa;have Hk2:=hid hk2;clear hk2;clear hxa hc0 hc1;go_wp2_with fail
  refine (Hof.out _ Hk2.out.1).mono ?_;rintro e W3 ⟨rfl,hxa⟩;have hkk:=Hk2.out.ext hxa;have Hkk:=hid hkk;clear hkk;clear hxa;have hc0:=(Hkk.out).res.c0;have hc1:=(Hkk.out).res.c1;have hz0:=(Hkk.out).res.fz 0;have hz1:=(Hkk.out).res.fz 1;obtain ⟨hb,hfx⟩:=(Hkk.out).fin (by omega) (.string st) (.string su);have Hb:=hid hb;have Hfx:=hid hfx;clear hb hfx;go_wp2_with fail
  have hd0:=Hb.out.c0;have hd1:=Hb.out.c1;exact bodyPost_ret (v:=.agg #[.string st,.string su]) (by simp [results,Tryz.results150,go_sem,hd0,hd1]) rfl ⟨rfl,Hfx.out⟩
 ·have hcs:((lit a.num).2 && (lit (a.den:Int)).2)=false∨(((lit a.num).2 && (lit (a.den:Int)).2)=true∧((lit b.num).2 && (lit (b.den:Int)).2)=false):=by
   cases e1:((lit a.num).2 && (lit (a.den:Int)).2)
   ·exact .inl rfl
   ·right;refine ⟨rfl,?_⟩
    cases e2:((lit b.num).2 && (lit (b.den:Int)).2)
    ·rfl
    ·exact absurd ⟨e1,e2⟩ hl
  have hm1:=fun W (h:Ext w W)=>zca a.num b.num W (he.ext h) fa1 fb1;have hm3:=fun W (h:Ext w W)=>zca (a.den:Int) (b.den:Int) W (he.ext h) fa2 fb2;have hlo:=fun W (h:Ext w W)=>ze3 (a.num * b.num) (a.den * b.den) W (he.ext h) (by unfold Fit;omega) (by rw [ze6];unfold Fit;omega) (Nat.mul_pos hpa hpb);rw [← Rat.mul_def',ze6] at hlo;unfold Rv at hba hbb hlo ⊢;generalize lit a.num=la at *;generalize lit b.num=lb at *;generalize lit (a.den:Int)=lc at *;generalize lit (b.den:Int)=ld at *;generalize I (a.num * b.num)=sm at *;generalize I ((a.den:Int) * (b.den:Int))=so at *;generalize I (a * b).num=st at *;generalize I (((a * b).den:Nat):Int)=su at *;generalize I a.num=sa at *;generalize I b.num=sb at *;generalize I (a.den:Int)=sc at *;generalize I (b.den:Int)=sd at *;have Hba:=hid hba;have Hbb:=hid hbb;have Hk0:=hid hk0;have Hm1:=hid hm1;have Hm3:=hid hm3;have Hlo:=hid hlo;clear hba hbb hk0 hm1 hm3 hlo;clear g1 g3 fa1 fa2 fb1 fb2 hda hdb he ha hb hl;rcases hcs with q1 | ⟨q1,q2⟩
  case' inl =>
   go_enter Tryz.func150,Tryz.ntmps150
   go_wp2_with fail
   generalize hV:((w.alloc (.cells #[.string sa,.string sc] 102)).alloc (.cells #[.string sb,.string sd] 102)).alloc (.cells #[.string ⟨#[]⟩,.string ⟨#[]⟩] 102)=V at *;refine (Hba.out _).mono ?_;rintro e W2 ⟨rfl,hxa⟩;have hK:=Hk0.out.ext hxa;have HK:=hid hK;clear hK;clear hxa
  case' inr =>
   go_enter Tryz.func150,Tryz.ntmps150
   go_wp2_with fail
   generalize hV:((w.alloc (.cells #[.string sa,.string sc] 102)).alloc (.cells #[.string sb,.string sd] 102)).alloc (.cells #[.string ⟨#[]⟩,.string ⟨#[]⟩] 102)=V at *;refine (Hba.out _).mono ?_;rintro e W1 ⟨rfl,hxa⟩;have hk1:=Hk0.out.ext hxa;have hc0:=hk1.2.2.1.c0;have hc1:=hk1.2.2.1.c1;have Hk1:=hid hk1;clear hk1;clear hxa;go_wp2_with fail
   refine (Hbb.out _).mono ?_;rintro e W2 ⟨rfl,hxa⟩;have hK:=Hk1.out.ext hxa;have HK:=hid hK;clear hK;clear hxa hc0 hc1
  all_goals
   go_wp2_with fail
   go_region_held3 (fun w'=>Kp2 w w' w.heap.size (.string sa) (.string sc) (w.heap.size+1) (.string sb) (.string sd) (w.heap.size+1+1)∧w'.cell? ⟨w.heap.size,0,none⟩=some (.string sa)∧w'.cell? ⟨w.heap.size,1,none⟩=some (.string sc)∧w'.cell? ⟨w.heap.size+1,0,none⟩=some (.string sb)∧w'.cell? ⟨w.heap.size+1,1,none⟩=some (.string sd)∧w'.cell? ⟨w.heap.size+1+1,0,none⟩=some (zet w' (w.heap.size+1+1) 0)∧w'.cell? ⟨w.heap.size+1+1,1,none⟩=some (zet w' (w.heap.size+1+1) 1)∧w'.frozen? ⟨w.heap.size+1+1,0,none⟩=false∧w'.frozen? ⟨w.heap.size+1+1,1,none⟩=false)
    (first | exact (Kp2.ext HK.out ((Ext.refl _).drew)).all | exact (Kp2.ext (And.left (by assumption)) hxa).all | exact (Kp2.put (And.left (by assumption)) (by omega) (by omega) (by omega) _ _).all)
    (first
     | (go_at_call_of 165 (Value.string sa);refine (Hm1.out _ (And.left (And.left (by assumption)))).mono ?_;rintro e9 V4 ⟨rfl,hxa⟩;have hkk:=Kp2.ext (And.left (by assumption)) hxa)
     | (go_at_call_of 165 (Value.string sc);refine (Hm3.out _ (And.left (And.left (by assumption)))).mono ?_;rintro e9 V4 ⟨rfl,hxa⟩;have hkk:=Kp2.ext (And.left (by assumption)) hxa)
     | (go_at_call 192;refine (Hlo.out _ (And.left (And.left (by assumption)))).mono ?_;rintro e9 V4 ⟨rfl,hxa⟩;have hkk:=Kp2.ext (And.left (by assumption)) hxa))
   all_goals
    obtain ⟨hb,hfx⟩:=(hkk).fin (by omega) (.string st) (.string su);have Hfx:=hid hfx;clear hfx hxa hkk;generalize (V4.setCell ⟨w.heap.size+1+1,0,none⟩ (.string st)).setCell ⟨w.heap.size+1+1,1,none⟩ (.string su)=W5 at *;have hd0:=hb.c0;have hd1:=hb.c1;go_wp2_with fail
    exact bodyPost_ret (v:=.agg #[.string st,.string su]) (by simp [results,Tryz.results150,go_sem,hd0,hd1]) rfl ⟨rfl,Hfx.out⟩
theorem Ft.neg {k:Nat}{r:Rat}(h:Ft k r):Ft k (-r):=⟨by rw [Rat.neg_num,Int.natAbs_neg];exact h.1,h.2⟩
theorem zeA (a b:Rat)(w:World)(he:Env w)(ha:Ft 100000 a)(hb:Ft 100000 b) :
  Calls Tryz.prog 152 #[Rv a,Rv b] w fun e w'=>e=.returned (Rv (a - b))∧Ext w w':=by
 have hn:=fun W (_:Ext w W)=>zeu b W (hb.num (by omega));have had:=fun W (h:Ext w W)=>ze8 a (-b) W (he.ext h) ha hb.neg;rw [← Rat.sub_eq_add_neg] at had;have hk0:=zev w (.string (I a.num)) (.string (I (a.den:Int))) (.string (I b.num)) (.string (I (b.den:Int)));unfold Rv at hn had ⊢;rw [Rat.neg_den] at hn had;generalize I (-b).num=sn at *;generalize I (a - b).num=st at *;generalize I (((a - b).den:Nat):Int)=su at *;generalize I a.num=sa at *;generalize I b.num=sb at *;generalize I (a.den:Int)=sc at *;generalize I (b.den:Int)=sd at *;clear he ha hb;have Hn:=hid hn;have Had:=hid had;have Hk0:=hid hk0;clear hn had hk0;go_enter Tryz.func152,Tryz.ntmps152
 go_wp2_with fail
 generalize hV:((w.alloc (.cells #[.string sa,.string sc] 102)).alloc (.cells #[.string sb,.string sd] 102)).alloc (.cells #[.string ⟨#[]⟩,.string ⟨#[]⟩] 102)=V at *;have HK:=Hk0;go_region_held3 (fun w'=>Kp2 w w' w.heap.size (.string sa) (.string sc) (w.heap.size+1) (.string sb) (.string sd) (w.heap.size+1+1)∧w'.cell? ⟨w.heap.size,0,none⟩=some (.string sa)∧w'.cell? ⟨w.heap.size,1,none⟩=some (.string sc)∧w'.cell? ⟨w.heap.size+1,0,none⟩=some (.string sb)∧w'.cell? ⟨w.heap.size+1,1,none⟩=some (.string sd)∧w'.cell? ⟨w.heap.size+1+1,0,none⟩=some (zet w' (w.heap.size+1+1) 0)∧w'.cell? ⟨w.heap.size+1+1,1,none⟩=some (zet w' (w.heap.size+1+1) 1)∧w'.frozen? ⟨w.heap.size+1+1,0,none⟩=false∧w'.frozen? ⟨w.heap.size+1+1,1,none⟩=false)
  (first | exact (Kp2.ext HK.out ((Ext.refl _).drew)).all | exact (Kp2.ext (And.left (by assumption)) hxa).all | exact (Kp2.put (And.left (by assumption)) (by omega) (by omega) (by omega) _ _).all)
  (first
   | (go_at_call 149;refine (Hn.out _ (And.left (And.left (by assumption)))).mono ?_;rintro e9 V4 ⟨rfl,hxa⟩;have hkk:=Kp2.ext (And.left (by assumption)) hxa)
   | (go_at_call 170;refine (Had.out _ (And.left (And.left (by assumption)))).mono ?_;rintro e9 V4 ⟨rfl,hxa⟩;have hkk:=Kp2.ext (And.left (by assumption)) hxa))
 all_goals
  obtain ⟨hb,hfx⟩:=(hkk).fin (by omega) (.string st) (.string su);have Hfx:=hid hfx;clear hfx hxa hkk;generalize (V4.setCell ⟨w.heap.size+1+1,0,none⟩ (.string st)).setCell ⟨w.heap.size+1+1,1,none⟩ (.string su)=W5 at *;have hd0:=hb.c0;have hd1:=hb.c1;go_wp2_with fail
  exact bodyPost_ret (v:=.agg #[.string st,.string su]) (by simp [results,Tryz.results152,go_sem,hd0,hd1]) rfl ⟨rfl,Hfx.out⟩
theorem zeB (r:Rat)(w:World)(he:Env w)(h1:Fit r.num)(h2:Fit (r.den:Int)) :
  Calls Tryz.prog 177 #[Rv r] w fun e w'=>e=.returned (.string (I r.floor))∧Ext w w':=by
 have hp:=r.den_pos;have hd:=fun W (h:Ext w W)=>zek r.num (r.den:Int) W (he.ext h) (by omega) h1 h2;have f1:fdv r.num (r.den:Int)=r.floor:=by unfold fdv;rw [if_pos (by omega),Rat.floor_def]
 rw [f1] at hd;have hE:Ext w (w.alloc (.cells #[.string (I r.num),.string (I (r.den:Int))] 102)):=(Ext.refl _).alloc _;unfold Rv;generalize fmd r.num (r.den:Int)=m at *;generalize I r.num=sa at *;generalize I (r.den:Int)=sb at *;clear he h1 h2 f1;have Hd:=hid hd;have HE:=hid hE;clear hd hE;go_enter Tryz.func177,Tryz.ntmps177
 go_wp2_with fail
 refine (Hd.out _ HE.out).mono ?_;rintro e w1 ⟨rfl,hx1⟩;have Hx1:=hid hx1;clear hx1;go_wp2
 go_ret
 exact ⟨rfl,HE.out.trans Hx1.out⟩
theorem zeC (r:Rat)(w:World)(h1:Fit r.num) :
  Calls Tryz.prog 147 #[Rv r] w fun e w'=>e=.returned (.int .i64 (zbj r.num 0))∧Ext w w':=by
 have hs:=fun W=>zbR r.num W h1;have hE:Ext w (w.alloc (.cells #[.string (I r.num),.string (I (r.den:Int))] 102)):=(Ext.refl _).alloc _;unfold Rv;generalize zbj r.num 0=m at *;generalize I r.num=sa at *;generalize I (r.den:Int)=sb at *;clear h1;have Hs:=hid hs;have HE:=hid hE;clear hs hE;go_enter Tryz.func147,Tryz.ntmps147
 go_wp2_with fail
 refine (Hs.out _).mono ?_;rintro e W1 ⟨rfl,rfl⟩;go_wp2
 go_ret
 exact ⟨rfl,HE.out⟩
def isD (c:UInt8):Bool:=decide (48≤c.toNat) && decide (c.toNat≤57)
def zeD (l:List UInt8):Bool:=l.all isD && (decide (l.length=1) || (decide (1<l.length) && decide (l.getD 0 48 ≠ 48)))
theorem zeE {l:List UInt8}{k:Nat}(hk:k<l.length)(h:isD (l.getD k 0)=false):zeD l=false:=by
 have:l.all isD=false:=by
  rw [List.all_eq_false];refine ⟨l.getD k 0,?_,by rw [h];simp⟩;rw [List.getD_eq_getElem?_getD,List.getElem?_eq_getElem hk];exact List.getElem_mem hk
 unfold zeD;rw [this];rfl
theorem zeF {l:List UInt8}{k:Nat}(hk:k<l.length)(h:(l.take k).all isD=true)(h2:isD (l.getD k 0)=true):(l.take (k+1)).all isD=true:=by
 rw [List.take_succ_eq_append_getElem hk,List.all_append,h];rw [List.getD_eq_getElem?_getD,List.getElem?_eq_getElem hk] at h2;simpa using h2
theorem zeG {a b:Bool}(h:a=b):Ending.returned (.bool a)=.returned (.bool b):=by rw [h]
theorem zeH {l:List UInt8}(ha:l.all isD=true)(h:(l.length:Int)=1):zeD l=true:=by
 unfold zeD;rw [ha,decide_eq_true (by omega)];rfl
theorem zeI {l:List UInt8}(h:¬ (l.length:Int)=1)(h2:(l.length:Int)≤1):((l.length:Int) == 1)=zeD l:=by
 unfold zeD;rw [decide_eq_false (p:=l.length=1) (by omega),decide_eq_false (p:=1<l.length) (by omega),beq_eq_false_iff_ne.2 h];simp
theorem zeJ {l:List UInt8}(ha:l.all isD=true)(h:¬ (l.length:Int)=1)(h2:(1:Int)<l.length)(h3:0<(⟨l.toArray⟩:ByteArray).size):((l.length:Int) == 1 || (((⟨l.toArray⟩:ByteArray)[0]'h3).toNat:Int) != 48)=zeD l:=by
 unfold zeD;rw [ha,decide_eq_false (p:=l.length=1) (by omega),decide_eq_true (p:=1<l.length) (by omega),beq_eq_false_iff_ne.2 h];have e:(⟨l.toArray⟩:ByteArray)[0]'h3=l.getD 0 48:=by
  have h1:(⟨l.toArray⟩:ByteArray)[0]'h3=l.toArray[0]'(by simp;omega):=rfl;rw [h1,List.getD_eq_getElem?_getD,List.getElem?_eq_getElem (by omega)];simp
 rw [e];simp only [Bool.false_or,Bool.true_and];rw [Bool.eq_iff_iff,bne_iff_ne,decide_eq_true_iff];constructor
 ·intro g k;rw [k] at g;exact g rfl
 ·intro g k;apply g;apply UInt8.toNat_inj.1;show (l.getD 0 48).toNat=48;omega
theorem zeK (l:List UInt8)(w:World)(hl:l.length≤1000000) :
  Calls Tryz.prog 220 #[.string ⟨l.toArray⟩] w fun e w'=>e=.returned (.bool (zeD l))∧Ext w w':=by
 have kc:=zaA ⟨l.toArray⟩ l rfl;have hsz:(⟨l.toArray⟩:ByteArray).size=l.length:=by simp [ByteArray.size]
 obtain ⟨r,hr⟩:∃ r,r=zeD l:=⟨_,rfl⟩;rw [← hr];have Hr:=hid hr;have Hsz:=hid hsz;clear hr hsz;go_enter Tryz.func220,Tryz.ntmps220
 go_wp2_with fail
 have hbx:Ext w (Lib.bytesWorld w 5 ⟨l.toArray⟩):=Ext.bytes w _ _;have hbc:=zax w 5 l;generalize Lib.bytesWorld w 5 ⟨l.toArray⟩=W1 at *;clear kc;have Hbx:=hid hbx;have Hbc:=hid hbc;clear hbx hbc;go_loop [4,8] (fun v4 v8=>∃ k:Nat,k≤l.length∧v8=.int .i64 k∧(l.take k).all isD=true) (fun _ v8=>l.length - (zal v8).toNat)
 case atStart=>exact ⟨0,Nat.zero_le _,rfl,rfl⟩
 case round =>
  obtain ⟨k,hk,rfl,hall⟩:=hrel;have Hall:=hid hall;clear hall;by_cases hlt:k<l.length
  ·have hcell:=Hbc.out k hlt
   cases hd:isD (l.getD k 0) with
   | true =>
    have hta:=zeF hlt Hall.out hd
    have hd2:48≤(l.getD k 0).toNat∧(l.getD k 0).toNat≤57:=by unfold isD at hd;simpa using hd
    generalize (l.getD k 0).toNat=c at *
    obtain ⟨h1,h2⟩:=hd2
    have t1:decide ((c:Int)<48)=false:=decide_eq_false (by omega)
    have t2:decide ((57:Int)<c)=false:=decide_eq_false (by omega)
    have t3:decide (c<48)=false:=decide_eq_false (by omega)
    have t4:decide (57<c)=false:=decide_eq_false (by omega)
    have Hta:=hid hta;clear hta
    clear hd
    go_wp2
    go_round
    case rel=>exact ⟨k+1,by omega,by go_num,Hta.out⟩
    case measure=>simp [zal];omega
   | false =>
    have hno:=zeE hlt hd
    have hr2:r=false:=by rw [Hr.out,hno]
    have hd2:(l.getD k 0).toNat<48∨(¬ (l.getD k 0).toNat<48∧57<(l.getD k 0).toNat):=by
     unfold isD at hd;by_cases g:(l.getD k 0).toNat<48
     ·exact .inl g
     ·right;refine ⟨g,?_⟩;rw [decide_eq_true (by omega),Bool.true_and] at hd;have:=of_decide_eq_false hd;omega
    generalize (l.getD k 0).toNat=c at *
    have Hr2:=hid hr2
    clear hd hno hr2
    rcases hd2 with h1 | ⟨h1,h2⟩
    ·have t1:decide ((c:Int)<48)=true:=decide_eq_true (by omega)
     have t3:decide (c<48)=true:=decide_eq_true (by omega)
     go_wp2
     go_ret
     exact ⟨by rw [Hr2.out];rfl,Hbx.out⟩
    ·have t1:decide ((c:Int)<48)=false:=decide_eq_false (by omega)
     have t2:decide ((57:Int)<c)=true:=decide_eq_true (by omega)
     have t3:decide (c<48)=false:=decide_eq_false (by omega)
     have t4:decide (57<c)=true:=decide_eq_true (by omega)
     go_wp2
     go_ret
     exact ⟨by rw [Hr2.out];rfl,Hbx.out⟩
  ·obtain rfl:k=l.length:=by omega
   have ha:=Hall.out;rw [List.take_length] at ha;have Ha:=hid ha;clear ha;go_wp2
   ·go_ret
    exact ⟨zeG (by rw [Hr.out,zeH Ha.out (by assumption)]),Hbx.out⟩
   ·go_ret
    exact ⟨zeG (by rw [Hr.out];exact zeJ Ha.out (by assumption) (by assumption) _),Hbx.out⟩
   ·go_ret
    exact ⟨zeG (by rw [Hr.out];exact zeI (by assumption) (by assumption)),Hbx.out⟩
theorem zeL (n:Nat):zeD (decDigits n)=true:=by
 have hd:(decDigits n).all isD=true:=by
  rw [List.all_eq_true];intro c hc;have:=Dec.dig_dec n c hc;unfold isD;rw [decide_eq_true this.1,decide_eq_true this.2];rfl
 unfold zeD;rw [hd,Bool.true_and,decDigits_length];have key:∀ n,0<n→(decDigits n).getD 0 48 ≠ 48:=by
  intro n;induction n using Nat.strongRecOn with
  | _ n ih =>
   intro hn
   rw [decDigits]
   split
   ·rename_i h
    intro e
    have e:UInt8.ofNat (48+n)=48:=e
    have e2:=congrArg UInt8.toNat e
    have e3:(UInt8.ofNat (48+n)).toNat=(48+n) % 256:=by simp
    rw [e3] at e2
    have e4:(48:UInt8).toNat=48:=rfl
    rw [e4] at e2
    omega
   ·rename_i h
    have h1:=ih (n / 10) (by omega) (by omega)
    have h2:0<(decDigits (n / 10)).length:=by rw [decDigits_length];exact nDigits_pos _
    rw [List.getD_eq_getElem?_getD,List.getElem?_append_left h2,← List.getD_eq_getElem?_getD]
    exact h1
 by_cases h1:nDigits n=1
 ·rw [decide_eq_true h1];rfl
 ·have hp:=nDigits_pos n;have hn:0<n:=by
   rcases Nat.eq_zero_or_pos n with e | e
   ·subst e;have:nDigits 0≤1:=Dec.nDigits_le (by omega) (by omega);omega
   ·exact e
  rw [decide_eq_false h1,decide_eq_true (by omega),decide_eq_true (key n hn)];rfl
theorem zeM (l:List UInt8)(w:World)(hl:l.length≤1000000) :
  Calls Tryz.prog 200 #[.string ⟨l.toArray⟩] w fun e w'=>e=.returned (.int .i64 (if zeD l=true∧l.length≤400 then 0 else 2))∧Ext w w':=by
 have hc:=zeK l w hl;have hsz:(⟨l.toArray⟩:ByteArray).size=l.length:=by simp [ByteArray.size]
 cases hb:zeD l with
 | false =>
  rw [if_neg (by simp)]
  rw [hb] at hc
  have Hc:=hid hc;have Hsz:=hid hsz;clear hc hsz
  go_enter Tryz.func200,Tryz.ntmps200
  go_wp2_with fail
  refine (Hc.out).mono ?_
  rintro e w1 ⟨rfl,hx1⟩
  have Hx1:=hid hx1;clear hx1
  go_wp2
  go_ret
  exact ⟨rfl,Hx1.out⟩
 | true =>
  rw [hb] at hc
  by_cases h4:l.length≤400
  ·rw [if_pos ⟨rfl,h4⟩]
   have h5:¬ (400:Int)<(l.length:Int):=by omega
   have Hc:=hid hc;have Hsz:=hid hsz;clear hc hsz
   go_enter Tryz.func200,Tryz.ntmps200
   go_wp2_with fail
   refine (Hc.out).mono ?_
   rintro e w1 ⟨rfl,hx1⟩
   have Hx1:=hid hx1;clear hx1
   go_wp2
   go_ret
   exact ⟨rfl,Hx1.out⟩
  ·rw [if_neg (by simp [h4])]
   have h5:(400:Int)<(l.length:Int):=by omega
   have Hc:=hid hc;have Hsz:=hid hsz;clear hc hsz
   go_enter Tryz.func200,Tryz.ntmps200
   go_wp2_with fail
   refine (Hc.out).mono ?_
   rintro e w1 ⟨rfl,hx1⟩
   have Hx1:=hid hx1;clear hx1
   go_wp2
   go_ret
   exact ⟨rfl,Hx1.out⟩
theorem zeN (z:Int)(w:World)(hz:nDigits z.natAbs≤400) :
  Calls Tryz.prog 166 #[.string (I z)] w fun e w'=>e=.returned (.int .i64 0)∧Ext w w':=by
 have hs:=zbI z w (by unfold Fit;omega);have hc:=fun W=>zeM (decDigits z.natAbs) W (by rw [decDigits_length];omega);have hi:(if zeD (decDigits z.natAbs)=true∧(decDigits z.natAbs).length≤400 then (0:Int) else 2)=0:=by
  rw [if_pos ⟨zeL _,by rw [decDigits_length];exact hz⟩]
 rw [hi] at hc;have hc2:∀ W,Calls Tryz.prog 200 #[.string (D z.natAbs)] W fun e w'=>e=.returned (.int .i64 0)∧Ext W w':=hc;have h0:=zbt z.natAbs;by_cases hn:z<0
 ·rw [decide_eq_true hn] at hs;rw [decide_eq_false (by omega)] at h0;generalize D z.natAbs=s at *;clear hc hi;have Hs:=hid hs;have Hc2:=hid hc2;clear hs hc2;go_enter Tryz.func166,Tryz.ntmps166
  go_wp2_with fail
  refine (Hs.out).mono ?_;rintro e w1 ⟨rfl,hx1⟩;have Hx1:=hid hx1;clear hx1;go_wp2_with fail
  refine (Hc2.out w1).mono ?_;rintro e w2 ⟨rfl,hx2⟩;have Hx2:=hid (Hx1.out.trans hx2);clear hx2;go_wp2
  go_ret
  exact ⟨rfl,Hx2.out⟩
 ·rw [decide_eq_false hn] at hs;generalize D z.natAbs=s at *;clear hc hi h0;have Hs:=hid hs;have Hc2:=hid hc2;clear hs hc2;go_enter Tryz.func166,Tryz.ntmps166
  go_wp2_with fail
  refine (Hs.out).mono ?_;rintro e w1 ⟨rfl,hx1⟩;have Hx1:=hid hx1;clear hx1;go_wp2_with fail
  refine (Hc2.out w1).mono ?_;rintro e w2 ⟨rfl,hx2⟩;have Hx2:=hid (Hx1.out.trans hx2);clear hx2;go_wp2
  go_ret
  exact ⟨rfl,Hx2.out⟩
theorem zeO (r:Rat)(w:World)(he:Env w)(hr:Ft 400 r) :
  Calls Tryz.prog 119 #[Rv r] w fun e w'=>e=.returned (.int .i64 0)∧Ext w w':=by
 have hp:=r.den_pos;have hw1:=fun W=>zeN r.num W hr.1;have hw2:=fun W=>zeN (r.den:Int) W (by rw [Int.natAbs_natCast];exact hr.2);have hs:=fun W=>zbR (r.den:Int) W (hr.den (by omega));rw [zbm (by omega)] at hs;have hg:=fun W (h:Ext w W)=>zeq r.num (r.den:Int) W (he.ext h) (hr.num (by omega)) (hr.den (by omega));have hred:Nat.gcd r.num.natAbs (r.den:Int).natAbs=1:=by rw [Int.natAbs_natCast];exact r.reduced
 rw [hred,show ((1:Nat):Int)=1 from rfl] at hg;have t1:((I 1).toList == [49])=true:=by rw [ze1];rfl
 have t2:((I 1).toList != [49])=false:=by rw [bne,t1];rfl
 have hE:Ext w (w.alloc (.cells #[.string (I r.num),.string (I (r.den:Int))] 102)):=(Ext.refl _).alloc _;have b1:=zes.new w (.string (I r.num)) (.string (I (r.den:Int)));unfold Rv;generalize I 1=so at *;generalize I r.num=sa at *;generalize I (r.den:Int)=sb at *;clear hred he hr;have Hw1:=hid hw1;have Hw2:=hid hw2;have Hs:=hid hs;have Hg:=hid hg;have HE:=hid hE;have B1:=hid b1;clear hw1 hw2 hs hg hE b1;go_enter Tryz.func119,Tryz.ntmps119
 go_wp2_with fail
 refine (Hw1.out _).mono ?_;rintro e w1 ⟨rfl,hx1⟩;have Hx1:=hid hx1;clear hx1;have hc1:=(B1.out.ext Hx1.out).c1;go_wp2_with fail
 refine (Hw2.out w1).mono ?_;rintro e w2 ⟨rfl,hx2⟩;have Hx2:=hid (Hx1.out.trans hx2);clear hx2;have hc0:=(B1.out.ext Hx2.out).c0;have hc1:=(B1.out.ext Hx2.out).c1;go_wp2_with fail
 refine (Hs.out _).mono ?_;rintro e W3 ⟨rfl,rfl⟩;go_wp2_with fail
 refine (Hg.out _ (HE.out.trans Hx2.out)).mono ?_;rintro e w4 ⟨rfl,hx4⟩;have Hx4:=hid (Hx2.out.trans hx4);clear hx4;go_wp2
 go_ret
 exact ⟨rfl,HE.out.trans Hx4.out⟩
end
section
def lg (p:Int):Int:=if p=2 then 67108864 else if p=3 then 106365032 else if p=7 then 188398399 else if p=11 then 232158526 else if p=13 then 248332305 else 155821956
def loP (p f:Int):Int:=if p=2 then f * lg p else min (f * lg p) (f * (lg p+1))
def hiP (p f:Int):Int:=if p=2 then f * lg p else max (f * lg p) (f * (lg p+1))
def zeP : List (Int × Int)→Int | []=>0 | e::l=>loP e.1 e.2+zeP l
def zeQ : List (Int × Int)→Int | []=>0 | e::l=>hiP e.1 e.2+zeQ l
def zeR : List (Int × Int)→Int | []=>0 | e::l=>e.2 * lg e.1+zeR l
def zeS : List (Int × Int)→Int | []=>0 | e::l=>(if e.1=2 then 0 else (e.2.natAbs:Int))+zeS l
theorem zeT (a b:List (Int × Int)):zeP (a++b)=zeP a+zeP b:=by
 induction a with
 | nil=>simp [zeP]
 | cons e a ih=>simp only [List.cons_append,zeP,ih];omega
theorem zeU (a b:List (Int × Int)):zeQ (a++b)=zeQ a+zeQ b:=by
 induction a with
 | nil=>simp [zeQ]
 | cons e a ih=>simp only [List.cons_append,zeQ,ih];omega
theorem zeV (p f:Int):f * lg p - (if p=2 then 0 else (f.natAbs:Int))≤loP p f∧loP p f≤f * lg p∧f * lg p≤hiP p f∧hiP p f≤f * lg p+(if p=2 then 0 else (f.natAbs:Int)):=by
 unfold loP hiP;by_cases h:p=2
 ·simp [h]
 ·rw [if_neg h,if_neg h,if_neg h];have:f * (lg p+1)=f * lg p+f:=by rw [Int.mul_add,Int.mul_one]
  rw [this];omega
theorem zeW (l:List (Int × Int)):zeR l - zeS l≤zeP l∧zeP l≤zeR l∧zeR l≤zeQ l∧zeQ l≤zeR l+zeS l:=by
 induction l with
 | nil=>simp [zeR,zeS,zeP,zeQ]
 | cons e l ih =>
  have:=zeV e.1 e.2
  simp only [zeR,zeS,zeP,zeQ]
  omega
def dn (x:List Rat):Nat:=x.foldl (fun d r=>Nat.lcm d r.den) 1
def fcd (d:Nat)(x:List Rat):List Int:=x.map fun r=>r.num * ((d / r.den:Nat):Int)
def tms (p:List Int)(d:Nat)(x:List Rat):List (Int × Int):=(p.zip (fcd d x)).filter fun e=>e.2 != 0
def sF : List Int→List Rat→Rat
 | p::ps,r::x=>r * (lg p:Rat)+sF ps x
 | _,_=>0
theorem zeX (x:List Rat):∀ r∈x,r.den ∣ dn x:=by
 have key:∀ (l:List Rat)(d:Nat),d ∣ l.foldl (fun d r=>Nat.lcm d r.den) d∧∀ r∈l,r.den ∣ l.foldl (fun d r=>Nat.lcm d r.den) d:=by
  intro l;induction l with
  | nil=>intro d;exact ⟨Nat.dvd_refl _,fun r h=>by cases h⟩
  | cons s l ih =>
   intro d
   have:=ih (Nat.lcm d s.den)
   simp only [List.foldl_cons]
   refine ⟨Nat.dvd_trans (Nat.dvd_lcm_left ..) this.1,fun r hr=>?_⟩
   rcases List.mem_cons.1 hr with rfl | hr
   ·exact Nat.dvd_trans (Nat.dvd_lcm_right ..) this.1
   ·exact this.2 r hr
 exact (key x 1).2
theorem zeY (x:List Rat):0<dn x:=by
 have key:∀ (l:List Rat)(d:Nat),0<d→0<l.foldl (fun d r=>Nat.lcm d r.den) d:=by
  intro l;induction l with
  | nil=>intro d h;exact h
  | cons s l ih=>intro d h;exact ih _ (Nat.lcm_pos h s.den_pos)
 exact key x 1 (by omega)
def zeZ (l:List (Int × Int)):Prop:=l=[]∨zeS l<(zeR l).natAbs
theorem zeZ.cases {l:List (Int × Int)}(h:zeZ l):l=[]∨(0<zeP l∧0<zeR l)∨(zeP l<0∧zeQ l<0∧zeR l<0):=by
 rcases h with h | h
 ·exact .inl h
 ·have:=zeW l;by_cases g:0<zeR l
  ·exact .inr (.inl ⟨by omega,g⟩)
  ·exact .inr (.inr ⟨by omega,by omega,by omega⟩)
def Bx (k:Int):List Rat→Prop
 | [a,b]=>∃ A B:Int,a=A∧b * 2=B∧-k≤B∧B≤k
 | [a,b,c]=>∃ A B C:Int,a=A∧b * 2=B∧c=C∧-k≤B∧B≤k∧-k≤2 * C∧2 * C≤k
 | _=>False
def Pr (p:List Int)(n:Nat):Prop:=(p=[2,3]∧n=2)∨(p=[2,3,5]∧n=3)
end
section
open Go.RowKit Go.Lib
def rcs (x:List Rat):List Value:=x.flatMap rc
theorem zfa (r:Rat)(x:List Rat):rcs (r::x)=.string (I r.num)::.string (I (r.den:Int))::rcs x:=rfl
theorem zfb (x y:List Rat):rcs (x++y)=rcs x++rcs y:=by simp [rcs]
theorem zfc (x:List Rat)(r:Rat):rcs (x++[r])=rcs x++[.string (I r.num),.string (I (r.den:Int))]:=by rw [zfb];rfl
theorem zfd {x:List Rat}{i:Nat}{r:Rat}(h:x[i]?=some r):(rcs x)[i * 2]?=some (.string (I r.num))∧(rcs x)[i * 2+1]?=some (.string (I (r.den:Int))):=by
 induction x generalizing i with
 | nil=>cases h
 | cons s x ih =>
  rw [zfa]
  cases i with
  | zero=>simp at h;subst h;exact ⟨rfl,rfl⟩
  | succ i =>
   have:=ih (i:=i) (by simpa using h)
   rw [show (i+1) * 2=i * 2+1+1 by omega]
   simpa using this
def Rd (w:World)(v:Value)(x:List Rat):Prop :=
 (∃ a cap,v=.slice a 0 cap∧cap≤maxLen∧x=[]) ∨
 ∃ b off cap,v=.slice (some ⟨b,off,none⟩) x.length cap∧x.length≤cap∧cap≤maxLen∧∀ i r,x[i]?=some r→w.cell? ⟨b,off+i * 2,none⟩=some (.string (I r.num))∧w.cell? ⟨b,off+i * 2+1,none⟩=some (.string (I (r.den:Int)))
theorem Ext.rd {w w':World}(h:Ext w w'){v:Value}{x:List Rat}(hs:Rd w v x):Rd w' v x:=by
 rcases hs with hn | ⟨b,off,cap,hv,h1,h2,hc⟩
 ·exact .inl hn
 ·exact .inr ⟨b,off,cap,hv,h1,h2,fun i r hr=>⟨h.cell (hc i r hr).1,h.cell (hc i r hr).2⟩⟩
theorem Rd.parts {w:World}{v:Value}{x:List Rat}(h:Rd w v x) :
  ∃ a cap,v=.slice a x.length cap∧cap≤maxLen∧x.length≤cap∧∀ i r,x[i]?=some r→∃ b off,a=some ⟨b,off,none⟩∧w.cell? ⟨b,off+i * 2,none⟩=some (.string (I r.num))∧w.cell? ⟨b,off+i * 2+1,none⟩=some (.string (I (r.den:Int))):=by
 rcases h with ⟨a,cap,rfl,hm,rfl⟩ | ⟨b,off,cap,hv,h1,h2,hc⟩
 ·exact ⟨a,cap,rfl,hm,by simp,fun i u hu=>by simp at hu⟩
 ·exact ⟨_,cap,hv,h2,h1,fun i r hr=>⟨b,off,rfl,hc i r hr⟩⟩
def zfe (w:World)(B:Nat)(v:Value)(x:List Rat):Prop:=w.ownsRow B 102 2 v x.length (rcs x)
theorem Ext.ownQ {w w':World}(h:Ext w w'){B:Nat}{v:Value}{x:List Rat}(ho:zfe w B v x):zfe w' B v x:=h.own ho
theorem zfe.mono {w:World}{B B':Nat}{v:Value}{x:List Rat}(ho:zfe w B v x)(hB:B'≤B):zfe w B' v x:=zam ho hB
theorem zfe.rd {w:World}{B:Nat}{v:Value}{x:List Rat}(ho:zfe w B v x):Rd w v x:=by
 rcases ho.2 with ⟨hv,hn⟩ | ⟨g,cap,cur,hv,hb,hg,h1,h2,h3,h4⟩
 ·exact .inl ⟨none,0,by rw [hv],Nat.zero_le _,List.eq_nil_of_length_eq_zero hn⟩
 ·have key:∀ j u,(rcs x)[j]?=some u→w.cell? ⟨g,j,none⟩=some u:=fun j u hu=>by
   have:=ho.cells (g:=g) (by rw [hv];rfl) j u hu;rwa [show ((⟨g,0,none⟩:Addr).add j)=⟨g,j,none⟩ by unfold Addr.add;split <;> simp_all] at this
  refine .inr ⟨g,0,cap,hv,by omega,h2,fun i r hr=>?_⟩;have:=zfd hr;exact ⟨by rw [Nat.zero_add];exact key _ _ this.1,by rw [Nat.zero_add];exact key _ _ this.2⟩
theorem zff : (Tryz.prog.info? 102).map (fun i=>(i.zero,i.size,i.bytes))=some (some (.agg #[.string ByteArray.empty,.string ByteArray.empty]),2,32):=by kernel_rfl
structure Qw where
 x:List Rat
 u:Value
 hu:u.oneCell'=true
def qwc (rs:List Qw):List Value:=rs.map Qw.u
theorem zfg (rs:List Qw):(qwc rs).length=rs.length:=by simp [qwc]
def RdM (w:World)(v:Value)(rs:List Qw):Prop:=Sl w v (qwc rs)∧∀ r∈rs,Rd w r.u r.x
theorem Ext.rdM {w w':World}(h:Ext w w'){v:Value}{rs:List Qw}(k:RdM w v rs):RdM w' v rs:=⟨h.sl k.1,fun r hr=>h.rd (k.2 r hr)⟩
def QwM (w:World)(b B:Nat)(v:Value)(rs:List Qw):Prop:=w.ownsRow B 65 1 v rs.length (qwc rs)∧∀ r∈rs,zfe w b r.u r.x
theorem QwM.rd {w:World}{b B:Nat}{v:Value}{rs:List Qw}(k:QwM w b B v rs):RdM w v rs:=⟨zan k.1,fun r hr=>(k.2 r hr).rd⟩
theorem QwM.mono {w:World}{b b' B B':Nat}{v:Value}{rs:List Qw}(k:QwM w b B v rs)(hb:b'≤b)(hB:B'≤B):QwM w b' B' v rs:=⟨zam k.1 hB,fun r hr=>(k.2 r hr).mono hb⟩
theorem zfh {w:World}{v:Value}{x:List Rat}(h:Rd w v x):v.oneCell'=true:=by
 rcases h with ⟨a,cap,rfl,_⟩ | ⟨b,off,cap,rfl,_⟩ <;> simp [Value.oneCell']
end
end Go.Proofs.YtipkdebkdnbieaaGreatDoor
