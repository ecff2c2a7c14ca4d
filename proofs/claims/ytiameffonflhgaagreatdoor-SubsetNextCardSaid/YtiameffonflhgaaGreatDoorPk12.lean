/- Walks: schismaref03's Add and Mul of small fractions. Walks: law 31's add, times, less. whole.Small: strconv.ParseInt at numerals, with the error of the range. Walk: hermite's small. -/
import Derived.Test.YtiameffonflhgaaGreatDoorPk11
import Derived.Test.YtiameffonflhgaaGreatDoorPk07
import Derived.Test.YtiameffonflhgaaGreatDoorPk09
import Derived.Test.YtiameffonflhgaaGreatDoorShelfD
import Derived.Test.YtiameffonflhgaaGreatDoorPk01
set_option maxRecDepth 100000
set_option maxHeartbeats 800000
namespace Go.Proofs.YtiameffonflhgaaGreatDoor
section
open Go.RowKit Go.Lib Go.Shelf
attribute [local go_sem] Oper.semAt_some
theorem zgM (a b:Rat)(w:World)(he:Env w)(h1:a.num.natAbs * b.num.natAbs<1000000000)(h2:a.den * b.den<1000000000)(ha:a.num.natAbs<1000000000)(hb:b.num.natAbs<1000000000)(ha2:a.den<1000000000)(hb2:b.den<1000000000) :
  Calls Tryz.prog 151 #[Rv a,Rv b] w fun e w'=>e=.returned (Rv (a * b))∧Ext w w':=by
 have hta:=fun W=>zgx a.num W (by omega) (by omega);have htb:=fun W=>zgx b.num W (by omega) (by omega);have htc:=fun W=>zgx (a.den:Int) W (by omega) (by omega);have htd:=fun W=>zgx (b.den:Int) W (by omega) (by omega);have hm1:=fun W va vb (h:W1 W va a.num)(k:W1 W vb b.num)=>zgD va vb a.num b.num W h k h1 ha hb;have hm2:=fun W va vb (h:W1 W va (a.den:Int))(k:W1 W vb (b.den:Int))=>zgD va vb (a.den:Int) (b.den:Int) W h k (by rw [Int.natAbs_natCast,Int.natAbs_natCast];exact h2) (by omega) (by omega);have hmk:=fun W va vb (hE:Ext w W)(h:W1 W va (a.num * b.num))(k:W1 W vb ((a.den:Int) * (b.den:Int)))=>zgJ va vb (a.num * b.num) (a.den * b.den) W (he.ext hE) h (by rw [Int.natCast_mul];exact k) (by rw [Int.natAbs_mul];exact h1) (Nat.mul_pos a.den_pos b.den_pos) h2;rw [← Rat.mul_def'] at hmk;unfold Rv at hmk ⊢;generalize I (a * b).num=s1 at *;generalize I (((a * b).den:Nat):Int)=s2 at *;generalize I a.num=sa at *;generalize I b.num=sb at *;generalize I (a.den:Int)=sc at *;generalize I (b.den:Int)=sd at *;have hk2:=zdO 65 65 65 w (.string sa) (.string sc) (.string sb) (.string sd) (.string ⟨#[]⟩) (.string ⟨#[]⟩);generalize hV:((w.alloc (.cells #[.string sa,.string sc] 65)).alloc (.cells #[.string sb,.string sd] 65)).alloc (.cells #[.string ⟨#[]⟩,.string ⟨#[]⟩] 65)=V at *;have hk:=hk2.1;have p0:=hk.a.c0;have p1:=hk.a.c1;have q0:=hk.b.c0;have q1:=hk.b.c1;have Hk0:=hid hk;clear hk hk2;have Hta:=hid hta;have Htb:=hid htb;have Htc:=hid htc;have Htd:=hid htd;have Hm1:=hid hm1;have Hm2:=hid hm2;have Hmk:=hid hmk;clear hta htb htc htd hm1 hm2 hmk he h1 h2 ha hb ha2 hb2;go_enter Tryz.func151,Tryz.ntmps151
 go_wp2_with fail
 go_region_held3 (fun w'=>K2 65 65 65 w w' w.heap.size (.string sa) (.string sc) (w.heap.size+1) (.string sb) (.string sd) (w.heap.size+1+1)∧w'.cell? ⟨w.heap.size,0,none⟩=some (.string sa)∧w'.cell? ⟨w.heap.size,1,none⟩=some (.string sc)∧w'.cell? ⟨w.heap.size+1,0,none⟩=some (.string sb)∧w'.cell? ⟨w.heap.size+1,1,none⟩=some (.string sd)∧w'.cell? ⟨w.heap.size+1+1,0,none⟩=some (zdC w' (w.heap.size+1+1) 0)∧w'.cell? ⟨w.heap.size+1+1,1,none⟩=some (zdC w' (w.heap.size+1+1) 1)∧w'.frozen? ⟨w.heap.size+1+1,0,none⟩=false∧w'.frozen? ⟨w.heap.size+1+1,1,none⟩=false)
  (first | with_reducible exact Hk7.out.all | with_reducible exact Hk6.out.all | with_reducible exact Hk5.out.all | with_reducible exact Hk4.out.all | with_reducible exact Hk3.out.all | with_reducible exact Hk2.out.all | with_reducible exact Hk1.out.all | with_reducible exact (Hk0.out.ext ((Ext.refl V).drew)).all | with_reducible exact (Hk7.out.put (by omega) (by omega) (by omega) (.string s1) (.string s2)).all)
  (first
   | (have hpv:=Hk6;clear hpv;go_at_call 212;refine (Hmk.out _ _ _ Hk6.out.x Hw3_6.out Hw6_6.out).mono ?_;rintro e9 V7 ⟨rfl,hx7⟩;have Hk7:=hid (Hk6.out.ext hx7);have Hw1_7:=hid (Hw1_6.out.ext hx7);have Hw2_7:=hid (Hw2_6.out.ext hx7);have Hw3_7:=hid (Hw3_6.out.ext hx7);have Hw4_7:=hid (Hw4_6.out.ext hx7);have Hw5_7:=hid (Hw5_6.out.ext hx7);have Hw6_7:=hid (Hw6_6.out.ext hx7);clear hx7)
   | (have hpv:=Hk5;clear hpv;go_at_call 213;refine (Hm2.out _ _ _ Hw4_5.out Hw5_5.out).mono ?_;rintro e9 V6 ⟨v6,rfl,hw6,hx6⟩;obtain ⟨b6,a6,l6,c6,rfl,hw6⟩:=zg9 hw6;have Hk6:=hid (Hk5.out.ext hx6);have Hw1_6:=hid (Hw1_5.out.ext hx6);have Hw2_6:=hid (Hw2_5.out.ext hx6);have Hw3_6:=hid (Hw3_5.out.ext hx6);have Hw4_6:=hid (Hw4_5.out.ext hx6);have Hw5_6:=hid (Hw5_5.out.ext hx6);have Hw6_6:=hid hw6;clear hw6;clear hx6)
   | (have hpv:=Hk4;clear hpv;go_at_call 214;refine (Htd.out _).mono ?_;rintro e9 V5 ⟨v5,rfl,hw5,hx5⟩;obtain ⟨b5,a5,l5,c5,rfl,hw5⟩:=zg9 hw5;have Hk5:=hid (Hk4.out.ext hx5);have Hw1_5:=hid (Hw1_4.out.ext hx5);have Hw2_5:=hid (Hw2_4.out.ext hx5);have Hw3_5:=hid (Hw3_4.out.ext hx5);have Hw4_5:=hid (Hw4_4.out.ext hx5);have Hw5_5:=hid hw5;clear hw5;clear hx5)
   | (have hpv:=Hk3;clear hpv;go_at_call 214;refine (Htc.out _).mono ?_;rintro e9 V4 ⟨v4,rfl,hw4,hx4⟩;obtain ⟨b4,a4,l4,c4,rfl,hw4⟩:=zg9 hw4;have Hk4:=hid (Hk3.out.ext hx4);have Hw1_4:=hid (Hw1_3.out.ext hx4);have Hw2_4:=hid (Hw2_3.out.ext hx4);have Hw3_4:=hid (Hw3_3.out.ext hx4);have Hw4_4:=hid hw4;clear hw4;clear hx4)
   | (have hpv:=Hk2;clear hpv;go_at_call 213;refine (Hm1.out _ _ _ Hw1_2.out Hw2_2.out).mono ?_;rintro e9 V3 ⟨v3,rfl,hw3,hx3⟩;obtain ⟨b3,a3,l3,c3,rfl,hw3⟩:=zg9 hw3;have Hk3:=hid (Hk2.out.ext hx3);have Hw1_3:=hid (Hw1_2.out.ext hx3);have Hw2_3:=hid (Hw2_2.out.ext hx3);have Hw3_3:=hid hw3;clear hw3;clear hx3)
   | (have hpv:=Hk1;clear hpv;go_at_call 214;refine (Htb.out _).mono ?_;rintro e9 V2 ⟨v2,rfl,hw2,hx2⟩;obtain ⟨b2,a2,l2,c2,rfl,hw2⟩:=zg9 hw2;have Hk2:=hid (Hk1.out.ext hx2);have Hw1_2:=hid (Hw1_1.out.ext hx2);have Hw2_2:=hid hw2;clear hw2;clear hx2)
   | (have hpv:=Hk0;clear hpv;go_at_call 214;refine (Hta.out _).mono ?_;rintro e9 V1 ⟨v1,rfl,hw1,hx1⟩;obtain ⟨b1,a1,l1,c1,rfl,hw1⟩:=zg9 hw1;have Hk1:=hid (Hk0.out.ext (((Ext.refl V).drew).trans hx1));have Hw1_1:=hid hw1;clear hw1;clear hx1))
 all_goals
  obtain ⟨hb,hfx⟩:=Hk7.out.fin (by omega) (.string s1) (.string s2);have Hfx:=hid hfx;clear hfx;generalize (V7.setCell ⟨w.heap.size+1+1,0,none⟩ (.string s1)).setCell ⟨w.heap.size+1+1,1,none⟩ (.string s2)=W5 at *;have hd0:=hb.c0;have hd1:=hb.c1;go_wp2_with fail
  exact bodyPost_ret (v:=.agg #[.string s1,.string s2]) (by simp [results,Tryz.results151,go_sem,hd0,hd1]) rfl ⟨rfl,Hfx.out⟩
theorem zgN {a b:Rat}(h:a.den=b.den):a+b=mkRat (a.num+b.num) a.den:=by
 rw [Rat.add_def',← h,← Int.add_mul];exact Rat.mkRat_mul_right (by have:=a.den_pos;omega)
theorem zgO (a b:Rat)(w:World)(he:Env w)(h1:a.num.natAbs * b.den+b.num.natAbs * a.den<1000000000)(h2:a.den * b.den<1000000000)(h3:a.num.natAbs+b.num.natAbs<1000000000)(ha2:a.den<1000000000)(hb2:b.den<1000000000) :
  Calls Tryz.prog 266 #[Rv a,Rv b] w fun e w'=>e=.returned (Rv (a+b))∧Ext w w':=by
 have hta:=fun W=>zgx a.num W (by omega) (by omega);have htb:=fun W=>zgx b.num W (by omega) (by omega);have htc:=fun W=>zgx (a.den:Int) W (by omega) (by omega);have htd:=fun W=>zgx (b.den:Int) W (by omega) (by omega);by_cases hd:a.den=b.den
 ·have haw:=fun W va vb (h:W1 W va a.num)(k:W1 W vb b.num)=>zgB va vb a.num b.num W h k h3;have hmk:=fun W va vb (hE:Ext w W)(h:W1 W va (a.num+b.num))(k:W1 W vb (a.den:Int))=>zgJ va vb (a.num+b.num) a.den W (he.ext hE) h k (by omega) a.den_pos ha2;rw [← zgN hd] at hmk;have hdi:I (b.den:Int)=I (a.den:Int):=by rw [hd]
  unfold Rv at hmk ⊢;rw [hdi];generalize I (a+b).num=s1 at *;generalize I (((a+b).den:Nat):Int)=s2 at *;generalize I a.num=sa at *;generalize I b.num=sb at *;generalize I (a.den:Int)=sc at *;clear htd hdi;obtain ⟨sd,hsd⟩:∃ sd,sd=sc:=⟨_,rfl⟩;have hk2:=zdO 65 65 65 w (.string sa) (.string sc) (.string sb) (.string sc) (.string ⟨#[]⟩) (.string ⟨#[]⟩);generalize hV:((w.alloc (.cells #[.string sa,.string sc] 65)).alloc (.cells #[.string sb,.string sc] 65)).alloc (.cells #[.string ⟨#[]⟩,.string ⟨#[]⟩] 65)=V at *;have hk:=hk2.1;have p0:=hk.a.c0;have p1:=hk.a.c1;have q0:=hk.b.c0;have q1:=hk.b.c1;have Hk0:=hid hk;clear hk hk2;clear hsd;have Hta:=hid hta;have Htb:=hid htb;have Htc:=hid htc;have Haw:=hid haw;have Hmk:=hid hmk;clear hta htb htc haw hmk he h1 h2 h3 ha2 hb2 hd;go_enter Tryz.func266,Tryz.ntmps266
  go_wp2_with fail
  go_wp2_with fail
  go_region_held3 (fun w'=>K2 65 65 65 w w' w.heap.size (.string sa) (.string sc) (w.heap.size+1) (.string sb) (.string sc) (w.heap.size+1+1)∧w'.cell? ⟨w.heap.size,0,none⟩=some (.string sa)∧w'.cell? ⟨w.heap.size,1,none⟩=some (.string sc)∧w'.cell? ⟨w.heap.size+1,0,none⟩=some (.string sb)∧w'.cell? ⟨w.heap.size+1,1,none⟩=some (.string sc)∧w'.cell? ⟨w.heap.size+1+1,0,none⟩=some (zdC w' (w.heap.size+1+1) 0)∧w'.cell? ⟨w.heap.size+1+1,1,none⟩=some (zdC w' (w.heap.size+1+1) 1)∧w'.frozen? ⟨w.heap.size+1+1,0,none⟩=false∧w'.frozen? ⟨w.heap.size+1+1,1,none⟩=false)
   (first | with_reducible exact Hk5.out.all | with_reducible exact Hk4.out.all | with_reducible exact Hk3.out.all | with_reducible exact Hk2.out.all | with_reducible exact Hk1.out.all | with_reducible exact (Hk0.out.ext ((Ext.refl V).drew)).all | with_reducible exact (Hk5.out.put (by omega) (by omega) (by omega) (.string s1) (.string s2)).all)
   (first
    | (have hpv:=Hk4;clear hpv;go_at_call 212;refine (Hmk.out _ _ _ Hk4.out.x Hw3_4.out Hw4_4.out).mono ?_;rintro e9 V5 ⟨rfl,hx5⟩;have Hk5:=hid (Hk4.out.ext hx5);have Hw1_5:=hid (Hw1_4.out.ext hx5);have Hw2_5:=hid (Hw2_4.out.ext hx5);have Hw3_5:=hid (Hw3_4.out.ext hx5);have Hw4_5:=hid (Hw4_4.out.ext hx5);clear hx5)
    | (have hpv:=Hk3;clear hpv;go_at_call 214;refine (Htc.out _).mono ?_;rintro e9 V4 ⟨v4,rfl,hw4,hx4⟩;obtain ⟨b4,a4,l4,c4,rfl,hw4⟩:=zg9 hw4;have Hk4:=hid (Hk3.out.ext hx4);have Hw1_4:=hid (Hw1_3.out.ext hx4);have Hw2_4:=hid (Hw2_3.out.ext hx4);have Hw3_4:=hid (Hw3_3.out.ext hx4);have Hw4_4:=hid hw4;clear hw4;clear hx4)
    | (have hpv:=Hk2;clear hpv;go_at_call 309;refine (Haw.out _ _ _ Hw1_2.out Hw2_2.out).mono ?_;rintro e9 V3 ⟨v3,rfl,hw3,hx3⟩;obtain ⟨b3,a3,l3,c3,rfl,hw3⟩:=zg9 hw3;have Hk3:=hid (Hk2.out.ext hx3);have Hw1_3:=hid (Hw1_2.out.ext hx3);have Hw2_3:=hid (Hw2_2.out.ext hx3);have Hw3_3:=hid hw3;clear hw3;clear hx3)
    | (have hpv:=Hk1;clear hpv;go_at_call 214;refine (Htb.out _).mono ?_;rintro e9 V2 ⟨v2,rfl,hw2,hx2⟩;obtain ⟨b2,a2,l2,c2,rfl,hw2⟩:=zg9 hw2;have Hk2:=hid (Hk1.out.ext hx2);have Hw1_2:=hid (Hw1_1.out.ext hx2);have Hw2_2:=hid hw2;clear hw2;clear hx2)
    | (have hpv:=Hk0;clear hpv;go_at_call 214;refine (Hta.out _).mono ?_;rintro e9 V1 ⟨v1,rfl,hw1,hx1⟩;obtain ⟨b1,a1,l1,c1,rfl,hw1⟩:=zg9 hw1;have Hk1:=hid (Hk0.out.ext (((Ext.refl V).drew).trans hx1));have Hw1_1:=hid hw1;clear hw1;clear hx1))
  all_goals
   obtain ⟨hb,hfx⟩:=Hk5.out.fin (by omega) (.string s1) (.string s2);have Hfx:=hid hfx;clear hfx;generalize (V5.setCell ⟨w.heap.size+1+1,0,none⟩ (.string s1)).setCell ⟨w.heap.size+1+1,1,none⟩ (.string s2)=W5 at *;have hd0:=hb.c0;have hd1:=hb.c1;go_wp2_with fail
   exact bodyPost_ret (v:=.agg #[.string s1,.string s2]) (by simp [results,Tryz.results266,go_sem,hd0,hd1]) rfl ⟨rfl,Hfx.out⟩
 ·have hm1:=fun W va vb (h:W1 W va a.num)(k:W1 W vb (b.den:Int))=>zgD va vb a.num (b.den:Int) W h k (by rw [Int.natAbs_natCast];omega) (by omega) (by omega);have hm2:=fun W va vb (h:W1 W va b.num)(k:W1 W vb (a.den:Int))=>zgD va vb b.num (a.den:Int) W h k (by rw [Int.natAbs_natCast];omega) (by omega) (by omega);have hm3:=fun W va vb (h:W1 W va (a.den:Int))(k:W1 W vb (b.den:Int))=>zgD va vb (a.den:Int) (b.den:Int) W h k (by rw [Int.natAbs_natCast,Int.natAbs_natCast];exact h2) (by omega) (by omega);have hsum:(a.num * (b.den:Int)).natAbs+(b.num * (a.den:Int)).natAbs<1000000000:=by rw [Int.natAbs_mul,Int.natAbs_mul,Int.natAbs_natCast,Int.natAbs_natCast];exact h1
  have haw:=fun W va vb (h:W1 W va (a.num * (b.den:Int)))(k:W1 W vb (b.num * (a.den:Int)))=>zgB va vb (a.num * (b.den:Int)) (b.num * (a.den:Int)) W h k hsum;have hmk:=fun W va vb (hE:Ext w W)(h:W1 W va (a.num * (b.den:Int)+b.num * (a.den:Int)))(k:W1 W vb ((a.den:Int) * (b.den:Int)))=>zgJ va vb (a.num * (b.den:Int)+b.num * (a.den:Int)) (a.den * b.den) W (he.ext hE) h (by rw [Int.natCast_mul];exact k) (Nat.lt_of_le_of_lt (Int.natAbs_add_le _ _) hsum) (Nat.mul_pos a.den_pos b.den_pos) h2;rw [← Rat.add_def'] at hmk;have hnb:((I (a.den:Int)).toList == (I (b.den:Int)).toList)=false:=by rw [zb3];exact decide_eq_false (by omega)
  have hne:¬ (I (a.den:Int)).toList=(I (b.den:Int)).toList:=fun e=>by rw [e] at hnb;simp at hnb
  unfold Rv at hmk ⊢;generalize I (a+b).num=s1 at *;generalize I (((a+b).den:Nat):Int)=s2 at *;generalize I a.num=sa at *;generalize I b.num=sb at *;generalize I (a.den:Int)=sc at *;generalize I (b.den:Int)=sd at *;have hk2:=zdO 65 65 65 w (.string sa) (.string sc) (.string sb) (.string sd) (.string ⟨#[]⟩) (.string ⟨#[]⟩);generalize hV:((w.alloc (.cells #[.string sa,.string sc] 65)).alloc (.cells #[.string sb,.string sd] 65)).alloc (.cells #[.string ⟨#[]⟩,.string ⟨#[]⟩] 65)=V at *;have hk:=hk2.1;have p0:=hk.a.c0;have p1:=hk.a.c1;have q0:=hk.b.c0;have q1:=hk.b.c1;have Hk0:=hid hk;clear hk hk2;have Hta:=hid hta;have Htb:=hid htb;have Htc:=hid htc;have Htd:=hid htd;have Hm1:=hid hm1;have Hm2:=hid hm2;have Hm3:=hid hm3;have Haw:=hid haw;have Hmk:=hid hmk;clear hta htb htc htd hm1 hm2 hm3 haw hmk he h1 h2 h3 ha2 hb2 hd hsum;go_enter Tryz.func266,Tryz.ntmps266
  go_wp2_with fail
  go_wp2_with fail
  go_region_held3 (fun w'=>K2 65 65 65 w w' w.heap.size (.string sa) (.string sc) (w.heap.size+1) (.string sb) (.string sd) (w.heap.size+1+1)∧w'.cell? ⟨w.heap.size,0,none⟩=some (.string sa)∧w'.cell? ⟨w.heap.size,1,none⟩=some (.string sc)∧w'.cell? ⟨w.heap.size+1,0,none⟩=some (.string sb)∧w'.cell? ⟨w.heap.size+1,1,none⟩=some (.string sd)∧w'.cell? ⟨w.heap.size+1+1,0,none⟩=some (zdC w' (w.heap.size+1+1) 0)∧w'.cell? ⟨w.heap.size+1+1,1,none⟩=some (zdC w' (w.heap.size+1+1) 1)∧w'.frozen? ⟨w.heap.size+1+1,0,none⟩=false∧w'.frozen? ⟨w.heap.size+1+1,1,none⟩=false)
   (first | with_reducible exact Hk11.out.all | with_reducible exact Hk10.out.all | with_reducible exact Hk9.out.all | with_reducible exact Hk8.out.all | with_reducible exact Hk7.out.all | with_reducible exact Hk6.out.all | with_reducible exact Hk5.out.all | with_reducible exact Hk4.out.all | with_reducible exact Hk3.out.all | with_reducible exact Hk2.out.all | with_reducible exact Hk1.out.all | with_reducible exact (Hk0.out.ext ((Ext.refl V).drew)).all | with_reducible exact (Hk11.out.put (by omega) (by omega) (by omega) (.string s1) (.string s2)).all)
   (first
    | (have hpv:=Hk10;clear hpv;go_at_call 212;refine (Hmk.out _ _ _ Hk10.out.x Hw7_10.out Hw10_10.out).mono ?_;rintro e9 V11 ⟨rfl,hx11⟩;have Hk11:=hid (Hk10.out.ext hx11);have Hw1_11:=hid (Hw1_10.out.ext hx11);have Hw2_11:=hid (Hw2_10.out.ext hx11);have Hw3_11:=hid (Hw3_10.out.ext hx11);have Hw4_11:=hid (Hw4_10.out.ext hx11);have Hw5_11:=hid (Hw5_10.out.ext hx11);have Hw6_11:=hid (Hw6_10.out.ext hx11);have Hw7_11:=hid (Hw7_10.out.ext hx11);have Hw8_11:=hid (Hw8_10.out.ext hx11);have Hw9_11:=hid (Hw9_10.out.ext hx11);have Hw10_11:=hid (Hw10_10.out.ext hx11);clear hx11)
    | (have hpv:=Hk9;clear hpv;go_at_call 213;refine (Hm3.out _ _ _ Hw8_9.out Hw9_9.out).mono ?_;rintro e9 V10 ⟨v10,rfl,hw10,hx10⟩;obtain ⟨b10,a10,l10,c10,rfl,hw10⟩:=zg9 hw10;have Hk10:=hid (Hk9.out.ext hx10);have Hw1_10:=hid (Hw1_9.out.ext hx10);have Hw2_10:=hid (Hw2_9.out.ext hx10);have Hw3_10:=hid (Hw3_9.out.ext hx10);have Hw4_10:=hid (Hw4_9.out.ext hx10);have Hw5_10:=hid (Hw5_9.out.ext hx10);have Hw6_10:=hid (Hw6_9.out.ext hx10);have Hw7_10:=hid (Hw7_9.out.ext hx10);have Hw8_10:=hid (Hw8_9.out.ext hx10);have Hw9_10:=hid (Hw9_9.out.ext hx10);have Hw10_10:=hid hw10;clear hw10;clear hx10)
    | (have hpv:=Hk8;clear hpv;go_at_call 214;refine (Htd.out _).mono ?_;rintro e9 V9 ⟨v9,rfl,hw9,hx9⟩;obtain ⟨b9,a9,l9,c9,rfl,hw9⟩:=zg9 hw9;have Hk9:=hid (Hk8.out.ext hx9);have Hw1_9:=hid (Hw1_8.out.ext hx9);have Hw2_9:=hid (Hw2_8.out.ext hx9);have Hw3_9:=hid (Hw3_8.out.ext hx9);have Hw4_9:=hid (Hw4_8.out.ext hx9);have Hw5_9:=hid (Hw5_8.out.ext hx9);have Hw6_9:=hid (Hw6_8.out.ext hx9);have Hw7_9:=hid (Hw7_8.out.ext hx9);have Hw8_9:=hid (Hw8_8.out.ext hx9);have Hw9_9:=hid hw9;clear hw9;clear hx9)
    | (have hpv:=Hk7;clear hpv;go_at_call 214;refine (Htc.out _).mono ?_;rintro e9 V8 ⟨v8,rfl,hw8,hx8⟩;obtain ⟨b8,a8,l8,c8,rfl,hw8⟩:=zg9 hw8;have Hk8:=hid (Hk7.out.ext hx8);have Hw1_8:=hid (Hw1_7.out.ext hx8);have Hw2_8:=hid (Hw2_7.out.ext hx8);have Hw3_8:=hid (Hw3_7.out.ext hx8);have Hw4_8:=hid (Hw4_7.out.ext hx8);have Hw5_8:=hid (Hw5_7.out.ext hx8);have Hw6_8:=hid (Hw6_7.out.ext hx8);have Hw7_8:=hid (Hw7_7.out.ext hx8);have Hw8_8:=hid hw8;clear hw8;clear hx8)
    | (have hpv:=Hk6;clear hpv;go_at_call 309;refine (Haw.out _ _ _ Hw3_6.out Hw6_6.out).mono ?_;rintro e9 V7 ⟨v7,rfl,hw7,hx7⟩;obtain ⟨b7,a7,l7,c7,rfl,hw7⟩:=zg9 hw7;have Hk7:=hid (Hk6.out.ext hx7);have Hw1_7:=hid (Hw1_6.out.ext hx7);have Hw2_7:=hid (Hw2_6.out.ext hx7);have Hw3_7:=hid (Hw3_6.out.ext hx7);have Hw4_7:=hid (Hw4_6.out.ext hx7);have Hw5_7:=hid (Hw5_6.out.ext hx7);have Hw6_7:=hid (Hw6_6.out.ext hx7);have Hw7_7:=hid hw7;clear hw7;clear hx7)
    | (have hpv:=Hk5;clear hpv;go_at_call 213;refine (Hm2.out _ _ _ Hw4_5.out Hw5_5.out).mono ?_;rintro e9 V6 ⟨v6,rfl,hw6,hx6⟩;obtain ⟨b6,a6,l6,c6,rfl,hw6⟩:=zg9 hw6;have Hk6:=hid (Hk5.out.ext hx6);have Hw1_6:=hid (Hw1_5.out.ext hx6);have Hw2_6:=hid (Hw2_5.out.ext hx6);have Hw3_6:=hid (Hw3_5.out.ext hx6);have Hw4_6:=hid (Hw4_5.out.ext hx6);have Hw5_6:=hid (Hw5_5.out.ext hx6);have Hw6_6:=hid hw6;clear hw6;clear hx6)
    | (have hpv:=Hk4;clear hpv;go_at_call 214;refine (Htc.out _).mono ?_;rintro e9 V5 ⟨v5,rfl,hw5,hx5⟩;obtain ⟨b5,a5,l5,c5,rfl,hw5⟩:=zg9 hw5;have Hk5:=hid (Hk4.out.ext hx5);have Hw1_5:=hid (Hw1_4.out.ext hx5);have Hw2_5:=hid (Hw2_4.out.ext hx5);have Hw3_5:=hid (Hw3_4.out.ext hx5);have Hw4_5:=hid (Hw4_4.out.ext hx5);have Hw5_5:=hid hw5;clear hw5;clear hx5)
    | (have hpv:=Hk3;clear hpv;go_at_call 214;refine (Htb.out _).mono ?_;rintro e9 V4 ⟨v4,rfl,hw4,hx4⟩;obtain ⟨b4,a4,l4,c4,rfl,hw4⟩:=zg9 hw4;have Hk4:=hid (Hk3.out.ext hx4);have Hw1_4:=hid (Hw1_3.out.ext hx4);have Hw2_4:=hid (Hw2_3.out.ext hx4);have Hw3_4:=hid (Hw3_3.out.ext hx4);have Hw4_4:=hid hw4;clear hw4;clear hx4)
    | (have hpv:=Hk2;clear hpv;go_at_call 213;refine (Hm1.out _ _ _ Hw1_2.out Hw2_2.out).mono ?_;rintro e9 V3 ⟨v3,rfl,hw3,hx3⟩;obtain ⟨b3,a3,l3,c3,rfl,hw3⟩:=zg9 hw3;have Hk3:=hid (Hk2.out.ext hx3);have Hw1_3:=hid (Hw1_2.out.ext hx3);have Hw2_3:=hid (Hw2_2.out.ext hx3);have Hw3_3:=hid hw3;clear hw3;clear hx3)
    | (have hpv:=Hk1;clear hpv;go_at_call 214;refine (Htd.out _).mono ?_;rintro e9 V2 ⟨v2,rfl,hw2,hx2⟩;obtain ⟨b2,a2,l2,c2,rfl,hw2⟩:=zg9 hw2;have Hk2:=hid (Hk1.out.ext hx2);have Hw1_2:=hid (Hw1_1.out.ext hx2);have Hw2_2:=hid hw2;clear hw2;clear hx2)
    | (have hpv:=Hk0;clear hpv;go_at_call 214;refine (Hta.out _).mono ?_;rintro e9 V1 ⟨v1,rfl,hw1,hx1⟩;obtain ⟨b1,a1,l1,c1,rfl,hw1⟩:=zg9 hw1;have Hk1:=hid (Hk0.out.ext (((Ext.refl V).drew).trans hx1));have Hw1_1:=hid hw1;clear hw1;clear hx1))
  all_goals
   obtain ⟨hb,hfx⟩:=Hk11.out.fin (by omega) (.string s1) (.string s2);have Hfx:=hid hfx;clear hfx;generalize (V11.setCell ⟨w.heap.size+1+1,0,none⟩ (.string s1)).setCell ⟨w.heap.size+1+1,1,none⟩ (.string s2)=W5 at *;have hd0:=hb.c0;have hd1:=hb.c1;go_wp2_with fail
   exact bodyPost_ret (v:=.agg #[.string s1,.string s2]) (by simp [results,Tryz.results266,go_sem,hd0,hd1]) rfl ⟨rfl,Hfx.out⟩
def Sn (r:Rat):Prop:=r.num.natAbs≤30000∧r.den≤1000
theorem Sn.add {a b:Rat}(ha:Sn a)(hb:Sn b):a.num.natAbs * b.den+b.num.natAbs * a.den<1000000000∧a.den * b.den<1000000000∧a.num.natAbs+b.num.natAbs<1000000000∧a.den<1000000000∧b.den<1000000000:=by
 have h1:a.num.natAbs * b.den≤30000 * 1000:=Nat.mul_le_mul ha.1 hb.2;have h2:b.num.natAbs * a.den≤30000 * 1000:=Nat.mul_le_mul hb.1 ha.2;have h3:a.den * b.den≤1000 * 1000:=Nat.mul_le_mul ha.2 hb.2;have h4:=ha.1;have h5:=ha.2;have h6:=hb.1;have h7:=hb.2;omega
theorem Sn.mul {a b:Rat}(ha:Sn a)(hb:Sn b):a.num.natAbs * b.num.natAbs<1000000000∧a.den * b.den<1000000000∧a.num.natAbs<1000000000∧b.num.natAbs<1000000000∧a.den<1000000000∧b.den<1000000000:=by
 have h1:a.num.natAbs * b.num.natAbs≤30000 * 30000:=Nat.mul_le_mul ha.1 hb.1;have h3:a.den * b.den≤1000 * 1000:=Nat.mul_le_mul ha.2 hb.2;have h4:=ha.1;have h5:=ha.2;have h6:=hb.1;have h7:=hb.2;omega
theorem zgP (w:World)(x y:Value)(t:TypeId):∀ j u,[x,y][j]?=some u→(w.alloc (.cells #[x,y] t)).cell? ((⟨w.heap.size,0,none⟩:Addr).add j)=some u:=by
 intro j u hj;have h:=World.alloc_heap_new w (.cells #[x,y] t);rw [show ((⟨w.heap.size,0,none⟩:Addr).add j)=⟨w.heap.size,j,none⟩ by unfold Addr.add;split <;> simp_all]
 unfold World.cell?;dsimp only;rw [h];have hlt:j<2:=(List.getElem?_eq_some_iff.1 hj).1;rcases (by omega:j=0∨j=1) with rfl | rfl
 ·cases hj;rfl
 ·cases hj;rfl
theorem zgQ {x y:List Rat}{k:Nat}{a b:Rat}(ha:x[k]?=some a)(hb:y[k]?=some b):(zeN x y).take (k+1)=(zeN x y).take k++[a+b]:=by
 have h:(zeN x y)[k]?=some (a+b):=by
  unfold zeN;rw [List.getElem?_zipWith,ha,hb]
 obtain ⟨hk,e⟩:=List.getElem?_eq_some_iff.1 h;rw [List.take_succ_eq_append_getElem hk,e]
theorem zgR {x:List Rat}{k:Nat}{a:Rat}(q:Rat)(ha:x[k]?=some a):(zeP x q).take (k+1)=(zeP x q).take k++[a * q]:=by
 have h:(zeP x q)[k]?=some (a * q):=by
  unfold zeP;rw [List.getElem?_map,ha];rfl
 obtain ⟨hk,e⟩:=List.getElem?_eq_some_iff.1 h;rw [List.take_succ_eq_append_getElem hk,e]
theorem zgS (va vb:Value)(x y:List Rat)(w:World)(he:Env w)(ha:Rd w va x)(hb:Rd w vb y)(hl:x.length=y.length)(hx9:x.length≤1000)(hx:∀ r∈x,Sn r)(hy:∀ r∈y,Sn r) :
  Calls Tryz.prog 210 #[va,vb] w fun e w'=>∃ u,e=.returned u∧zf2 w' w.heap.size u (zeN x y)∧Ext w w':=by
 obtain ⟨i0,hi,hz0,hz1,hz2⟩:=info_parts zf3;have had:=fun (a b:Rat)(h:a∈x)(k:b∈y) W (hE:Ext w W)=>zgO a b W (he.ext hE) (Sn.add (hx a h) (hy b k)).1 (Sn.add (hx a h) (hy b k)).2.1 (Sn.add (hx a h) (hy b k)).2.2.1 (Sn.add (hx a h) (hy b k)).2.2.2.1 (Sn.add (hx a h) (hy b k)).2.2.2.2;obtain ⟨aa,ca,rfl,_,_,hca⟩:=ha.parts;obtain ⟨ab,cb,rfl,_,_,hcb⟩:=hb.parts;have hzl:(zeN x y).length=x.length:=by unfold zeN;rw [List.length_zipWith,← hl,Nat.min_self]
 have hnx:∀ k,k<x.length→∃ a b,x[k]?=some a∧y[k]?=some b∧a∈x∧b∈y:=fun k hk=>⟨_,_,List.getElem?_eq_getElem hk,List.getElem?_eq_getElem (by omega),List.getElem_mem _,List.getElem_mem _⟩;rw [← hl];generalize hn:x.length=n at *;have Had:=hid had;have Hca:=hid hca;have Hcb:=hid hcb;have Hzl:=hid hzl;have Hnx:=hid hnx;clear ha hb he hx hy had hca hcb hzl hnx hl hn;go_enter Tryz.func210,Tryz.ntmps210
 go_wp2_with fail
 go_loopw [5,6,9] (fun v5 v6 v9 wr=>∃ k:Nat,v9=.int .i64 k∧k≤n∧wr.ownsRow w.heap.size 65 2 v5 k (rcs ((zeN x y).take k))∧Hid (Ext w wr)) (fun _ _ v9 _=>n - (zam v9).toNat)
 case atStart=>exact ⟨0,rfl,Nat.zero_le _,World.ownsRow_nil w _ _ 2,hid (Ext.refl _)⟩
 case round =>
  obtain ⟨k,rfl,hk,ho,HE⟩:=hrel;obtain ⟨a5,c5,rfl⟩:=zec ho;by_cases hkn:k<n
  ·obtain ⟨a,b,hxa,hyb,hma,hmb⟩:=Hnx.out k hkn;obtain ⟨ba,oa,rfl,h0,h1⟩:=Hca.out k a hxa;obtain ⟨bb,ob,rfl,h2,h3⟩:=Hcb.out k b hyb;have htk:=zgQ hxa hyb;have hcl:=fun W (hE:Ext w W)=>Had.out a b hma hmb W hE;unfold Rv at hcl;generalize hs1:I (a+b).num=s1 at *;generalize hs2:I (((a+b).den:Nat):Int)=s2 at *;have hrn:rcs ((zeN x y).take (k+1))=rcs ((zeN x y).take k)++[.string s1,.string s2]:=(by rw [htk,zfz,hs1,hs2]);have Hrn:=hid hrn;clear hrn hs1 hs2 htk;generalize I a.num=sa at *;generalize I (a.den:Int)=sc at *;generalize I b.num=sb at *;generalize I (b.den:Int)=sd at *;have hk0:(0:Int)≤(k:Int):=(by omega);have hk1:(k:Int)<(n:Int):=(by omega);have c0:=HE.out.cell h0;have c1:=HE.out.cell h1;have c2:=HE.out.cell h2;have c3:=HE.out.cell h3;have hm3:k+1≤maxLen:=(by unfold maxLen;omega);have hm4:(k+1) * 32≤140737488355328:=(by omega);have hS:=fun W (h:Ext w W)=>(⟨h,h.cell h0,h.cell h1,h.cell h2,h.cell h3⟩:Ext w W∧W.cell? _=_∧W.cell? _=_∧W.cell? _=_∧W.cell? _=_);have HS:=hid hS;have Hcl:=hid hcl;have Ho:=hid ho;clear hS hcl ho h0 h1 h2 h3 hxa hyb hma hmb;go_wp2_with fail
   go_region_held3 (fun w'=>Ext w w'∧w'.cell? ⟨ba,oa+k * 2,none⟩=some (.string sa)∧w'.cell? ⟨ba,oa+k * 2+1,none⟩=some (.string sc)∧w'.cell? ⟨bb,ob+k * 2,none⟩=some (.string sb)∧w'.cell? ⟨bb,ob+k * 2+1,none⟩=some (.string sd))
    (first | with_reducible exact HS.out _ HEV.out | with_reducible exact HS.out _ (HEA.out.alloc _) | with_reducible exact HS.out _ HEA.out | with_reducible exact HS.out _ HE.out.drew)
    (first
     | (have hpv:=HEA;clear hpv;refine step_append_lies _ rfl (.tmp 12) (.tmp 22) 41 rfl w.heap.size 65 i0 (.agg #[.string ByteArray.empty,.string ByteArray.empty]) 2 32 Tryz.underlying41 hi hz0 hz1 hz2 rfl (by decide) (.slice a5 k c5) k (rcs ((zeN x y).take k)) (by simp [Act.eval]) (HoA.out.alloc _) ⟨VA.heap.size,0,none⟩ 1 1 [.string s1,.string s2] (by simp [Act.eval]) rfl (zgP VA _ _ _) (by simp [Value.oneCell']) (by decide) hm3 hm4 (HEA.out.alloc (.cells #[.string s1,.string s2] 65)).size _ rfl ?_;intro g1 cc1 V1 hown1 hgrow1 hat1 hlt1;have HEV:=hid ((HEA.out.alloc _).grown hgrow1 fun j hj=>(World.ownsRow.lt (HoA.out.alloc (.cells #[.string s1,.string s2] 65)) j hj).1);have Hown1:=hid hown1;clear hown1 hgrow1 hat1 hlt1)
     | (go_at_call 266;refine (Hcl.out _ HE.out.drew).mono ?_;rintro e9 VA ⟨rfl,hxa⟩;have HEA:=hid (HE.out.drew.trans hxa);have HoA:=hid ((((Ext.refl wr).drew).trans hxa).own Ho.out);clear hxa))
   all_goals
    clear c0 c1 c2 c3;go_wp2_with fail
    go_roundw
    case rel=>exact ⟨k+1,by go_num,by omega,by rw [Hrn.out];exact Hown1.out,HEV⟩
    case measure=>simp [zam];omega
  ·obtain rfl:n=k:=by omega
   rw [List.take_of_length_le (by rw [Hzl.out];exact Nat.le_refl _)] at ho;have Ho:=hid ho;clear ho;go_wp2
   go_ret
   exact ⟨_,rfl,by unfold zf2;rw [Hzl.out];exact Ho.out,HE.out⟩
theorem zgT (va:Value)(x:List Rat)(q:Rat)(w:World)(he:Env w)(ha:Rd w va x)(hx9:x.length≤1000)(hx:∀ r∈x,Sn r)(hq:Sn q) :
  Calls Tryz.prog 87 #[va,Rv q] w fun e w'=>∃ u,e=.returned u∧zf2 w' w.heap.size u (zeP x q)∧Ext w w':=by
 obtain ⟨i0,hi,hz0,hz1,hz2⟩:=info_parts zf3;have had:=fun (a:Rat)(h:a∈x) W (hE:Ext w W)=>zgM a q W (he.ext hE) (Sn.mul (hx a h) hq).1 (Sn.mul (hx a h) hq).2.1 (Sn.mul (hx a h) hq).2.2.1 (Sn.mul (hx a h) hq).2.2.2.1 (Sn.mul (hx a h) hq).2.2.2.2.1 (Sn.mul (hx a h) hq).2.2.2.2.2;obtain ⟨aa,ca,rfl,_,_,hca⟩:=ha.parts;have hzl:(zeP x q).length=x.length:=by unfold zeP;rw [List.length_map]
 have hnx:∀ k,k<x.length→∃ a,x[k]?=some a∧a∈x:=fun k hk=>⟨_,List.getElem?_eq_getElem hk,List.getElem_mem _⟩;have hbx:=zdM.new 65 w (.string (I q.num)) (.string (I (q.den:Int)));unfold Rv at had ⊢;generalize I q.num=sb at *;generalize I (q.den:Int)=sd at *;have hE0:Ext w (w.alloc (.cells #[.string sb,.string sd] 65)):=(Ext.refl w).alloc _;have hsz:(w.alloc (.cells #[.string sb,.string sd] 65)).heap.size=w.heap.size+1:=World.size_alloc ..;generalize hn:x.length=n at *;have Had:=hid had;have Hca:=hid hca;have Hzl:=hid hzl;have Hnx:=hid hnx;have HE0:=hid hE0;have Hbx:=hid hbx;have Hsz:=hid hsz;clear ha he hx had hca hzl hnx hn hE0 hbx hq hsz;go_enter Tryz.func87,Tryz.ntmps87
 go_wp2_with fail
 generalize hV:w.alloc (.cells #[.string sb,.string sd] 65)=V at *;go_loopw [5,6,9] (fun v5 v6 v9 wr=>∃ k:Nat,v9=.int .i64 k∧k≤n∧wr.ownsRow V.heap.size 65 2 v5 k (rcs ((zeP x q).take k))∧Hid (Ext V wr)) (fun _ _ v9 _=>n - (zam v9).toNat)
 case atStart=>exact ⟨0,rfl,Nat.zero_le _,World.ownsRow_nil V _ _ 2,hid (Ext.refl _)⟩
 case round =>
  obtain ⟨k,rfl,hk,ho,HE⟩:=hrel;obtain ⟨a5,c5,rfl⟩:=zec ho;by_cases hkn:k<n
  ·obtain ⟨a,hxa,hma⟩:=Hnx.out k hkn;obtain ⟨ba,oa,rfl,h0,h1⟩:=Hca.out k a hxa;have htk:=zgR q hxa;have hcl:=fun W (hE:Ext w W)=>Had.out a hma W hE;generalize hs1:I (a * q).num=s1 at *;generalize hs2:I (((a * q).den:Nat):Int)=s2 at *;have hrn:rcs ((zeP x q).take (k+1))=rcs ((zeP x q).take k)++[.string s1,.string s2]:=(by rw [htk,zfz,hs1,hs2]);have Hrn:=hid hrn;clear hrn hs1 hs2 htk;generalize I a.num=sa at *;generalize I (a.den:Int)=sc at *;have hk0:(0:Int)≤(k:Int):=(by omega);have hk1:(k:Int)<(n:Int):=(by omega);have h0:=HE0.out.cell h0;have h1:=HE0.out.cell h1;have c0:=HE.out.cell h0;have c1:=HE.out.cell h1;have c2:=(Hbx.out.ext HE.out).c0;have c3:=(Hbx.out.ext HE.out).c1;have hm3:k+1≤maxLen:=(by unfold maxLen;omega);have hm4:(k+1) * 32≤140737488355328:=(by omega);have hS:=fun W (h:Ext V W)=>(⟨h,h.cell h0,h.cell h1,(Hbx.out.ext h).c0,(Hbx.out.ext h).c1⟩:Ext V W∧W.cell? _=_∧W.cell? _=_∧W.cell? _=_∧W.cell? _=_);have HS:=hid hS;have Hcl:=hid hcl;have Ho:=hid ho;clear hS hcl ho h0 h1 hxa hma;go_wp2_with fail
   go_region_held3 (fun w'=>Ext V w'∧w'.cell? ⟨ba,oa+k * 2,none⟩=some (.string sa)∧w'.cell? ⟨ba,oa+k * 2+1,none⟩=some (.string sc)∧w'.cell? ⟨w.heap.size,0,none⟩=some (.string sb)∧w'.cell? ⟨w.heap.size,1,none⟩=some (.string sd))
    (first | with_reducible exact HS.out _ HEV.out | with_reducible exact HS.out _ (HEA.out.alloc _) | with_reducible exact HS.out _ HEA.out | with_reducible exact HS.out _ HE.out.drew)
    (first
     | (have hpv:=HEA;clear hpv;refine step_append_lies _ rfl (.tmp 12) (.tmp 19) 41 rfl V.heap.size 65 i0 (.agg #[.string ByteArray.empty,.string ByteArray.empty]) 2 32 Tryz.underlying41 hi hz0 hz1 hz2 rfl (by decide) (.slice a5 k c5) k (rcs ((zeP x q).take k)) (by simp [Act.eval]) (HoA.out.alloc _) ⟨VA.heap.size,0,none⟩ 1 1 [.string s1,.string s2] (by simp [Act.eval]) rfl (zgP VA _ _ _) (by simp [Value.oneCell']) (by decide) hm3 hm4 (HEA.out.alloc (.cells #[.string s1,.string s2] 65)).size _ rfl ?_;intro g1 cc1 V1 hown1 hgrow1 hat1 hlt1;have HEV:=hid ((HEA.out.alloc _).grown hgrow1 fun j hj=>(World.ownsRow.lt (HoA.out.alloc (.cells #[.string s1,.string s2] 65)) j hj).1);have Hown1:=hid hown1;clear hown1 hgrow1 hat1 hlt1)
     | (go_at_call 151;refine (Hcl.out _ (HE0.out.trans HE.out.drew)).mono ?_;rintro e9 VA ⟨rfl,hxa⟩;have HEA:=hid (HE.out.drew.trans hxa);have HoA:=hid ((((Ext.refl wr).drew).trans hxa).own Ho.out);clear hxa))
   all_goals
    clear c0 c1 c2 c3;go_wp2_with fail
    go_roundw
    case rel=>exact ⟨k+1,by go_num,by omega,by rw [Hrn.out];exact Hown1.out,HEV⟩
    case measure=>simp [zam];omega
  ·obtain rfl:n=k:=by omega
   rw [List.take_of_length_le (by rw [Hzl.out];exact Nat.le_refl _)] at ho;have Ho:=hid ho;clear ho;go_wp2
   go_ret
   exact ⟨_,rfl,zan (by rw [Hzl.out];exact Ho.out) HE0.out.size,HE0.out.trans HE.out⟩
theorem zgU : mkRat (-1) 1=-1:=by rw [Rat.mkRat_one];rfl
theorem zgV : ∀ {x y:List Rat},zeN x (zeP y (-1))=zeO x y
 | [],y=>by simp [zeN,zeO]
 | a::x,[]=>by simp [zeN,zeO,zeP]
 | a::x,b::y=>by
  have ih:=zgV (x:=x) (y:=y);unfold zeN zeO zeP at ih ⊢;rw [List.map_cons,List.zipWith_cons_cons,List.zipWith_cons_cons,ih];congr 1;grind
theorem Sn.neg {r:Rat}(h:Sn r):Sn (r * -1):=by
 have e:r * -1=-r:=by grind
 rw [e];unfold Sn;rw [Rat.neg_num,Rat.neg_den,Int.natAbs_neg];exact h
theorem zgW : Sn (-1):=by unfold Sn;decide
theorem zgX : Sn 1:=by unfold Sn;decide
theorem zgY (va vb:Value)(x y:List Rat)(w:World)(he:Env w)(ha:Rd w va x)(hb:Rd w vb y)(hl:x.length=y.length)(hx9:x.length≤1000)(hx:∀ r∈x,Sn r)(hy:∀ r∈y,Sn r) :
  Calls Tryz.prog 146 #[va,vb] w fun e w'=>∃ u,e=.returned u∧zf2 w' w.heap.size u (zeO x y)∧Ext w w':=by
 have hof:=fun W (hE:Ext w W)=>zgL (-1) 1 W (he.ext hE) (by decide) (by decide) (by decide);rw [zgU] at hof;have hti:=fun W (hE:Ext w W)=>zgT vb y (-1) W (he.ext hE) (hE.rd hb) (by omega) hy zgW;have had:=fun W vc (hE:Ext w W)(hc:Rd W vc (zeP y (-1)))=>zgS va vc x (zeP y (-1)) W (he.ext hE) (hE.rd ha) hc (by unfold zeP;rw [List.length_map];exact hl) hx9 hx (fun r hr=>by
  unfold zeP at hr;obtain ⟨s,hs,rfl⟩:=List.mem_map.1 hr;exact (hy s hs).neg)
 rw [zgV] at had;obtain ⟨aa,ca,rfl,_,_,_⟩:=ha.parts;obtain ⟨ab,cb,rfl,_,_,_⟩:=hb.parts;rw [hl] at *;generalize y.length=n at *;unfold Rv at hof hti;generalize I (-1:Rat).num=s1 at *;generalize I (((-1:Rat).den:Nat):Int)=s2 at *;have Hof:=hid hof;have Hti:=hid hti;have Had:=hid had;clear ha hb he hx hy hof hti had hl;go_enter Tryz.func146,Tryz.ntmps146
 go_wp2_with fail
 refine (Hof.out w (Ext.refl w)).mono ?_;rintro e w1 ⟨rfl,hx1⟩;have Hx1:=hid hx1;clear hx1;go_wp2_with fail
 refine (Hti.out w1 Hx1.out).mono ?_;rintro e w2 ⟨u2,rfl,ho2,hx2⟩;obtain ⟨a2,c2,rfl,_,_,_⟩:=ho2.rd.parts;have had2:=Had.out w2 _ (Hx1.out.trans hx2) ho2.rd;have Had2:=hid had2;have Hx2:=hid (Hx1.out.trans hx2);clear had2 hx2 ho2;generalize (zeP y (-1)).length=n2 at *;go_wp2_with fail
 refine Had2.out.mono ?_;rintro e w3 ⟨u3,rfl,ho3,hx3⟩;have Ho3:=hid (ho3.mono Hx2.out.size);have Hx3:=hid (Hx2.out.trans hx3);clear ho3 hx3;go_wp2
 go_ret
 exact ⟨_,rfl,Ho3.out,Hx3.out⟩
end
section
open Go.RowKit Go.Lib Go.Shelf
def zgZ (w : World) : Prop := ∃ tp p, w.var? Tryz.prog "strconv.ErrRange" = some #[.iface tp p]
theorem zha : Tryz.prog.globalNamed "strconv.ErrRange" = some 3 := by kernel_rfl
theorem zgZ.ext {w w':World}(h:zgZ w)(hx:Ext w w'):zgZ w':=by
 obtain ⟨tp,p,h⟩:=h;refine ⟨tp,p,var?_below hx zha ?_ h⟩;unfold World.var? at h;rw [zha] at h;rcases Nat.lt_or_ge 3 w.heap.size with g | g
 ·exact g
 ·have e:w.heap[3]?=none:=Array.getElem?_eq_none g;simp [e] at h
theorem zhb (z:Int)(w:World)(h0:-9223372036854775808≤z)(h1:z≤9223372036854775807) :
  Calls Tryz.prog 321 #[.string (I z)] w fun e w'=>e=.returned (.tuple #[.int .i64 z,.bool true])∧Ext w w':=by
 have hs:(I z).size≤9223372036854775806:=by
  show (itoa z).toArray.size≤_;rw [List.size_toArray];unfold itoa;split
  ·rw [List.length_cons,decDigits_length];have:=Dec.nDigits_le (n:=z.natAbs) (k:=20) (by omega) (by omega);omega
  ·rw [decDigits_length];have:=Dec.nDigits_le (n:=z.toNat) (k:=20) (by omega) (by omega);omega
 have hp:=Any.strconv_ParseInt_10_at64_ok Tryz.lParseInt (I z) hs z (by rw [Lib.parseIntB_64];exact zaG z h0 h1) w;have hp2:Calls Tryz.prog 342 #[.string (I z),.int .i64 10,.int .i64 64] w fun e w'=>e=.returned (.tuple #[.int .i64 z,.nilIface])∧Ext w w':=hp.mono fun e w' ⟨h,hw⟩=>⟨h,by
  rcases hw with rfl | ⟨t,rfl⟩
  ·exact Ext.refl _
  ·exact Ext.bytes _ _ _⟩
 have Hp:=hid hp2;clear hp hp2 hs;go_enter Tryz.func321,Tryz.ntmps321
 go_wp2_with fail
 refine Hp.out.mono ?_;rintro e w1 ⟨rfl,hx1⟩;have Hx1:=hid hx1;clear hx1;go_wp2
 go_ret2
 exact ⟨rfl,Hx1.out⟩
end
end Go.Proofs.YtiameffonflhgaaGreatDoor
