/- Walks: schismaref03's Add and Mul of small fractions. Walks: law 31's add, times, less. Walk: scale.Chain of at most nine links. Walks: law 31's whole, octave, multiples. -/
import Derived.Test.YtebabancfnmfjaaGreatDoorPq22
import Derived.Test.YtebabancfnmfjaaGreatDoorPq07
import Derived.Test.YtebabancfnmfjaaGreatDoorPq09
import Derived.Test.YtebabancfnmfjaaGreatDoorPq18
set_option maxRecDepth 100000
set_option maxHeartbeats 800000
namespace Go.Proofs.YtebabancfnmfjaaGreatDoor
open Go.RowKit Go.Lib Go.Shelf
attribute [local go_sem] Oper.semAt_some
theorem zkB (a b:Rat)(w:World)(he:Env w)(h1:a.num.natAbs * b.num.natAbs<1000000000)(h2:a.den * b.den<1000000000)(ha:a.num.natAbs<1000000000)(hb:b.num.natAbs<1000000000)(ha2:a.den<1000000000)(hb2:b.den<1000000000) :
  Calls Tryz.prog 138 #[Rv a,Rv b] w fun e w'=>e=.returned (Rv (a * b))∧Ext w w':=by
 have hta:=fun W=>zkm a.num W (by omega) (by omega);have htb:=fun W=>zkm b.num W (by omega) (by omega);have htc:=fun W=>zkm (a.den:Int) W (by omega) (by omega);have htd:=fun W=>zkm (b.den:Int) W (by omega) (by omega);have hm1:=fun W va vb (h:W1 W va a.num)(k:W1 W vb b.num)=>zk2 va vb a.num b.num W h k h1 ha hb;have hm2:=fun W va vb (h:W1 W va (a.den:Int))(k:W1 W vb (b.den:Int))=>zk2 va vb (a.den:Int) (b.den:Int) W h k (by rw [Int.natAbs_natCast,Int.natAbs_natCast];exact h2) (by omega) (by omega);have hmk:=fun W va vb (hE:Ext w W)(h:W1 W va (a.num * b.num))(k:W1 W vb ((a.den:Int) * (b.den:Int)))=>zk8 va vb (a.num * b.num) (a.den * b.den) W (he.ext hE) h (by rw [Int.natCast_mul];exact k) (by rw [Int.natAbs_mul];exact h1) (Nat.mul_pos a.den_pos b.den_pos) h2;rw [← Rat.mul_def'] at hmk;unfold Rv at hmk ⊢;generalize I (a * b).num=s1 at *;generalize I (((a * b).den:Nat):Int)=s2 at *;generalize I a.num=sa at *;generalize I b.num=sb at *;generalize I (a.den:Int)=sc at *;generalize I (b.den:Int)=sd at *;have hk2:=zjn 65 65 65 w (.string sa) (.string sc) (.string sb) (.string sd) (.string ⟨#[]⟩) (.string ⟨#[]⟩);generalize hV:((w.alloc (.cells #[.string sa,.string sc] 65)).alloc (.cells #[.string sb,.string sd] 65)).alloc (.cells #[.string ⟨#[]⟩,.string ⟨#[]⟩] 65)=V at *;have hk:=hk2.1;have p0:=hk.a.c0;have p1:=hk.a.c1;have q0:=hk.b.c0;have q1:=hk.b.c1;have Hk0:=hid hk;clear hk hk2;have Hta:=hid hta;have Htb:=hid htb;have Htc:=hid htc;have Htd:=hid htd;have Hm1:=hid hm1;have Hm2:=hid hm2;have Hmk:=hid hmk;clear hta htb htc htd hm1 hm2 hmk he h1 h2 ha hb ha2 hb2;go_enter Tryz.func138,Tryz.ntmps138
 go_wp2_with fail
 go_region_held3 (fun w'=>K2 65 65 65 w w' w.heap.size (.string sa) (.string sc) (w.heap.size+1) (.string sb) (.string sd) (w.heap.size+1+1)∧w'.cell? ⟨w.heap.size,0,none⟩=some (.string sa)∧w'.cell? ⟨w.heap.size,1,none⟩=some (.string sc)∧w'.cell? ⟨w.heap.size+1,0,none⟩=some (.string sb)∧w'.cell? ⟨w.heap.size+1,1,none⟩=some (.string sd)∧w'.cell? ⟨w.heap.size+1+1,0,none⟩=some (zdA w' (w.heap.size+1+1) 0)∧w'.cell? ⟨w.heap.size+1+1,1,none⟩=some (zdA w' (w.heap.size+1+1) 1)∧w'.frozen? ⟨w.heap.size+1+1,0,none⟩=false∧w'.frozen? ⟨w.heap.size+1+1,1,none⟩=false)
  (first | with_reducible exact Hk7.out.all | with_reducible exact Hk6.out.all | with_reducible exact Hk5.out.all | with_reducible exact Hk4.out.all | with_reducible exact Hk3.out.all | with_reducible exact Hk2.out.all | with_reducible exact Hk1.out.all | with_reducible exact (Hk0.out.ext ((Ext.refl V).drew)).all | with_reducible exact (Hk7.out.put (by omega) (by omega) (by omega) (.string s1) (.string s2)).all)
  (first
   | (have hpv:=Hk6;clear hpv;go_at_call 201;refine (Hmk.out _ _ _ Hk6.out.x Hw3_6.out Hw6_6.out).mono ?_;rintro e9 V7 ⟨rfl,hx7⟩;have Hk7:=hid (Hk6.out.ext hx7);have Hw1_7:=hid (Hw1_6.out.ext hx7);have Hw2_7:=hid (Hw2_6.out.ext hx7);have Hw3_7:=hid (Hw3_6.out.ext hx7);have Hw4_7:=hid (Hw4_6.out.ext hx7);have Hw5_7:=hid (Hw5_6.out.ext hx7);have Hw6_7:=hid (Hw6_6.out.ext hx7);clear hx7)
   | (have hpv:=Hk5;clear hpv;go_at_call 202;refine (Hm2.out _ _ _ Hw4_5.out Hw5_5.out).mono ?_;rintro e9 V6 ⟨v6,rfl,hw6,hx6⟩;obtain ⟨b6,a6,l6,c6,rfl,hw6⟩:=zky hw6;have Hk6:=hid (Hk5.out.ext hx6);have Hw1_6:=hid (Hw1_5.out.ext hx6);have Hw2_6:=hid (Hw2_5.out.ext hx6);have Hw3_6:=hid (Hw3_5.out.ext hx6);have Hw4_6:=hid (Hw4_5.out.ext hx6);have Hw5_6:=hid (Hw5_5.out.ext hx6);have Hw6_6:=hid hw6;clear hw6;clear hx6)
   | (have hpv:=Hk4;clear hpv;go_at_call 203;refine (Htd.out _).mono ?_;rintro e9 V5 ⟨v5,rfl,hw5,hx5⟩;obtain ⟨b5,a5,l5,c5,rfl,hw5⟩:=zky hw5;have Hk5:=hid (Hk4.out.ext hx5);have Hw1_5:=hid (Hw1_4.out.ext hx5);have Hw2_5:=hid (Hw2_4.out.ext hx5);have Hw3_5:=hid (Hw3_4.out.ext hx5);have Hw4_5:=hid (Hw4_4.out.ext hx5);have Hw5_5:=hid hw5;clear hw5;clear hx5)
   | (have hpv:=Hk3;clear hpv;go_at_call 203;refine (Htc.out _).mono ?_;rintro e9 V4 ⟨v4,rfl,hw4,hx4⟩;obtain ⟨b4,a4,l4,c4,rfl,hw4⟩:=zky hw4;have Hk4:=hid (Hk3.out.ext hx4);have Hw1_4:=hid (Hw1_3.out.ext hx4);have Hw2_4:=hid (Hw2_3.out.ext hx4);have Hw3_4:=hid (Hw3_3.out.ext hx4);have Hw4_4:=hid hw4;clear hw4;clear hx4)
   | (have hpv:=Hk2;clear hpv;go_at_call 202;refine (Hm1.out _ _ _ Hw1_2.out Hw2_2.out).mono ?_;rintro e9 V3 ⟨v3,rfl,hw3,hx3⟩;obtain ⟨b3,a3,l3,c3,rfl,hw3⟩:=zky hw3;have Hk3:=hid (Hk2.out.ext hx3);have Hw1_3:=hid (Hw1_2.out.ext hx3);have Hw2_3:=hid (Hw2_2.out.ext hx3);have Hw3_3:=hid hw3;clear hw3;clear hx3)
   | (have hpv:=Hk1;clear hpv;go_at_call 203;refine (Htb.out _).mono ?_;rintro e9 V2 ⟨v2,rfl,hw2,hx2⟩;obtain ⟨b2,a2,l2,c2,rfl,hw2⟩:=zky hw2;have Hk2:=hid (Hk1.out.ext hx2);have Hw1_2:=hid (Hw1_1.out.ext hx2);have Hw2_2:=hid hw2;clear hw2;clear hx2)
   | (have hpv:=Hk0;clear hpv;go_at_call 203;refine (Hta.out _).mono ?_;rintro e9 V1 ⟨v1,rfl,hw1,hx1⟩;obtain ⟨b1,a1,l1,c1,rfl,hw1⟩:=zky hw1;have Hk1:=hid (Hk0.out.ext (((Ext.refl V).drew).trans hx1));have Hw1_1:=hid hw1;clear hw1;clear hx1))
 all_goals
  obtain ⟨hb,hfx⟩:=Hk7.out.fin (by omega) (.string s1) (.string s2);have Hfx:=hid hfx;clear hfx;generalize (V7.setCell ⟨w.heap.size+1+1,0,none⟩ (.string s1)).setCell ⟨w.heap.size+1+1,1,none⟩ (.string s2)=W5 at *;have hd0:=hb.c0;have hd1:=hb.c1;go_wp2_with fail
  exact bodyPost_ret (v:=.agg #[.string s1,.string s2]) (by simp [results,Tryz.results138,go_sem,hd0,hd1]) rfl ⟨rfl,Hfx.out⟩
theorem zkC {a b:Rat}(h:a.den=b.den):a+b=mkRat (a.num+b.num) a.den:=by
 rw [Rat.add_def',← h,← Int.add_mul];exact Rat.mkRat_mul_right (by have:=a.den_pos;omega)
theorem zkD (a b:Rat)(w:World)(he:Env w)(h1:a.num.natAbs * b.den+b.num.natAbs * a.den<1000000000)(h2:a.den * b.den<1000000000)(h3:a.num.natAbs+b.num.natAbs<1000000000)(ha2:a.den<1000000000)(hb2:b.den<1000000000) :
  Calls Tryz.prog 255 #[Rv a,Rv b] w fun e w'=>e=.returned (Rv (a+b))∧Ext w w':=by
 have hta:=fun W=>zkm a.num W (by omega) (by omega);have htb:=fun W=>zkm b.num W (by omega) (by omega);have htc:=fun W=>zkm (a.den:Int) W (by omega) (by omega);have htd:=fun W=>zkm (b.den:Int) W (by omega) (by omega);by_cases hd:a.den=b.den
 ·have haw:=fun W va vb (h:W1 W va a.num)(k:W1 W vb b.num)=>zk0 va vb a.num b.num W h k h3;have hmk:=fun W va vb (hE:Ext w W)(h:W1 W va (a.num+b.num))(k:W1 W vb (a.den:Int))=>zk8 va vb (a.num+b.num) a.den W (he.ext hE) h k (by omega) a.den_pos ha2;rw [← zkC hd] at hmk;have hdi:I (b.den:Int)=I (a.den:Int):=by rw [hd]
  unfold Rv at hmk ⊢;rw [hdi];generalize I (a+b).num=s1 at *;generalize I (((a+b).den:Nat):Int)=s2 at *;generalize I a.num=sa at *;generalize I b.num=sb at *;generalize I (a.den:Int)=sc at *;clear htd hdi;obtain ⟨sd,hsd⟩:∃ sd,sd=sc:=⟨_,rfl⟩;have hk2:=zjn 65 65 65 w (.string sa) (.string sc) (.string sb) (.string sc) (.string ⟨#[]⟩) (.string ⟨#[]⟩);generalize hV:((w.alloc (.cells #[.string sa,.string sc] 65)).alloc (.cells #[.string sb,.string sc] 65)).alloc (.cells #[.string ⟨#[]⟩,.string ⟨#[]⟩] 65)=V at *;have hk:=hk2.1;have p0:=hk.a.c0;have p1:=hk.a.c1;have q0:=hk.b.c0;have q1:=hk.b.c1;have Hk0:=hid hk;clear hk hk2;clear hsd;have Hta:=hid hta;have Htb:=hid htb;have Htc:=hid htc;have Haw:=hid haw;have Hmk:=hid hmk;clear hta htb htc haw hmk he h1 h2 h3 ha2 hb2 hd;go_enter Tryz.func255,Tryz.ntmps255
  go_wp2_with fail
  go_wp2_with fail
  go_region_held3 (fun w'=>K2 65 65 65 w w' w.heap.size (.string sa) (.string sc) (w.heap.size+1) (.string sb) (.string sc) (w.heap.size+1+1)∧w'.cell? ⟨w.heap.size,0,none⟩=some (.string sa)∧w'.cell? ⟨w.heap.size,1,none⟩=some (.string sc)∧w'.cell? ⟨w.heap.size+1,0,none⟩=some (.string sb)∧w'.cell? ⟨w.heap.size+1,1,none⟩=some (.string sc)∧w'.cell? ⟨w.heap.size+1+1,0,none⟩=some (zdA w' (w.heap.size+1+1) 0)∧w'.cell? ⟨w.heap.size+1+1,1,none⟩=some (zdA w' (w.heap.size+1+1) 1)∧w'.frozen? ⟨w.heap.size+1+1,0,none⟩=false∧w'.frozen? ⟨w.heap.size+1+1,1,none⟩=false)
   (first | with_reducible exact Hk5.out.all | with_reducible exact Hk4.out.all | with_reducible exact Hk3.out.all | with_reducible exact Hk2.out.all | with_reducible exact Hk1.out.all | with_reducible exact (Hk0.out.ext ((Ext.refl V).drew)).all | with_reducible exact (Hk5.out.put (by omega) (by omega) (by omega) (.string s1) (.string s2)).all)
   (first
    | (have hpv:=Hk4;clear hpv;go_at_call 201;refine (Hmk.out _ _ _ Hk4.out.x Hw3_4.out Hw4_4.out).mono ?_;rintro e9 V5 ⟨rfl,hx5⟩;have Hk5:=hid (Hk4.out.ext hx5);have Hw1_5:=hid (Hw1_4.out.ext hx5);have Hw2_5:=hid (Hw2_4.out.ext hx5);have Hw3_5:=hid (Hw3_4.out.ext hx5);have Hw4_5:=hid (Hw4_4.out.ext hx5);clear hx5)
    | (have hpv:=Hk3;clear hpv;go_at_call 203;refine (Htc.out _).mono ?_;rintro e9 V4 ⟨v4,rfl,hw4,hx4⟩;obtain ⟨b4,a4,l4,c4,rfl,hw4⟩:=zky hw4;have Hk4:=hid (Hk3.out.ext hx4);have Hw1_4:=hid (Hw1_3.out.ext hx4);have Hw2_4:=hid (Hw2_3.out.ext hx4);have Hw3_4:=hid (Hw3_3.out.ext hx4);have Hw4_4:=hid hw4;clear hw4;clear hx4)
    | (have hpv:=Hk2;clear hpv;go_at_call 298;refine (Haw.out _ _ _ Hw1_2.out Hw2_2.out).mono ?_;rintro e9 V3 ⟨v3,rfl,hw3,hx3⟩;obtain ⟨b3,a3,l3,c3,rfl,hw3⟩:=zky hw3;have Hk3:=hid (Hk2.out.ext hx3);have Hw1_3:=hid (Hw1_2.out.ext hx3);have Hw2_3:=hid (Hw2_2.out.ext hx3);have Hw3_3:=hid hw3;clear hw3;clear hx3)
    | (have hpv:=Hk1;clear hpv;go_at_call 203;refine (Htb.out _).mono ?_;rintro e9 V2 ⟨v2,rfl,hw2,hx2⟩;obtain ⟨b2,a2,l2,c2,rfl,hw2⟩:=zky hw2;have Hk2:=hid (Hk1.out.ext hx2);have Hw1_2:=hid (Hw1_1.out.ext hx2);have Hw2_2:=hid hw2;clear hw2;clear hx2)
    | (have hpv:=Hk0;clear hpv;go_at_call 203;refine (Hta.out _).mono ?_;rintro e9 V1 ⟨v1,rfl,hw1,hx1⟩;obtain ⟨b1,a1,l1,c1,rfl,hw1⟩:=zky hw1;have Hk1:=hid (Hk0.out.ext (((Ext.refl V).drew).trans hx1));have Hw1_1:=hid hw1;clear hw1;clear hx1))
  all_goals
   obtain ⟨hb,hfx⟩:=Hk5.out.fin (by omega) (.string s1) (.string s2);have Hfx:=hid hfx;clear hfx;generalize (V5.setCell ⟨w.heap.size+1+1,0,none⟩ (.string s1)).setCell ⟨w.heap.size+1+1,1,none⟩ (.string s2)=W5 at *;have hd0:=hb.c0;have hd1:=hb.c1;go_wp2_with fail
   exact bodyPost_ret (v:=.agg #[.string s1,.string s2]) (by simp [results,Tryz.results255,go_sem,hd0,hd1]) rfl ⟨rfl,Hfx.out⟩
 ·have hm1:=fun W va vb (h:W1 W va a.num)(k:W1 W vb (b.den:Int))=>zk2 va vb a.num (b.den:Int) W h k (by rw [Int.natAbs_natCast];omega) (by omega) (by omega);have hm2:=fun W va vb (h:W1 W va b.num)(k:W1 W vb (a.den:Int))=>zk2 va vb b.num (a.den:Int) W h k (by rw [Int.natAbs_natCast];omega) (by omega) (by omega);have hm3:=fun W va vb (h:W1 W va (a.den:Int))(k:W1 W vb (b.den:Int))=>zk2 va vb (a.den:Int) (b.den:Int) W h k (by rw [Int.natAbs_natCast,Int.natAbs_natCast];exact h2) (by omega) (by omega);have hsum:(a.num * (b.den:Int)).natAbs+(b.num * (a.den:Int)).natAbs<1000000000:=by rw [Int.natAbs_mul,Int.natAbs_mul,Int.natAbs_natCast,Int.natAbs_natCast];exact h1
  have haw:=fun W va vb (h:W1 W va (a.num * (b.den:Int)))(k:W1 W vb (b.num * (a.den:Int)))=>zk0 va vb (a.num * (b.den:Int)) (b.num * (a.den:Int)) W h k hsum;have hmk:=fun W va vb (hE:Ext w W)(h:W1 W va (a.num * (b.den:Int)+b.num * (a.den:Int)))(k:W1 W vb ((a.den:Int) * (b.den:Int)))=>zk8 va vb (a.num * (b.den:Int)+b.num * (a.den:Int)) (a.den * b.den) W (he.ext hE) h (by rw [Int.natCast_mul];exact k) (Nat.lt_of_le_of_lt (Int.natAbs_add_le _ _) hsum) (Nat.mul_pos a.den_pos b.den_pos) h2;rw [← Rat.add_def'] at hmk;have hnb:((I (a.den:Int)).toList == (I (b.den:Int)).toList)=false:=by rw [zbz];exact decide_eq_false (by omega)
  have hne:¬ (I (a.den:Int)).toList=(I (b.den:Int)).toList:=fun e=>by rw [e] at hnb;simp at hnb
  unfold Rv at hmk ⊢;generalize I (a+b).num=s1 at *;generalize I (((a+b).den:Nat):Int)=s2 at *;generalize I a.num=sa at *;generalize I b.num=sb at *;generalize I (a.den:Int)=sc at *;generalize I (b.den:Int)=sd at *;have hk2:=zjn 65 65 65 w (.string sa) (.string sc) (.string sb) (.string sd) (.string ⟨#[]⟩) (.string ⟨#[]⟩);generalize hV:((w.alloc (.cells #[.string sa,.string sc] 65)).alloc (.cells #[.string sb,.string sd] 65)).alloc (.cells #[.string ⟨#[]⟩,.string ⟨#[]⟩] 65)=V at *;have hk:=hk2.1;have p0:=hk.a.c0;have p1:=hk.a.c1;have q0:=hk.b.c0;have q1:=hk.b.c1;have Hk0:=hid hk;clear hk hk2;have Hta:=hid hta;have Htb:=hid htb;have Htc:=hid htc;have Htd:=hid htd;have Hm1:=hid hm1;have Hm2:=hid hm2;have Hm3:=hid hm3;have Haw:=hid haw;have Hmk:=hid hmk;clear hta htb htc htd hm1 hm2 hm3 haw hmk he h1 h2 h3 ha2 hb2 hd hsum;go_enter Tryz.func255,Tryz.ntmps255
  go_wp2_with fail
  go_wp2_with fail
  go_region_held3 (fun w'=>K2 65 65 65 w w' w.heap.size (.string sa) (.string sc) (w.heap.size+1) (.string sb) (.string sd) (w.heap.size+1+1)∧w'.cell? ⟨w.heap.size,0,none⟩=some (.string sa)∧w'.cell? ⟨w.heap.size,1,none⟩=some (.string sc)∧w'.cell? ⟨w.heap.size+1,0,none⟩=some (.string sb)∧w'.cell? ⟨w.heap.size+1,1,none⟩=some (.string sd)∧w'.cell? ⟨w.heap.size+1+1,0,none⟩=some (zdA w' (w.heap.size+1+1) 0)∧w'.cell? ⟨w.heap.size+1+1,1,none⟩=some (zdA w' (w.heap.size+1+1) 1)∧w'.frozen? ⟨w.heap.size+1+1,0,none⟩=false∧w'.frozen? ⟨w.heap.size+1+1,1,none⟩=false)
   (first | with_reducible exact Hk11.out.all | with_reducible exact Hk10.out.all | with_reducible exact Hk9.out.all | with_reducible exact Hk8.out.all | with_reducible exact Hk7.out.all | with_reducible exact Hk6.out.all | with_reducible exact Hk5.out.all | with_reducible exact Hk4.out.all | with_reducible exact Hk3.out.all | with_reducible exact Hk2.out.all | with_reducible exact Hk1.out.all | with_reducible exact (Hk0.out.ext ((Ext.refl V).drew)).all | with_reducible exact (Hk11.out.put (by omega) (by omega) (by omega) (.string s1) (.string s2)).all)
   (first
    | (have hpv:=Hk10;clear hpv;go_at_call 201;refine (Hmk.out _ _ _ Hk10.out.x Hw7_10.out Hw10_10.out).mono ?_;rintro e9 V11 ⟨rfl,hx11⟩;have Hk11:=hid (Hk10.out.ext hx11);have Hw1_11:=hid (Hw1_10.out.ext hx11);have Hw2_11:=hid (Hw2_10.out.ext hx11);have Hw3_11:=hid (Hw3_10.out.ext hx11);have Hw4_11:=hid (Hw4_10.out.ext hx11);have Hw5_11:=hid (Hw5_10.out.ext hx11);have Hw6_11:=hid (Hw6_10.out.ext hx11);have Hw7_11:=hid (Hw7_10.out.ext hx11);have Hw8_11:=hid (Hw8_10.out.ext hx11);have Hw9_11:=hid (Hw9_10.out.ext hx11);have Hw10_11:=hid (Hw10_10.out.ext hx11);clear hx11)
    | (have hpv:=Hk9;clear hpv;go_at_call 202;refine (Hm3.out _ _ _ Hw8_9.out Hw9_9.out).mono ?_;rintro e9 V10 ⟨v10,rfl,hw10,hx10⟩;obtain ⟨b10,a10,l10,c10,rfl,hw10⟩:=zky hw10;have Hk10:=hid (Hk9.out.ext hx10);have Hw1_10:=hid (Hw1_9.out.ext hx10);have Hw2_10:=hid (Hw2_9.out.ext hx10);have Hw3_10:=hid (Hw3_9.out.ext hx10);have Hw4_10:=hid (Hw4_9.out.ext hx10);have Hw5_10:=hid (Hw5_9.out.ext hx10);have Hw6_10:=hid (Hw6_9.out.ext hx10);have Hw7_10:=hid (Hw7_9.out.ext hx10);have Hw8_10:=hid (Hw8_9.out.ext hx10);have Hw9_10:=hid (Hw9_9.out.ext hx10);have Hw10_10:=hid hw10;clear hw10;clear hx10)
    | (have hpv:=Hk8;clear hpv;go_at_call 203;refine (Htd.out _).mono ?_;rintro e9 V9 ⟨v9,rfl,hw9,hx9⟩;obtain ⟨b9,a9,l9,c9,rfl,hw9⟩:=zky hw9;have Hk9:=hid (Hk8.out.ext hx9);have Hw1_9:=hid (Hw1_8.out.ext hx9);have Hw2_9:=hid (Hw2_8.out.ext hx9);have Hw3_9:=hid (Hw3_8.out.ext hx9);have Hw4_9:=hid (Hw4_8.out.ext hx9);have Hw5_9:=hid (Hw5_8.out.ext hx9);have Hw6_9:=hid (Hw6_8.out.ext hx9);have Hw7_9:=hid (Hw7_8.out.ext hx9);have Hw8_9:=hid (Hw8_8.out.ext hx9);have Hw9_9:=hid hw9;clear hw9;clear hx9)
    | (have hpv:=Hk7;clear hpv;go_at_call 203;refine (Htc.out _).mono ?_;rintro e9 V8 ⟨v8,rfl,hw8,hx8⟩;obtain ⟨b8,a8,l8,c8,rfl,hw8⟩:=zky hw8;have Hk8:=hid (Hk7.out.ext hx8);have Hw1_8:=hid (Hw1_7.out.ext hx8);have Hw2_8:=hid (Hw2_7.out.ext hx8);have Hw3_8:=hid (Hw3_7.out.ext hx8);have Hw4_8:=hid (Hw4_7.out.ext hx8);have Hw5_8:=hid (Hw5_7.out.ext hx8);have Hw6_8:=hid (Hw6_7.out.ext hx8);have Hw7_8:=hid (Hw7_7.out.ext hx8);have Hw8_8:=hid hw8;clear hw8;clear hx8)
    | (have hpv:=Hk6;clear hpv;go_at_call 298;refine (Haw.out _ _ _ Hw3_6.out Hw6_6.out).mono ?_;rintro e9 V7 ⟨v7,rfl,hw7,hx7⟩;obtain ⟨b7,a7,l7,c7,rfl,hw7⟩:=zky hw7;have Hk7:=hid (Hk6.out.ext hx7);have Hw1_7:=hid (Hw1_6.out.ext hx7);have Hw2_7:=hid (Hw2_6.out.ext hx7);have Hw3_7:=hid (Hw3_6.out.ext hx7);have Hw4_7:=hid (Hw4_6.out.ext hx7);have Hw5_7:=hid (Hw5_6.out.ext hx7);have Hw6_7:=hid (Hw6_6.out.ext hx7);have Hw7_7:=hid hw7;clear hw7;clear hx7)
    | (have hpv:=Hk5;clear hpv;go_at_call 202;refine (Hm2.out _ _ _ Hw4_5.out Hw5_5.out).mono ?_;rintro e9 V6 ⟨v6,rfl,hw6,hx6⟩;obtain ⟨b6,a6,l6,c6,rfl,hw6⟩:=zky hw6;have Hk6:=hid (Hk5.out.ext hx6);have Hw1_6:=hid (Hw1_5.out.ext hx6);have Hw2_6:=hid (Hw2_5.out.ext hx6);have Hw3_6:=hid (Hw3_5.out.ext hx6);have Hw4_6:=hid (Hw4_5.out.ext hx6);have Hw5_6:=hid (Hw5_5.out.ext hx6);have Hw6_6:=hid hw6;clear hw6;clear hx6)
    | (have hpv:=Hk4;clear hpv;go_at_call 203;refine (Htc.out _).mono ?_;rintro e9 V5 ⟨v5,rfl,hw5,hx5⟩;obtain ⟨b5,a5,l5,c5,rfl,hw5⟩:=zky hw5;have Hk5:=hid (Hk4.out.ext hx5);have Hw1_5:=hid (Hw1_4.out.ext hx5);have Hw2_5:=hid (Hw2_4.out.ext hx5);have Hw3_5:=hid (Hw3_4.out.ext hx5);have Hw4_5:=hid (Hw4_4.out.ext hx5);have Hw5_5:=hid hw5;clear hw5;clear hx5)
    | (have hpv:=Hk3;clear hpv;go_at_call 203;refine (Htb.out _).mono ?_;rintro e9 V4 ⟨v4,rfl,hw4,hx4⟩;obtain ⟨b4,a4,l4,c4,rfl,hw4⟩:=zky hw4;have Hk4:=hid (Hk3.out.ext hx4);have Hw1_4:=hid (Hw1_3.out.ext hx4);have Hw2_4:=hid (Hw2_3.out.ext hx4);have Hw3_4:=hid (Hw3_3.out.ext hx4);have Hw4_4:=hid hw4;clear hw4;clear hx4)
    | (have hpv:=Hk2;clear hpv;go_at_call 202;refine (Hm1.out _ _ _ Hw1_2.out Hw2_2.out).mono ?_;rintro e9 V3 ⟨v3,rfl,hw3,hx3⟩;obtain ⟨b3,a3,l3,c3,rfl,hw3⟩:=zky hw3;have Hk3:=hid (Hk2.out.ext hx3);have Hw1_3:=hid (Hw1_2.out.ext hx3);have Hw2_3:=hid (Hw2_2.out.ext hx3);have Hw3_3:=hid hw3;clear hw3;clear hx3)
    | (have hpv:=Hk1;clear hpv;go_at_call 203;refine (Htd.out _).mono ?_;rintro e9 V2 ⟨v2,rfl,hw2,hx2⟩;obtain ⟨b2,a2,l2,c2,rfl,hw2⟩:=zky hw2;have Hk2:=hid (Hk1.out.ext hx2);have Hw1_2:=hid (Hw1_1.out.ext hx2);have Hw2_2:=hid hw2;clear hw2;clear hx2)
    | (have hpv:=Hk0;clear hpv;go_at_call 203;refine (Hta.out _).mono ?_;rintro e9 V1 ⟨v1,rfl,hw1,hx1⟩;obtain ⟨b1,a1,l1,c1,rfl,hw1⟩:=zky hw1;have Hk1:=hid (Hk0.out.ext (((Ext.refl V).drew).trans hx1));have Hw1_1:=hid hw1;clear hw1;clear hx1))
  all_goals
   obtain ⟨hb,hfx⟩:=Hk11.out.fin (by omega) (.string s1) (.string s2);have Hfx:=hid hfx;clear hfx;generalize (V11.setCell ⟨w.heap.size+1+1,0,none⟩ (.string s1)).setCell ⟨w.heap.size+1+1,1,none⟩ (.string s2)=W5 at *;have hd0:=hb.c0;have hd1:=hb.c1;go_wp2_with fail
   exact bodyPost_ret (v:=.agg #[.string s1,.string s2]) (by simp [results,Tryz.results255,go_sem,hd0,hd1]) rfl ⟨rfl,Hfx.out⟩
def Sn (r:Rat):Prop:=r.num.natAbs≤30000∧r.den≤1000
theorem Sn.add {a b:Rat}(ha:Sn a)(hb:Sn b):a.num.natAbs * b.den+b.num.natAbs * a.den<1000000000∧a.den * b.den<1000000000∧a.num.natAbs+b.num.natAbs<1000000000∧a.den<1000000000∧b.den<1000000000:=by
 have h1:a.num.natAbs * b.den≤30000 * 1000:=Nat.mul_le_mul ha.1 hb.2;have h2:b.num.natAbs * a.den≤30000 * 1000:=Nat.mul_le_mul hb.1 ha.2;have h3:a.den * b.den≤1000 * 1000:=Nat.mul_le_mul ha.2 hb.2;have h4:=ha.1;have h5:=ha.2;have h6:=hb.1;have h7:=hb.2;omega
theorem Sn.mul {a b:Rat}(ha:Sn a)(hb:Sn b):a.num.natAbs * b.num.natAbs<1000000000∧a.den * b.den<1000000000∧a.num.natAbs<1000000000∧b.num.natAbs<1000000000∧a.den<1000000000∧b.den<1000000000:=by
 have h1:a.num.natAbs * b.num.natAbs≤30000 * 30000:=Nat.mul_le_mul ha.1 hb.1;have h3:a.den * b.den≤1000 * 1000:=Nat.mul_le_mul ha.2 hb.2;have h4:=ha.1;have h5:=ha.2;have h6:=hb.1;have h7:=hb.2;omega
theorem zkE (w:World)(x y:Value)(t:TypeId):∀ j u,[x,y][j]?=some u→(w.alloc (.cells #[x,y] t)).cell? ((⟨w.heap.size,0,none⟩:Addr).add j)=some u:=by
 intro j u hj;have h:=World.alloc_heap_new w (.cells #[x,y] t);rw [show ((⟨w.heap.size,0,none⟩:Addr).add j)=⟨w.heap.size,j,none⟩ by unfold Addr.add;split <;> simp_all]
 unfold World.cell?;dsimp only;rw [h];have hlt:j<2:=(List.getElem?_eq_some_iff.1 hj).1;rcases (by omega:j=0∨j=1) with rfl | rfl
 ·cases hj;rfl
 ·cases hj;rfl
theorem zkF {x y:List Rat}{k:Nat}{a b:Rat}(ha:x[k]?=some a)(hb:y[k]?=some b):(zev x y).take (k+1)=(zev x y).take k++[a+b]:=by
 have h:(zev x y)[k]?=some (a+b):=by
  unfold zev;rw [List.getElem?_zipWith,ha,hb]
 obtain ⟨hk,e⟩:=List.getElem?_eq_some_iff.1 h;rw [List.take_succ_eq_append_getElem hk,e]
theorem zkG {x:List Rat}{k:Nat}{a:Rat}(q:Rat)(ha:x[k]?=some a):(zex x q).take (k+1)=(zex x q).take k++[a * q]:=by
 have h:(zex x q)[k]?=some (a * q):=by
  unfold zex;rw [List.getElem?_map,ha];rfl
 obtain ⟨hk,e⟩:=List.getElem?_eq_some_iff.1 h;rw [List.take_succ_eq_append_getElem hk,e]
theorem zkH (va vb:Value)(x y:List Rat)(w:World)(he:Env w)(ha:Rd w va x)(hb:Rd w vb y)(hl:x.length=y.length)(hx9:x.length≤1000)(hx:∀ r∈x,Sn r)(hy:∀ r∈y,Sn r) :
  Calls Tryz.prog 199 #[va,vb] w fun e w'=>∃ u,e=.returned u∧zfw w' w.heap.size u (zev x y)∧Ext w w':=by
 obtain ⟨i0,hi,hz0,hz1,hz2⟩:=info_parts zfx;have had:=fun (a b:Rat)(h:a∈x)(k:b∈y) W (hE:Ext w W)=>zkD a b W (he.ext hE) (Sn.add (hx a h) (hy b k)).1 (Sn.add (hx a h) (hy b k)).2.1 (Sn.add (hx a h) (hy b k)).2.2.1 (Sn.add (hx a h) (hy b k)).2.2.2.1 (Sn.add (hx a h) (hy b k)).2.2.2.2;obtain ⟨aa,ca,rfl,_,_,hca⟩:=ha.parts;obtain ⟨ab,cb,rfl,_,_,hcb⟩:=hb.parts;have hzl:(zev x y).length=x.length:=by unfold zev;rw [List.length_zipWith,← hl,Nat.min_self]
 have hnx:∀ k,k<x.length→∃ a b,x[k]?=some a∧y[k]?=some b∧a∈x∧b∈y:=fun k hk=>⟨_,_,List.getElem?_eq_getElem hk,List.getElem?_eq_getElem (by omega),List.getElem_mem _,List.getElem_mem _⟩;rw [← hl];generalize hn:x.length=n at *;have Had:=hid had;have Hca:=hid hca;have Hcb:=hid hcb;have Hzl:=hid hzl;have Hnx:=hid hnx;clear ha hb he hx hy had hca hcb hzl hnx hl hn;go_enter Tryz.func199,Tryz.ntmps199
 go_wp2_with fail
 go_loopw [5,6,9] (fun v5 v6 v9 wr=>∃ k:Nat,v9=.int .i64 k∧k≤n∧wr.ownsRow w.heap.size 65 2 v5 k (rcs ((zev x y).take k))∧Hid (Ext w wr)) (fun _ _ v9 _=>n - (zal v9).toNat)
 case atStart=>exact ⟨0,rfl,Nat.zero_le _,World.ownsRow_nil w _ _ 2,hid (Ext.refl _)⟩
 case round =>
  obtain ⟨k,rfl,hk,ho,HE⟩:=hrel;obtain ⟨a5,c5,rfl⟩:=zfi ho;by_cases hkn:k<n
  ·obtain ⟨a,b,hxa,hyb,hma,hmb⟩:=Hnx.out k hkn;obtain ⟨ba,oa,rfl,h0,h1⟩:=Hca.out k a hxa;obtain ⟨bb,ob,rfl,h2,h3⟩:=Hcb.out k b hyb;have htk:=zkF hxa hyb;have hcl:=fun W (hE:Ext w W)=>Had.out a b hma hmb W hE;unfold Rv at hcl;generalize hs1:I (a+b).num=s1 at *;generalize hs2:I (((a+b).den:Nat):Int)=s2 at *;have hrn:rcs ((zev x y).take (k+1))=rcs ((zev x y).take k)++[.string s1,.string s2]:=(by rw [htk,zft,hs1,hs2]);have Hrn:=hid hrn;clear hrn hs1 hs2 htk;generalize I a.num=sa at *;generalize I (a.den:Int)=sc at *;generalize I b.num=sb at *;generalize I (b.den:Int)=sd at *;have hk0:(0:Int)≤(k:Int):=(by omega);have hk1:(k:Int)<(n:Int):=(by omega);have c0:=HE.out.cell h0;have c1:=HE.out.cell h1;have c2:=HE.out.cell h2;have c3:=HE.out.cell h3;have hm3:k+1≤maxLen:=(by unfold maxLen;omega);have hm4:(k+1) * 32≤140737488355328:=(by omega);have hS:=fun W (h:Ext w W)=>(⟨h,h.cell h0,h.cell h1,h.cell h2,h.cell h3⟩:Ext w W∧W.cell? _=_∧W.cell? _=_∧W.cell? _=_∧W.cell? _=_);have HS:=hid hS;have Hcl:=hid hcl;have Ho:=hid ho;clear hS hcl ho h0 h1 h2 h3 hxa hyb hma hmb;go_wp2_with fail
   go_region_held3 (fun w'=>Ext w w'∧w'.cell? ⟨ba,oa+k * 2,none⟩=some (.string sa)∧w'.cell? ⟨ba,oa+k * 2+1,none⟩=some (.string sc)∧w'.cell? ⟨bb,ob+k * 2,none⟩=some (.string sb)∧w'.cell? ⟨bb,ob+k * 2+1,none⟩=some (.string sd))
    (first | with_reducible exact HS.out _ HEV.out | with_reducible exact HS.out _ (HEA.out.alloc _) | with_reducible exact HS.out _ HEA.out | with_reducible exact HS.out _ HE.out.drew)
    (first
     | (have hpv:=HEA;clear hpv;refine step_append_lies _ rfl (.tmp 12) (.tmp 22) 41 rfl w.heap.size 65 i0 (.agg #[.string ByteArray.empty,.string ByteArray.empty]) 2 32 Tryz.underlying41 hi hz0 hz1 hz2 rfl (by decide) (.slice a5 k c5) k (rcs ((zev x y).take k)) (by simp [Act.eval]) (HoA.out.alloc _) ⟨VA.heap.size,0,none⟩ 1 1 [.string s1,.string s2] (by simp [Act.eval]) rfl (zkE VA _ _ _) (by simp [Value.oneCell']) (by decide) hm3 hm4 (HEA.out.alloc (.cells #[.string s1,.string s2] 65)).size _ rfl ?_;intro g1 cc1 V1 hown1 hgrow1 hat1 hlt1;have HEV:=hid ((HEA.out.alloc _).grown hgrow1 fun j hj=>(World.ownsRow.lt (HoA.out.alloc (.cells #[.string s1,.string s2] 65)) j hj).1);have Hown1:=hid hown1;clear hown1 hgrow1 hat1 hlt1)
     | (go_at_call 255;refine (Hcl.out _ HE.out.drew).mono ?_;rintro e9 VA ⟨rfl,hxa⟩;have HEA:=hid (HE.out.drew.trans hxa);have HoA:=hid ((((Ext.refl wr).drew).trans hxa).own Ho.out);clear hxa))
   all_goals
    clear c0 c1 c2 c3;go_wp2_with fail
    go_roundw
    case rel=>exact ⟨k+1,by go_num,by omega,by rw [Hrn.out];exact Hown1.out,HEV⟩
    case measure=>simp [zal];omega
  ·obtain rfl:n=k:=by omega
   rw [List.take_of_length_le (by rw [Hzl.out];exact Nat.le_refl _)] at ho;have Ho:=hid ho;clear ho;go_wp2
   go_ret
   exact ⟨_,rfl,by unfold zfw;rw [Hzl.out];exact Ho.out,HE.out⟩
theorem zkI (va:Value)(x:List Rat)(q:Rat)(w:World)(he:Env w)(ha:Rd w va x)(hx9:x.length≤1000)(hx:∀ r∈x,Sn r)(hq:Sn q) :
  Calls Tryz.prog 73 #[va,Rv q] w fun e w'=>∃ u,e=.returned u∧zfw w' w.heap.size u (zex x q)∧Ext w w':=by
 obtain ⟨i0,hi,hz0,hz1,hz2⟩:=info_parts zfx;have had:=fun (a:Rat)(h:a∈x) W (hE:Ext w W)=>zkB a q W (he.ext hE) (Sn.mul (hx a h) hq).1 (Sn.mul (hx a h) hq).2.1 (Sn.mul (hx a h) hq).2.2.1 (Sn.mul (hx a h) hq).2.2.2.1 (Sn.mul (hx a h) hq).2.2.2.2.1 (Sn.mul (hx a h) hq).2.2.2.2.2;obtain ⟨aa,ca,rfl,_,_,hca⟩:=ha.parts;have hzl:(zex x q).length=x.length:=by unfold zex;rw [List.length_map]
 have hnx:∀ k,k<x.length→∃ a,x[k]?=some a∧a∈x:=fun k hk=>⟨_,List.getElem?_eq_getElem hk,List.getElem_mem _⟩;have hbx:=zjl.new 65 w (.string (I q.num)) (.string (I (q.den:Int)));unfold Rv at had ⊢;generalize I q.num=sb at *;generalize I (q.den:Int)=sd at *;have hE0:Ext w (w.alloc (.cells #[.string sb,.string sd] 65)):=(Ext.refl w).alloc _;have hsz:(w.alloc (.cells #[.string sb,.string sd] 65)).heap.size=w.heap.size+1:=World.size_alloc ..;generalize hn:x.length=n at *;have Had:=hid had;have Hca:=hid hca;have Hzl:=hid hzl;have Hnx:=hid hnx;have HE0:=hid hE0;have Hbx:=hid hbx;have Hsz:=hid hsz;clear ha he hx had hca hzl hnx hn hE0 hbx hq hsz;go_enter Tryz.func73,Tryz.ntmps73
 go_wp2_with fail
 generalize hV:w.alloc (.cells #[.string sb,.string sd] 65)=V at *;go_loopw [5,6,9] (fun v5 v6 v9 wr=>∃ k:Nat,v9=.int .i64 k∧k≤n∧wr.ownsRow V.heap.size 65 2 v5 k (rcs ((zex x q).take k))∧Hid (Ext V wr)) (fun _ _ v9 _=>n - (zal v9).toNat)
 case atStart=>exact ⟨0,rfl,Nat.zero_le _,World.ownsRow_nil V _ _ 2,hid (Ext.refl _)⟩
 case round =>
  obtain ⟨k,rfl,hk,ho,HE⟩:=hrel;obtain ⟨a5,c5,rfl⟩:=zfi ho;by_cases hkn:k<n
  ·obtain ⟨a,hxa,hma⟩:=Hnx.out k hkn;obtain ⟨ba,oa,rfl,h0,h1⟩:=Hca.out k a hxa;have htk:=zkG q hxa;have hcl:=fun W (hE:Ext w W)=>Had.out a hma W hE;generalize hs1:I (a * q).num=s1 at *;generalize hs2:I (((a * q).den:Nat):Int)=s2 at *;have hrn:rcs ((zex x q).take (k+1))=rcs ((zex x q).take k)++[.string s1,.string s2]:=(by rw [htk,zft,hs1,hs2]);have Hrn:=hid hrn;clear hrn hs1 hs2 htk;generalize I a.num=sa at *;generalize I (a.den:Int)=sc at *;have hk0:(0:Int)≤(k:Int):=(by omega);have hk1:(k:Int)<(n:Int):=(by omega);have h0:=HE0.out.cell h0;have h1:=HE0.out.cell h1;have c0:=HE.out.cell h0;have c1:=HE.out.cell h1;have c2:=(Hbx.out.ext HE.out).c0;have c3:=(Hbx.out.ext HE.out).c1;have hm3:k+1≤maxLen:=(by unfold maxLen;omega);have hm4:(k+1) * 32≤140737488355328:=(by omega);have hS:=fun W (h:Ext V W)=>(⟨h,h.cell h0,h.cell h1,(Hbx.out.ext h).c0,(Hbx.out.ext h).c1⟩:Ext V W∧W.cell? _=_∧W.cell? _=_∧W.cell? _=_∧W.cell? _=_);have HS:=hid hS;have Hcl:=hid hcl;have Ho:=hid ho;clear hS hcl ho h0 h1 hxa hma;go_wp2_with fail
   go_region_held3 (fun w'=>Ext V w'∧w'.cell? ⟨ba,oa+k * 2,none⟩=some (.string sa)∧w'.cell? ⟨ba,oa+k * 2+1,none⟩=some (.string sc)∧w'.cell? ⟨w.heap.size,0,none⟩=some (.string sb)∧w'.cell? ⟨w.heap.size,1,none⟩=some (.string sd))
    (first | with_reducible exact HS.out _ HEV.out | with_reducible exact HS.out _ (HEA.out.alloc _) | with_reducible exact HS.out _ HEA.out | with_reducible exact HS.out _ HE.out.drew)
    (first
     | (have hpv:=HEA;clear hpv;refine step_append_lies _ rfl (.tmp 12) (.tmp 19) 41 rfl V.heap.size 65 i0 (.agg #[.string ByteArray.empty,.string ByteArray.empty]) 2 32 Tryz.underlying41 hi hz0 hz1 hz2 rfl (by decide) (.slice a5 k c5) k (rcs ((zex x q).take k)) (by simp [Act.eval]) (HoA.out.alloc _) ⟨VA.heap.size,0,none⟩ 1 1 [.string s1,.string s2] (by simp [Act.eval]) rfl (zkE VA _ _ _) (by simp [Value.oneCell']) (by decide) hm3 hm4 (HEA.out.alloc (.cells #[.string s1,.string s2] 65)).size _ rfl ?_;intro g1 cc1 V1 hown1 hgrow1 hat1 hlt1;have HEV:=hid ((HEA.out.alloc _).grown hgrow1 fun j hj=>(World.ownsRow.lt (HoA.out.alloc (.cells #[.string s1,.string s2] 65)) j hj).1);have Hown1:=hid hown1;clear hown1 hgrow1 hat1 hlt1)
     | (go_at_call 138;refine (Hcl.out _ (HE0.out.trans HE.out.drew)).mono ?_;rintro e9 VA ⟨rfl,hxa⟩;have HEA:=hid (HE.out.drew.trans hxa);have HoA:=hid ((((Ext.refl wr).drew).trans hxa).own Ho.out);clear hxa))
   all_goals
    clear c0 c1 c2 c3;go_wp2_with fail
    go_roundw
    case rel=>exact ⟨k+1,by go_num,by omega,by rw [Hrn.out];exact Hown1.out,HEV⟩
    case measure=>simp [zal];omega
  ·obtain rfl:n=k:=by omega
   rw [List.take_of_length_le (by rw [Hzl.out];exact Nat.le_refl _)] at ho;have Ho:=hid ho;clear ho;go_wp2
   go_ret
   exact ⟨_,rfl,zam (by rw [Hzl.out];exact Ho.out) HE0.out.size,HE0.out.trans HE.out⟩
theorem zkJ : mkRat (-1) 1=-1:=by rw [Rat.mkRat_one];rfl
theorem zkK : ∀ {x y:List Rat},zev x (zex y (-1))=zew x y
 | [],y=>by simp [zev,zew]
 | a::x,[]=>by simp [zev,zew,zex]
 | a::x,b::y=>by
  have ih:=zkK (x:=x) (y:=y);unfold zev zew zex at ih ⊢;rw [List.map_cons,List.zipWith_cons_cons,List.zipWith_cons_cons,ih];congr 1;grind
theorem Sn.neg {r:Rat}(h:Sn r):Sn (r * -1):=by
 have e:r * -1=-r:=by grind
 rw [e];unfold Sn;rw [Rat.neg_num,Rat.neg_den,Int.natAbs_neg];exact h
theorem zkL : Sn (-1):=by unfold Sn;decide
theorem zkM : Sn 1:=by unfold Sn;decide
theorem zkN (va vb:Value)(x y:List Rat)(w:World)(he:Env w)(ha:Rd w va x)(hb:Rd w vb y)(hl:x.length=y.length)(hx9:x.length≤1000)(hx:∀ r∈x,Sn r)(hy:∀ r∈y,Sn r) :
  Calls Tryz.prog 133 #[va,vb] w fun e w'=>∃ u,e=.returned u∧zfw w' w.heap.size u (zew x y)∧Ext w w':=by
 have hof:=fun W (hE:Ext w W)=>zkA (-1) 1 W (he.ext hE) (by decide) (by decide) (by decide);rw [zkJ] at hof;have hti:=fun W (hE:Ext w W)=>zkI vb y (-1) W (he.ext hE) (hE.rd hb) (by omega) hy zkL;have had:=fun W vc (hE:Ext w W)(hc:Rd W vc (zex y (-1)))=>zkH va vc x (zex y (-1)) W (he.ext hE) (hE.rd ha) hc (by unfold zex;rw [List.length_map];exact hl) hx9 hx (fun r hr=>by
  unfold zex at hr;obtain ⟨s,hs,rfl⟩:=List.mem_map.1 hr;exact (hy s hs).neg)
 rw [zkK] at had;obtain ⟨aa,ca,rfl,_,_,_⟩:=ha.parts;obtain ⟨ab,cb,rfl,_,_,_⟩:=hb.parts;rw [hl] at *;generalize y.length=n at *;unfold Rv at hof hti;generalize I (-1:Rat).num=s1 at *;generalize I (((-1:Rat).den:Nat):Int)=s2 at *;have Hof:=hid hof;have Hti:=hid hti;have Had:=hid had;clear ha hb he hx hy hof hti had hl;go_enter Tryz.func133,Tryz.ntmps133
 go_wp2_with fail
 refine (Hof.out w (Ext.refl w)).mono ?_;rintro e w1 ⟨rfl,hx1⟩;have Hx1:=hid hx1;clear hx1;go_wp2_with fail
 refine (Hti.out w1 Hx1.out).mono ?_;rintro e w2 ⟨u2,rfl,ho2,hx2⟩;obtain ⟨a2,c2,rfl,_,_,_⟩:=ho2.rd.parts;have had2:=Had.out w2 _ (Hx1.out.trans hx2) ho2.rd;have Had2:=hid had2;have Hx2:=hid (Hx1.out.trans hx2);clear had2 hx2 ho2;generalize (zex y (-1)).length=n2 at *;go_wp2_with fail
 refine Had2.out.mono ?_;rintro e w3 ⟨u3,rfl,ho3,hx3⟩;have Ho3:=hid (ho3.mono Hx2.out.size);have Hx3:=hid (Hx2.out.trans hx3);clear ho3 hx3;go_wp2
 go_ret
 exact ⟨_,rfl,Ho3.out,Hx3.out⟩
def zkO (g:List Rat)(a:Int)(n:Nat):List (List Rat):=(List.range n).map fun (i:Nat)=>zex g ((a+(i:Int):Int):Rat)
theorem zkP (g:List Rat)(a:Int)(n:Nat):zkO g a (n+1)=zkO g a n++[zex g ((a+(n:Int):Int):Rat)]:=by unfold zkO;rw [List.range_succ,List.map_append];rfl
theorem zkQ (g:List Rat)(a:Int)(n:Nat):(zkO g a n).length=n:=by unfold zkO;simp
def QsR (W:World)(xs:List (List Rat))(v:Value)(wr:World):Prop:=∃ out:List Qw,QwM wr W.heap.size W.heap.size v out∧out.map Qw.x=xs∧Ext W wr
theorem QsR.more {W wr V:World}{v v7 u:Value}{x:List Rat}{out:List Qw}{xs:List (List Rat)}{o:Obj}(hE:Ext W wr)(hq:QwM wr W.heap.size W.heap.size v out)(hm:out.map Qw.x=xs)(ho:zfw wr W.heap.size u x)
  (hown:V.ownsRow W.heap.size 41 1 v7 (out.length+1) (qwc out++[u])) (hgrow:(wr.alloc o).grownBy V v.ownBlock):QsR W (xs++[x]) v7 V:=by
 have:=QwM.more (r:=⟨_,u,zf0 ho.rd⟩) hE hq ho hown hgrow;exact ⟨_,this.1,by rw [List.map_append,hm];rfl,this.2⟩
def zkR (l:List Int):List Rat:=l.map fun (z:Int)=>(z:Rat)
theorem zkS (l:List Int):(zkR l).length=l.length:=by unfold zkR;simp
theorem zkT {l:List Int}{k:Nat}{z:Int}(h:l[k]?=some z):(zkR l).take (k+1)=(zkR l).take k++[(z:Rat)]:=by
 have h2:(zkR l)[k]?=some (z:Rat):=by unfold zkR;rw [List.getElem?_map,h];rfl
 obtain ⟨hk,e⟩:=List.getElem?_eq_some_iff.1 h2;rw [List.take_succ_eq_append_getElem hk,e]
theorem zkU (v:Value)(l:List Int)(w:World)(he:Env w)(hv:Sl w v (zap l))(hl9:l.length≤1000)(hl:∀ z∈l,z.natAbs<1000000000) :
  Calls Tryz.prog 83 #[v] w fun e w'=>∃ u,e=.returned u∧zfw w' w.heap.size u (zkR l)∧Ext w w':=by
 obtain ⟨i0,hi,hz0,hz1,hz2⟩:=info_parts zfx;have hof:=fun (z:Int)(h:z∈l) W (hE:Ext w W)=>zkA z 1 W (he.ext hE) (hl z h) (by decide) (by decide);obtain ⟨a,c,rfl,_,_,hc⟩:=hv.parts;have hnx:∀ k,k<l.length→∃ z,l[k]?=some z∧z∈l:=fun k hk=>⟨_,List.getElem?_eq_getElem hk,List.getElem_mem _⟩;have hcell:∀ k z,l[k]?=some z→∃ b off,a=some ⟨b,off,none⟩∧w.cell? ⟨b,off+k,none⟩=some (.int .i64 z):=fun k z h=>hc k _ (by unfold zap;rw [List.getElem?_map,h];rfl);have hrl:=zkS l;rw [zar];generalize hn:l.length=n at *;have Hof:=hid hof;have Hnx:=hid hnx;have Hcell:=hid hcell;have Hrl:=hid hrl;clear hv hc he hl hof hnx hcell hrl hn;go_enter Tryz.func83,Tryz.ntmps83
 go_wp2_with fail
 go_loopw [3,5,8] (fun v3 v5 v8 wr=>∃ k:Nat,v8=.int .i64 k∧k≤n∧wr.ownsRow w.heap.size 65 2 v3 k (rcs ((zkR l).take k))∧Hid (Ext w wr)) (fun _ _ v8 _=>n - (zal v8).toNat)
 case atStart=>exact ⟨0,rfl,Nat.zero_le _,World.ownsRow_nil w _ _ 2,hid (Ext.refl _)⟩
 case round =>
  obtain ⟨k,rfl,hk,ho,HE⟩:=hrel;obtain ⟨a5,c5,rfl⟩:=zfi ho;by_cases hkn:k<n
  ·obtain ⟨z,hz,hzm⟩:=Hnx.out k hkn;obtain ⟨b,off,rfl,h0⟩:=Hcell.out k z hz;have htk:=zkT hz;have hcl:=fun W (hE:Ext w W)=>Hof.out z hzm W hE;rw [show mkRat z 1=(z:Rat) from Rat.mkRat_one z] at hcl;unfold Rv at hcl;generalize hs1:I ((z:Rat)).num=s1 at *;generalize hs2:I ((((z:Rat)).den:Nat):Int)=s2 at *;have hrn:rcs ((zkR l).take (k+1))=rcs ((zkR l).take k)++[.string s1,.string s2]:=(by rw [htk,zft,hs1,hs2]);have Hrn:=hid hrn;clear hrn hs1 hs2 htk;have hk0:(0:Int)≤(k:Int):=(by omega);have hk1:(k:Int)<(n:Int):=(by omega);have c0:=HE.out.cell h0;have hm3:k+1≤maxLen:=(by unfold maxLen;omega);have hm4:(k+1) * 32≤140737488355328:=(by omega);have Hcl:=hid hcl;have Ho:=hid ho;clear hcl ho h0 hz hzm;go_wp2_with fail
   refine (Hcl.out wr HE.out).mono ?_;rintro e VA ⟨rfl,hxa⟩;have HEA:=hid (HE.out.trans hxa);have hoA:=hxa.own Ho.out;have hbase:=HEA.out.size;clear hxa c0;go_wp2_with (at_builtin;refine wpList_append_own _ rfl _ _ 41 rfl w.heap.size 65 i0 (.agg #[.string ByteArray.empty,.string ByteArray.empty]) 2 32 Tryz.underlying41 hi hz0 hz1 hz2 rfl (by decide) _ _ _ rfl (hoA.alloc _) ⟨VA.heap.size,0,none⟩ 1 1 [.string s1,.string s2] rfl rfl (zkE VA _ _ _) (by simp [Value.oneCell']) hm3 hm4 (by rw [World.size_alloc];omega) ?_;intro v7 V7 hown7 hgrow7 _)
   go_roundw
   case rel=>exact ⟨k+1,by go_num,by omega,by rw [Hrn.out];exact hown7,hid ((HEA.out.alloc _).grown hgrow7 fun j hj=>(World.ownsRow.lt (hoA.alloc (.cells #[.string s1,.string s2] 65)) j hj).1)⟩
   case measure=>simp [zal];omega
  ·obtain rfl:n=k:=by omega
   rw [List.take_of_length_le (by rw [Hrl.out];exact Nat.le_refl _)] at ho;have Ho:=hid ho;clear ho;go_wp2
   go_ret
   exact ⟨_,rfl,by unfold zfw;rw [Hrl.out];exact Ho.out,HE.out⟩
theorem zkV (vp:Value)(p:List Int)(w:World)(he:Env w)(hp:Sl w vp (zap p))(hp0:0<p.length)(hp9:p.length≤100) :
  Calls Tryz.prog 71 #[vp] w fun e w'=>∃ u,e=.returned u∧zfw w' w.heap.size u (ov (p.length - 1))∧Ext w w':=by
 obtain ⟨i0,hi,hz0,hz1,hz2⟩:=info_parts zfg;have hwh:=fun W v (hE:Ext w W)(hv:Sl W v (zap (List.replicate p.length 0)))=>zkU v (List.replicate p.length 0) W (he.ext hE) hv (by rw [List.length_replicate];omega) (fun z hz=>by rw [List.eq_of_mem_replicate hz];decide);have hof:=fun W (hE:Ext w W)=>zkA 1 1 W (he.ext hE) (by decide) (by decide) (by decide);rw [show mkRat 1 1=(1:Rat) from Rat.mkRat_one 1] at hof;obtain ⟨ap,cp,rfl,_,_,_⟩:=hp.parts;rw [zar];have hrl:(zkR (List.replicate p.length 0)).length=p.length:=by rw [zkS,List.length_replicate]
 have hrc:((rcs (zkR (List.replicate p.length 0))).set 0 (.string (I (1:Rat).num))).set 1 (.string (I (((1:Rat).den:Nat):Int)))=rcs (ov (p.length - 1)):=by
  obtain ⟨m,hm⟩:∃ m,p.length=m+1:=⟨p.length - 1,by omega⟩;rw [hm,Nat.add_sub_cancel];unfold zkR ov;rw [List.map_replicate,List.replicate_succ,zfr,zfr];rfl
 have hovl:(ov (p.length - 1)).length=p.length:=by rw [zhG];omega
 unfold Rv at hof;generalize I (1:Rat).num=s1 at *;generalize I (((1:Rat).den:Nat):Int)=s2 at *;generalize hn:p.length=n at *;have Hwh:=hid hwh;have Hof:=hid hof;have Hrl:=hid hrl;have Hrc:=hid hrc;have Hovl:=hid hovl;clear hp he hwh hof hrl hrc hovl hn;go_enter Tryz.func71,Tryz.ntmps71
 go_wp2_with (at_make;refine wpList_make_full _ rfl _ _ 24 rfl w.heap.size 3 i0 _ 1 Tryz.underlying24 hi hz0 hz1 _ _ _ _ n rfl rfl rfl rfl (by rw [hz2];omega) (by unfold maxLen;omega) (Nat.le_refl _) ?_;intro w1 hown hgrow)
 have hx1:Ext w w1:=(Ext.refl w).grown hgrow (by simp);rw [show (Value.int .i64 0).cells=#[Value.int .i64 0] from rfl,toList_madeCells_one] at hown;have hsl:Sl w1 (.slice (some ⟨w.heap.size,0,none⟩) n n) (zap (List.replicate n 0)):=by
  have:=zan hown;rw [Nat.mul_one] at this;unfold zap;rw [List.map_replicate];exact this
 have hw1:=Hwh.out w1 _ hx1 hsl;have Hx1:=hid hx1;have Hw1:=hid hw1;clear hown hgrow hx1 hsl hw1;go_wp2_with fail
 refine Hw1.out.mono ?_;rintro e w2 ⟨u2,rfl,ho2,hx2⟩;have ho2':=ho2;unfold zfw at ho2';rw [Hrl.out] at ho2';rcases ho2'.2 with ⟨_,h0⟩ | ⟨g,cap,cur,rfl,hbg,hg,h1,h2,h3,h4⟩
 ·omega
 ·have hf:=Hof.out w2 (Hx1.out.trans hx2);have Hf:=hid hf;have Ho2:=hid ho2';have Hx2:=hid (Hx1.out.trans hx2);have hbw:w.heap.size≤g:=Nat.le_trans Hx1.out.size hbg;clear hf ho2 ho2' hx2 hg h1 h2 h3 h4;go_wp2_with fail
  refine Hf.out.mono ?_;rintro e w3 ⟨rfl,hx3⟩;have ho3:=hx3.own Ho2.out;have c0:=World.ownsRow.cellAt ho3 0 (by omega);have c1:=World.ownsRow.cellAt ho3 1 (by omega);have hlen:(rcs (zkR (List.replicate n 0))).length=2 * n:=by rw [zfu,Hrl.out]
  obtain ⟨e0,he0⟩:∃ q0,(rcs (zkR (List.replicate n 0)))[0]?=some q0:=⟨_,List.getElem?_eq_getElem (by omega)⟩;obtain ⟨e1,he1⟩:∃ q0,(rcs (zkR (List.replicate n 0)))[1]?=some q0:=⟨_,List.getElem?_eq_getElem (by omega)⟩;rw [he0] at c0;rw [he1] at c1;have f0:=zk1 ho3 0;have f1:=zk1 ho3 1;have hs0:=World.ownsRow.stored ho3 0 (.string s1);have hs1:=World.ownsRow.stored hs0.1 1 (.string s2);rw [Hrc.out] at hs1;have hE3:=((Hx2.out.trans hx3).setCell (p:=⟨g,0,none⟩) hbw (.string s1)).setCell (p:=⟨g,1,none⟩) hbw (.string s2);have Hs1:=hid (zam hs1.1 Hx1.out.size);have HE3:=hid hE3;have hni:(0:Int)<(n:Int):=by omega
  clear hs0 hs1 hE3 ho3 hx3 hlen he0 he1;go_wp2
  go_ret
  exact ⟨_,rfl,by unfold zfw;rw [Hovl.out];exact Hs1.out,HE3.out⟩
end Go.Proofs.YtebabancfnmfjaaGreatDoor
