/- Walks: schismaref03's Add and Mul of small fractions. Walks: law 31's add, times, less. whole.Small: strconv.ParseInt at numerals, with the error of the range. Walk: hermite's small. -/
import Derived.Test.YtbkfhacmekbniaaGreatDoorPa11
import Derived.Test.YtbkfhacmekbniaaGreatDoorPa07
import Derived.Test.YtbkfhacmekbniaaGreatDoorPa09
import Derived.Test.YtbkfhacmekbniaaGreatDoorShelfD
import Derived.Test.YtbkfhacmekbniaaGreatDoorPa01
set_option maxRecDepth 100000
set_option maxHeartbeats 800000
namespace Go.Proofs.YtbkfhacmekbniaaGreatDoor
section
open Go.RowKit Go.Lib Go.Shelf
attribute [local go_sem] Oper.semAt_some
theorem zgQ (a b:Rat)(w:World)(he:Env w)(h1:a.num.natAbs * b.num.natAbs<1000000000)(h2:a.den * b.den<1000000000)(ha:a.num.natAbs<1000000000)(hb:b.num.natAbs<1000000000)(ha2:a.den<1000000000)(hb2:b.den<1000000000) :
  Calls Tryz.prog 83 #[Rv a,Rv b] w fun e w'=>e=.returned (Rv (a * b))∧Ext w w':=by
 have hta:=fun W=>zg1 a.num W (by omega) (by omega);have htb:=fun W=>zg1 b.num W (by omega) (by omega);have htc:=fun W=>zg1 (a.den:Int) W (by omega) (by omega);have htd:=fun W=>zg1 (b.den:Int) W (by omega) (by omega);have hm1:=fun W va vb (h:W1 W va a.num)(k:W1 W vb b.num)=>zgH va vb a.num b.num W h k h1 ha hb;have hm2:=fun W va vb (h:W1 W va (a.den:Int))(k:W1 W vb (b.den:Int))=>zgH va vb (a.den:Int) (b.den:Int) W h k (by rw [Int.natAbs_natCast,Int.natAbs_natCast];exact h2) (by omega) (by omega);have hmk:=fun W va vb (hE:Ext w W)(h:W1 W va (a.num * b.num))(k:W1 W vb ((a.den:Int) * (b.den:Int)))=>zgN va vb (a.num * b.num) (a.den * b.den) W (he.ext hE) h (by rw [Int.natCast_mul];exact k) (by rw [Int.natAbs_mul];exact h1) (Nat.mul_pos a.den_pos b.den_pos) h2;rw [← Rat.mul_def'] at hmk;unfold Rv at hmk ⊢;generalize I (a * b).num=s1 at *;generalize I (((a * b).den:Nat):Int)=s2 at *;generalize I a.num=sa at *;generalize I b.num=sb at *;generalize I (a.den:Int)=sc at *;generalize I (b.den:Int)=sd at *;have hk2:=zdX 60 60 60 w (.string sa) (.string sc) (.string sb) (.string sd) (.string ⟨#[]⟩) (.string ⟨#[]⟩);generalize hV:((w.alloc (.cells #[.string sa,.string sc] 60)).alloc (.cells #[.string sb,.string sd] 60)).alloc (.cells #[.string ⟨#[]⟩,.string ⟨#[]⟩] 60)=V at *;have hk:=hk2.1;have p0:=hk.a.c0;have p1:=hk.a.c1;have q0:=hk.b.c0;have q1:=hk.b.c1;have Hk0:=hid hk;clear hk hk2;have Hta:=hid hta;have Htb:=hid htb;have Htc:=hid htc;have Htd:=hid htd;have Hm1:=hid hm1;have Hm2:=hid hm2;have Hmk:=hid hmk;clear hta htb htc htd hm1 hm2 hmk he h1 h2 ha hb ha2 hb2;go_enter Tryz.func83,Tryz.ntmps83
 go_wp2_with fail
 go_region_held3 (fun w'=>K2 60 60 60 w w' w.heap.size (.string sa) (.string sc) (w.heap.size+1) (.string sb) (.string sd) (w.heap.size+1+1)∧w'.cell? ⟨w.heap.size,0,none⟩=some (.string sa)∧w'.cell? ⟨w.heap.size,1,none⟩=some (.string sc)∧w'.cell? ⟨w.heap.size+1,0,none⟩=some (.string sb)∧w'.cell? ⟨w.heap.size+1,1,none⟩=some (.string sd)∧w'.cell? ⟨w.heap.size+1+1,0,none⟩=some (zdL w' (w.heap.size+1+1) 0)∧w'.cell? ⟨w.heap.size+1+1,1,none⟩=some (zdL w' (w.heap.size+1+1) 1)∧w'.frozen? ⟨w.heap.size+1+1,0,none⟩=false∧w'.frozen? ⟨w.heap.size+1+1,1,none⟩=false)
  (first | with_reducible exact Hk7.out.all | with_reducible exact Hk6.out.all | with_reducible exact Hk5.out.all | with_reducible exact Hk4.out.all | with_reducible exact Hk3.out.all | with_reducible exact Hk2.out.all | with_reducible exact Hk1.out.all | with_reducible exact (Hk0.out.ext ((Ext.refl V).drew)).all | with_reducible exact (Hk7.out.put (by omega) (by omega) (by omega) (.string s1) (.string s2)).all)
  (first
   | (have hpv:=Hk6;clear hpv;go_at_call 97;refine (Hmk.out _ _ _ Hk6.out.x Hw3_6.out Hw6_6.out).mono ?_;rintro e9 V7 ⟨rfl,hx7⟩;have Hk7:=hid (Hk6.out.ext hx7);have Hw1_7:=hid (Hw1_6.out.ext hx7);have Hw2_7:=hid (Hw2_6.out.ext hx7);have Hw3_7:=hid (Hw3_6.out.ext hx7);have Hw4_7:=hid (Hw4_6.out.ext hx7);have Hw5_7:=hid (Hw5_6.out.ext hx7);have Hw6_7:=hid (Hw6_6.out.ext hx7);clear hx7)
   | (have hpv:=Hk5;clear hpv;go_at_call 122;refine (Hm2.out _ _ _ Hw4_5.out Hw5_5.out).mono ?_;rintro e9 V6 ⟨v6,rfl,hw6,hx6⟩;obtain ⟨b6,a6,l6,c6,rfl,hw6⟩:=zgD hw6;have Hk6:=hid (Hk5.out.ext hx6);have Hw1_6:=hid (Hw1_5.out.ext hx6);have Hw2_6:=hid (Hw2_5.out.ext hx6);have Hw3_6:=hid (Hw3_5.out.ext hx6);have Hw4_6:=hid (Hw4_5.out.ext hx6);have Hw5_6:=hid (Hw5_5.out.ext hx6);have Hw6_6:=hid hw6;clear hw6;clear hx6)
   | (have hpv:=Hk4;clear hpv;go_at_call 79;refine (Htd.out _).mono ?_;rintro e9 V5 ⟨v5,rfl,hw5,hx5⟩;obtain ⟨b5,a5,l5,c5,rfl,hw5⟩:=zgD hw5;have Hk5:=hid (Hk4.out.ext hx5);have Hw1_5:=hid (Hw1_4.out.ext hx5);have Hw2_5:=hid (Hw2_4.out.ext hx5);have Hw3_5:=hid (Hw3_4.out.ext hx5);have Hw4_5:=hid (Hw4_4.out.ext hx5);have Hw5_5:=hid hw5;clear hw5;clear hx5)
   | (have hpv:=Hk3;clear hpv;go_at_call 79;refine (Htc.out _).mono ?_;rintro e9 V4 ⟨v4,rfl,hw4,hx4⟩;obtain ⟨b4,a4,l4,c4,rfl,hw4⟩:=zgD hw4;have Hk4:=hid (Hk3.out.ext hx4);have Hw1_4:=hid (Hw1_3.out.ext hx4);have Hw2_4:=hid (Hw2_3.out.ext hx4);have Hw3_4:=hid (Hw3_3.out.ext hx4);have Hw4_4:=hid hw4;clear hw4;clear hx4)
   | (have hpv:=Hk2;clear hpv;go_at_call 122;refine (Hm1.out _ _ _ Hw1_2.out Hw2_2.out).mono ?_;rintro e9 V3 ⟨v3,rfl,hw3,hx3⟩;obtain ⟨b3,a3,l3,c3,rfl,hw3⟩:=zgD hw3;have Hk3:=hid (Hk2.out.ext hx3);have Hw1_3:=hid (Hw1_2.out.ext hx3);have Hw2_3:=hid (Hw2_2.out.ext hx3);have Hw3_3:=hid hw3;clear hw3;clear hx3)
   | (have hpv:=Hk1;clear hpv;go_at_call 79;refine (Htb.out _).mono ?_;rintro e9 V2 ⟨v2,rfl,hw2,hx2⟩;obtain ⟨b2,a2,l2,c2,rfl,hw2⟩:=zgD hw2;have Hk2:=hid (Hk1.out.ext hx2);have Hw1_2:=hid (Hw1_1.out.ext hx2);have Hw2_2:=hid hw2;clear hw2;clear hx2)
   | (have hpv:=Hk0;clear hpv;go_at_call 79;refine (Hta.out _).mono ?_;rintro e9 V1 ⟨v1,rfl,hw1,hx1⟩;obtain ⟨b1,a1,l1,c1,rfl,hw1⟩:=zgD hw1;have Hk1:=hid (Hk0.out.ext (((Ext.refl V).drew).trans hx1));have Hw1_1:=hid hw1;clear hw1;clear hx1))
 all_goals
  obtain ⟨hb,hfx⟩:=Hk7.out.fin (by omega) (.string s1) (.string s2);have Hfx:=hid hfx;clear hfx;generalize (V7.setCell ⟨w.heap.size+1+1,0,none⟩ (.string s1)).setCell ⟨w.heap.size+1+1,1,none⟩ (.string s2)=W5 at *;have hd0:=hb.c0;have hd1:=hb.c1;go_wp2_with fail
  exact bodyPost_ret (v:=.agg #[.string s1,.string s2]) (by simp [results,Tryz.results83,go_sem,hd0,hd1]) rfl ⟨rfl,Hfx.out⟩
theorem zgR {a b:Rat}(h:a.den=b.den):a+b=mkRat (a.num+b.num) a.den:=by
 rw [Rat.add_def',← h,← Int.add_mul];exact Rat.mkRat_mul_right (by have:=a.den_pos;omega)
theorem zgS (a b:Rat)(w:World)(he:Env w)(h1:a.num.natAbs * b.den+b.num.natAbs * a.den<1000000000)(h2:a.den * b.den<1000000000)(h3:a.num.natAbs+b.num.natAbs<1000000000)(ha2:a.den<1000000000)(hb2:b.den<1000000000) :
  Calls Tryz.prog 92 #[Rv a,Rv b] w fun e w'=>e=.returned (Rv (a+b))∧Ext w w':=by
 have hta:=fun W=>zg1 a.num W (by omega) (by omega);have htb:=fun W=>zg1 b.num W (by omega) (by omega);have htc:=fun W=>zg1 (a.den:Int) W (by omega) (by omega);have htd:=fun W=>zg1 (b.den:Int) W (by omega) (by omega);by_cases hd:a.den=b.den
 ·have haw:=fun W va vb (h:W1 W va a.num)(k:W1 W vb b.num)=>zgF va vb a.num b.num W h k h3;have hmk:=fun W va vb (hE:Ext w W)(h:W1 W va (a.num+b.num))(k:W1 W vb (a.den:Int))=>zgN va vb (a.num+b.num) a.den W (he.ext hE) h k (by omega) a.den_pos ha2;rw [← zgR hd] at hmk;have hdi:I (b.den:Int)=I (a.den:Int):=by rw [hd]
  unfold Rv at hmk ⊢;rw [hdi];generalize I (a+b).num=s1 at *;generalize I (((a+b).den:Nat):Int)=s2 at *;generalize I a.num=sa at *;generalize I b.num=sb at *;generalize I (a.den:Int)=sc at *;clear htd hdi;obtain ⟨sd,hsd⟩:∃ sd,sd=sc:=⟨_,rfl⟩;have hk2:=zdX 60 60 60 w (.string sa) (.string sc) (.string sb) (.string sc) (.string ⟨#[]⟩) (.string ⟨#[]⟩);generalize hV:((w.alloc (.cells #[.string sa,.string sc] 60)).alloc (.cells #[.string sb,.string sc] 60)).alloc (.cells #[.string ⟨#[]⟩,.string ⟨#[]⟩] 60)=V at *;have hk:=hk2.1;have p0:=hk.a.c0;have p1:=hk.a.c1;have q0:=hk.b.c0;have q1:=hk.b.c1;have Hk0:=hid hk;clear hk hk2;clear hsd;have Hta:=hid hta;have Htb:=hid htb;have Htc:=hid htc;have Haw:=hid haw;have Hmk:=hid hmk;clear hta htb htc haw hmk he h1 h2 h3 ha2 hb2 hd;go_enter Tryz.func92,Tryz.ntmps92
  go_wp2_with fail
  go_wp2_with fail
  go_region_held3 (fun w'=>K2 60 60 60 w w' w.heap.size (.string sa) (.string sc) (w.heap.size+1) (.string sb) (.string sc) (w.heap.size+1+1)∧w'.cell? ⟨w.heap.size,0,none⟩=some (.string sa)∧w'.cell? ⟨w.heap.size,1,none⟩=some (.string sc)∧w'.cell? ⟨w.heap.size+1,0,none⟩=some (.string sb)∧w'.cell? ⟨w.heap.size+1,1,none⟩=some (.string sc)∧w'.cell? ⟨w.heap.size+1+1,0,none⟩=some (zdL w' (w.heap.size+1+1) 0)∧w'.cell? ⟨w.heap.size+1+1,1,none⟩=some (zdL w' (w.heap.size+1+1) 1)∧w'.frozen? ⟨w.heap.size+1+1,0,none⟩=false∧w'.frozen? ⟨w.heap.size+1+1,1,none⟩=false)
   (first | with_reducible exact Hk5.out.all | with_reducible exact Hk4.out.all | with_reducible exact Hk3.out.all | with_reducible exact Hk2.out.all | with_reducible exact Hk1.out.all | with_reducible exact (Hk0.out.ext ((Ext.refl V).drew)).all | with_reducible exact (Hk5.out.put (by omega) (by omega) (by omega) (.string s1) (.string s2)).all)
   (first
    | (have hpv:=Hk4;clear hpv;go_at_call 97;refine (Hmk.out _ _ _ Hk4.out.x Hw3_4.out Hw4_4.out).mono ?_;rintro e9 V5 ⟨rfl,hx5⟩;have Hk5:=hid (Hk4.out.ext hx5);have Hw1_5:=hid (Hw1_4.out.ext hx5);have Hw2_5:=hid (Hw2_4.out.ext hx5);have Hw3_5:=hid (Hw3_4.out.ext hx5);have Hw4_5:=hid (Hw4_4.out.ext hx5);clear hx5)
    | (have hpv:=Hk3;clear hpv;go_at_call 79;refine (Htc.out _).mono ?_;rintro e9 V4 ⟨v4,rfl,hw4,hx4⟩;obtain ⟨b4,a4,l4,c4,rfl,hw4⟩:=zgD hw4;have Hk4:=hid (Hk3.out.ext hx4);have Hw1_4:=hid (Hw1_3.out.ext hx4);have Hw2_4:=hid (Hw2_3.out.ext hx4);have Hw3_4:=hid (Hw3_3.out.ext hx4);have Hw4_4:=hid hw4;clear hw4;clear hx4)
    | (have hpv:=Hk2;clear hpv;go_at_call 135;refine (Haw.out _ _ _ Hw1_2.out Hw2_2.out).mono ?_;rintro e9 V3 ⟨v3,rfl,hw3,hx3⟩;obtain ⟨b3,a3,l3,c3,rfl,hw3⟩:=zgD hw3;have Hk3:=hid (Hk2.out.ext hx3);have Hw1_3:=hid (Hw1_2.out.ext hx3);have Hw2_3:=hid (Hw2_2.out.ext hx3);have Hw3_3:=hid hw3;clear hw3;clear hx3)
    | (have hpv:=Hk1;clear hpv;go_at_call 79;refine (Htb.out _).mono ?_;rintro e9 V2 ⟨v2,rfl,hw2,hx2⟩;obtain ⟨b2,a2,l2,c2,rfl,hw2⟩:=zgD hw2;have Hk2:=hid (Hk1.out.ext hx2);have Hw1_2:=hid (Hw1_1.out.ext hx2);have Hw2_2:=hid hw2;clear hw2;clear hx2)
    | (have hpv:=Hk0;clear hpv;go_at_call 79;refine (Hta.out _).mono ?_;rintro e9 V1 ⟨v1,rfl,hw1,hx1⟩;obtain ⟨b1,a1,l1,c1,rfl,hw1⟩:=zgD hw1;have Hk1:=hid (Hk0.out.ext (((Ext.refl V).drew).trans hx1));have Hw1_1:=hid hw1;clear hw1;clear hx1))
  all_goals
   obtain ⟨hb,hfx⟩:=Hk5.out.fin (by omega) (.string s1) (.string s2);have Hfx:=hid hfx;clear hfx;generalize (V5.setCell ⟨w.heap.size+1+1,0,none⟩ (.string s1)).setCell ⟨w.heap.size+1+1,1,none⟩ (.string s2)=W5 at *;have hd0:=hb.c0;have hd1:=hb.c1;go_wp2_with fail
   exact bodyPost_ret (v:=.agg #[.string s1,.string s2]) (by simp [results,Tryz.results92,go_sem,hd0,hd1]) rfl ⟨rfl,Hfx.out⟩
 ·have hm1:=fun W va vb (h:W1 W va a.num)(k:W1 W vb (b.den:Int))=>zgH va vb a.num (b.den:Int) W h k (by rw [Int.natAbs_natCast];omega) (by omega) (by omega);have hm2:=fun W va vb (h:W1 W va b.num)(k:W1 W vb (a.den:Int))=>zgH va vb b.num (a.den:Int) W h k (by rw [Int.natAbs_natCast];omega) (by omega) (by omega);have hm3:=fun W va vb (h:W1 W va (a.den:Int))(k:W1 W vb (b.den:Int))=>zgH va vb (a.den:Int) (b.den:Int) W h k (by rw [Int.natAbs_natCast,Int.natAbs_natCast];exact h2) (by omega) (by omega);have hsum:(a.num * (b.den:Int)).natAbs+(b.num * (a.den:Int)).natAbs<1000000000:=by rw [Int.natAbs_mul,Int.natAbs_mul,Int.natAbs_natCast,Int.natAbs_natCast];exact h1
  have haw:=fun W va vb (h:W1 W va (a.num * (b.den:Int)))(k:W1 W vb (b.num * (a.den:Int)))=>zgF va vb (a.num * (b.den:Int)) (b.num * (a.den:Int)) W h k hsum;have hmk:=fun W va vb (hE:Ext w W)(h:W1 W va (a.num * (b.den:Int)+b.num * (a.den:Int)))(k:W1 W vb ((a.den:Int) * (b.den:Int)))=>zgN va vb (a.num * (b.den:Int)+b.num * (a.den:Int)) (a.den * b.den) W (he.ext hE) h (by rw [Int.natCast_mul];exact k) (Nat.lt_of_le_of_lt (Int.natAbs_add_le _ _) hsum) (Nat.mul_pos a.den_pos b.den_pos) h2;rw [← Rat.add_def'] at hmk;have hnb:((I (a.den:Int)).toList == (I (b.den:Int)).toList)=false:=by rw [zbt];exact decide_eq_false (by omega)
  have hne:¬ (I (a.den:Int)).toList=(I (b.den:Int)).toList:=fun e=>by rw [e] at hnb;simp at hnb
  unfold Rv at hmk ⊢;generalize I (a+b).num=s1 at *;generalize I (((a+b).den:Nat):Int)=s2 at *;generalize I a.num=sa at *;generalize I b.num=sb at *;generalize I (a.den:Int)=sc at *;generalize I (b.den:Int)=sd at *;have hk2:=zdX 60 60 60 w (.string sa) (.string sc) (.string sb) (.string sd) (.string ⟨#[]⟩) (.string ⟨#[]⟩);generalize hV:((w.alloc (.cells #[.string sa,.string sc] 60)).alloc (.cells #[.string sb,.string sd] 60)).alloc (.cells #[.string ⟨#[]⟩,.string ⟨#[]⟩] 60)=V at *;have hk:=hk2.1;have p0:=hk.a.c0;have p1:=hk.a.c1;have q0:=hk.b.c0;have q1:=hk.b.c1;have Hk0:=hid hk;clear hk hk2;have Hta:=hid hta;have Htb:=hid htb;have Htc:=hid htc;have Htd:=hid htd;have Hm1:=hid hm1;have Hm2:=hid hm2;have Hm3:=hid hm3;have Haw:=hid haw;have Hmk:=hid hmk;clear hta htb htc htd hm1 hm2 hm3 haw hmk he h1 h2 h3 ha2 hb2 hd hsum;go_enter Tryz.func92,Tryz.ntmps92
  go_wp2_with fail
  go_wp2_with fail
  go_region_held3 (fun w'=>K2 60 60 60 w w' w.heap.size (.string sa) (.string sc) (w.heap.size+1) (.string sb) (.string sd) (w.heap.size+1+1)∧w'.cell? ⟨w.heap.size,0,none⟩=some (.string sa)∧w'.cell? ⟨w.heap.size,1,none⟩=some (.string sc)∧w'.cell? ⟨w.heap.size+1,0,none⟩=some (.string sb)∧w'.cell? ⟨w.heap.size+1,1,none⟩=some (.string sd)∧w'.cell? ⟨w.heap.size+1+1,0,none⟩=some (zdL w' (w.heap.size+1+1) 0)∧w'.cell? ⟨w.heap.size+1+1,1,none⟩=some (zdL w' (w.heap.size+1+1) 1)∧w'.frozen? ⟨w.heap.size+1+1,0,none⟩=false∧w'.frozen? ⟨w.heap.size+1+1,1,none⟩=false)
   (first | with_reducible exact Hk11.out.all | with_reducible exact Hk10.out.all | with_reducible exact Hk9.out.all | with_reducible exact Hk8.out.all | with_reducible exact Hk7.out.all | with_reducible exact Hk6.out.all | with_reducible exact Hk5.out.all | with_reducible exact Hk4.out.all | with_reducible exact Hk3.out.all | with_reducible exact Hk2.out.all | with_reducible exact Hk1.out.all | with_reducible exact (Hk0.out.ext ((Ext.refl V).drew)).all | with_reducible exact (Hk11.out.put (by omega) (by omega) (by omega) (.string s1) (.string s2)).all)
   (first
    | (have hpv:=Hk10;clear hpv;go_at_call 97;refine (Hmk.out _ _ _ Hk10.out.x Hw7_10.out Hw10_10.out).mono ?_;rintro e9 V11 ⟨rfl,hx11⟩;have Hk11:=hid (Hk10.out.ext hx11);have Hw1_11:=hid (Hw1_10.out.ext hx11);have Hw2_11:=hid (Hw2_10.out.ext hx11);have Hw3_11:=hid (Hw3_10.out.ext hx11);have Hw4_11:=hid (Hw4_10.out.ext hx11);have Hw5_11:=hid (Hw5_10.out.ext hx11);have Hw6_11:=hid (Hw6_10.out.ext hx11);have Hw7_11:=hid (Hw7_10.out.ext hx11);have Hw8_11:=hid (Hw8_10.out.ext hx11);have Hw9_11:=hid (Hw9_10.out.ext hx11);have Hw10_11:=hid (Hw10_10.out.ext hx11);clear hx11)
    | (have hpv:=Hk9;clear hpv;go_at_call 122;refine (Hm3.out _ _ _ Hw8_9.out Hw9_9.out).mono ?_;rintro e9 V10 ⟨v10,rfl,hw10,hx10⟩;obtain ⟨b10,a10,l10,c10,rfl,hw10⟩:=zgD hw10;have Hk10:=hid (Hk9.out.ext hx10);have Hw1_10:=hid (Hw1_9.out.ext hx10);have Hw2_10:=hid (Hw2_9.out.ext hx10);have Hw3_10:=hid (Hw3_9.out.ext hx10);have Hw4_10:=hid (Hw4_9.out.ext hx10);have Hw5_10:=hid (Hw5_9.out.ext hx10);have Hw6_10:=hid (Hw6_9.out.ext hx10);have Hw7_10:=hid (Hw7_9.out.ext hx10);have Hw8_10:=hid (Hw8_9.out.ext hx10);have Hw9_10:=hid (Hw9_9.out.ext hx10);have Hw10_10:=hid hw10;clear hw10;clear hx10)
    | (have hpv:=Hk8;clear hpv;go_at_call 79;refine (Htd.out _).mono ?_;rintro e9 V9 ⟨v9,rfl,hw9,hx9⟩;obtain ⟨b9,a9,l9,c9,rfl,hw9⟩:=zgD hw9;have Hk9:=hid (Hk8.out.ext hx9);have Hw1_9:=hid (Hw1_8.out.ext hx9);have Hw2_9:=hid (Hw2_8.out.ext hx9);have Hw3_9:=hid (Hw3_8.out.ext hx9);have Hw4_9:=hid (Hw4_8.out.ext hx9);have Hw5_9:=hid (Hw5_8.out.ext hx9);have Hw6_9:=hid (Hw6_8.out.ext hx9);have Hw7_9:=hid (Hw7_8.out.ext hx9);have Hw8_9:=hid (Hw8_8.out.ext hx9);have Hw9_9:=hid hw9;clear hw9;clear hx9)
    | (have hpv:=Hk7;clear hpv;go_at_call 79;refine (Htc.out _).mono ?_;rintro e9 V8 ⟨v8,rfl,hw8,hx8⟩;obtain ⟨b8,a8,l8,c8,rfl,hw8⟩:=zgD hw8;have Hk8:=hid (Hk7.out.ext hx8);have Hw1_8:=hid (Hw1_7.out.ext hx8);have Hw2_8:=hid (Hw2_7.out.ext hx8);have Hw3_8:=hid (Hw3_7.out.ext hx8);have Hw4_8:=hid (Hw4_7.out.ext hx8);have Hw5_8:=hid (Hw5_7.out.ext hx8);have Hw6_8:=hid (Hw6_7.out.ext hx8);have Hw7_8:=hid (Hw7_7.out.ext hx8);have Hw8_8:=hid hw8;clear hw8;clear hx8)
    | (have hpv:=Hk6;clear hpv;go_at_call 135;refine (Haw.out _ _ _ Hw3_6.out Hw6_6.out).mono ?_;rintro e9 V7 ⟨v7,rfl,hw7,hx7⟩;obtain ⟨b7,a7,l7,c7,rfl,hw7⟩:=zgD hw7;have Hk7:=hid (Hk6.out.ext hx7);have Hw1_7:=hid (Hw1_6.out.ext hx7);have Hw2_7:=hid (Hw2_6.out.ext hx7);have Hw3_7:=hid (Hw3_6.out.ext hx7);have Hw4_7:=hid (Hw4_6.out.ext hx7);have Hw5_7:=hid (Hw5_6.out.ext hx7);have Hw6_7:=hid (Hw6_6.out.ext hx7);have Hw7_7:=hid hw7;clear hw7;clear hx7)
    | (have hpv:=Hk5;clear hpv;go_at_call 122;refine (Hm2.out _ _ _ Hw4_5.out Hw5_5.out).mono ?_;rintro e9 V6 ⟨v6,rfl,hw6,hx6⟩;obtain ⟨b6,a6,l6,c6,rfl,hw6⟩:=zgD hw6;have Hk6:=hid (Hk5.out.ext hx6);have Hw1_6:=hid (Hw1_5.out.ext hx6);have Hw2_6:=hid (Hw2_5.out.ext hx6);have Hw3_6:=hid (Hw3_5.out.ext hx6);have Hw4_6:=hid (Hw4_5.out.ext hx6);have Hw5_6:=hid (Hw5_5.out.ext hx6);have Hw6_6:=hid hw6;clear hw6;clear hx6)
    | (have hpv:=Hk4;clear hpv;go_at_call 79;refine (Htc.out _).mono ?_;rintro e9 V5 ⟨v5,rfl,hw5,hx5⟩;obtain ⟨b5,a5,l5,c5,rfl,hw5⟩:=zgD hw5;have Hk5:=hid (Hk4.out.ext hx5);have Hw1_5:=hid (Hw1_4.out.ext hx5);have Hw2_5:=hid (Hw2_4.out.ext hx5);have Hw3_5:=hid (Hw3_4.out.ext hx5);have Hw4_5:=hid (Hw4_4.out.ext hx5);have Hw5_5:=hid hw5;clear hw5;clear hx5)
    | (have hpv:=Hk3;clear hpv;go_at_call 79;refine (Htb.out _).mono ?_;rintro e9 V4 ⟨v4,rfl,hw4,hx4⟩;obtain ⟨b4,a4,l4,c4,rfl,hw4⟩:=zgD hw4;have Hk4:=hid (Hk3.out.ext hx4);have Hw1_4:=hid (Hw1_3.out.ext hx4);have Hw2_4:=hid (Hw2_3.out.ext hx4);have Hw3_4:=hid (Hw3_3.out.ext hx4);have Hw4_4:=hid hw4;clear hw4;clear hx4)
    | (have hpv:=Hk2;clear hpv;go_at_call 122;refine (Hm1.out _ _ _ Hw1_2.out Hw2_2.out).mono ?_;rintro e9 V3 ⟨v3,rfl,hw3,hx3⟩;obtain ⟨b3,a3,l3,c3,rfl,hw3⟩:=zgD hw3;have Hk3:=hid (Hk2.out.ext hx3);have Hw1_3:=hid (Hw1_2.out.ext hx3);have Hw2_3:=hid (Hw2_2.out.ext hx3);have Hw3_3:=hid hw3;clear hw3;clear hx3)
    | (have hpv:=Hk1;clear hpv;go_at_call 79;refine (Htd.out _).mono ?_;rintro e9 V2 ⟨v2,rfl,hw2,hx2⟩;obtain ⟨b2,a2,l2,c2,rfl,hw2⟩:=zgD hw2;have Hk2:=hid (Hk1.out.ext hx2);have Hw1_2:=hid (Hw1_1.out.ext hx2);have Hw2_2:=hid hw2;clear hw2;clear hx2)
    | (have hpv:=Hk0;clear hpv;go_at_call 79;refine (Hta.out _).mono ?_;rintro e9 V1 ⟨v1,rfl,hw1,hx1⟩;obtain ⟨b1,a1,l1,c1,rfl,hw1⟩:=zgD hw1;have Hk1:=hid (Hk0.out.ext (((Ext.refl V).drew).trans hx1));have Hw1_1:=hid hw1;clear hw1;clear hx1))
  all_goals
   obtain ⟨hb,hfx⟩:=Hk11.out.fin (by omega) (.string s1) (.string s2);have Hfx:=hid hfx;clear hfx;generalize (V11.setCell ⟨w.heap.size+1+1,0,none⟩ (.string s1)).setCell ⟨w.heap.size+1+1,1,none⟩ (.string s2)=W5 at *;have hd0:=hb.c0;have hd1:=hb.c1;go_wp2_with fail
   exact bodyPost_ret (v:=.agg #[.string s1,.string s2]) (by simp [results,Tryz.results92,go_sem,hd0,hd1]) rfl ⟨rfl,Hfx.out⟩
def Sn (r:Rat):Prop:=r.num.natAbs≤30000∧r.den≤1000
theorem Sn.add {a b:Rat}(ha:Sn a)(hb:Sn b):a.num.natAbs * b.den+b.num.natAbs * a.den<1000000000∧a.den * b.den<1000000000∧a.num.natAbs+b.num.natAbs<1000000000∧a.den<1000000000∧b.den<1000000000:=by
 have h1:a.num.natAbs * b.den≤30000 * 1000:=Nat.mul_le_mul ha.1 hb.2;have h2:b.num.natAbs * a.den≤30000 * 1000:=Nat.mul_le_mul hb.1 ha.2;have h3:a.den * b.den≤1000 * 1000:=Nat.mul_le_mul ha.2 hb.2;have h4:=ha.1;have h5:=ha.2;have h6:=hb.1;have h7:=hb.2;omega
theorem Sn.mul {a b:Rat}(ha:Sn a)(hb:Sn b):a.num.natAbs * b.num.natAbs<1000000000∧a.den * b.den<1000000000∧a.num.natAbs<1000000000∧b.num.natAbs<1000000000∧a.den<1000000000∧b.den<1000000000:=by
 have h1:a.num.natAbs * b.num.natAbs≤30000 * 30000:=Nat.mul_le_mul ha.1 hb.1;have h3:a.den * b.den≤1000 * 1000:=Nat.mul_le_mul ha.2 hb.2;have h4:=ha.1;have h5:=ha.2;have h6:=hb.1;have h7:=hb.2;omega
theorem zgT (w:World)(x y:Value)(t:TypeId):∀ j u,[x,y][j]?=some u→(w.alloc (.cells #[x,y] t)).cell? ((⟨w.heap.size,0,none⟩:Addr).add j)=some u:=by
 intro j u hj;have h:=World.alloc_heap_new w (.cells #[x,y] t);rw [show ((⟨w.heap.size,0,none⟩:Addr).add j)=⟨w.heap.size,j,none⟩ by unfold Addr.add;split <;> simp_all]
 unfold World.cell?;dsimp only;rw [h];have hlt:j<2:=(List.getElem?_eq_some_iff.1 hj).1;rcases (by omega:j=0∨j=1) with rfl | rfl
 ·cases hj;rfl
 ·cases hj;rfl
theorem zgU {x y:List Rat}{k:Nat}{a b:Rat}(ha:x[k]?=some a)(hb:y[k]?=some b):(zeU x y).take (k+1)=(zeU x y).take k++[a+b]:=by
 have h:(zeU x y)[k]?=some (a+b):=by
  unfold zeU;rw [List.getElem?_zipWith,ha,hb]
 obtain ⟨hk,e⟩:=List.getElem?_eq_some_iff.1 h;rw [List.take_succ_eq_append_getElem hk,e]
theorem zgV {x:List Rat}{k:Nat}{a:Rat}(q:Rat)(ha:x[k]?=some a):(zeW x q).take (k+1)=(zeW x q).take k++[a * q]:=by
 have h:(zeW x q)[k]?=some (a * q):=by
  unfold zeW;rw [List.getElem?_map,ha];rfl
 obtain ⟨hk,e⟩:=List.getElem?_eq_some_iff.1 h;rw [List.take_succ_eq_append_getElem hk,e]
theorem zgW (va vb:Value)(x y:List Rat)(w:World)(he:Env w)(ha:Rd w va x)(hb:Rd w vb y)(hl:x.length=y.length)(hx9:x.length≤1000)(hxy:∀ a∈x,∀ b∈y,a.num.natAbs * b.den+b.num.natAbs * a.den<1000000000∧a.den * b.den<1000000000∧a.num.natAbs+b.num.natAbs<1000000000∧a.den<1000000000∧b.den<1000000000) :
  Calls Tryz.prog 62 #[va,vb] w fun e w'=>∃ u,e=.returned u∧zf6 w' w.heap.size u (zeU x y)∧Ext w w':=by
 obtain ⟨i0,hi,hz0,hz1,hz2⟩:=info_parts zf7;have had:=fun (a b:Rat)(h:a∈x)(k:b∈y) W (hE:Ext w W)=>zgS a b W (he.ext hE) (hxy a h b k).1 (hxy a h b k).2.1 (hxy a h b k).2.2.1 (hxy a h b k).2.2.2.1 (hxy a h b k).2.2.2.2;obtain ⟨aa,ca,rfl,_,_,hca⟩:=ha.parts;obtain ⟨ab,cb,rfl,_,_,hcb⟩:=hb.parts;have hzl:(zeU x y).length=x.length:=by unfold zeU;rw [List.length_zipWith,← hl,Nat.min_self]
 have hnx:∀ k,k<x.length→∃ a b,x[k]?=some a∧y[k]?=some b∧a∈x∧b∈y:=fun k hk=>⟨_,_,List.getElem?_eq_getElem hk,List.getElem?_eq_getElem (by omega),List.getElem_mem _,List.getElem_mem _⟩;rw [← hl];generalize hn:x.length=n at *;have Had:=hid had;have Hca:=hid hca;have Hcb:=hid hcb;have Hzl:=hid hzl;have Hnx:=hid hnx;clear ha hb he hxy had hca hcb hzl hnx hl hn;go_enter Tryz.func62,Tryz.ntmps62
 go_wp2_with fail
 go_loopw [5,6,9] (fun v5 v6 v9 wr=>∃ k:Nat,v9=.int .i64 k∧k≤n∧wr.ownsRow w.heap.size 60 2 v5 k (rcs ((zeU x y).take k))∧Hid (Ext w wr)) (fun _ _ v9 _=>n - (zag v9).toNat)
 case atStart=>exact ⟨0,rfl,Nat.zero_le _,World.ownsRow_nil w _ _ 2,hid (Ext.refl _)⟩
 case round =>
  obtain ⟨k,rfl,hk,ho,HE⟩:=hrel;obtain ⟨a5,c5,rfl⟩:=zel ho;by_cases hkn:k<n
  ·obtain ⟨a,b,hxa,hyb,hma,hmb⟩:=Hnx.out k hkn;obtain ⟨ba,oa,rfl,h0,h1⟩:=Hca.out k a hxa;obtain ⟨bb,ob,rfl,h2,h3⟩:=Hcb.out k b hyb;have htk:=zgU hxa hyb;have hcl:=fun W (hE:Ext w W)=>Had.out a b hma hmb W hE;unfold Rv at hcl;generalize hs1:I (a+b).num=s1 at *;generalize hs2:I (((a+b).den:Nat):Int)=s2 at *;have hrn:rcs ((zeU x y).take (k+1))=rcs ((zeU x y).take k)++[.string s1,.string s2]:=(by rw [htk,zf3,hs1,hs2]);have Hrn:=hid hrn;clear hrn hs1 hs2 htk;generalize I a.num=sa at *;generalize I (a.den:Int)=sc at *;generalize I b.num=sb at *;generalize I (b.den:Int)=sd at *;have hk0:(0:Int)≤(k:Int):=(by omega);have hk1:(k:Int)<(n:Int):=(by omega);have c0:=HE.out.cell h0;have c1:=HE.out.cell h1;have c2:=HE.out.cell h2;have c3:=HE.out.cell h3;have hm3:k+1≤maxLen:=(by unfold maxLen;omega);have hm4:(k+1) * 32≤140737488355328:=(by omega);have hS:=fun W (h:Ext w W)=>(⟨h,h.cell h0,h.cell h1,h.cell h2,h.cell h3⟩:Ext w W∧W.cell? _=_∧W.cell? _=_∧W.cell? _=_∧W.cell? _=_);have HS:=hid hS;have Hcl:=hid hcl;have Ho:=hid ho;clear hS hcl ho h0 h1 h2 h3 hxa hyb hma hmb;go_wp2_with fail
   go_region_held3 (fun w'=>Ext w w'∧w'.cell? ⟨ba,oa+k * 2,none⟩=some (.string sa)∧w'.cell? ⟨ba,oa+k * 2+1,none⟩=some (.string sc)∧w'.cell? ⟨bb,ob+k * 2,none⟩=some (.string sb)∧w'.cell? ⟨bb,ob+k * 2+1,none⟩=some (.string sd))
    (first | with_reducible exact HS.out _ HEV.out | with_reducible exact HS.out _ (HEA.out.alloc _) | with_reducible exact HS.out _ HEA.out | with_reducible exact HS.out _ HE.out.drew)
    (first
     | (have hpv:=HEA;clear hpv;refine step_append_lies _ rfl (.tmp 12) (.tmp 22) 32 rfl w.heap.size 60 i0 (.agg #[.string ByteArray.empty,.string ByteArray.empty]) 2 32 Tryz.underlying32 hi hz0 hz1 hz2 rfl (by decide) (.slice a5 k c5) k (rcs ((zeU x y).take k)) (by simp [Act.eval]) (HoA.out.alloc _) ⟨VA.heap.size,0,none⟩ 1 1 [.string s1,.string s2] (by simp [Act.eval]) rfl (zgT VA _ _ _) (by simp [Value.oneCell']) (by decide) hm3 hm4 (HEA.out.alloc (.cells #[.string s1,.string s2] 60)).size _ rfl ?_;intro g1 cc1 V1 hown1 hgrow1 hat1 hlt1;have HEV:=hid ((HEA.out.alloc _).grown hgrow1 fun j hj=>(World.ownsRow.lt (HoA.out.alloc (.cells #[.string s1,.string s2] 60)) j hj).1);have Hown1:=hid hown1;clear hown1 hgrow1 hat1 hlt1)
     | (go_at_call 92;refine (Hcl.out _ HE.out.drew).mono ?_;rintro e9 VA ⟨rfl,hxa⟩;have HEA:=hid (HE.out.drew.trans hxa);have HoA:=hid ((((Ext.refl wr).drew).trans hxa).own Ho.out);clear hxa))
   all_goals
    clear c0 c1 c2 c3;go_wp2_with fail
    go_roundw
    case rel=>exact ⟨k+1,by go_num,by omega,by rw [Hrn.out];exact Hown1.out,HEV⟩
    case measure=>simp [zag];omega
  ·obtain rfl:n=k:=by omega
   rw [List.take_of_length_le (by rw [Hzl.out];exact Nat.le_refl _)] at ho;have Ho:=hid ho;clear ho;go_wp2
   go_ret
   exact ⟨_,rfl,by unfold zf6;rw [Hzl.out];exact Ho.out,HE.out⟩
theorem zgX (va vb:Value)(x y:List Rat)(w:World)(he:Env w)(ha:Rd w va x)(hb:Rd w vb y)(hl:x.length=y.length)(hx9:x.length≤1000)(hx:∀ r∈x,Sn r)(hy:∀ r∈y,Sn r) :
  Calls Tryz.prog 62 #[va,vb] w fun e w'=>∃ u,e=.returned u∧zf6 w' w.heap.size u (zeU x y)∧Ext w w' :=
 zgW va vb x y w he ha hb hl hx9 fun a h b k=>Sn.add (hx a h) (hy b k)
theorem zgY (va:Value)(x:List Rat)(q:Rat)(w:World)(he:Env w)(ha:Rd w va x)(hx9:x.length≤1000)(hxq:∀ a∈x,a.num.natAbs * q.num.natAbs<1000000000∧a.den * q.den<1000000000∧a.num.natAbs<1000000000∧q.num.natAbs<1000000000∧a.den<1000000000∧q.den<1000000000) :
  Calls Tryz.prog 48 #[va,Rv q] w fun e w'=>∃ u,e=.returned u∧zf6 w' w.heap.size u (zeW x q)∧Ext w w':=by
 obtain ⟨i0,hi,hz0,hz1,hz2⟩:=info_parts zf7;have had:=fun (a:Rat)(h:a∈x) W (hE:Ext w W)=>zgQ a q W (he.ext hE) (hxq a h).1 (hxq a h).2.1 (hxq a h).2.2.1 (hxq a h).2.2.2.1 (hxq a h).2.2.2.2.1 (hxq a h).2.2.2.2.2;obtain ⟨aa,ca,rfl,_,_,hca⟩:=ha.parts;have hzl:(zeW x q).length=x.length:=by unfold zeW;rw [List.length_map]
 have hnx:∀ k,k<x.length→∃ a,x[k]?=some a∧a∈x:=fun k hk=>⟨_,List.getElem?_eq_getElem hk,List.getElem_mem _⟩;have hbx:=zdV.new 60 w (.string (I q.num)) (.string (I (q.den:Int)));unfold Rv at had ⊢;generalize I q.num=sb at *;generalize I (q.den:Int)=sd at *;have hE0:Ext w (w.alloc (.cells #[.string sb,.string sd] 60)):=(Ext.refl w).alloc _;have hsz:(w.alloc (.cells #[.string sb,.string sd] 60)).heap.size=w.heap.size+1:=World.size_alloc ..;generalize hn:x.length=n at *;have Had:=hid had;have Hca:=hid hca;have Hzl:=hid hzl;have Hnx:=hid hnx;have HE0:=hid hE0;have Hbx:=hid hbx;have Hsz:=hid hsz;clear ha he hxq had hca hzl hnx hn hE0 hbx hsz;go_enter Tryz.func48,Tryz.ntmps48
 go_wp2_with fail
 generalize hV:w.alloc (.cells #[.string sb,.string sd] 60)=V at *;go_loopw [5,6,9] (fun v5 v6 v9 wr=>∃ k:Nat,v9=.int .i64 k∧k≤n∧wr.ownsRow V.heap.size 60 2 v5 k (rcs ((zeW x q).take k))∧Hid (Ext V wr)) (fun _ _ v9 _=>n - (zag v9).toNat)
 case atStart=>exact ⟨0,rfl,Nat.zero_le _,World.ownsRow_nil V _ _ 2,hid (Ext.refl _)⟩
 case round =>
  obtain ⟨k,rfl,hk,ho,HE⟩:=hrel;obtain ⟨a5,c5,rfl⟩:=zel ho;by_cases hkn:k<n
  ·obtain ⟨a,hxa,hma⟩:=Hnx.out k hkn;obtain ⟨ba,oa,rfl,h0,h1⟩:=Hca.out k a hxa;have htk:=zgV q hxa;have hcl:=fun W (hE:Ext w W)=>Had.out a hma W hE;generalize hs1:I (a * q).num=s1 at *;generalize hs2:I (((a * q).den:Nat):Int)=s2 at *;have hrn:rcs ((zeW x q).take (k+1))=rcs ((zeW x q).take k)++[.string s1,.string s2]:=(by rw [htk,zf3,hs1,hs2]);have Hrn:=hid hrn;clear hrn hs1 hs2 htk;generalize I a.num=sa at *;generalize I (a.den:Int)=sc at *;have hk0:(0:Int)≤(k:Int):=(by omega);have hk1:(k:Int)<(n:Int):=(by omega);have h0:=HE0.out.cell h0;have h1:=HE0.out.cell h1;have c0:=HE.out.cell h0;have c1:=HE.out.cell h1;have c2:=(Hbx.out.ext HE.out).c0;have c3:=(Hbx.out.ext HE.out).c1;have hm3:k+1≤maxLen:=(by unfold maxLen;omega);have hm4:(k+1) * 32≤140737488355328:=(by omega);have hS:=fun W (h:Ext V W)=>(⟨h,h.cell h0,h.cell h1,(Hbx.out.ext h).c0,(Hbx.out.ext h).c1⟩:Ext V W∧W.cell? _=_∧W.cell? _=_∧W.cell? _=_∧W.cell? _=_);have HS:=hid hS;have Hcl:=hid hcl;have Ho:=hid ho;clear hS hcl ho h0 h1 hxa hma;go_wp2_with fail
   go_region_held3 (fun w'=>Ext V w'∧w'.cell? ⟨ba,oa+k * 2,none⟩=some (.string sa)∧w'.cell? ⟨ba,oa+k * 2+1,none⟩=some (.string sc)∧w'.cell? ⟨w.heap.size,0,none⟩=some (.string sb)∧w'.cell? ⟨w.heap.size,1,none⟩=some (.string sd))
    (first | with_reducible exact HS.out _ HEV.out | with_reducible exact HS.out _ (HEA.out.alloc _) | with_reducible exact HS.out _ HEA.out | with_reducible exact HS.out _ HE.out.drew)
    (first
     | (have hpv:=HEA;clear hpv;refine step_append_lies _ rfl (.tmp 12) (.tmp 19) 32 rfl V.heap.size 60 i0 (.agg #[.string ByteArray.empty,.string ByteArray.empty]) 2 32 Tryz.underlying32 hi hz0 hz1 hz2 rfl (by decide) (.slice a5 k c5) k (rcs ((zeW x q).take k)) (by simp [Act.eval]) (HoA.out.alloc _) ⟨VA.heap.size,0,none⟩ 1 1 [.string s1,.string s2] (by simp [Act.eval]) rfl (zgT VA _ _ _) (by simp [Value.oneCell']) (by decide) hm3 hm4 (HEA.out.alloc (.cells #[.string s1,.string s2] 60)).size _ rfl ?_;intro g1 cc1 V1 hown1 hgrow1 hat1 hlt1;have HEV:=hid ((HEA.out.alloc _).grown hgrow1 fun j hj=>(World.ownsRow.lt (HoA.out.alloc (.cells #[.string s1,.string s2] 60)) j hj).1);have Hown1:=hid hown1;clear hown1 hgrow1 hat1 hlt1)
     | (go_at_call 83;refine (Hcl.out _ (HE0.out.trans HE.out.drew)).mono ?_;rintro e9 VA ⟨rfl,hxa⟩;have HEA:=hid (HE.out.drew.trans hxa);have HoA:=hid ((((Ext.refl wr).drew).trans hxa).own Ho.out);clear hxa))
   all_goals
    clear c0 c1 c2 c3;go_wp2_with fail
    go_roundw
    case rel=>exact ⟨k+1,by go_num,by omega,by rw [Hrn.out];exact Hown1.out,HEV⟩
    case measure=>simp [zag];omega
  ·obtain rfl:n=k:=by omega
   rw [List.take_of_length_le (by rw [Hzl.out];exact Nat.le_refl _)] at ho;have Ho:=hid ho;clear ho;go_wp2
   go_ret
   exact ⟨_,rfl,zah (by rw [Hzl.out];exact Ho.out) HE0.out.size,HE0.out.trans HE.out⟩
theorem zgZ (va:Value)(x:List Rat)(q:Rat)(w:World)(he:Env w)(ha:Rd w va x)(hx9:x.length≤1000)(hx:∀ r∈x,Sn r)(hq:Sn q) :
  Calls Tryz.prog 48 #[va,Rv q] w fun e w'=>∃ u,e=.returned u∧zf6 w' w.heap.size u (zeW x q)∧Ext w w' :=
 zgY va x q w he ha hx9 fun a h=>Sn.mul (hx a h) hq
theorem zha : mkRat (-1) 1=-1:=by rw [Rat.mkRat_one];rfl
theorem zhb : ∀ {x y:List Rat},zeU x (zeW y (-1))=zeV x y
 | [],y=>by simp [zeU,zeV]
 | a::x,[]=>by simp [zeU,zeV,zeW]
 | a::x,b::y=>by
  have ih:=zhb (x:=x) (y:=y);unfold zeU zeV zeW at ih ⊢;rw [List.map_cons,List.zipWith_cons_cons,List.zipWith_cons_cons,ih];congr 1;grind
theorem Sn.neg {r:Rat}(h:Sn r):Sn (r * -1):=by
 have e:r * -1=-r:=by grind
 rw [e];unfold Sn;rw [Rat.neg_num,Rat.neg_den,Int.natAbs_neg];exact h
theorem zhc : Sn (-1):=by unfold Sn;decide
theorem zhd : Sn 1:=by unfold Sn;decide
theorem zhe (va vb:Value)(x y:List Rat)(w:World)(he:Env w)(ha:Rd w va x)(hb:Rd w vb y)(hl:x.length=y.length)(hx9:x.length≤1000)(hx:∀ r∈x,Sn r)(hy:∀ r∈y,Sn r) :
  Calls Tryz.prog 25 #[va,vb] w fun e w'=>∃ u,e=.returned u∧zf6 w' w.heap.size u (zeV x y)∧Ext w w':=by
 have hof:=fun W (hE:Ext w W)=>zgP (-1) 1 W (he.ext hE) (by decide) (by decide) (by decide);rw [zha] at hof;have hti:=fun W (hE:Ext w W)=>zgZ vb y (-1) W (he.ext hE) (hE.rd hb) (by omega) hy zhc;have had:=fun W vc (hE:Ext w W)(hc:Rd W vc (zeW y (-1)))=>zgX va vc x (zeW y (-1)) W (he.ext hE) (hE.rd ha) hc (by unfold zeW;rw [List.length_map];exact hl) hx9 hx (fun r hr=>by
  unfold zeW at hr;obtain ⟨s,hs,rfl⟩:=List.mem_map.1 hr;exact (hy s hs).neg)
 rw [zhb] at had;obtain ⟨aa,ca,rfl,_,_,_⟩:=ha.parts;obtain ⟨ab,cb,rfl,_,_,_⟩:=hb.parts;rw [hl] at *;generalize y.length=n at *;unfold Rv at hof hti;generalize I (-1:Rat).num=s1 at *;generalize I (((-1:Rat).den:Nat):Int)=s2 at *;have Hof:=hid hof;have Hti:=hid hti;have Had:=hid had;clear ha hb he hx hy hof hti had hl;go_enter Tryz.func25,Tryz.ntmps25
 go_wp2_with fail
 refine (Hof.out w (Ext.refl w)).mono ?_;rintro e w1 ⟨rfl,hx1⟩;have Hx1:=hid hx1;clear hx1;go_wp2_with fail
 refine (Hti.out w1 Hx1.out).mono ?_;rintro e w2 ⟨u2,rfl,ho2,hx2⟩;obtain ⟨a2,c2,rfl,_,_,_⟩:=ho2.rd.parts;have had2:=Had.out w2 _ (Hx1.out.trans hx2) ho2.rd;have Had2:=hid had2;have Hx2:=hid (Hx1.out.trans hx2);clear had2 hx2 ho2;generalize (zeW y (-1)).length=n2 at *;go_wp2_with fail
 refine Had2.out.mono ?_;rintro e w3 ⟨u3,rfl,ho3,hx3⟩;have Ho3:=hid (ho3.mono Hx2.out.size);have Hx3:=hid (Hx2.out.trans hx3);clear ho3 hx3;go_wp2
 go_ret
 exact ⟨_,rfl,Ho3.out,Hx3.out⟩
end
section
open Go.RowKit Go.Lib Go.Shelf
def zhf (w : World) : Prop := ∃ tp p, w.var? Tryz.prog "strconv.ErrRange" = some #[.iface tp p]
theorem zhg : Tryz.prog.globalNamed "strconv.ErrRange" = some 1 := by kernel_rfl
theorem zhf.ext {w w':World}(h:zhf w)(hx:Ext w w'):zhf w':=by
 obtain ⟨tp,p,h⟩:=h;refine ⟨tp,p,var?_below hx zhg ?_ h⟩;unfold World.var? at h;rw [zhg] at h;rcases Nat.lt_or_ge 1 w.heap.size with g | g
 ·exact g
 ·have e:w.heap[1]?=none:=Array.getElem?_eq_none g;simp [e] at h
theorem zhh (z:Int)(h:z < -9223372036854775808∨9223372036854775808≤z):Lib.atoiAll (itoa z)=.range:=by
 have key:∀ (l:List UInt8)(acc:Nat),Dec.Dig l→acc<18446744073709551616→18446744073709551616≤Dec.val acc l→parseUint10 acc l=.range:=by
  intro l;induction l with
  | nil=>intro acc _ h1 h2;rw [Dec.val_nil] at h2;omega
  | cons c r ih =>
   intro acc hd ha hv
   have hc:=hd c (List.mem_cons_self ..)
   have hr:Dec.Dig r:=fun x hx=>hd x (List.mem_cons_of_mem _ hx)
   rw [Dec.val_cons] at hv
   have hdv:c.toNat - 48=Dec.dv c:=rfl
   simp only [parseUint10]
   rw [if_pos hc]
   by_cases h1:1844674407370955162≤acc
   ·rw [if_pos h1]
   ·rw [if_neg h1,hdv]
    by_cases h2:18446744073709551616≤acc * 10+Dec.dv c
    ·rw [if_pos h2]
    ·rw [if_neg h2,Nat.mul_comm acc 10]
     exact ih _ hr (by omega) hv
 have okk:∀ (l:List UInt8)(acc:Nat),Dec.Dig l→Dec.val acc l<18446744073709551616→parseUint10 acc l=.ok (Dec.val acc l):=by
  intro l;induction l with
  | nil=>intro acc _ _;rw [Dec.val_nil];rfl
  | cons c r ih =>
   intro acc hd hv
   have hc:=hd c (List.mem_cons_self ..)
   have hr:Dec.Dig r:=fun x hx=>hd x (List.mem_cons_of_mem _ hx)
   rw [Dec.val_cons] at hv ⊢
   have hmono:10 * acc+Dec.dv c≤Dec.val (10 * acc+Dec.dv c) r:=by
    rw [Dec.val_acc];have:1≤10 ^ r.length:=Nat.one_le_pow _ _ (by decide);have:=Nat.mul_le_mul_left (10 * acc+Dec.dv c) this;omega
   have hdv:c.toNat - 48=Dec.dv c:=rfl
   simp only [parseUint10]
   rw [if_pos hc,if_neg (by omega),hdv,if_neg (by omega),Nat.mul_comm acc 10,ih _ hr hv]
 have mag:∀ n:Nat,parseMag (decDigits n)=if n<18446744073709551616 then .ok n else .range:=by
  intro n;unfold parseMag;rw [if_neg (Dec.dec_ne_nil n)];by_cases hn:n<18446744073709551616
  ·rw [if_pos hn,okk _ 0 (Dec.dig_dec n) (by rw [Dec.val_dec];exact hn),Dec.val_dec]
  ·rw [if_neg hn,key _ 0 (Dec.dig_dec n) (by omega) (by rw [Dec.val_dec];omega)]
 unfold itoa;by_cases hz:z<0
 ·rw [if_pos hz];unfold atoiAll;have e45:(45:UInt8).toNat=45:=rfl;simp only [e45,or_true,if_true];rw [mag];by_cases hn:z.natAbs<18446744073709551616
  ·rw [if_pos hn];simp only [not_true,false_and,if_false,true_and];rw [if_pos (by omega)]
  ·rw [if_neg hn]
 ·rw [if_neg hz];obtain ⟨n,rfl⟩:∃ n:Nat,z=n:=⟨z.toNat,by omega⟩;rw [Int.toNat_natCast]
  cases hl:decDigits n with
  | nil=>exact absurd hl (Dec.dec_ne_nil n)
  | cons c r =>
   have hc:=Dec.dig_dec n c (by rw [hl];exact List.mem_cons_self ..)
   unfold atoiAll
   simp only
   rw [if_neg (by omega),← hl,mag]
   by_cases hn:n<18446744073709551616
   ·rw [if_pos hn]
    simp only
    have h45:¬ c.toNat=45:=by omega
    simp only [h45,not_false_eq_true,true_and,false_and,if_false]
    rw [if_pos (by omega)]
   ·rw [if_neg hn]
theorem zhj (z:Int)(w:World)(h0:-9223372036854775808≤z)(h1:z≤9223372036854775807) :
  Calls Tryz.prog 56 #[.string (I z)] w fun e w'=>e=.returned (.tuple #[.int .i64 z,.bool true])∧Ext w w':=by
 have hs:(I z).size≤9223372036854775806:=by
  show (itoa z).toArray.size≤_;rw [List.size_toArray];unfold itoa;split
  ·rw [List.length_cons,decDigits_length];have:=Dec.nDigits_le (n:=z.natAbs) (k:=20) (by omega) (by omega);omega
  ·rw [decDigits_length];have:=Dec.nDigits_le (n:=z.toNat) (k:=20) (by omega) (by omega);omega
 have hp:=Any.strconv_ParseInt_10_at64_ok Tryz.lParseInt (I z) hs z (by rw [Lib.parseIntB_64];exact zaA z h0 h1) w;have hp2:Calls Tryz.prog 86 #[.string (I z),.int .i64 10,.int .i64 64] w fun e w'=>e=.returned (.tuple #[.int .i64 z,.nilIface])∧Ext w w':=hp.mono fun e w' ⟨h,hw⟩=>⟨h,by
  rcases hw with rfl | ⟨t,rfl⟩
  ·exact Ext.refl _
  ·exact Ext.bytes _ _ _⟩
 have Hp:=hid hp2;clear hp hp2 hs;go_enter Tryz.func56,Tryz.ntmps56
 go_wp2_with fail
 refine Hp.out.mono ?_;rintro e w1 ⟨rfl,hx1⟩;have Hx1:=hid hx1;clear hx1;go_wp2
 go_ret2
 exact ⟨rfl,Hx1.out⟩
theorem zhk (z:Int)(w:World)(hr:zhf w)(h:z < -9223372036854775808∨9223372036854775808≤z)(hf:Fit z) :
  Calls Tryz.prog 56 #[.string (I z)] w fun e w'=>e=.returned (.tuple #[.int .i64 0,.bool false])∧Ext w w':=by
 have hs:(I z).size≤281474976710656:=by
  have:=zbH z hf;omega
 obtain ⟨tp,p,hv⟩:=hr;have hp:=Any.strconv_ParseInt_10_at64_range_var Tryz.lParseInt (I z) hs (by rw [Lib.parseIntB_64];exact zhh z h) tp p w hv;have hp2:Calls Tryz.prog 86 #[.string (I z),.int .i64 10,.int .i64 64] w fun e w'=>∃ n tt N,e=.returned (.tuple #[.int .i64 n,.iface tt (.pointer (some ⟨N,0,none⟩))])∧Ext w w':=hp.mono fun e w' ⟨N,h,_,_,hb⟩=>⟨_,_,N,h,hb⟩;have Hp:=hid hp2;clear hp hp2 hs hv hf h;go_enter Tryz.func56,Tryz.ntmps56
 go_wp2_with fail
 refine Hp.out.mono ?_;rintro e w1 ⟨n1,tt,N,rfl,hx1⟩;have Hx1:=hid hx1;clear hx1;go_wp2
 go_ret2
 exact ⟨rfl,Hx1.out⟩
end
end Go.Proofs.YtbkfhacmekbniaaGreatDoor
