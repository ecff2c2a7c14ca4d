/- Walks: decimal.Gcd, decimal.Lcm; whole.gcd, Gcd, Lcm. Walks: fraction's little, both, of, lowest, Neg, Add, Sub, Mul, Div, Floor, Sign. -/
import Derived.Test.YtipkdebkdnbieaaGreatDoorPe05
import Derived.Test.YtipkdebkdnbieaaGreatDoorPe06
import Derived.Deep.RegionHeld3
import Derived.IntWalk
import Derived.RangeFuncRecord
set_option maxRecDepth 100000
set_option maxHeartbeats 2000000
namespace Go.Proofs.YtipkdebkdnbieaaGreatDoor
open Go.RowKit Go.Lib
theorem zel (a b:Nat)(w:World)(he:Env w)(ha:nDigits a≤400000)(hb:nDigits b≤400000) :
  Calls Tryz.prog 202 #[.string (D a),.string (D b)] w fun e w'=>e=.returned (.string (D (Nat.gcd a b)))∧Ext w w':=by
 have He:=hid he;have Ha:=hid ha;have Hb:=hid hb;clear he ha hb;go_enter Tryz.func202,Tryz.ntmps202
 go_wp2_with fail
 go_loopg [0,1] b (fun gk v0 v1 wr=>∃ x y:Nat,v0=.string (D x)∧v1=.string (D y)∧gk=y∧Nat.gcd x y=Nat.gcd a b∧nDigits x≤400000∧nDigits y≤400000∧Ext w wr)
 case atStart=>exact ⟨a,b,rfl,rfl,rfl,rfl,Ha.out,Hb.out,Ext.refl _⟩
 case round =>
  obtain ⟨x,y,rfl,rfl,hgk,hg,hx,hy,hE⟩:=hrel;have Hg:=hid hg;have Hgk:=hid hgk;have HE:=hid hE;have Hx:=hid hx;have Hy:=hid hy;clear hg hgk hE hx hy;by_cases h0:y=0
  ·subst h0;have ht:((D 0).toList == [48])=true:=(by rw [zbt];rfl);have ht2:((D 0).toList != [48])=false:=(by rw [bne,ht];rfl);have hg:x=Nat.gcd a b:=(by have:=Hg.out;rwa [Nat.gcd_zero_right] at this);have Hg2:=hid hg;clear hg;go_wp2
   go_ret
   exact ⟨by rw [← Hg2.out];rfl,HE.out⟩
  ·have ht:((D y).toList == [48])=false:=(by rw [zbt];exact decide_eq_false h0);have ht2:((D y).toList != [48])=true:=(by rw [bne,ht];rfl);have hdm:=zea x y wr (He.out.ext HE.out) (by omega) Hx.out Hy.out;have hlt:x % y<y:=Nat.mod_lt _ (by omega);have Hdm:=hid hdm;have Hlt:=hid hlt;clear hdm hlt;go_wp2_with fail
   refine Hdm.out.mono ?_;rintro e w1 ⟨rfl,hx1⟩;have Hx1:=hid hx1;clear hx1;go_wp2_with fail
   go_roundg (x % y)
   case measure=>rw [Hgk.out];exact Hlt.out
   case rel =>
    refine ⟨y,x % y,rfl,rfl,rfl,?_,Hy.out,Nat.le_trans (Dec.nDigits_mono (Nat.le_of_lt Hlt.out)) Hy.out,HE.out.trans Hx1.out⟩;rw [← Hg.out,Nat.gcd_comm x y,Nat.gcd_rec y x,Nat.gcd_comm]
theorem zem {a b:Nat}:a / Nat.gcd a b * b=Nat.lcm a b:=by
 unfold Nat.lcm;rw [Nat.mul_comm a b,Nat.mul_div_assoc b (Nat.gcd_dvd_left a b),Nat.mul_comm]
theorem zen (a b:Nat)(w:World)(he:Env w)(ha:nDigits a≤400000)(hb:nDigits b≤400000)(ha0:0<a)(hb0:0<b) :
  Calls Tryz.prog 203 #[.string (D a),.string (D b)] w fun e w'=>e=.returned (.string (D (Nat.lcm a b)))∧Ext w w':=by
 have h1:=zel a b w he ha hb;have h2:=fun W (h:Ext w W)=>zea a (Nat.gcd a b) W (he.ext h) (Nat.gcd_pos_of_pos_left _ ha0) ha (Nat.le_trans (Dec.nDigits_mono (Nat.gcd_le_left _ ha0)) ha);have h3:=fun W (h:Ext w W)=>zbE (a / Nat.gcd a b) b W (he.ext h) (Nat.le_trans (Dec.nDigits_mono (Nat.div_le_self _ _)) ha) hb;rw [zem] at h3;have hta:((D a).toList == [48])=false:=by rw [zbt];exact decide_eq_false (by omega)
 have htb:((D b).toList == [48])=false:=by rw [zbt];exact decide_eq_false (by omega)
 have H1:=hid h1;have H2:=hid h2;have H3:=hid h3;clear h1 h2 h3 he ha hb;go_enter Tryz.func203,Tryz.ntmps203
 go_wp2_with fail
 refine H1.out.mono ?_;rintro e w1 ⟨rfl,hx1⟩;have Hx1:=hid hx1;clear hx1;go_wp2_with fail
 refine (H2.out w1 Hx1.out).mono ?_;rintro e w2 ⟨rfl,hx2⟩;have Hx2:=hid (Hx1.out.trans hx2);clear hx2;go_wp2_with fail
 refine (H3.out w2 Hx2.out).mono ?_;rintro e w3 ⟨rfl,hx3⟩;have Hx3:=hid (Hx2.out.trans hx3);clear hx3;go_wp2
 go_ret
 exact ⟨rfl,Hx3.out⟩
theorem zeo (a b:Nat)(w:World)(ha:a≤1000000000000000000)(hb:b≤1000000000000000000) :
  Calls Tryz.prog 201 #[.int .i64 a,.int .i64 b] w fun e w'=>e=.returned (.int .i64 (Nat.gcd a b:Nat))∧Ext w w':=by
 obtain ⟨g,hg⟩:∃ g,g=Nat.gcd a b:=⟨_,rfl⟩;rw [← hg];have Hg:=hid hg;clear hg;go_enter Tryz.func201,Tryz.ntmps201
 go_wp2
 go_loopw [0,1] (fun x y wr=>∃ m n:Nat,x=.int .i64 m∧y=.int .i64 n∧m≤1000000000000000000∧n≤1000000000000000000∧Ext w wr∧g=Nat.gcd m n) (fun _ y _=>(zal y).toNat)
 case atStart=>exact ⟨a,b,rfl,rfl,ha,hb,Ext.refl w,Hg.out⟩
 case round =>
  obtain ⟨m,n,rfl,rfl,hm,hn,hqu,hgm⟩:=hrel;have Hqu:=hid hqu;clear hqu;have Hgm:=hid hgm;clear hgm;by_cases h0:n=0
  ·subst h0;have hgg:g=m:=(by rw [Hgm.out,Nat.gcd_zero_right]);have Hgg:=hid hgg;clear hgg;go_wp2
   go_ret
   exact ⟨by rw [Hgg.out];rfl,Hqu.out⟩
  ·have hnz:((n:Int) != 0)=true:=(by rw [bne_iff_ne];omega);have hmod:(m:Int) % (n:Int)=((m % n:Nat):Int):=(by simp);have hmt:(m:Int).tmod (n:Int)=((m % n:Nat):Int):=(by rw [Int.tmod_eq_emod_of_nonneg (by omega)];exact hmod);have hlt:m % n<n:=Nat.mod_lt _ (by omega);have hgn:g=Nat.gcd n (m % n):=(by rw [Hgm.out,Nat.gcd_comm m n,Nat.gcd_rec,Nat.gcd_comm]);have Hgn:=hid hgn;clear hgn;generalize hr:m % n=r at *;have Hr:=hid hr;clear hr;go_wp2
   go_quiet (fail)
   go_wp2
   go_roundw
   case rel=>exact ⟨n,r,rfl,rfl,hn,by omega,Hqu.out.drewN _,Hgn.out⟩
   case measure=>simp [zal];omega
theorem zep (n:Nat):(I (n:Int)).size=nDigits n:=by rw [za2,zaz]
theorem zeq (a b:Int)(w:World)(he:Env w)(ha:Fit a)(hb:Fit b) :
  Calls Tryz.prog 168 #[.string (I a),.string (I b)] w fun e w'=>e=.returned (.string (I (Nat.gcd a.natAbs b.natAbs:Nat)))∧Ext w w':=by
 have h1:=zd6 a w ha;have h2:=fun W=>zd6 b W hb;have hfa:nDigits a.natAbs≤400000:=ha;have hfb:nDigits b.natAbs≤400000:=hb;generalize a.natAbs=x at *;generalize b.natAbs=y at *;have hdg:=fun W (h:Ext w W)=>zel x y W (he.ext h) hfa hfb;rw [← za2,← za2,← za2] at hdg;have hof:=fun (g:Nat)(hg:g≤1000000000000000000) W (h:Ext w W)=>zaQ (g:Int) (by omega) (by omega) W (he.ext h);have hnx:=fun W (h:¬ nDigits x≤18)=>zbM (I (x:Int)) 18 W (by rw [zep];omega) (by rw [zep];omega);have hny:=fun W (h:¬ nDigits y≤18)=>zbM (I (y:Int)) 18 W (by rw [zep];omega) (by rw [zep];omega);have hbx:=fun (h:nDigits x≤18)=>zbP (x:Int) 18 (by rw [zep];exact h);have hby:=fun (h:nDigits y≤18)=>zbP (y:Int) 18 (by rw [zep];exact h);have hlx:=fun W (h:nDigits x≤18)=>zbN (x:Int) 18 W (by have:=hbx h;omega) (by have:=hbx h;omega) (by rw [zep];omega);have hly:=fun W (h:nDigits y≤18)=>zbN (y:Int) 18 W (by have:=hby h;omega) (by have:=hby h;omega) (by rw [zep];omega);have hgc:=fun W (h:nDigits x≤18)(h2:nDigits y≤18)=>zeo x y W (by have:=hbx h;omega) (by have:=hby h2;omega);have hgb:nDigits x≤18→Nat.gcd x y≤1000000000000000000∨x=0:=fun h=>by
  rcases Nat.eq_zero_or_pos x with e | e
  ·exact .inr e
  ·have:=Nat.gcd_le_left y e;have:=hbx h;left;omega
 have hgb2:nDigits x≤18→nDigits y≤18→Nat.gcd x y≤1000000000000000000:=fun h h2=>by
  rcases hgb h with e | e
  ·exact e
  ·subst e;rw [Nat.gcd_zero_left];have:=hby h2;omega
 have hofg:=fun W (h:Ext w W)(h1:nDigits x≤18)(h2:nDigits y≤18)=>hof (Nat.gcd x y) (hgb2 h1 h2) W h;generalize Nat.gcd x y=g at *;have H1:=hid h1;have H2:=hid h2;have Hdg:=hid hdg;have Hofg:=hid hofg;have Hnx:=hid hnx;have Hny:=hid hny;have Hlx:=hid hlx;have Hly:=hid hly;have Hgc:=hid hgc;clear h1 h2 hdg hofg hnx hny hlx hly hgc;clear hof hbx hby hgb hgb2 he ha hb hfa hfb;by_cases hx:nDigits x≤18
 ·by_cases hy:nDigits y≤18
  ·have Hx:=hid hx;have Hy:=hid hy;clear hx hy;go_enter Tryz.func168,Tryz.ntmps168
   go_wp2_with fail
   refine (H1.out).mono ?_;rintro e w1 ⟨rfl,hx1⟩;have Hx1:=hid hx1;clear hx1;go_wp2_with fail
   refine (H2.out w1).mono ?_;rintro e w2 ⟨rfl,hx2⟩;have Hx2:=hid (Hx1.out.trans hx2);clear hx2;go_wp2_with fail
   refine (Hlx.out w2 Hx.out).mono ?_;rintro e w3 ⟨rfl,hx3⟩;have Hx3:=hid (Hx2.out.trans hx3);clear hx3;go_wp2_with fail
   refine (Hly.out w3 Hy.out).mono ?_;rintro e w4 ⟨rfl,hx4⟩;have Hx4:=hid (Hx3.out.trans hx4);clear hx4;go_wp2_with fail
   refine (Hgc.out w4 Hx.out Hy.out).mono ?_;rintro e w5 ⟨rfl,hx5⟩;have Hx5:=hid (Hx4.out.trans hx5);clear hx5;go_wp2_with fail
   refine (Hofg.out w5 Hx5.out Hx.out Hy.out).mono ?_;rintro e w6 ⟨rfl,hx6⟩;have Hx6:=hid (Hx5.out.trans hx6);clear hx6;go_wp2
   go_ret
   exact ⟨rfl,Hx6.out⟩
  ·have Hx:=hid hx;have Hy:=hid hy;clear hx hy;go_enter Tryz.func168,Tryz.ntmps168
   go_wp2_with fail
   refine (H1.out).mono ?_;rintro e w1 ⟨rfl,hx1⟩;have Hx1:=hid hx1;clear hx1;go_wp2_with fail
   refine (H2.out w1).mono ?_;rintro e w2 ⟨rfl,hx2⟩;have Hx2:=hid (Hx1.out.trans hx2);clear hx2;go_wp2_with fail
   refine (Hlx.out w2 Hx.out).mono ?_;rintro e w3 ⟨rfl,hx3⟩;have Hx3:=hid (Hx2.out.trans hx3);clear hx3;go_wp2_with fail
   refine (Hny.out w3 Hy.out).mono ?_;rintro e w4 ⟨rfl,hx4⟩;have Hx4:=hid (Hx3.out.trans hx4);clear hx4;go_wp2_with fail
   refine (Hdg.out w4 Hx4.out).mono ?_;rintro e w5 ⟨rfl,hx5⟩;have Hx5:=hid (Hx4.out.trans hx5);clear hx5;go_wp2
   go_ret
   exact ⟨rfl,Hx5.out⟩
 ·have Hx:=hid hx;clear hx;go_enter Tryz.func168,Tryz.ntmps168
  go_wp2_with fail
  refine (H1.out).mono ?_;rintro e w1 ⟨rfl,hx1⟩;have Hx1:=hid hx1;clear hx1;go_wp2_with fail
  refine (H2.out w1).mono ?_;rintro e w2 ⟨rfl,hx2⟩;have Hx2:=hid (Hx1.out.trans hx2);clear hx2;go_wp2_with fail
  refine (Hnx.out w2 Hx.out).mono ?_;rintro e w3 ⟨rfl,hx3⟩;have Hx3:=hid (Hx2.out.trans hx3);clear hx3;go_wp2_with fail
  refine (Hdg.out w3 Hx3.out).mono ?_;rintro e w4 ⟨rfl,hx4⟩;have Hx4:=hid (Hx3.out.trans hx4);clear hx4;go_wp2
  go_ret
  exact ⟨rfl,Hx4.out⟩
theorem zer (a b:Nat)(w:World)(he:Env w)(ha:Fit (a:Int))(hb:Fit (b:Int))(ha0:0<a)(hb0:0<b) :
  Calls Tryz.prog 169 #[.string (I (a:Int)),.string (I (b:Int))] w fun e w'=>e=.returned (.string (I (Nat.lcm a b:Nat)))∧Ext w w':=by
 have h1:=zd6 (a:Int) w ha;have h2:=fun W=>zd6 (b:Int) W hb;have h3:=fun W (h:Ext w W)=>zen a b W (he.ext h) ha hb ha0 hb0;rw [← za2,← za2,← za2] at h3;rw [Int.natAbs_natCast] at h1 h2;have H1:=hid h1;have H2:=hid h2;have H3:=hid h3;clear h1 h2 h3;clear he ha hb;go_enter Tryz.func169,Tryz.ntmps169
 go_wp2_with fail
 refine (H1.out).mono ?_;rintro e w1 ⟨rfl,hx1⟩;have Hx1:=hid hx1;clear hx1;go_wp2_with fail
 refine (H2.out w1).mono ?_;rintro e w2 ⟨rfl,hx2⟩;have Hx2:=hid (Hx1.out.trans hx2);clear hx2;go_wp2_with fail
 refine (H3.out w2 Hx2.out).mono ?_;rintro e w3 ⟨rfl,hx3⟩;have Hx3:=hid (Hx2.out.trans hx3);clear hx3;go_wp2
 go_ret
 exact ⟨rfl,Hx3.out⟩
def zes (w:World)(b:Nat)(u v:Value):Prop:=w.heap[b]?=some (.cells #[u,v] 102 (0,0))
theorem zes.new (w:World)(u v:Value):zes (w.alloc (.cells #[u,v] 102)) w.heap.size u v:=World.alloc_heap_new w _
theorem zes.ext {w w':World}(hx:Ext w w'){b:Nat}{u v:Value}(h:zes w b u v):zes w' b u v:=hx.heap h
theorem zes.c0 {w:World}{b:Nat}{u v:Value}(h:zes w b u v):w.cell? ⟨b,0,none⟩=some u:=by unfold World.cell?;dsimp only;rw [h];rfl
theorem zes.c1 {w:World}{b:Nat}{u v:Value}(h:zes w b u v):w.cell? ⟨b,1,none⟩=some v:=by unfold World.cell?;dsimp only;rw [h];rfl
theorem zes.fz {w:World}{b:Nat}{u v:Value}(h:zes w b u v)(k:Nat):w.frozen? ⟨b,k,none⟩=false:=frozen_of_row w b k #[u,v] _ h
theorem zes.lt {w:World}{b:Nat}{u v:Value}(h:zes w b u v):b<w.heap.size:=(Array.getElem?_eq_some_iff.1 h).1
def zet (w:World)(c k:Nat):Value:=(w.cell? ⟨c,k,none⟩).getD undef
def Res (w:World)(c:Nat):Prop:=∃ u v,zes w c u v
theorem Res.ext {w w':World}(hx:Ext w w'){c:Nat}(h:Res w c):Res w' c:=by
 obtain ⟨u,v,h⟩:=h;exact ⟨u,v,h.ext hx⟩
theorem Res.c0 {w:World}{c:Nat}(h:Res w c):w.cell? ⟨c,0,none⟩=some (zet w c 0):=by
 obtain ⟨u,v,h⟩:=h;unfold zet;rw [h.c0];rfl
theorem Res.c1 {w:World}{c:Nat}(h:Res w c):w.cell? ⟨c,1,none⟩=some (zet w c 1):=by
 obtain ⟨u,v,h⟩:=h;unfold zet;rw [h.c1];rfl
theorem Res.fz {w:World}{c:Nat}(h:Res w c)(k:Nat):w.frozen? ⟨c,k,none⟩=false:=by
 obtain ⟨u,v,h⟩:=h;exact h.fz k
theorem zes.put {w:World}{c:Nat}{u v:Value}(h:zes w c u v)(x y:Value):zes ((w.setCell ⟨c,0,none⟩ x).setCell ⟨c,1,none⟩ y) c x y :=
 heap_setCell_same _ c 1 _ _ y (heap_setCell_same w c 0 _ _ x h)
theorem Res.put {w:World}{c:Nat}(h:Res w c)(x y:Value):Res ((w.setCell ⟨c,0,none⟩ x).setCell ⟨c,1,none⟩ y) c:=by
 obtain ⟨u,v,h⟩:=h;exact ⟨x,y,h.put x y⟩
theorem zes.past {w:World}{b c:Nat}{u v:Value}(h:zes w b u v)(hne:b ≠ c)(x y:Value):zes ((w.setCell ⟨c,0,none⟩ x).setCell ⟨c,1,none⟩ y) b u v :=
 (heap_setCell_other _ ⟨c,1,none⟩ b y hne).trans ((heap_setCell_other w ⟨c,0,none⟩ b x hne).trans h)
def Kp1 (w w':World)(b:Nat)(u v:Value)(c:Nat):Prop:=Ext w w'∧zes w' b u v∧Res w' c
theorem Kp1.res {w w':World}{b c:Nat}{u v:Value}(h:Kp1 w w' b u v c):Res w' c:=h.2.2
theorem Kp1.ext {w w' w2:World}{b c:Nat}{u v:Value}(h:Kp1 w w' b u v c)(hx:Ext w' w2):Kp1 w w2 b u v c:=⟨h.1.trans hx,h.2.1.ext hx,h.2.2.ext hx⟩
theorem Kp1.put {w w':World}{b c:Nat}{u v:Value}(h:Kp1 w w' b u v c)(hc:w.heap.size≤c)(hne:b ≠ c)(x y:Value):Kp1 w ((w'.setCell ⟨c,0,none⟩ x).setCell ⟨c,1,none⟩ y) b u v c :=
 ⟨(h.1.setCell hc _).setCell hc _,h.2.1.past hne x y,h.2.2.put x y⟩
theorem Kp1.fin {w w':World}{b c:Nat}{u v:Value}(h:Kp1 w w' b u v c)(hc:w.heap.size≤c)(x y:Value):zes ((w'.setCell ⟨c,0,none⟩ x).setCell ⟨c,1,none⟩ y) c x y∧Ext w ((w'.setCell ⟨c,0,none⟩ x).setCell ⟨c,1,none⟩ y):=by
 obtain ⟨u',v',h'⟩:=h.2.2;exact ⟨h'.put x y,(h.1.setCell hc _).setCell hc _⟩
theorem Kp1.all {w w':World}{b c:Nat}{u v:Value}(h:Kp1 w w' b u v c):Kp1 w w' b u v c∧w'.cell? ⟨b,0,none⟩=some u∧w'.cell? ⟨b,1,none⟩=some v∧w'.cell? ⟨c,0,none⟩=some (zet w' c 0)∧w'.cell? ⟨c,1,none⟩=some (zet w' c 1)∧w'.frozen? ⟨c,0,none⟩=false∧w'.frozen? ⟨c,1,none⟩=false :=
 ⟨h,h.2.1.c0,h.2.1.c1,h.2.2.c0,h.2.2.c1,h.2.2.fz 0,h.2.2.fz 1⟩
theorem zeu (r:Rat)(w:World)(hf:Fit r.num) :
  Calls Tryz.prog 149 #[Rv r] w fun e w'=>e=.returned (Rv (-r))∧Ext w w':=by
 have hn:=fun W=>zd5 r.num W hf;unfold Rv;rw [Rat.neg_num,Rat.neg_den];have b1:=zes.new w (.string (I r.num)) (.string (I (r.den:Int)));have b2:=zes.new (w.alloc (.cells #[.string (I r.num),.string (I (r.den:Int))] 102)) (.string ⟨#[]⟩) (.string ⟨#[]⟩);have b3:=b1.ext ((Ext.refl _).alloc (.cells #[.string ⟨#[]⟩,.string ⟨#[]⟩] 102));rw [World.size_alloc] at b2;have hE:Ext w ((w.alloc (.cells #[.string (I r.num),.string (I (r.den:Int))] 102)).alloc (.cells #[.string ⟨#[]⟩,.string ⟨#[]⟩] 102)):=((Ext.refl _).alloc _).alloc _;generalize I r.num=sa at *;generalize I (r.den:Int)=sb at *;generalize I (-r.num)=sc at *;clear b1 hf;have Hn:=hid hn;have B2:=hid b2;have B3:=hid b3;have HE:=hid hE;clear hn b2 b3 hE;go_enter Tryz.func149,Tryz.ntmps149
 go_wp2_with fail
 generalize hV:(w.alloc (.cells #[.string sa,.string sb] 102)).alloc (.cells #[.string ⟨#[]⟩,.string ⟨#[]⟩] 102)=V at *;have hk:Kp1 w V w.heap.size (.string sa) (.string sb) (w.heap.size+1):=⟨HE.out,B3.out,_,_,B2.out⟩;have Hk:=hid hk;clear hk;go_region_held3 (fun w'=>Kp1 w w' w.heap.size (.string sa) (.string sb) (w.heap.size+1)∧w'.cell? ⟨w.heap.size,0,none⟩=some (.string sa)∧w'.cell? ⟨w.heap.size,1,none⟩=some (.string sb)∧w'.cell? ⟨w.heap.size+1,0,none⟩=some (zet w' (w.heap.size+1) 0)∧w'.cell? ⟨w.heap.size+1,1,none⟩=some (zet w' (w.heap.size+1) 1)∧w'.frozen? ⟨w.heap.size+1,0,none⟩=false∧w'.frozen? ⟨w.heap.size+1,1,none⟩=false)
  (first | exact (Kp1.ext Hk.out ((Ext.refl V).drew)).all | exact (Kp1.ext (And.left (by assumption)) hxa).all | exact (Kp1.put (And.left (by assumption)) (by omega) (by omega) _ _).all)
  (first | (go_at_call 117;refine (Hn.out _).mono ?_;rintro e9 V4 ⟨rfl,hxa⟩))
 all_goals
  obtain ⟨hb,hx⟩:=Kp1.fin (Hk.out.ext (((Ext.refl V).drew).trans hxa)) (by omega) (.string sc) (.string sb);clear hxa;generalize (V4.setCell ⟨w.heap.size+1,0,none⟩ (.string sc)).setCell ⟨w.heap.size+1,1,none⟩ (.string sb)=W5 at *;have hc0:=hb.c0;have hc1:=hb.c1;go_wp2_with fail
  exact bodyPost_ret (v:=.agg #[.string sc,.string sb]) (by simp [results,Tryz.results149,go_sem,hc0,hc1]) rfl ⟨rfl,hx⟩
def Kp0 (w w':World)(c:Nat):Prop:=Ext w w'∧Res w' c
theorem Kp0.res {w w':World}{c:Nat}(h:Kp0 w w' c):Res w' c:=h.2
theorem Kp0.ext {w w' w2:World}{c:Nat}(h:Kp0 w w' c)(hx:Ext w' w2):Kp0 w w2 c:=⟨h.1.trans hx,h.2.ext hx⟩
theorem Kp0.put {w w':World}{c:Nat}(h:Kp0 w w' c)(hc:w.heap.size≤c)(x y:Value):Kp0 w ((w'.setCell ⟨c,0,none⟩ x).setCell ⟨c,1,none⟩ y) c:=⟨(h.1.setCell hc _).setCell hc _,h.2.put x y⟩
theorem Kp0.fin {w w':World}{c:Nat}(h:Kp0 w w' c)(hc:w.heap.size≤c)(x y:Value):zes ((w'.setCell ⟨c,0,none⟩ x).setCell ⟨c,1,none⟩ y) c x y∧Ext w ((w'.setCell ⟨c,0,none⟩ x).setCell ⟨c,1,none⟩ y):=by
 obtain ⟨u',v',h'⟩:=h.2;exact ⟨h'.put x y,(h.1.setCell hc _).setCell hc _⟩
theorem Kp0.all {w w':World}{c:Nat}(h:Kp0 w w' c):Kp0 w w' c∧w'.cell? ⟨c,0,none⟩=some (zet w' c 0)∧w'.cell? ⟨c,1,none⟩=some (zet w' c 1)∧w'.frozen? ⟨c,0,none⟩=false∧w'.frozen? ⟨c,1,none⟩=false :=
 ⟨h,h.2.c0,h.2.c1,h.2.fz 0,h.2.fz 1⟩
def Kp2 (w w':World)(b1:Nat)(u1 v1:Value)(b2:Nat)(u2 v2:Value)(c:Nat):Prop:=Ext w w'∧zes w' b1 u1 v1∧zes w' b2 u2 v2∧Res w' c
theorem Kp2.res {w w':World}{b1 b2 c:Nat}{u1 v1 u2 v2:Value}(h:Kp2 w w' b1 u1 v1 b2 u2 v2 c):Res w' c:=h.2.2.2
theorem Kp2.ext {w w' w2:World}{b1 b2 c:Nat}{u1 v1 u2 v2:Value}(h:Kp2 w w' b1 u1 v1 b2 u2 v2 c)(hx:Ext w' w2):Kp2 w w2 b1 u1 v1 b2 u2 v2 c:=⟨h.1.trans hx,h.2.1.ext hx,h.2.2.1.ext hx,h.2.2.2.ext hx⟩
theorem Kp2.put {w w':World}{b1 b2 c:Nat}{u1 v1 u2 v2:Value}(h:Kp2 w w' b1 u1 v1 b2 u2 v2 c)(hc:w.heap.size≤c)(h1:b1 ≠ c)(h2:b2 ≠ c)(x y:Value):Kp2 w ((w'.setCell ⟨c,0,none⟩ x).setCell ⟨c,1,none⟩ y) b1 u1 v1 b2 u2 v2 c :=
 ⟨(h.1.setCell hc _).setCell hc _,h.2.1.past h1 x y,h.2.2.1.past h2 x y,h.2.2.2.put x y⟩
theorem Kp2.fin {w w':World}{b1 b2 c:Nat}{u1 v1 u2 v2:Value}(h:Kp2 w w' b1 u1 v1 b2 u2 v2 c)(hc:w.heap.size≤c)(x y:Value):zes ((w'.setCell ⟨c,0,none⟩ x).setCell ⟨c,1,none⟩ y) c x y∧Ext w ((w'.setCell ⟨c,0,none⟩ x).setCell ⟨c,1,none⟩ y):=by
 obtain ⟨u',v',h'⟩:=h.2.2.2;exact ⟨h'.put x y,(h.1.setCell hc _).setCell hc _⟩
theorem Kp2.all {w w':World}{b1 b2 c:Nat}{u1 v1 u2 v2:Value}(h:Kp2 w w' b1 u1 v1 b2 u2 v2 c):Kp2 w w' b1 u1 v1 b2 u2 v2 c∧w'.cell? ⟨b1,0,none⟩=some u1∧w'.cell? ⟨b1,1,none⟩=some v1∧w'.cell? ⟨b2,0,none⟩=some u2∧w'.cell? ⟨b2,1,none⟩=some v2∧w'.cell? ⟨c,0,none⟩=some (zet w' c 0)∧w'.cell? ⟨c,1,none⟩=some (zet w' c 1)∧w'.frozen? ⟨c,0,none⟩=false∧w'.frozen? ⟨c,1,none⟩=false :=
 ⟨h,h.2.1.c0,h.2.1.c1,h.2.2.1.c0,h.2.2.1.c1,h.2.2.2.c0,h.2.2.2.c1,h.2.2.2.fz 0,h.2.2.2.fz 1⟩
theorem zev (w:World)(u1 v1 u2 v2:Value):Kp2 w (((w.alloc (.cells #[u1,v1] 102)).alloc (.cells #[u2,v2] 102)).alloc (.cells #[.string ⟨#[]⟩,.string ⟨#[]⟩] 102)) w.heap.size u1 v1 (w.heap.size+1) u2 v2 (w.heap.size+1+1):=by
 have b1:=zes.new w u1 v1;have b2:=zes.new (w.alloc (.cells #[u1,v1] 102)) u2 v2;have b3:=zes.new ((w.alloc (.cells #[u1,v1] 102)).alloc (.cells #[u2,v2] 102)) (.string ⟨#[]⟩) (.string ⟨#[]⟩);rw [World.size_alloc] at b2;rw [World.size_alloc,World.size_alloc] at b3;exact ⟨(((Ext.refl _).alloc _).alloc _).alloc _,(b1.ext ((Ext.refl _).alloc _)).ext ((Ext.refl _).alloc _),b2.ext ((Ext.refl _).alloc _),_,_,b3⟩
def lit (z:Int):Int × Bool:=if (I z).size≤9 then (z,true) else (0,false)
theorem zew (z:Int):-1000000000<(lit z).1∧(lit z).1<1000000000:=by
 unfold lit;split
 ·have:=zbP z 9 ‹_›;simp;omega
 ·simp
theorem zex {z:Int}(h:(lit z).2=true):(lit z).1=z:=by
 unfold lit at *;split
 ·rfl
 ·rename_i g;rw [if_neg g] at h;cases h
theorem zey (z:Int)(w:World)(hz:Fit z) :
  Calls Tryz.prog 217 #[.string (I z)] w fun e w'=>e=.returned (.tuple #[.int .i64 (lit z).1,.bool (lit z).2])∧Ext w w':=by
 unfold lit;by_cases h:(I z).size≤9
 ·rw [if_pos h];have hs:¬ (9:Int)<((I z).size:Int):=by omega
  have hb:=zbP z 9 h;have ha:=fun W=>zaG z (by omega) (by omega) W;have Ha:=hid ha;clear ha;clear hb h hz;go_enter Tryz.func217,Tryz.ntmps217
  go_wp2_with fail
  refine (Ha.out w).mono ?_;rintro e w1 ⟨rfl,hx1⟩;have Hx1:=hid hx1;clear hx1;go_wp2
  go_quiet (fail)
  go_wp2
  go_ret2
  exact ⟨rfl,Hx1.out.drewN _⟩
 ·rw [if_neg h];have hs:(9:Int)<((I z).size:Int):=by omega
  have hs2:=zbO z hz;clear h hz;go_enter Tryz.func217,Tryz.ntmps217
  go_wp2
  go_ret2
  exact ⟨rfl,Ext.refl _⟩
theorem zez (r:Rat)(w:World)(h1:Fit r.num)(h2:Fit (r.den:Int)) :
  Calls Tryz.prog 190 #[Rv r] w fun e w'=>e=.returned (.tuple #[.int .i64 (lit r.num).1,.int .i64 (lit (r.den:Int)).1,.bool ((lit r.num).2 && (lit (r.den:Int)).2)])∧Ext w w':=by
 have ha:=fun W=>zey r.num W h1;have hb:=fun W=>zey (r.den:Int) W h2;unfold Rv;generalize lit r.num=p at *;generalize lit (r.den:Int)=q at *;generalize I r.num=sa at *;generalize I (r.den:Int)=sb at *;clear h1 h2;have hE:Ext w (w.alloc (.cells #[.string sa,.string sb] 102)):=(Ext.refl _).alloc _;have b1:=zes.new w (.string sa) (.string sb);obtain ⟨n,bn⟩:=p;obtain ⟨d,bd⟩:=q;have Ha:=hid ha;have Hb:=hid hb;have HE:=hid hE;have B1:=hid b1;clear ha hb hE b1
 cases bn <;> cases bd
 all_goals
  go_enter Tryz.func190,Tryz.ntmps190
  go_wp2_with fail
  refine (Ha.out _).mono ?_;rintro e w1 ⟨rfl,hx1⟩;have Hx1:=hid hx1;clear hx1;have hc1:=(B1.out.ext Hx1.out).c1;go_wp2_with fail
  refine (Hb.out w1).mono ?_;rintro e w2 ⟨rfl,hx2⟩;have Hx2:=hid (Hx1.out.trans hx2);clear hx2;go_wp2
  go_ret3
  exact ⟨rfl,HE.out.trans Hx2.out⟩
theorem ze0 (n:Int)(d:Nat)(w:World)(he:Env w)(h1:-4000000000000000000≤n)(h2:n≤4000000000000000000)(h3:0<d)(h4:d≤4000000000000000000) :
  Calls Tryz.prog 191 #[.int .i64 n,.int .i64 (d:Int)] w fun e w'=>e=.returned (Rv (mkRat n d))∧Ext w w':=by
 obtain ⟨g,hg⟩:∃ g,g=Nat.gcd n.natAbs d:=⟨_,rfl⟩;have hgp:0<g:=by rw [hg];exact Nat.gcd_pos_of_pos_right _ h3
 have hgd:g≤d:=by rw [hg];exact Nat.gcd_le_right _ h3
 have e1:=zdF n d (by omega);have e2:=zdG n d (by omega);rw [← hg] at e1 e2;unfold Rv;rw [e1,e2];have q1:(n.tdiv (g:Int)).natAbs≤n.natAbs:=by rw [Int.natAbs_tdiv];exact Nat.div_le_self _ _
 have q2:((d:Int).tdiv (g:Int)).natAbs≤d:=by rw [Int.natAbs_tdiv];exact Nat.div_le_self _ _
 obtain ⟨x,hx⟩:∃ x,n.tdiv (g:Int)=x:=⟨_,rfl⟩;obtain ⟨y,hy⟩:∃ y,(d:Int).tdiv (g:Int)=y:=⟨_,rfl⟩;have hwx:IntKind.i64.wrap x=x:=IntWalk.i64_in _ (by omega);have hwy:IntKind.i64.wrap y=y:=IntWalk.i64_in _ (by omega);have hof:=fun (z:Int)(h0:-9223372036854775808≤z)(h1:z≤9223372036854775807) W (h:Ext w W)=>zaE z h0 h1 W (he.ext h);have hi1:=fun W (h:Ext w W)=>hof x (by omega) (by omega) W h;have hi2:=fun W (h:Ext w W)=>hof y (by omega) (by omega) W h;rw [hx,hy];clear hof q1 q2 e1 e2 he;have b2:=zes.new w (.string ⟨#[]⟩) (.string ⟨#[]⟩);have hE:Ext w (w.alloc (.cells #[.string ⟨#[]⟩,.string ⟨#[]⟩] 102)):=(Ext.refl _).alloc _;have Hg:=hid hg;have Hi1:=hid hi1;have Hi2:=hid hi2;have HE:=hid hE;have B2:=hid b2;have Hx:=hid hx;have Hy:=hid hy;have Hwx:=hid hwx;have Hwy:=hid hwy;clear hg hi1 hi2 hE b2 hx hy hwx hwy;go_enter Tryz.func191,Tryz.ntmps191
 go_wp2_with fail
 generalize hV:w.alloc (.cells #[.string ⟨#[]⟩,.string ⟨#[]⟩] 102)=V at *;go_loopw [5,6] (fun v5 v6 wr=>∃ a b:Int,v5=.int .i64 a∧v6=.int .i64 b∧Nat.gcd a.natAbs b.natAbs=g∧-4000000000000000000≤a∧a≤4000000000000000000∧-4000000000000000000≤b∧b≤4000000000000000000∧Ext V wr) (fun _ v6 _=>(zal v6).natAbs)
 case atStart=>exact ⟨n,d,rfl,rfl,by rw [Hg.out,Int.natAbs_natCast],h1,h2,by omega,by omega,Ext.refl _⟩
 case round =>
  obtain ⟨a,b,rfl,rfl,hab,ha1,ha2,hb1,hb2,hEr⟩:=hrel;have Hab:=hid hab;have HEr:=hid hEr;clear hab hEr;by_cases h0:b=0
  ·subst h0;have hga:a.natAbs=g:=(by have:=Hab.out;rwa [Int.natAbs_zero,Nat.gcd_zero_right] at this);have hgg:a=(g:Int)∨a=-(g:Int):=(by omega);have hk:Kp0 w wr w.heap.size:=⟨HE.out.trans HEr.out,_,_,B2.out.ext HEr.out⟩;have hwq1:IntKind.i64.wrap (n.tdiv (g:Int))=n.tdiv (g:Int):=(by rw [Hx.out,Hwx.out]);have hdg:(d:Int) / (g:Int)=y:=(by rw [← Hy.out,Int.tdiv_eq_ediv_of_nonneg (by omega)]);have hwq2:IntKind.i64.wrap ((d:Int) / (g:Int))=(d:Int) / (g:Int):=(by rw [hdg,Hwy.out]);have Hdg:=hid hdg;clear hdg;have hg0:¬ (g:Int)=0:=(by omega);have hgn:¬ g=0:=(by omega);have hgz:((g:Int) == 0)=false:=beq_eq_false_iff_ne.2 hg0;have hga1:(g:Int)≤4000000000000000000:=(by omega);have hga2:¬ (g:Int)<0:=(by omega);have Hk:=hid hk;clear hk;clear hga;rcases hgg with rfl | rfl
   all_goals
    go_wp2_with fail
    go_region_held3 (fun w'=>Kp0 w w' w.heap.size∧w'.cell? ⟨w.heap.size,0,none⟩=some (zet w' w.heap.size 0)∧w'.cell? ⟨w.heap.size,1,none⟩=some (zet w' w.heap.size 1)∧w'.frozen? ⟨w.heap.size,0,none⟩=false∧w'.frozen? ⟨w.heap.size,1,none⟩=false)
     (first | exact (Kp0.ext Hk.out ((Ext.refl _).drew)).all | exact (Kp0.ext (And.left (by assumption)) hxa).all | exact (Kp0.put (And.left (by assumption)) (by omega) _ _).all)
     (first
      | (go_at_call_of 124 (Value.int .i64 (n.tdiv (g:Int)));rw [Hx.out];refine (Hi1.out _ (And.left (And.left (by assumption)))).mono ?_;rintro e9 V4 ⟨rfl,hxa⟩;have hkk:=Kp0.ext (And.left (by assumption)) hxa)
      | (go_at_call_of 124 (Value.int .i64 ((d:Int) / (g:Int)));rw [Hdg.out];refine (Hi2.out _ (And.left (And.left (by assumption)))).mono ?_;rintro e9 V4 ⟨rfl,hxa⟩;have hkk:=Kp0.ext (And.left (by assumption)) hxa))
    all_goals
     obtain ⟨hb,hfx⟩:=Kp0.fin hkk (Nat.le_refl _) (.string (I x)) (.string (I y));clear hxa hkk;generalize (V4.setCell ⟨w.heap.size,0,none⟩ (.string (I x))).setCell ⟨w.heap.size,1,none⟩ (.string (I y))=W5 at *;have hc0:=hb.c0;have hc1:=hb.c1;go_wp2_with fail
     exact bodyPost_ret (v:=.agg #[.string (I x),.string (I y)]) (by simp [results,Tryz.results191,go_sem,hc0,hc1]) rfl ⟨rfl,hfx⟩
  ·have hnz:(b != 0)=true:=(by rw [bne_iff_ne];exact h0);have hbz:(b == 0)=false:=beq_eq_false_iff_ne.2 h0;have hlt:=zdE a b h0;have hst:=zdD a b;rw [Hab.out] at hst;have hwr:IntKind.i64.wrap (a.tmod b)=a.tmod b:=IntWalk.i64_in _ (by omega);have hb3:-4000000000000000000≤a.tmod b∧a.tmod b≤4000000000000000000:=(by omega);have hlt2:a.natAbs % b.natAbs<b.natAbs:=(by rw [← Int.natAbs_tmod];exact hlt);have Hst:=hid hst;have Hlt2:=hid hlt2;have Hb3:=hid hb3;clear hst hlt2 hb3;clear hlt;go_wp2
   go_quiet (fail)
   go_wp2
   go_roundw
   case rel=>exact ⟨b,a.tmod b,rfl,rfl,Hst.out,hb1,hb2,Hb3.out.1,Hb3.out.2,HEr.out.drewN _⟩
   case measure=>simp [zal];exact Hlt2.out
theorem ze1 : (I 1).toList=[49]:=by
 rw [show (1:Int)=((1:Nat):Int) from rfl,za2,zbn,decDigits];rfl
theorem ze2 (z:Int):((I z).toList == [49])=decide (z=1):=by
 rw [Bool.eq_iff_iff,beq_iff_eq,decide_eq_true_iff];constructor
 ·intro h;rw [← ze1,zbx,zbx] at h;exact zby h
 ·intro h;rw [h,ze1]
theorem ze3 (n:Int)(d:Nat)(w:World)(he:Env w)(hn:Fit n)(hd:Fit (d:Int))(h0:0<d) :
  Calls Tryz.prog 192 #[.string (I n),.string (I (d:Int))] w fun e w'=>e=.returned (Rv (mkRat n d))∧Ext w w':=by
 have hg:=fun W (h:Ext w W)=>zeq n (d:Int) W (he.ext h) hn hd;have hs:=fun W=>zbR (d:Int) W hd;rw [Int.natAbs_natCast] at hg;rw [zbm (by omega)] at hs;have hgp:0<Nat.gcd n.natAbs d:=Nat.gcd_pos_of_pos_right _ h0;have hgd:Nat.gcd n.natAbs d≤d:=Nat.gcd_le_right _ h0;have e1:(mkRat n d).num=n / ((Nat.gcd n.natAbs d:Nat):Int):=by rw [Rat.num_mkRat,if_neg (by omega),Nat.gcd_comm]
 have e2:(((mkRat n d).den:Nat):Int)=(d:Int) / ((Nat.gcd n.natAbs d:Nat):Int):=by rw [Rat.den_mkRat,if_neg (by omega),Nat.gcd_comm,Int.natCast_ediv]
 unfold Rv;rw [e1,e2];generalize Nat.gcd n.natAbs d=g at *;have hfg:Fit (g:Int):=Nat.le_trans (Dec.nDigits_mono (by omega)) hd;have hq1:=fun W (h:Ext w W)=>zek n (g:Int) W (he.ext h) (by omega) hn hfg;have hq2:=fun W (h:Ext w W)=>zek (d:Int) (g:Int) W (he.ext h) (by omega) hd hfg;have f1:fdv n (g:Int)=n / (g:Int):=by unfold fdv;rw [if_pos (by omega)]
 have f2:fdv (d:Int) (g:Int)=(d:Int) / (g:Int):=by unfold fdv;rw [if_pos (by omega)]
 rw [f1] at hq1;rw [f2] at hq2;have b2:=zes.new w (.string ⟨#[]⟩) (.string ⟨#[]⟩);have hE:Ext w (w.alloc (.cells #[.string ⟨#[]⟩,.string ⟨#[]⟩] 102)):=(Ext.refl _).alloc _;have hone:=ze2 (g:Int);have hdiv1:¬ g=1∨(n / (g:Int)=n∧(d:Int) / (g:Int)=d):=by
  by_cases e:g=1
  ·right;subst e;simp
  ·exact .inl e
 generalize n / (g:Int)=x at *;generalize (d:Int) / (g:Int)=y at *;generalize fmd n (g:Int)=r1 at *;generalize fmd (d:Int) (g:Int)=r2 at *;clear f1 f2 e1 e2 he hn hd hfg hgd hgp;have Hg:=hid hg;have Hs:=hid hs;have Hq1:=hid hq1;have Hq2:=hid hq2;have B2:=hid b2;have HE:=hid hE;clear hg hs hq1 hq2 b2 hE;by_cases hg1:g=1
 ·rcases hdiv1 with h | ⟨rfl,rfl⟩
  ·exact absurd hg1 h
  have ht:((I (g:Int)).toList == [49])=true:=by rw [hone,hg1];rfl
  have ht2:((I (g:Int)).toList != [49])=false:=by rw [bne,ht];rfl
  clear hone hg1;go_enter Tryz.func192,Tryz.ntmps192
  go_wp2_with fail
  refine (Hs.out _).mono ?_;rintro e W1 ⟨rfl,rfl⟩;go_wp2_with fail
  refine (Hg.out _ HE.out).mono ?_;rintro e w2 ⟨rfl,hx2⟩;have Hx2:=hid hx2;clear hx2;have hk:Res w2 w.heap.size:=⟨_,_,B2.out.ext Hx2.out⟩;have hc0:=hk.c0;have hc1:=hk.c1;have hz0:=hk.fz 0;have hz1:=hk.fz 1;obtain ⟨hb,hfx⟩:=Kp0.fin ⟨HE.out.trans Hx2.out,hk⟩ (Nat.le_refl _) (.string (I x)) (.string (I (d:Int)));have Hb:=hid hb;have Hfx:=hid hfx;have Hk:=hid hk;clear hb hfx hk;go_wp2_with fail
  have hd0:=Hb.out.c0;have hd1:=Hb.out.c1;exact bodyPost_ret (v:=.agg #[.string (I x),.string (I (d:Int))]) (by simp [results,Tryz.results192,go_sem,hd0,hd1]) rfl ⟨rfl,Hfx.out⟩
 ·have ht:((I (g:Int)).toList == [49])=false:=by rw [hone];exact decide_eq_false (by omega)
  have ht2:((I (g:Int)).toList != [49])=true:=by rw [bne,ht];rfl
  clear hone hg1 hdiv1;go_enter Tryz.func192,Tryz.ntmps192
  go_wp2_with fail
  refine (Hs.out _).mono ?_;rintro e W1 ⟨rfl,rfl⟩;go_wp2_with fail
  refine (Hg.out _ HE.out).mono ?_;rintro e w2 ⟨rfl,hx2⟩;have Hx2:=hid hx2;clear hx2;go_wp2_with fail
  refine (Hq1.out w2 (HE.out.trans Hx2.out)).mono ?_;rintro e w3 ⟨rfl,hx3⟩;have Hx3:=hid (Hx2.out.trans hx3);clear hx3;go_wp2_with fail
  refine (Hq2.out w3 (HE.out.trans Hx3.out)).mono ?_;rintro e w4 ⟨rfl,hx4⟩;have Hx4:=hid (Hx3.out.trans hx4);clear hx4;have hk:Res w4 w.heap.size:=⟨_,_,B2.out.ext Hx4.out⟩;have hc0:=hk.c0;have hc1:=hk.c1;have hz0:=hk.fz 0;have hz1:=hk.fz 1;obtain ⟨hb,hfx⟩:=Kp0.fin ⟨HE.out.trans Hx4.out,hk⟩ (Nat.le_refl _) (.string (I x)) (.string (I y));have Hb:=hid hb;have Hfx:=hid hfx;have Hk:=hid hk;clear hb hfx hk;go_wp2_with fail
  have hd0:=Hb.out.c0;have hd1:=Hb.out.c1;exact bodyPost_ret (v:=.agg #[.string (I x),.string (I y)]) (by simp [results,Tryz.results192,go_sem,hd0,hd1]) rfl ⟨rfl,Hfx.out⟩
end Go.Proofs.YtipkdebkdnbieaaGreatDoor
