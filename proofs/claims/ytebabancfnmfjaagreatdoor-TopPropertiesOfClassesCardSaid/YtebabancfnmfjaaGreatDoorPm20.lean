/- Walks: schismaref03's little, SignW, Of. Walks: schismaref03's Make and Frac of one digit. Walks: law 31's add, times, less. -/
import Derived.Test.YtebabancfnmfjaaGreatDoorPm19
import Derived.Test.YtebabancfnmfjaaGreatDoorPm07
import Derived.Test.YtebabancfnmfjaaGreatDoorPm09
set_option maxRecDepth 100000
set_option maxHeartbeats 800000
namespace Go.Proofs.YtebabancfnmfjaaGreatDoor
open Go.RowKit Go.Lib Go.Shelf
attribute [local go_sem] Oper.semAt_some
theorem zjR {w:World}{v:Value}{z:Int}(h:W1 w v z):(z=0∧∃ a c,v=.agg #[.bool false,.slice a 0 c])∨(z ≠ 0∧∃ b off c,v=.agg #[.bool (decide (z<0)),.slice (some ⟨b,off,none⟩) 1 c]∧w.cell? ⟨b,off,none⟩=some (.int .i64 (z.natAbs:Int))):=by
 obtain ⟨u,rfl,hs⟩:=h;rw [zjM] at hs;rcases zjL hs with ⟨h0,a,c,rfl,_⟩ | ⟨h0,b,off,c,rfl,h1,_,_⟩
 ·left;obtain rfl:z=0:=by omega
  exact ⟨rfl,a,c,rfl⟩
 ·exact .inr ⟨by omega,b,off,c,rfl,h1⟩
theorem zjS (v:Value)(z:Int)(w:World)(h:W1 w v z)(hz:0<z) :
  Calls Tryz.prog 256 #[v] w fun e w'=>e=.returned (.int .i64 1)∧Ext w w':=by
 rcases zjR h with ⟨h0,_⟩ | ⟨_,b,off,c,rfl,h1⟩
 ·omega
 ·rw [decide_eq_false (by omega)];have hE:Ext w (w.alloc (.cells #[.bool false,.slice (some ⟨b,off,none⟩) 1 c] 243)):=(Ext.refl w).alloc _;have b1:=zic.new 243 w (.bool false) (.slice (some ⟨b,off,none⟩) 1 c);have q0:=b1.c0;have q1:=b1.c1;have HE:=hid hE;clear hE b1 h;go_enter Tryz.func256,Tryz.ntmps256
  go_wp2
  go_ret
  exact ⟨rfl,HE.out⟩
theorem zjT (z:Int)(w:World)(he:Env w)(h0:-1000000000<z)(h1:z<1000000000) :
  Calls Tryz.prog 204 #[.int .i64 z] w fun e w'=>∃ v,e=.returned v∧W1 w' v z∧Ext w w':=by
 have hi:=fun W (hE:Ext w W)=>zjD z W (he.ext hE) (by omega) (by omega);have ht:=fun W=>zjK z W h0 h1;have hE0:Ext w (w.alloc (.cells #[.bool false,.slice none 0 0] 243)):=(Ext.refl w).alloc _;have b1:=zic.new 243 w (.bool false) (.slice none 0 0);generalize I z=s at *;have Hi:=hid hi;have Ht:=hid ht;have HE0:=hid hE0;have B1:=hid b1;clear hi ht hE0 b1 he;go_enter Tryz.func204,Tryz.ntmps204
 go_wp2_with fail
 refine (Hi.out _ HE0.out).mono ?_;rintro e w1 ⟨rfl,hx1⟩;have Hx1:=hid hx1;clear hx1;go_wp2_with fail
 refine (Ht.out w1).mono ?_;rintro e w9 ⟨v9,rfl,hw9,hx9⟩;obtain ⟨b9,a9,l9,c9,rfl,hw9⟩:=zjO hw9;have hx:=Hx1.out.trans hx9;have hr9:=B1.out.ext hx;have hk9:K0 243 w w9 w.heap.size:=⟨HE0.out.trans hx,_,_,hr9⟩;have k0:=hk9.res.c0;have k1:=hk9.res.c1;have z0:=hk9.res.fz 0;have z1:=hk9.res.fz 1;obtain ⟨hb5,hx5⟩:=hk9.fin (Nat.le_refl _) (.bool b9) (.slice a9 l9 c9);have hs5:=zjP hw9 hr9 (by simp) (by simp) (.bool b9) (.slice a9 l9 c9);have Hb5:=hid hb5;have Hx5:=hid hx5;have Hs5:=hid hs5;clear hb5 hx5 hs5 hk9 hr9 hx9 hw9 hx;go_wp2_with fail
 have hd0:=Hb5.out.c0;have hd1:=Hb5.out.c1;exact bodyPost_ret (v:=.agg #[.bool b9,.slice a9 l9 c9]) (by simp [results,Tryz.results204,go_sem,hd0,hd1]) rfl ⟨_,rfl,Hs5.out,Hx5.out⟩
theorem zjU (z:Int)(d:Nat)(hd:0<d):(mkRat z d).num=zjH (decide (z<0)) (z.natAbs / Nat.gcd z.natAbs d)∧(mkRat z d).den=d / Nat.gcd z.natAbs d:=by
 have e1:=zdc z d (by omega);have e2:=zdd z d (by omega);have hg:0<Nat.gcd z.natAbs d:=Nat.gcd_pos_of_pos_right _ hd;refine ⟨?_,?_⟩
 ·rw [e1];unfold zjH;rcases (by omega:z<0∨0≤z) with h | h
  ·rw [decide_eq_true h,if_pos rfl];have:z=-((z.natAbs:Nat):Int):=(by omega);generalize Nat.gcd z.natAbs d=g at *;generalize z.natAbs=m at *;rw [this,Int.neg_tdiv,Int.ofNat_tdiv]
  ·rw [decide_eq_false (by omega),if_neg (by simp)];have:z=((z.natAbs:Nat):Int):=(by omega);generalize Nat.gcd z.natAbs d=g at *;generalize z.natAbs=m at *;rw [this,Int.ofNat_tdiv]
 ·rw [← Int.ofNat_tdiv] at e2;exact Int.ofNat_inj.1 e2
theorem zjV (v:Value)(z:Int)(d:Nat)(w:World)(he:Env w)(hv:W1 w v z)(hz:z.natAbs<1000000000)(hd:0<d)(hd9:d<1000000000) :
  Calls Tryz.prog 258 #[v,.int .i64 (d:Int)] w fun e w'=>e=.returned (Rv (mkRat z d))∧Ext w w':=by
 obtain ⟨m,hm⟩:∃ m,m=z.natAbs:=⟨_,rfl⟩;obtain ⟨g,hg⟩:∃ g,g=Nat.gcd z.natAbs d:=⟨_,rfl⟩;have hgp:0<g:=by rw [hg];exact Nat.gcd_pos_of_pos_right _ hd
 have hgd:g≤d:=by rw [hg];exact Nat.gcd_le_right _ hd
 obtain ⟨e1,e2⟩:=zjU z d hd;rw [← hg,← hm] at e1;rw [← hg] at e2;unfold Rv;rw [e1,e2];have hq1:m / g≤m:=Nat.div_le_self _ _;have hq2:d / g≤d:=Nat.div_le_self _ _;have hi:=fun (z:Int)(h0:-1000000000≤z)(h1:z≤1000000000) W (hE:Ext w W)=>zjD z W (he.ext hE) (by omega) (by omega);have hnat1:(m:Int).tdiv (g:Int)=((m / g:Nat):Int):=(Int.ofNat_tdiv m g).symm;have hnat2:(d:Int).tdiv (g:Int)=((d / g:Nat):Int):=(Int.ofNat_tdiv d g).symm;have hnat3:(m:Int) / (g:Int)=((m / g:Nat):Int):=by simp
 have hnat4:(d:Int) / (g:Int)=((d / g:Nat):Int):=by simp
 rw [hm] at hq1 hnat1 hnat3;rw [← hm] at hq1 hnat1 hnat3;have hw:∃ sb u,v=.agg #[.bool sb,u]∧sb=decide (z<0):=by
  obtain ⟨u,e,_⟩:=hv;exact ⟨_,u,e,rfl⟩
 have hgcd:Nat.gcd m d=g:=by rw [hm,hg]
 rw [← hm] at hz;generalize hq:m / g=q at *;generalize hr:d / g=r at *;have hm2:(m:Int)=(z.natAbs:Int):=by omega
 have Hm:=hid hm2;clear hm2 hq hr;rcases zjR hv with ⟨h0,a0,c0,rfl⟩ | ⟨h0,b0,o0,c0,rfl,h1⟩
 ·have hm0:m=0:=by omega
  clear hm Hm;subst hm0;clear hnat3 hnat4;have hnat1:(0:Int).tdiv (g:Int)=(q:Int):=hnat1;have hsq:zjH (decide (z<0)) q=(q:Int):=by unfold zjH;rw [decide_eq_false (by omega)];rfl
  rw [hsq];clear hw hsq;have hE0:Ext w ((w.alloc (.cells #[.bool false,.slice a0 0 c0] 243)).alloc (.cells #[.string ⟨#[]⟩,.string ⟨#[]⟩] 65)):=((Ext.refl w).alloc _).alloc _;have b1:=(zic.new 243 w (.bool false) (.slice a0 0 c0)).ext ((Ext.refl _).alloc (.cells #[.string ⟨#[]⟩,.string ⟨#[]⟩] 65));have b2:=zic.new 65 (w.alloc (.cells #[.bool false,.slice a0 0 c0] 243)) (.string ⟨#[]⟩) (.string ⟨#[]⟩);rw [World.size_alloc] at b2;skip;generalize hV:(w.alloc (.cells #[.bool false,.slice a0 0 c0] 243)).alloc (.cells #[.string ⟨#[]⟩,.string ⟨#[]⟩] 65)=V at *;have p0:=b1.c0;have p1:=b1.c1;have hk:K0 65 w V (w.heap.size+1):=⟨hE0,_,_,b2⟩;have Hk:=hid hk;have B1:=hid b1;have Hi:=hid hi;have Hgcd:=hid hgcd;clear hE0 b1 b2 hk hv hi hgcd e1 e2 hg he;go_enter Tryz.func258,Tryz.ntmps258
  go_wp2_with fail
  go_loopw [6,7] (fun v6 v7 wr=>∃ a b:Nat,v6=.int .i64 (a:Int)∧v7=.int .i64 (b:Int)∧Hid (Nat.gcd a b=g)∧a<1000000000∧b<1000000000∧Hid (Ext V wr)) (fun _ v7 _=>(zam v7).toNat)
  case atStart=>exact ⟨0,d,rfl,rfl,Hgcd,by omega,hd9,hid (Ext.refl _)⟩
  case round =>
   obtain ⟨a,b,rfl,rfl,hab,ha9,hb9,hEr⟩:=hrel;by_cases h0:0<b
   ·have hbz:(0:Int)<(b:Int):=(by omega);have hb0:¬ (b:Int)=0:=(by omega);have hbn:¬ b=0:=(by omega);have hbb:((b:Int) == 0)=false:=beq_eq_false_iff_ne.2 hb0;have hmd:(a:Int).tmod (b:Int)=((a % b:Nat):Int):=(Int.ofNat_tmod a b).symm;have hmd2:(a:Int) % (b:Int)=((a % b:Nat):Int):=(by simp);have hml:=Nat.mod_lt a h0;have hgs:Hid (Nat.gcd b (a % b)=g):=hid (by rw [← hab.out,Nat.gcd_comm a b,Nat.gcd_rec b a,Nat.gcd_comm]);obtain ⟨c,hc⟩:∃ c,a % b=c:=⟨_,rfl⟩;rw [hc] at hmd hmd2 hml hgs;have Hc:=hid hc;clear hc;have hcb:(c:Int)≤1000000000:=(by omega);go_wp2_with fail
    go_quiet (fail)
    go_wp2_with fail
    go_roundw
    case rel=>exact ⟨b,c,by first | rfl | go_num,by first | rfl | go_num,hgs,hb9,by omega,hid (hEr.out.drewN _)⟩
    case measure=>simp [zam];omega
   ·obtain rfl:b=0:=by omega
    have hag:a=g:=(by have:=hab.out;rwa [Nat.gcd_zero_right] at this);subst hag;have hg0:¬ (a:Int)=0:=(by omega);have hgn:¬ a=0:=(by omega);have hgb:((a:Int) == 0)=false:=beq_eq_false_iff_ne.2 hg0;have hkr:=Hk.out.ext hEr.out;have p0:=hEr.out.cell p0;have hqb:(q:Int)≤1000000000:=(by omega);have hrb:(r:Int)≤1000000000:=(by omega);have hi1:=fun W (hx:Ext wr W)=>Hi.out (q:Int) (by omega) (by omega) W (hkr.x.trans hx);have hi2:=fun W (hx:Ext wr W)=>Hi.out (r:Int) (by omega) (by omega) W (hkr.x.trans hx);generalize hs1:I ((q:Int))=s1 at *;generalize hs2:I (r:Int)=s2 at *;have Hs1:=hid hs1;have Hs2:=hid hs2;clear hs1 hs2;have Hkr:=hid hkr;have Hi1:=hid hi1;have Hi2:=hid hi2;clear hkr hi1 hi2 hab;go_wp2_with fail
    go_quiet (fail)
    have p0:=((Ext.refl wr).drewN nq).cell p0;go_wp2_with fail
    refine (Hi1.out _ ((Ext.refl wr).drewN _)).mono ?_;rintro e w8 ⟨rfl,hx8⟩;have Hx8:=hid (((Ext.refl wr).drewN nq).trans hx8);clear hx8 p0;go_wp2_with fail
    refine (Hi2.out w8 Hx8.out).mono ?_;rintro e w9 ⟨rfl,hx9⟩;have hk9:=Hkr.out.ext (Hx8.out.trans hx9);have k0:=hk9.res.c0;have k1:=hk9.res.c1;have z0:=hk9.res.fz 0;have z1:=hk9.res.fz 1;obtain ⟨hb5,hx5⟩:=hk9.fin (by omega) (.string s1) (.string s2);have Hb5:=hid hb5;have Hx5:=hid hx5;clear hb5 hx5 hk9 hx9;go_wp2_with fail
    have hd0:=Hb5.out.c0;have hd1:=Hb5.out.c1;exact bodyPost_ret (v:=.agg #[.string s1,.string s2]) (by simp [results,Tryz.results258,go_sem,hd0,hd1]) rfl ⟨by rw [Hs1.out,Hs2.out],Hx5.out⟩
 ·rw [← hm] at h1;clear hm;rcases (by omega:z<0∨¬ z<0) with hs | hs
  ·have hsq:zjH (decide (z<0)) q=-(q:Int):=(by unfold zjH;rw [decide_eq_true hs];rfl);rw [hsq];rw [decide_eq_true hs] at *;clear hw hsq hs;have hE0:Ext w ((w.alloc (.cells #[.bool true,.slice (some ⟨b0,o0,none⟩) 1 c0] 243)).alloc (.cells #[.string ⟨#[]⟩,.string ⟨#[]⟩] 65)):=((Ext.refl w).alloc _).alloc _;have b1:=(zic.new 243 w (.bool true) (.slice (some ⟨b0,o0,none⟩) 1 c0)).ext ((Ext.refl _).alloc (.cells #[.string ⟨#[]⟩,.string ⟨#[]⟩] 65));have b2:=zic.new 65 (w.alloc (.cells #[.bool true,.slice (some ⟨b0,o0,none⟩) 1 c0] 243)) (.string ⟨#[]⟩) (.string ⟨#[]⟩);rw [World.size_alloc] at b2;have hl1:=hE0.cell h1;generalize hV:(w.alloc (.cells #[.bool true,.slice (some ⟨b0,o0,none⟩) 1 c0] 243)).alloc (.cells #[.string ⟨#[]⟩,.string ⟨#[]⟩] 65)=V at *;have p0:=b1.c0;have p1:=b1.c1;have hk:K0 65 w V (w.heap.size+1):=⟨hE0,_,_,b2⟩;have Hk:=hid hk;have B1:=hid b1;have Hi:=hid hi;have Hgcd:=hid hgcd;clear hE0 b1 b2 hk hv hi hgcd e1 e2 hg he;go_enter Tryz.func258,Tryz.ntmps258
   go_wp2_with fail
   go_loopw [6,7] (fun v6 v7 wr=>∃ a b:Nat,v6=.int .i64 (a:Int)∧v7=.int .i64 (b:Int)∧Hid (Nat.gcd a b=g)∧a<1000000000∧b<1000000000∧Hid (Ext V wr)) (fun _ v7 _=>(zam v7).toNat)
   case atStart=>exact ⟨m,d,rfl,rfl,Hgcd,by omega,hd9,hid (Ext.refl _)⟩
   case round =>
    obtain ⟨a,b,rfl,rfl,hab,ha9,hb9,hEr⟩:=hrel;by_cases h0:0<b
    ·have hbz:(0:Int)<(b:Int):=(by omega);have hb0:¬ (b:Int)=0:=(by omega);have hbn:¬ b=0:=(by omega);have hbb:((b:Int) == 0)=false:=beq_eq_false_iff_ne.2 hb0;have hmd:(a:Int).tmod (b:Int)=((a % b:Nat):Int):=(Int.ofNat_tmod a b).symm;have hmd2:(a:Int) % (b:Int)=((a % b:Nat):Int):=(by simp);have hml:=Nat.mod_lt a h0;have hgs:Hid (Nat.gcd b (a % b)=g):=hid (by rw [← hab.out,Nat.gcd_comm a b,Nat.gcd_rec b a,Nat.gcd_comm]);obtain ⟨c,hc⟩:∃ c,a % b=c:=⟨_,rfl⟩;rw [hc] at hmd hmd2 hml hgs;have Hc:=hid hc;clear hc;have hcb:(c:Int)≤1000000000:=(by omega);go_wp2_with fail
     go_quiet (fail)
     go_wp2_with fail
     go_roundw
     case rel=>exact ⟨b,c,by first | rfl | go_num,by first | rfl | go_num,hgs,hb9,by omega,hid (hEr.out.drewN _)⟩
     case measure=>simp [zam];omega
    ·obtain rfl:b=0:=by omega
     have hag:a=g:=(by have:=hab.out;rwa [Nat.gcd_zero_right] at this);subst hag;have hg0:¬ (a:Int)=0:=(by omega);have hgn:¬ a=0:=(by omega);have hgb:((a:Int) == 0)=false:=beq_eq_false_iff_ne.2 hg0;have hkr:=Hk.out.ext hEr.out;have p0:=hEr.out.cell p0;have hqb:(q:Int)≤1000000000:=(by omega);have hrb:(r:Int)≤1000000000:=(by omega);have hi1:=fun W (hx:Ext wr W)=>Hi.out (-(q:Int)) (by omega) (by omega) W (hkr.x.trans hx);have hi2:=fun W (hx:Ext wr W)=>Hi.out (r:Int) (by omega) (by omega) W (hkr.x.trans hx);generalize hs1:I (-(q:Int))=s1 at *;generalize hs2:I (r:Int)=s2 at *;have Hs1:=hid hs1;have Hs2:=hid hs2;clear hs1 hs2;have Hkr:=hid hkr;have Hi1:=hid hi1;have Hi2:=hid hi2;clear hkr hi1 hi2 hab;go_wp2_with fail
     go_quiet (fail)
     have p0:=((Ext.refl wr).drewN nq).cell p0;go_wp2_with fail
     refine (Hi1.out _ ((Ext.refl wr).drewN _)).mono ?_;rintro e w8 ⟨rfl,hx8⟩;have Hx8:=hid (((Ext.refl wr).drewN nq).trans hx8);clear hx8 p0;go_wp2_with fail
     refine (Hi2.out w8 Hx8.out).mono ?_;rintro e w9 ⟨rfl,hx9⟩;have hk9:=Hkr.out.ext (Hx8.out.trans hx9);have k0:=hk9.res.c0;have k1:=hk9.res.c1;have z0:=hk9.res.fz 0;have z1:=hk9.res.fz 1;obtain ⟨hb5,hx5⟩:=hk9.fin (by omega) (.string s1) (.string s2);have Hb5:=hid hb5;have Hx5:=hid hx5;clear hb5 hx5 hk9 hx9;go_wp2_with fail
     have hd0:=Hb5.out.c0;have hd1:=Hb5.out.c1;exact bodyPost_ret (v:=.agg #[.string s1,.string s2]) (by simp [results,Tryz.results258,go_sem,hd0,hd1]) rfl ⟨by rw [Hs1.out,Hs2.out],Hx5.out⟩
  ·have hsq:zjH (decide (z<0)) q=(q:Int):=(by unfold zjH;rw [decide_eq_false hs];rfl);rw [hsq];rw [decide_eq_false hs] at *;clear hw hsq hs;have hE0:Ext w ((w.alloc (.cells #[.bool false,.slice (some ⟨b0,o0,none⟩) 1 c0] 243)).alloc (.cells #[.string ⟨#[]⟩,.string ⟨#[]⟩] 65)):=((Ext.refl w).alloc _).alloc _;have b1:=(zic.new 243 w (.bool false) (.slice (some ⟨b0,o0,none⟩) 1 c0)).ext ((Ext.refl _).alloc (.cells #[.string ⟨#[]⟩,.string ⟨#[]⟩] 65));have b2:=zic.new 65 (w.alloc (.cells #[.bool false,.slice (some ⟨b0,o0,none⟩) 1 c0] 243)) (.string ⟨#[]⟩) (.string ⟨#[]⟩);rw [World.size_alloc] at b2;have hl1:=hE0.cell h1;generalize hV:(w.alloc (.cells #[.bool false,.slice (some ⟨b0,o0,none⟩) 1 c0] 243)).alloc (.cells #[.string ⟨#[]⟩,.string ⟨#[]⟩] 65)=V at *;have p0:=b1.c0;have p1:=b1.c1;have hk:K0 65 w V (w.heap.size+1):=⟨hE0,_,_,b2⟩;have Hk:=hid hk;have B1:=hid b1;have Hi:=hid hi;have Hgcd:=hid hgcd;clear hE0 b1 b2 hk hv hi hgcd e1 e2 hg he;go_enter Tryz.func258,Tryz.ntmps258
   go_wp2_with fail
   go_loopw [6,7] (fun v6 v7 wr=>∃ a b:Nat,v6=.int .i64 (a:Int)∧v7=.int .i64 (b:Int)∧Hid (Nat.gcd a b=g)∧a<1000000000∧b<1000000000∧Hid (Ext V wr)) (fun _ v7 _=>(zam v7).toNat)
   case atStart=>exact ⟨m,d,rfl,rfl,Hgcd,by omega,hd9,hid (Ext.refl _)⟩
   case round =>
    obtain ⟨a,b,rfl,rfl,hab,ha9,hb9,hEr⟩:=hrel;by_cases h0:0<b
    ·have hbz:(0:Int)<(b:Int):=(by omega);have hb0:¬ (b:Int)=0:=(by omega);have hbn:¬ b=0:=(by omega);have hbb:((b:Int) == 0)=false:=beq_eq_false_iff_ne.2 hb0;have hmd:(a:Int).tmod (b:Int)=((a % b:Nat):Int):=(Int.ofNat_tmod a b).symm;have hmd2:(a:Int) % (b:Int)=((a % b:Nat):Int):=(by simp);have hml:=Nat.mod_lt a h0;have hgs:Hid (Nat.gcd b (a % b)=g):=hid (by rw [← hab.out,Nat.gcd_comm a b,Nat.gcd_rec b a,Nat.gcd_comm]);obtain ⟨c,hc⟩:∃ c,a % b=c:=⟨_,rfl⟩;rw [hc] at hmd hmd2 hml hgs;have Hc:=hid hc;clear hc;have hcb:(c:Int)≤1000000000:=(by omega);go_wp2_with fail
     go_quiet (fail)
     go_wp2_with fail
     go_roundw
     case rel=>exact ⟨b,c,by first | rfl | go_num,by first | rfl | go_num,hgs,hb9,by omega,hid (hEr.out.drewN _)⟩
     case measure=>simp [zam];omega
    ·obtain rfl:b=0:=by omega
     have hag:a=g:=(by have:=hab.out;rwa [Nat.gcd_zero_right] at this);subst hag;have hg0:¬ (a:Int)=0:=(by omega);have hgn:¬ a=0:=(by omega);have hgb:((a:Int) == 0)=false:=beq_eq_false_iff_ne.2 hg0;have hkr:=Hk.out.ext hEr.out;have p0:=hEr.out.cell p0;have hqb:(q:Int)≤1000000000:=(by omega);have hrb:(r:Int)≤1000000000:=(by omega);have hi1:=fun W (hx:Ext wr W)=>Hi.out (q:Int) (by omega) (by omega) W (hkr.x.trans hx);have hi2:=fun W (hx:Ext wr W)=>Hi.out (r:Int) (by omega) (by omega) W (hkr.x.trans hx);generalize hs1:I ((q:Int))=s1 at *;generalize hs2:I (r:Int)=s2 at *;have Hs1:=hid hs1;have Hs2:=hid hs2;clear hs1 hs2;have Hkr:=hid hkr;have Hi1:=hid hi1;have Hi2:=hid hi2;clear hkr hi1 hi2 hab;go_wp2_with fail
     go_quiet (fail)
     have p0:=((Ext.refl wr).drewN nq).cell p0;go_wp2_with fail
     refine (Hi1.out _ ((Ext.refl wr).drewN _)).mono ?_;rintro e w8 ⟨rfl,hx8⟩;have Hx8:=hid (((Ext.refl wr).drewN nq).trans hx8);clear hx8 p0;go_wp2_with fail
     refine (Hi2.out w8 Hx8.out).mono ?_;rintro e w9 ⟨rfl,hx9⟩;have hk9:=Hkr.out.ext (Hx8.out.trans hx9);have k0:=hk9.res.c0;have k1:=hk9.res.c1;have z0:=hk9.res.fz 0;have z1:=hk9.res.fz 1;obtain ⟨hb5,hx5⟩:=hk9.fin (by omega) (.string s1) (.string s2);have Hb5:=hid hb5;have Hx5:=hid hx5;clear hb5 hx5 hk9 hx9;go_wp2_with fail
     have hd0:=Hb5.out.c0;have hd1:=Hb5.out.c1;exact bodyPost_ret (v:=.agg #[.string s1,.string s2]) (by simp [results,Tryz.results258,go_sem,hd0,hd1]) rfl ⟨by rw [Hs1.out,Hs2.out],Hx5.out⟩
theorem zjW (va vb:Value)(x:Int)(d:Nat)(w:World)(he:Env w)(ha:W1 w va x)(hb:W1 w vb (d:Int))(hx:x.natAbs<1000000000)(hd:0<d)(hd9:d<1000000000) :
  Calls Tryz.prog 201 #[va,vb] w fun e w'=>e=.returned (Rv (mkRat x d))∧Ext w w':=by
 have hsg:=fun W (hE:Ext w W)=>zjS vb (d:Int) W (hb.ext hE) (by omega);have hli:=fun W (hE:Ext w W)=>zjV va x d W (he.ext hE) (ha.ext hE) hx hd hd9;unfold Rv at hli ⊢;generalize I (mkRat x d).num=s1 at *;generalize I ((mkRat x d).den:Int)=s2 at *;obtain ⟨bx,aa,la,ca,rfl,hla⟩:∃ (bx:Bool)(aa:Option Addr)(la ca:Nat),va=.agg #[.bool bx,.slice aa la ca]∧la≤1:=by
  rcases zjR ha with ⟨_,a,c,e⟩ | ⟨_,b,o,c,e,_⟩
  ·exact ⟨_,a,0,c,e,by omega⟩
  ·exact ⟨_,_,1,c,e,by omega⟩
 rcases zjR hb with ⟨h0,_⟩ | ⟨_,b0,o0,c0,rfl,h1⟩
 ·omega
 ·rw [decide_eq_false (by omega)] at *;rw [Int.natAbs_natCast] at h1;have hk2:=zie 243 243 65 w (.bool bx) (.slice aa la ca) (.bool false) (.slice (some ⟨b0,o0,none⟩) 1 c0) (.string ⟨#[]⟩) (.string ⟨#[]⟩);generalize hV:((w.alloc (.cells #[.bool bx,.slice aa la ca] 243)).alloc (.cells #[.bool false,.slice (some ⟨b0,o0,none⟩) 1 c0] 243)).alloc (.cells #[.string ⟨#[]⟩,.string ⟨#[]⟩] 65)=V at *;obtain ⟨hk,_⟩:=hk2;have p0:=hk.a.c0;have p1:=hk.a.c1;have q0:=hk.b.c0;have q1:=hk.b.c1;have hlai:(la:Int)≤1:=by omega
  have Hk:=hid hk;have Hsg:=hid hsg;have Hli:=hid hli;have H1:=hid h1;clear hk hsg hli h1 ha hb he hla;go_enter Tryz.func201,Tryz.ntmps201
  go_wp2_with fail
  refine (Hsg.out V Hk.out.x).mono ?_;rintro e w1 ⟨rfl,hx1⟩;have hk1:=Hk.out.ext hx1;have p0:=hk1.a.c0;have p1:=hk1.a.c1;have q0:=hk1.b.c0;have q1:=hk1.b.c1;have h1:=hk1.x.cell H1.out;have Hk1:=hid hk1;clear hk1 hx1;go_wp2_with fail
  go_region_held3 (fun w'=>w'.cell? ⟨b0,o0,none⟩=some (.int .i64 (d:Int))∧K2 243 243 65 w w' w.heap.size (.bool bx) (.slice aa la ca) (w.heap.size+1) (.bool false) (.slice (some ⟨b0,o0,none⟩) 1 c0) (w.heap.size+1+1)∧w'.cell? ⟨w.heap.size,0,none⟩=some (.bool bx)∧w'.cell? ⟨w.heap.size,1,none⟩=some (.slice aa la ca)∧w'.cell? ⟨w.heap.size+1,0,none⟩=some (.bool false)∧w'.cell? ⟨w.heap.size+1,1,none⟩=some (.slice (some ⟨b0,o0,none⟩) 1 c0)∧w'.cell? ⟨w.heap.size+1+1,0,none⟩=some (zdD w' (w.heap.size+1+1) 0)∧w'.cell? ⟨w.heap.size+1+1,1,none⟩=some (zdD w' (w.heap.size+1+1) 1)∧w'.frozen? ⟨w.heap.size+1+1,0,none⟩=false∧w'.frozen? ⟨w.heap.size+1+1,1,none⟩=false)
   (first | exact ⟨HkA.out.x.cell H1.out,HkA.out.all⟩ | exact ⟨(Hk1.out.ext ((Ext.refl w1).drew)).x.cell H1.out,(Hk1.out.ext ((Ext.refl w1).drew)).all⟩ | exact ⟨(HkA.out.put (by omega) (by omega) (by omega) (.string s1) (.string s2)).x.cell H1.out,(HkA.out.put (by omega) (by omega) (by omega) (.string s1) (.string s2)).all⟩)
   (first | (go_at_call 258;refine (Hli.out _ Hk1.out.x.drew).mono ?_;rintro e9 VA ⟨rfl,hxa⟩;have HkA:=hid (Hk1.out.ext (((Ext.refl w1).drew).trans hxa));clear hxa))
  all_goals
   obtain ⟨hb,hfx⟩:=HkA.out.fin (by omega) (.string s1) (.string s2);have Hfx:=hid hfx;clear hfx;generalize (VA.setCell ⟨w.heap.size+1+1,0,none⟩ (.string s1)).setCell ⟨w.heap.size+1+1,1,none⟩ (.string s2)=W5 at *;have hd0:=hb.c0;have hd1:=hb.c1;go_wp2_with fail
   exact bodyPost_ret (v:=.agg #[.string s1,.string s2]) (by simp [results,Tryz.results201,go_sem,hd0,hd1]) rfl ⟨rfl,Hfx.out⟩
theorem zjX (x:Int)(d:Nat)(w:World)(he:Env w)(hx:x.natAbs<1000000000)(hd:0<d)(hd9:d<1000000000) :
  Calls Tryz.prog 139 #[.int .i64 x,.int .i64 (d:Int)] w fun e w'=>e=.returned (Rv (mkRat x d))∧Ext w w':=by
 have ho1:=fun W (hE:Ext w W)=>zjT x W (he.ext hE) (by omega) (by omega);have ho2:=fun W (hE:Ext w W)=>zjT (d:Int) W (he.ext hE) (by omega) (by omega);have hmk:=fun W va vb (hE:Ext w W)(ha:W1 W va x)(hb:W1 W vb (d:Int))=>zjW va vb x d W (he.ext hE) ha hb hx hd hd9;unfold Rv at hmk ⊢;generalize I (mkRat x d).num=s1 at *;generalize I ((mkRat x d).den:Int)=s2 at *;have hE0:Ext w (w.alloc (.cells #[.string ⟨#[]⟩,.string ⟨#[]⟩] 65)):=(Ext.refl w).alloc _;have b1:=zic.new 65 w (.string ⟨#[]⟩) (.string ⟨#[]⟩);have Ho1:=hid ho1;have Ho2:=hid ho2;have Hmk:=hid hmk;have HE0:=hid hE0;have B1:=hid b1;clear ho1 ho2 hmk hE0 b1 he;go_enter Tryz.func139,Tryz.ntmps139
 go_wp2_with fail
 refine (Ho1.out _ HE0.out).mono ?_;rintro e w1 ⟨v1,rfl,hw1,hx1⟩;obtain ⟨b7,a7,l7,c7,rfl,hw1⟩:=zjO hw1;have Hx1:=hid hx1;have Hw1:=hid hw1;clear hx1 hw1;go_wp2_with fail
 refine (Ho2.out w1 (HE0.out.trans Hx1.out)).mono ?_;rintro e w2 ⟨v2,rfl,hw2,hx2⟩;obtain ⟨b8,a8,l8,c8,rfl,hw2⟩:=zjO hw2;have hm2:=Hmk.out w2 _ _ ((HE0.out.trans Hx1.out).trans hx2) (Hw1.out.ext hx2) hw2;have Hx2:=hid (Hx1.out.trans hx2);have Hm2:=hid hm2;clear hx2 hw2 hm2;go_wp2_with fail
 refine Hm2.out.mono ?_;rintro e w3 ⟨rfl,hx3⟩;have hx:=Hx2.out.trans hx3;have hk9:K0 65 w w3 w.heap.size:=⟨HE0.out.trans hx,_,_,B1.out.ext hx⟩;have k0:=hk9.res.c0;have k1:=hk9.res.c1;have z0:=hk9.res.fz 0;have z1:=hk9.res.fz 1;obtain ⟨hb5,hx5⟩:=hk9.fin (Nat.le_refl _) (.string s1) (.string s2);have Hb5:=hid hb5;have Hx5:=hid hx5;clear hb5 hx5 hk9 hx hx3;go_wp2_with fail
 have hd0:=Hb5.out.c0;have hd1:=Hb5.out.c1;exact bodyPost_ret (v:=.agg #[.string s1,.string s2]) (by simp [results,Tryz.results139,go_sem,hd0,hd1]) rfl ⟨rfl,Hx5.out⟩
theorem zjY (x:Int)(d:Nat)(w:World)(he:Env w)(hx:x.natAbs<1000000000)(hd:0<d)(hd9:d<1000000000) :
  Calls Tryz.prog 74 #[.int .i64 x,.int .i64 (d:Int)] w fun e w'=>e=.returned (Rv (mkRat x d))∧Ext w w':=by
 have hmk:=fun W (hE:Ext w W)=>zjX x d W (he.ext hE) hx hd hd9;unfold Rv at hmk ⊢;generalize I (mkRat x d).num=s1 at *;generalize I ((mkRat x d).den:Int)=s2 at *;have hE0:Ext w (w.alloc (.cells #[.string ⟨#[]⟩,.string ⟨#[]⟩] 65)):=(Ext.refl w).alloc _;have b1:=zic.new 65 w (.string ⟨#[]⟩) (.string ⟨#[]⟩);have Hmk:=hid hmk;have HE0:=hid hE0;have B1:=hid b1;clear hmk hE0 b1 he;go_enter Tryz.func74,Tryz.ntmps74
 go_wp2_with fail
 refine (Hmk.out _ HE0.out).mono ?_;rintro e w3 ⟨rfl,hx⟩;have hk9:K0 65 w w3 w.heap.size:=⟨HE0.out.trans hx,_,_,B1.out.ext hx⟩;have k0:=hk9.res.c0;have k1:=hk9.res.c1;have z0:=hk9.res.fz 0;have z1:=hk9.res.fz 1;obtain ⟨hb5,hx5⟩:=hk9.fin (Nat.le_refl _) (.string s1) (.string s2);have Hb5:=hid hb5;have Hx5:=hid hx5;clear hb5 hx5 hk9 hx;go_wp2_with fail
 have hd0:=Hb5.out.c0;have hd1:=Hb5.out.c1;exact bodyPost_ret (v:=.agg #[.string s1,.string s2]) (by simp [results,Tryz.results74,go_sem,hd0,hd1]) rfl ⟨rfl,Hx5.out⟩
def Sn (r:Rat):Prop:=r.num.natAbs≤30000∧r.den≤1000
theorem Sn.add {a b:Rat}(ha:Sn a)(hb:Sn b):a.num.natAbs * b.den+b.num.natAbs * a.den<1000000000∧a.den * b.den<1000000000∧a.num.natAbs+b.num.natAbs<1000000000∧a.den<1000000000∧b.den<1000000000:=by
 have h1:a.num.natAbs * b.den≤30000 * 1000:=Nat.mul_le_mul ha.1 hb.2;have h2:b.num.natAbs * a.den≤30000 * 1000:=Nat.mul_le_mul hb.1 ha.2;have h3:a.den * b.den≤1000 * 1000:=Nat.mul_le_mul ha.2 hb.2;have h4:=ha.1;have h5:=ha.2;have h6:=hb.1;have h7:=hb.2;omega
theorem zjZ (w:World)(x y:Value)(t:TypeId):∀ j u,[x,y][j]?=some u→(w.alloc (.cells #[x,y] t)).cell? ((⟨w.heap.size,0,none⟩:Addr).add j)=some u:=by
 intro j u hj;have h:=World.alloc_heap_new w (.cells #[x,y] t);rw [show ((⟨w.heap.size,0,none⟩:Addr).add j)=⟨w.heap.size,j,none⟩ by unfold Addr.add;split <;> simp_all]
 unfold World.cell?;dsimp only;rw [h];have hlt:j<2:=(List.getElem?_eq_some_iff.1 hj).1;rcases (by omega:j=0∨j=1) with rfl | rfl
 ·cases hj;rfl
 ·cases hj;rfl
theorem Sn.neg {r:Rat}(h:Sn r):Sn (r * -1):=by
 have e:r * -1=-r:=by grind
 rw [e];unfold Sn;rw [Rat.neg_num,Rat.neg_den,Int.natAbs_neg];exact h
end Go.Proofs.YtebabancfnmfjaaGreatDoor
