/- Walks: schismaref03's little, SignW, Of. Walks: schismaref03's Make and Frac of one digit. -/
import Derived.Test.YtipjmpdndokdlaaGreatDoorPc13
set_option maxRecDepth 100000
set_option maxHeartbeats 800000
namespace Go.Proofs.YtipjmpdndokdlaaGreatDoor
open Go.RowKit Go.Lib Go.Shelf
attribute [local go_sem] Oper.semAt_some
theorem w1_cases {w:World}{v:Value}{z:Int}(h:W1 w v z):(z=0∧∃ a c,v=.agg #[.bool false,.slice a 0 c])∨(z ≠ 0∧∃ b off c,v=.agg #[.bool (decide (z<0)),.slice (some ⟨b,off,none⟩) 1 c]∧w.cell? ⟨b,off,none⟩=some (.int .i64 (z.natAbs:Int))):=by
 obtain ⟨u,rfl,hs⟩:=h
 rw [dg_abs] at hs
 rcases dg_cases hs with ⟨h0,a,c,rfl,_⟩ | ⟨h0,b,off,c,rfl,h1,_,_⟩
 ·left
  obtain rfl:z=0:=by omega
  exact ⟨rfl,a,c,rfl⟩
 ·exact .inr ⟨by omega,b,off,c,rfl,h1⟩
theorem signW_c (v:Value)(z:Int)(w:World)(h:W1 w v z)(hz:0<z) :
  Calls Tryz.prog 168 #[v] w fun e w'=>e=.returned (.int .i64 1)∧Ext w w':=by
 rcases w1_cases h with ⟨h0,_⟩ | ⟨_,b,off,c,rfl,h1⟩
 ·omega
 ·rw [decide_eq_false (by omega)]
  have hE:Ext w (w.alloc (.cells #[.bool false,.slice (some ⟨b,off,none⟩) 1 c] 179)):=(Ext.refl w).alloc _
  have b1:=BoxT.new 179 w (.bool false) (.slice (some ⟨b,off,none⟩) 1 c)
  have q0:=b1.c0;have q1:=b1.c1
  have HE:=hid hE
  clear hE b1 h
  go_enter Tryz.func168,Tryz.ntmps168
  go_wp2
  go_ret
  exact ⟨rfl,HE.out⟩
theorem rOf_c (z:Int)(w:World)(he:Env w)(h0:-1000000000<z)(h1:z<1000000000) :
  Calls Tryz.prog 131 #[.int .i64 z] w fun e w'=>∃ v,e=.returned v∧W1 w' v z∧Ext w w':=by
 have hi:=fun W (hE:Ext w W)=>rInt_c z W (he.ext hE) (by omega) (by omega)
 have ht:=fun W=>to_c z W h0 h1
 have hE0:Ext w (w.alloc (.cells #[.bool false,.slice none 0 0] 179)):=(Ext.refl w).alloc _
 have b1:=BoxT.new 179 w (.bool false) (.slice none 0 0)
 generalize I z=s at *
 have Hi:=hid hi;have Ht:=hid ht;have HE0:=hid hE0;have B1:=hid b1
 clear hi ht hE0 b1 he
 go_enter Tryz.func131,Tryz.ntmps131
 go_wp2_with fail
 refine (Hi.out _ HE0.out).mono ?_
 rintro e w1 ⟨rfl,hx1⟩
 have Hx1:=hid hx1
 clear hx1
 go_wp2_with fail
 refine (Ht.out w1).mono ?_
 rintro e w9 ⟨v9,rfl,hw9,hx9⟩
 obtain ⟨b9,a9,l9,c9,rfl,hw9⟩:=w1_let hw9
 have hx:=Hx1.out.trans hx9
 have hr9:=B1.out.ext hx
 have hk9:K0 179 w w9 w.heap.size:=⟨HE0.out.trans hx,_,_,hr9⟩
 have k0:=hk9.res.c0;have k1:=hk9.res.c1;have z0:=hk9.res.fz 0;have z1:=hk9.res.fz 1
 obtain ⟨hb5,hx5⟩:=hk9.fin (Nat.le_refl _) (.bool b9) (.slice a9 l9 c9)
 have hs5:=w1_past hw9 hr9 (by simp) (by simp) (.bool b9) (.slice a9 l9 c9)
 have Hb5:=hid hb5;have Hx5:=hid hx5;have Hs5:=hid hs5
 clear hb5 hx5 hs5 hk9 hr9 hx9 hw9 hx
 go_wp2_with fail
 have hd0:=Hb5.out.c0
 have hd1:=Hb5.out.c1
 exact bodyPost_ret (v:=.agg #[.bool b9,.slice a9 l9 c9]) (by simp [results,Tryz.results131,go_sem,hd0,hd1]) rfl ⟨_,rfl,Hs5.out,Hx5.out⟩
/-- What little does behind its gcd: a natural quotient with a sign. -/
theorem little_num (z:Int)(d:Nat)(hd:0<d):(mkRat z d).num=sgn1 (decide (z<0)) (z.natAbs / Nat.gcd z.natAbs d)∧(mkRat z d).den=d / Nat.gcd z.natAbs d:=by
 have e1:=mk_num z d (by omega)
 have e2:=mk_den z d (by omega)
 have hg:0<Nat.gcd z.natAbs d:=Nat.gcd_pos_of_pos_right _ hd
 refine ⟨?_,?_⟩
 ·rw [e1]
  unfold sgn1
  rcases (by omega:z<0∨0≤z) with h | h
  ·rw [decide_eq_true h,if_pos rfl]
   have:z=-((z.natAbs:Nat):Int):=by omega
   generalize Nat.gcd z.natAbs d=g at *
   generalize z.natAbs=m at *
   rw [this,Int.neg_tdiv,Int.ofNat_tdiv]
  ·rw [decide_eq_false (by omega),if_neg (by simp)]
   have:z=((z.natAbs:Nat):Int):=by omega
   generalize Nat.gcd z.natAbs d=g at *
   generalize z.natAbs=m at *
   rw [this,Int.ofNat_tdiv]
 ·rw [← Int.ofNat_tdiv] at e2
  exact Int.ofNat_inj.1 e2
theorem little_c (v:Value)(z:Int)(d:Nat)(w:World)(he:Env w)(hv:W1 w v z)(hz:z.natAbs<1000000000)(hd:0<d)(hd9:d<1000000000) :
  Calls Tryz.prog 170 #[v,.int .i64 (d:Int)] w fun e w'=>e=.returned (Rv (mkRat z d))∧Ext w w':=by
 obtain ⟨m,hm⟩:∃ m,m=z.natAbs:=⟨_,rfl⟩
 obtain ⟨g,hg⟩:∃ g,g=Nat.gcd z.natAbs d:=⟨_,rfl⟩
 have hgp:0<g:=by rw [hg];exact Nat.gcd_pos_of_pos_right _ hd
 have hgd:g≤d:=by rw [hg];exact Nat.gcd_le_right _ hd
 obtain ⟨e1,e2⟩:=little_num z d hd
 rw [← hg,← hm] at e1
 rw [← hg] at e2
 unfold Rv
 rw [e1,e2]
 have hq1:m / g≤m:=Nat.div_le_self _ _
 have hq2:d / g≤d:=Nat.div_le_self _ _
 have hi:=fun (z:Int)(h0:-1000000000≤z)(h1:z≤1000000000) W (hE:Ext w W)=>rInt_c z W (he.ext hE) (by omega) (by omega)
 have hnat1:(m:Int).tdiv (g:Int)=((m / g:Nat):Int):=(Int.ofNat_tdiv m g).symm
 have hnat2:(d:Int).tdiv (g:Int)=((d / g:Nat):Int):=(Int.ofNat_tdiv d g).symm
 have hnat3:(m:Int) / (g:Int)=((m / g:Nat):Int):=by simp
 have hnat4:(d:Int) / (g:Int)=((d / g:Nat):Int):=by simp
 rw [hm] at hq1 hnat1 hnat3
 rw [← hm] at hq1 hnat1 hnat3
 have hw:∃ sb u,v=.agg #[.bool sb,u]∧sb=decide (z<0):=by
  obtain ⟨u,e,_⟩:=hv
  exact ⟨_,u,e,rfl⟩
 have hgcd:Nat.gcd m d=g:=by rw [hm,hg]
 rw [← hm] at hz
 generalize hq:m / g=q at *
 generalize hr:d / g=r at *
 have hm2:(m:Int)=(z.natAbs:Int):=by omega
 have Hm:=hid hm2
 clear hm2 hq hr
 rcases w1_cases hv with ⟨h0,a0,c0,rfl⟩ | ⟨h0,b0,o0,c0,rfl,h1⟩
 ·have hm0:m=0:=by omega
  clear hm Hm
  subst hm0
  clear hnat3 hnat4
  have hnat1:(0:Int).tdiv (g:Int)=(q:Int):=hnat1
  have hsq:sgn1 (decide (z<0)) q=(q:Int):=by unfold sgn1;rw [decide_eq_false (by omega)];rfl
  rw [hsq]
  clear hw hsq
  have hE0:Ext w ((w.alloc (.cells #[.bool false,.slice a0 0 c0] 179)).alloc (.cells #[.string ⟨#[]⟩,.string ⟨#[]⟩] 27)):=((Ext.refl w).alloc _).alloc _
  have b1:=(BoxT.new 179 w (.bool false) (.slice a0 0 c0)).ext ((Ext.refl _).alloc (.cells #[.string ⟨#[]⟩,.string ⟨#[]⟩] 27))
  have b2:=BoxT.new 27 (w.alloc (.cells #[.bool false,.slice a0 0 c0] 179)) (.string ⟨#[]⟩) (.string ⟨#[]⟩)
  rw [World.size_alloc] at b2
  skip
  generalize hV:(w.alloc (.cells #[.bool false,.slice a0 0 c0] 179)).alloc (.cells #[.string ⟨#[]⟩,.string ⟨#[]⟩] 27)=V at *
  have p0:=b1.c0;have p1:=b1.c1
  have hk:K0 27 w V (w.heap.size+1):=⟨hE0,_,_,b2⟩
  have Hk:=hid hk;have B1:=hid b1;have Hi:=hid hi
  have Hgcd:=hid hgcd
  clear hE0 b1 b2 hk hv hi hgcd e1 e2 hg he
  go_enter Tryz.func170,Tryz.ntmps170
  go_wp2_with fail
  go_loopw [6,7] (fun v6 v7 wr=>∃ a b:Nat,v6=.int .i64 (a:Int)∧v7=.int .i64 (b:Int)∧Hid (Nat.gcd a b=g)∧a<1000000000∧b<1000000000∧Hid (Ext V wr)) (fun _ v7 _=>(intOf v7).toNat)
  case atStart=>exact ⟨0,d,rfl,rfl,Hgcd,by omega,hd9,hid (Ext.refl _)⟩
  case round =>
   obtain ⟨a,b,rfl,rfl,hab,ha9,hb9,hEr⟩:=hrel
   by_cases h0:0<b
   ·have hbz:(0:Int)<(b:Int):=by omega
    have hb0:¬ (b:Int)=0:=by omega
    have hbn:¬ b=0:=by omega
    have hbb:((b:Int) == 0)=false:=beq_eq_false_iff_ne.2 hb0
    have hmd:(a:Int).tmod (b:Int)=((a % b:Nat):Int):=(Int.ofNat_tmod a b).symm
    have hmd2:(a:Int) % (b:Int)=((a % b:Nat):Int):=by simp
    have hml:=Nat.mod_lt a h0
    have hgs:Hid (Nat.gcd b (a % b)=g):=hid (by rw [← hab.out,Nat.gcd_comm a b,Nat.gcd_rec b a,Nat.gcd_comm])
    obtain ⟨c,hc⟩:∃ c,a % b=c:=⟨_,rfl⟩
    rw [hc] at hmd hmd2 hml hgs
    have Hc:=hid hc
    clear hc
    have hcb:(c:Int)≤1000000000:=by omega
    go_wp2_with fail
    go_quiet (fail)
    go_wp2_with fail
    go_roundw
    case rel=>exact ⟨b,c,by first | rfl | go_num,by first | rfl | go_num,hgs,hb9,by omega,hid (hEr.out.drewN _)⟩
    case measure=>simp [intOf];omega
   ·obtain rfl:b=0:=by omega
    have hag:a=g:=by have:=hab.out;rwa [Nat.gcd_zero_right] at this
    subst hag
    have hg0:¬ (a:Int)=0:=by omega
    have hgn:¬ a=0:=by omega
    have hgb:((a:Int) == 0)=false:=beq_eq_false_iff_ne.2 hg0
    have hkr:=Hk.out.ext hEr.out
    have p0:=hEr.out.cell p0
    have hqb:(q:Int)≤1000000000:=by omega
    have hrb:(r:Int)≤1000000000:=by omega
    have hi1:=fun W (hx:Ext wr W)=>Hi.out (q:Int) (by omega) (by omega) W (hkr.x.trans hx)
    have hi2:=fun W (hx:Ext wr W)=>Hi.out (r:Int) (by omega) (by omega) W (hkr.x.trans hx)
    generalize hs1:I ((q:Int))=s1 at *
    generalize hs2:I (r:Int)=s2 at *
    have Hs1:=hid hs1;have Hs2:=hid hs2
    clear hs1 hs2
    have Hkr:=hid hkr;have Hi1:=hid hi1;have Hi2:=hid hi2
    clear hkr hi1 hi2 hab
    go_wp2_with fail
    go_quiet (fail)
    have p0:=((Ext.refl wr).drewN nq).cell p0
    go_wp2_with fail
    refine (Hi1.out _ ((Ext.refl wr).drewN _)).mono ?_
    rintro e w8 ⟨rfl,hx8⟩
    have Hx8:=hid (((Ext.refl wr).drewN nq).trans hx8)
    clear hx8 p0
    go_wp2_with fail
    refine (Hi2.out w8 Hx8.out).mono ?_
    rintro e w9 ⟨rfl,hx9⟩
    have hk9:=Hkr.out.ext (Hx8.out.trans hx9)
    have k0:=hk9.res.c0;have k1:=hk9.res.c1;have z0:=hk9.res.fz 0;have z1:=hk9.res.fz 1
    obtain ⟨hb5,hx5⟩:=hk9.fin (by omega) (.string s1) (.string s2)
    have Hb5:=hid hb5;have Hx5:=hid hx5
    clear hb5 hx5 hk9 hx9
    go_wp2_with fail
    have hd0:=Hb5.out.c0
    have hd1:=Hb5.out.c1
    exact bodyPost_ret (v:=.agg #[.string s1,.string s2]) (by simp [results,Tryz.results170,go_sem,hd0,hd1]) rfl ⟨by rw [Hs1.out,Hs2.out],Hx5.out⟩
 ·rw [← hm] at h1
  clear hm
  rcases (by omega:z<0∨¬ z<0) with hs | hs
  ·have hsq:sgn1 (decide (z<0)) q=-(q:Int):=by unfold sgn1;rw [decide_eq_true hs];rfl
   rw [hsq]
   rw [decide_eq_true hs] at *
   clear hw hsq hs
   have hE0:Ext w ((w.alloc (.cells #[.bool true,.slice (some ⟨b0,o0,none⟩) 1 c0] 179)).alloc (.cells #[.string ⟨#[]⟩,.string ⟨#[]⟩] 27)):=((Ext.refl w).alloc _).alloc _
   have b1:=(BoxT.new 179 w (.bool true) (.slice (some ⟨b0,o0,none⟩) 1 c0)).ext ((Ext.refl _).alloc (.cells #[.string ⟨#[]⟩,.string ⟨#[]⟩] 27))
   have b2:=BoxT.new 27 (w.alloc (.cells #[.bool true,.slice (some ⟨b0,o0,none⟩) 1 c0] 179)) (.string ⟨#[]⟩) (.string ⟨#[]⟩)
   rw [World.size_alloc] at b2
   have hl1:=hE0.cell h1
   generalize hV:(w.alloc (.cells #[.bool true,.slice (some ⟨b0,o0,none⟩) 1 c0] 179)).alloc (.cells #[.string ⟨#[]⟩,.string ⟨#[]⟩] 27)=V at *
   have p0:=b1.c0;have p1:=b1.c1
   have hk:K0 27 w V (w.heap.size+1):=⟨hE0,_,_,b2⟩
   have Hk:=hid hk;have B1:=hid b1;have Hi:=hid hi
   have Hgcd:=hid hgcd
   clear hE0 b1 b2 hk hv hi hgcd e1 e2 hg he
   go_enter Tryz.func170,Tryz.ntmps170
   go_wp2_with fail
   go_loopw [6,7] (fun v6 v7 wr=>∃ a b:Nat,v6=.int .i64 (a:Int)∧v7=.int .i64 (b:Int)∧Hid (Nat.gcd a b=g)∧a<1000000000∧b<1000000000∧Hid (Ext V wr)) (fun _ v7 _=>(intOf v7).toNat)
   case atStart=>exact ⟨m,d,rfl,rfl,Hgcd,by omega,hd9,hid (Ext.refl _)⟩
   case round =>
    obtain ⟨a,b,rfl,rfl,hab,ha9,hb9,hEr⟩:=hrel
    by_cases h0:0<b
    ·have hbz:(0:Int)<(b:Int):=by omega
     have hb0:¬ (b:Int)=0:=by omega
     have hbn:¬ b=0:=by omega
     have hbb:((b:Int) == 0)=false:=beq_eq_false_iff_ne.2 hb0
     have hmd:(a:Int).tmod (b:Int)=((a % b:Nat):Int):=(Int.ofNat_tmod a b).symm
     have hmd2:(a:Int) % (b:Int)=((a % b:Nat):Int):=by simp
     have hml:=Nat.mod_lt a h0
     have hgs:Hid (Nat.gcd b (a % b)=g):=hid (by rw [← hab.out,Nat.gcd_comm a b,Nat.gcd_rec b a,Nat.gcd_comm])
     obtain ⟨c,hc⟩:∃ c,a % b=c:=⟨_,rfl⟩
     rw [hc] at hmd hmd2 hml hgs
     have Hc:=hid hc
     clear hc
     have hcb:(c:Int)≤1000000000:=by omega
     go_wp2_with fail
     go_quiet (fail)
     go_wp2_with fail
     go_roundw
     case rel=>exact ⟨b,c,by first | rfl | go_num,by first | rfl | go_num,hgs,hb9,by omega,hid (hEr.out.drewN _)⟩
     case measure=>simp [intOf];omega
    ·obtain rfl:b=0:=by omega
     have hag:a=g:=by have:=hab.out;rwa [Nat.gcd_zero_right] at this
     subst hag
     have hg0:¬ (a:Int)=0:=by omega
     have hgn:¬ a=0:=by omega
     have hgb:((a:Int) == 0)=false:=beq_eq_false_iff_ne.2 hg0
     have hkr:=Hk.out.ext hEr.out
     have p0:=hEr.out.cell p0
     have hqb:(q:Int)≤1000000000:=by omega
     have hrb:(r:Int)≤1000000000:=by omega
     have hi1:=fun W (hx:Ext wr W)=>Hi.out (-(q:Int)) (by omega) (by omega) W (hkr.x.trans hx)
     have hi2:=fun W (hx:Ext wr W)=>Hi.out (r:Int) (by omega) (by omega) W (hkr.x.trans hx)
     generalize hs1:I (-(q:Int))=s1 at *
     generalize hs2:I (r:Int)=s2 at *
     have Hs1:=hid hs1;have Hs2:=hid hs2
     clear hs1 hs2
     have Hkr:=hid hkr;have Hi1:=hid hi1;have Hi2:=hid hi2
     clear hkr hi1 hi2 hab
     go_wp2_with fail
     go_quiet (fail)
     have p0:=((Ext.refl wr).drewN nq).cell p0
     go_wp2_with fail
     refine (Hi1.out _ ((Ext.refl wr).drewN _)).mono ?_
     rintro e w8 ⟨rfl,hx8⟩
     have Hx8:=hid (((Ext.refl wr).drewN nq).trans hx8)
     clear hx8 p0
     go_wp2_with fail
     refine (Hi2.out w8 Hx8.out).mono ?_
     rintro e w9 ⟨rfl,hx9⟩
     have hk9:=Hkr.out.ext (Hx8.out.trans hx9)
     have k0:=hk9.res.c0;have k1:=hk9.res.c1;have z0:=hk9.res.fz 0;have z1:=hk9.res.fz 1
     obtain ⟨hb5,hx5⟩:=hk9.fin (by omega) (.string s1) (.string s2)
     have Hb5:=hid hb5;have Hx5:=hid hx5
     clear hb5 hx5 hk9 hx9
     go_wp2_with fail
     have hd0:=Hb5.out.c0
     have hd1:=Hb5.out.c1
     exact bodyPost_ret (v:=.agg #[.string s1,.string s2]) (by simp [results,Tryz.results170,go_sem,hd0,hd1]) rfl ⟨by rw [Hs1.out,Hs2.out],Hx5.out⟩
  ·have hsq:sgn1 (decide (z<0)) q=(q:Int):=by unfold sgn1;rw [decide_eq_false hs];rfl
   rw [hsq]
   rw [decide_eq_false hs] at *
   clear hw hsq hs
   have hE0:Ext w ((w.alloc (.cells #[.bool false,.slice (some ⟨b0,o0,none⟩) 1 c0] 179)).alloc (.cells #[.string ⟨#[]⟩,.string ⟨#[]⟩] 27)):=((Ext.refl w).alloc _).alloc _
   have b1:=(BoxT.new 179 w (.bool false) (.slice (some ⟨b0,o0,none⟩) 1 c0)).ext ((Ext.refl _).alloc (.cells #[.string ⟨#[]⟩,.string ⟨#[]⟩] 27))
   have b2:=BoxT.new 27 (w.alloc (.cells #[.bool false,.slice (some ⟨b0,o0,none⟩) 1 c0] 179)) (.string ⟨#[]⟩) (.string ⟨#[]⟩)
   rw [World.size_alloc] at b2
   have hl1:=hE0.cell h1
   generalize hV:(w.alloc (.cells #[.bool false,.slice (some ⟨b0,o0,none⟩) 1 c0] 179)).alloc (.cells #[.string ⟨#[]⟩,.string ⟨#[]⟩] 27)=V at *
   have p0:=b1.c0;have p1:=b1.c1
   have hk:K0 27 w V (w.heap.size+1):=⟨hE0,_,_,b2⟩
   have Hk:=hid hk;have B1:=hid b1;have Hi:=hid hi
   have Hgcd:=hid hgcd
   clear hE0 b1 b2 hk hv hi hgcd e1 e2 hg he
   go_enter Tryz.func170,Tryz.ntmps170
   go_wp2_with fail
   go_loopw [6,7] (fun v6 v7 wr=>∃ a b:Nat,v6=.int .i64 (a:Int)∧v7=.int .i64 (b:Int)∧Hid (Nat.gcd a b=g)∧a<1000000000∧b<1000000000∧Hid (Ext V wr)) (fun _ v7 _=>(intOf v7).toNat)
   case atStart=>exact ⟨m,d,rfl,rfl,Hgcd,by omega,hd9,hid (Ext.refl _)⟩
   case round =>
    obtain ⟨a,b,rfl,rfl,hab,ha9,hb9,hEr⟩:=hrel
    by_cases h0:0<b
    ·have hbz:(0:Int)<(b:Int):=by omega
     have hb0:¬ (b:Int)=0:=by omega
     have hbn:¬ b=0:=by omega
     have hbb:((b:Int) == 0)=false:=beq_eq_false_iff_ne.2 hb0
     have hmd:(a:Int).tmod (b:Int)=((a % b:Nat):Int):=(Int.ofNat_tmod a b).symm
     have hmd2:(a:Int) % (b:Int)=((a % b:Nat):Int):=by simp
     have hml:=Nat.mod_lt a h0
     have hgs:Hid (Nat.gcd b (a % b)=g):=hid (by rw [← hab.out,Nat.gcd_comm a b,Nat.gcd_rec b a,Nat.gcd_comm])
     obtain ⟨c,hc⟩:∃ c,a % b=c:=⟨_,rfl⟩
     rw [hc] at hmd hmd2 hml hgs
     have Hc:=hid hc
     clear hc
     have hcb:(c:Int)≤1000000000:=by omega
     go_wp2_with fail
     go_quiet (fail)
     go_wp2_with fail
     go_roundw
     case rel=>exact ⟨b,c,by first | rfl | go_num,by first | rfl | go_num,hgs,hb9,by omega,hid (hEr.out.drewN _)⟩
     case measure=>simp [intOf];omega
    ·obtain rfl:b=0:=by omega
     have hag:a=g:=by have:=hab.out;rwa [Nat.gcd_zero_right] at this
     subst hag
     have hg0:¬ (a:Int)=0:=by omega
     have hgn:¬ a=0:=by omega
     have hgb:((a:Int) == 0)=false:=beq_eq_false_iff_ne.2 hg0
     have hkr:=Hk.out.ext hEr.out
     have p0:=hEr.out.cell p0
     have hqb:(q:Int)≤1000000000:=by omega
     have hrb:(r:Int)≤1000000000:=by omega
     have hi1:=fun W (hx:Ext wr W)=>Hi.out (q:Int) (by omega) (by omega) W (hkr.x.trans hx)
     have hi2:=fun W (hx:Ext wr W)=>Hi.out (r:Int) (by omega) (by omega) W (hkr.x.trans hx)
     generalize hs1:I ((q:Int))=s1 at *
     generalize hs2:I (r:Int)=s2 at *
     have Hs1:=hid hs1;have Hs2:=hid hs2
     clear hs1 hs2
     have Hkr:=hid hkr;have Hi1:=hid hi1;have Hi2:=hid hi2
     clear hkr hi1 hi2 hab
     go_wp2_with fail
     go_quiet (fail)
     have p0:=((Ext.refl wr).drewN nq).cell p0
     go_wp2_with fail
     refine (Hi1.out _ ((Ext.refl wr).drewN _)).mono ?_
     rintro e w8 ⟨rfl,hx8⟩
     have Hx8:=hid (((Ext.refl wr).drewN nq).trans hx8)
     clear hx8 p0
     go_wp2_with fail
     refine (Hi2.out w8 Hx8.out).mono ?_
     rintro e w9 ⟨rfl,hx9⟩
     have hk9:=Hkr.out.ext (Hx8.out.trans hx9)
     have k0:=hk9.res.c0;have k1:=hk9.res.c1;have z0:=hk9.res.fz 0;have z1:=hk9.res.fz 1
     obtain ⟨hb5,hx5⟩:=hk9.fin (by omega) (.string s1) (.string s2)
     have Hb5:=hid hb5;have Hx5:=hid hx5
     clear hb5 hx5 hk9 hx9
     go_wp2_with fail
     have hd0:=Hb5.out.c0
     have hd1:=Hb5.out.c1
     exact bodyPost_ret (v:=.agg #[.string s1,.string s2]) (by simp [results,Tryz.results170,go_sem,hd0,hd1]) rfl ⟨by rw [Hs1.out,Hs2.out],Hx5.out⟩
end Go.Proofs.YtipjmpdndokdlaaGreatDoor

namespace Go.Proofs.YtipjmpdndokdlaaGreatDoor
open Go.RowKit Go.Lib Go.Shelf
attribute [local go_sem] Oper.semAt_some
theorem make_c (va vb:Value)(x:Int)(d:Nat)(w:World)(he:Env w)(ha:W1 w va x)(hb:W1 w vb (d:Int))(hx:x.natAbs<1000000000)(hd:0<d)(hd9:d<1000000000) :
  Calls Tryz.prog 128 #[va,vb] w fun e w'=>e=.returned (Rv (mkRat x d))∧Ext w w':=by
 have hsg:=fun W (hE:Ext w W)=>signW_c vb (d:Int) W (hb.ext hE) (by omega)
 have hli:=fun W (hE:Ext w W)=>little_c va x d W (he.ext hE) (ha.ext hE) hx hd hd9
 unfold Rv at hli ⊢
 generalize I (mkRat x d).num=s1 at *
 generalize I ((mkRat x d).den:Int)=s2 at *
 obtain ⟨bx,aa,la,ca,rfl,hla⟩:∃ (bx:Bool)(aa:Option Addr)(la ca:Nat),va=.agg #[.bool bx,.slice aa la ca]∧la≤1:=by
  rcases w1_cases ha with ⟨_,a,c,e⟩ | ⟨_,b,o,c,e,_⟩
  ·exact ⟨_,a,0,c,e,by omega⟩
  ·exact ⟨_,_,1,c,e,by omega⟩
 rcases w1_cases hb with ⟨h0,_⟩ | ⟨_,b0,o0,c0,rfl,h1⟩
 ·omega
 ·rw [decide_eq_false (by omega)] at *
  rw [Int.natAbs_natCast] at h1
  have hk2:=k2_new 179 179 27 w (.bool bx) (.slice aa la ca) (.bool false) (.slice (some ⟨b0,o0,none⟩) 1 c0) (.string ⟨#[]⟩) (.string ⟨#[]⟩)
  generalize hV:((w.alloc (.cells #[.bool bx,.slice aa la ca] 179)).alloc (.cells #[.bool false,.slice (some ⟨b0,o0,none⟩) 1 c0] 179)).alloc (.cells #[.string ⟨#[]⟩,.string ⟨#[]⟩] 27)=V at *
  obtain ⟨hk,_⟩:=hk2
  have p0:=hk.a.c0;have p1:=hk.a.c1;have q0:=hk.b.c0;have q1:=hk.b.c1
  have hlai:(la:Int)≤1:=by omega
  have Hk:=hid hk;have Hsg:=hid hsg;have Hli:=hid hli;have H1:=hid h1
  clear hk hsg hli h1 ha hb he hla
  go_enter Tryz.func128,Tryz.ntmps128
  go_wp2_with fail
  refine (Hsg.out V Hk.out.x).mono ?_
  rintro e w1 ⟨rfl,hx1⟩
  have hk1:=Hk.out.ext hx1
  have p0:=hk1.a.c0;have p1:=hk1.a.c1;have q0:=hk1.b.c0;have q1:=hk1.b.c1
  have h1:=hk1.x.cell H1.out
  have Hk1:=hid hk1
  clear hk1 hx1
  go_wp2_with fail
  go_region_held3 (fun w'=>w'.cell? ⟨b0,o0,none⟩=some (.int .i64 (d:Int))∧K2 179 179 27 w w' w.heap.size (.bool bx) (.slice aa la ca) (w.heap.size+1) (.bool false) (.slice (some ⟨b0,o0,none⟩) 1 c0) (w.heap.size+1+1)∧w'.cell? ⟨w.heap.size,0,none⟩=some (.bool bx)∧w'.cell? ⟨w.heap.size,1,none⟩=some (.slice aa la ca)∧w'.cell? ⟨w.heap.size+1,0,none⟩=some (.bool false)∧w'.cell? ⟨w.heap.size+1,1,none⟩=some (.slice (some ⟨b0,o0,none⟩) 1 c0)∧w'.cell? ⟨w.heap.size+1+1,0,none⟩=some (valAt w' (w.heap.size+1+1) 0)∧w'.cell? ⟨w.heap.size+1+1,1,none⟩=some (valAt w' (w.heap.size+1+1) 1)∧w'.frozen? ⟨w.heap.size+1+1,0,none⟩=false∧w'.frozen? ⟨w.heap.size+1+1,1,none⟩=false)
   (first | exact ⟨HkA.out.x.cell H1.out,HkA.out.all⟩ | exact ⟨(Hk1.out.ext ((Ext.refl w1).drew)).x.cell H1.out,(Hk1.out.ext ((Ext.refl w1).drew)).all⟩ | exact ⟨(HkA.out.put (by omega) (by omega) (by omega) (.string s1) (.string s2)).x.cell H1.out,(HkA.out.put (by omega) (by omega) (by omega) (.string s1) (.string s2)).all⟩)
   (first | (go_at_call 170;refine (Hli.out _ Hk1.out.x.drew).mono ?_;rintro e9 VA ⟨rfl,hxa⟩;have HkA:=hid (Hk1.out.ext (((Ext.refl w1).drew).trans hxa));clear hxa))
  all_goals
   obtain ⟨hb,hfx⟩:=HkA.out.fin (by omega) (.string s1) (.string s2)
   have Hfx:=hid hfx
   clear hfx
   generalize (VA.setCell ⟨w.heap.size+1+1,0,none⟩ (.string s1)).setCell ⟨w.heap.size+1+1,1,none⟩ (.string s2)=W5 at *
   have hd0:=hb.c0
   have hd1:=hb.c1
   go_wp2_with fail
   exact bodyPost_ret (v:=.agg #[.string s1,.string s2]) (by simp [results,Tryz.results128,go_sem,hd0,hd1]) rfl ⟨rfl,Hfx.out⟩
theorem frac_c (x:Int)(d:Nat)(w:World)(he:Env w)(hx:x.natAbs<1000000000)(hd:0<d)(hd9:d<1000000000) :
  Calls Tryz.prog 90 #[.int .i64 x,.int .i64 (d:Int)] w fun e w'=>e=.returned (Rv (mkRat x d))∧Ext w w':=by
 have ho1:=fun W (hE:Ext w W)=>rOf_c x W (he.ext hE) (by omega) (by omega)
 have ho2:=fun W (hE:Ext w W)=>rOf_c (d:Int) W (he.ext hE) (by omega) (by omega)
 have hmk:=fun W va vb (hE:Ext w W)(ha:W1 W va x)(hb:W1 W vb (d:Int))=>make_c va vb x d W (he.ext hE) ha hb hx hd hd9
 unfold Rv at hmk ⊢
 generalize I (mkRat x d).num=s1 at *
 generalize I ((mkRat x d).den:Int)=s2 at *
 have hE0:Ext w (w.alloc (.cells #[.string ⟨#[]⟩,.string ⟨#[]⟩] 27)):=(Ext.refl w).alloc _
 have b1:=BoxT.new 27 w (.string ⟨#[]⟩) (.string ⟨#[]⟩)
 have Ho1:=hid ho1;have Ho2:=hid ho2;have Hmk:=hid hmk;have HE0:=hid hE0;have B1:=hid b1
 clear ho1 ho2 hmk hE0 b1 he
 go_enter Tryz.func90,Tryz.ntmps90
 go_wp2_with fail
 refine (Ho1.out _ HE0.out).mono ?_
 rintro e w1 ⟨v1,rfl,hw1,hx1⟩
 obtain ⟨b7,a7,l7,c7,rfl,hw1⟩:=w1_let hw1
 have Hx1:=hid hx1;have Hw1:=hid hw1
 clear hx1 hw1
 go_wp2_with fail
 refine (Ho2.out w1 (HE0.out.trans Hx1.out)).mono ?_
 rintro e w2 ⟨v2,rfl,hw2,hx2⟩
 obtain ⟨b8,a8,l8,c8,rfl,hw2⟩:=w1_let hw2
 have hm2:=Hmk.out w2 _ _ ((HE0.out.trans Hx1.out).trans hx2) (Hw1.out.ext hx2) hw2
 have Hx2:=hid (Hx1.out.trans hx2);have Hm2:=hid hm2
 clear hx2 hw2 hm2
 go_wp2_with fail
 refine Hm2.out.mono ?_
 rintro e w3 ⟨rfl,hx3⟩
 have hx:=Hx2.out.trans hx3
 have hk9:K0 27 w w3 w.heap.size:=⟨HE0.out.trans hx,_,_,B1.out.ext hx⟩
 have k0:=hk9.res.c0;have k1:=hk9.res.c1;have z0:=hk9.res.fz 0;have z1:=hk9.res.fz 1
 obtain ⟨hb5,hx5⟩:=hk9.fin (Nat.le_refl _) (.string s1) (.string s2)
 have Hb5:=hid hb5;have Hx5:=hid hx5
 clear hb5 hx5 hk9 hx hx3
 go_wp2_with fail
 have hd0:=Hb5.out.c0
 have hd1:=Hb5.out.c1
 exact bodyPost_ret (v:=.agg #[.string s1,.string s2]) (by simp [results,Tryz.results90,go_sem,hd0,hd1]) rfl ⟨rfl,Hx5.out⟩
theorem of_c (x:Int)(d:Nat)(w:World)(he:Env w)(hx:x.natAbs<1000000000)(hd:0<d)(hd9:d<1000000000) :
  Calls Tryz.prog 50 #[.int .i64 x,.int .i64 (d:Int)] w fun e w'=>e=.returned (Rv (mkRat x d))∧Ext w w':=by
 have hmk:=fun W (hE:Ext w W)=>frac_c x d W (he.ext hE) hx hd hd9
 unfold Rv at hmk ⊢
 generalize I (mkRat x d).num=s1 at *
 generalize I ((mkRat x d).den:Int)=s2 at *
 have hE0:Ext w (w.alloc (.cells #[.string ⟨#[]⟩,.string ⟨#[]⟩] 27)):=(Ext.refl w).alloc _
 have b1:=BoxT.new 27 w (.string ⟨#[]⟩) (.string ⟨#[]⟩)
 have Hmk:=hid hmk;have HE0:=hid hE0;have B1:=hid b1
 clear hmk hE0 b1 he
 go_enter Tryz.func50,Tryz.ntmps50
 go_wp2_with fail
 refine (Hmk.out _ HE0.out).mono ?_
 rintro e w3 ⟨rfl,hx⟩
 have hk9:K0 27 w w3 w.heap.size:=⟨HE0.out.trans hx,_,_,B1.out.ext hx⟩
 have k0:=hk9.res.c0;have k1:=hk9.res.c1;have z0:=hk9.res.fz 0;have z1:=hk9.res.fz 1
 obtain ⟨hb5,hx5⟩:=hk9.fin (Nat.le_refl _) (.string s1) (.string s2)
 have Hb5:=hid hb5;have Hx5:=hid hx5
 clear hb5 hx5 hk9 hx
 go_wp2_with fail
 have hd0:=Hb5.out.c0
 have hd1:=Hb5.out.c1
 exact bodyPost_ret (v:=.agg #[.string s1,.string s2]) (by simp [results,Tryz.results50,go_sem,hd0,hd1]) rfl ⟨rfl,Hx5.out⟩
end Go.Proofs.YtipjmpdndokdlaaGreatDoor
