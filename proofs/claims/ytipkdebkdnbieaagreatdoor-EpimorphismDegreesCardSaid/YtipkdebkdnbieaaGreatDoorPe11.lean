/- Walk: size.fast at 2, 3 and 5. Walks: a size's terms as an iterator; near: whole numbers between which a size lies. -/
import Derived.Test.YtipkdebkdnbieaaGreatDoorPe02
import Derived.Test.YtipkdebkdnbieaaGreatDoorPe08
import Derived.Test.YtipkdebkdnbieaaGreatDoorPe10
import Derived.RangeFuncNested
import Derived.RangeFuncBound
import Derived.RangeFuncCalls
import Derived.RangeFuncLeaves
import Derived.RangeFuncBox
import Derived.RangeFuncWrites
import Derived.Shelf.Abstract
import Derived.OwnWalkIn
import Derived.TacticsInMore
import Derived.LoopNIn
import Derived.LoopIn
import Derived.BigRegionIn
set_option maxRecDepth 100000
set_option maxHeartbeats 4000000
namespace Go.Proofs.YtipkdebkdnbieaaGreatDoor
section
open Go.RowKit Go.Lib
theorem zfP (x y:Nat)(hx:x<18446744073709551616)(hy:y<18446744073709551616)(w:World) :
  Calls Tryz.prog 157 #[.int .u64 x,.int .u64 y] w fun e w'=>e=.returned (.tuple #[.int .u64 ((x * y / 18446744073709551616:Nat):Int),.int .u64 ((x * y % 18446744073709551616:Nat):Int)])∧w=w' :=
 (Any.bits_Mul64 Tryz.lMul64 x y hx hy w).mono fun _ _ ⟨h1,h2⟩=>⟨h1,h2.symm⟩
theorem zfQ (x:Nat)(h:x≤1000)(w:World) :
  Calls Tryz.prog 100 #[.int .u64 x] w fun e w'=>e=.returned (.int .i64 (Lib.bitLen x))∧w=w' :=
 (Any.bits_Len Tryz.lLen (x:Int) w (by omega) (by omega)).mono fun _ _ ⟨h1,h2⟩=>⟨by rw [h1,Int.toNat_natCast],h2.symm⟩
def zfR (h l:Int):Int:=bits BinOp.or .u64 (IntKind.u64.wrap (h * 4)) (l / 4611686018427387904)
def sqF (a:Nat):Int:=zfR ((a * a / 18446744073709551616:Nat):Int) ((a * a % 18446744073709551616:Nat):Int)
def upF (b:Nat):Int:=IntKind.u64.wrap (sqF b+1)
def geF (z:Int):Bool:=decide ((9223372036854775808:Int)≤z)
def rdF (s:Nat × Nat × Nat):Nat × Nat × Nat :=
 if geF (sqF s.1) then ((sqF s.1 / 2).toNat,(IntKind.u64.wrap (upF s.2.1 / 2+1)).toNat,s.2.2 * 2+1) else ((sqF s.1).toNat,(upF s.2.1).toNat,s.2.2 * 2)
def stF (s:Nat × Nat × Nat):Nat→Nat × Nat × Nat
 | 0=>s
 | k+1=>rdF (stF s k)
def okF (s:Nat × Nat × Nat):Bool :=
 decide (s.1<18446744073709551616) && decide (s.2.1<18446744073709551616) && decide (s.2.2≤1000000000) && decide (0≤sqF s.1) && decide (0≤upF s.2.1) && (geF (sqF s.1) || !geF (upF s.2.1)) && decide (0≤IntKind.u64.wrap (upF s.2.1 / 2+1))
def zfS (s:Nat × Nat × Nat)(n:Nat):Bool:=(List.range n).all fun k=>okF (stF s k)
def s2 : Nat × Nat × Nat:=(4611686018427387904,4611686018427387904,1)
def s3 : Nat × Nat × Nat:=(6917529027641081856,6917529027641081856,1)
def s5 : Nat × Nat × Nat:=(5764607523034234880,5764607523034234880,2)
theorem ok2 : zfS s2 26=true∧(stF s2 26).2.2=67108864:=by decide +kernel
theorem ok3 : zfS s3 26=true∧(stF s3 26).2.2=106365032:=by decide +kernel
theorem ok5 : zfS s5 26=true∧(stF s5 26).2.2=155821956:=by decide +kernel
theorem zfT {s:Nat × Nat × Nat}{n k:Nat}(h:zfS s n=true)(hk:k<n):okF (stF s k)=true:=List.all_eq_true.1 h k (List.mem_range.2 hk)
theorem zfU {s:Nat × Nat × Nat}(h:okF s=true):s.1<18446744073709551616∧s.2.1<18446744073709551616∧s.2.2≤1000000000∧0≤sqF s.1∧0≤upF s.2.1∧0≤IntKind.u64.wrap (upF s.2.1 / 2+1)∧((geF (sqF s.1)=true∧rdF s=((sqF s.1 / 2).toNat,(IntKind.u64.wrap (upF s.2.1 / 2+1)).toNat,s.2.2 * 2+1))∨(geF (sqF s.1)=false∧geF (upF s.2.1)=false∧rdF s=((sqF s.1).toNat,(upF s.2.1).toNat,s.2.2 * 2))):=by
 unfold okF at h;simp only [Bool.and_eq_true,decide_eq_true_eq] at h;obtain ⟨⟨⟨⟨⟨⟨h1,h2⟩,h3⟩,h4⟩,h5⟩,h6⟩,h7⟩:=h;refine ⟨h1,h2,h3,h4,h5,h7,?_⟩;unfold rdF
 cases hg:geF (sqF s.1) with
 | true=>left;exact ⟨rfl,by simp⟩
 | false =>
  right
  rw [hg] at h6
  refine ⟨rfl,by simpa using h6,by simp⟩
theorem zfV {z:Int}(h:0≤z):Value.int .u64 z=.int .u64 ((z.toNat:Nat):Int):=by rw [Int.toNat_of_nonneg h]
theorem zfW (w:World) :
  Calls Tryz.prog 221 #[.int .i64 2] w fun e w'=>e=.returned (.tuple #[.int .i64 67108864,.bool true])∧w=w':=by
 have hb:Lib.bitLen 2=2:=by decide
 have hl:=zfQ 2 (by omega) w;rw [hb] at hl;have hl2:Calls Tryz.prog 100 #[.int .u64 2] w fun e w'=>e=.returned (.int .i64 2)∧w=w':=hl;have hst:s2=stF s2 0:=rfl;have hal:=ok2;obtain ⟨S,hS⟩:∃ S:Nat→Nat × Nat × Nat,S=stF s2:=⟨_,rfl⟩;have hok:∀ k,k<26→okF (S k)=true:=fun k hk=>by rw [hS];exact zfT hal.1 hk
 have hnx:∀ k,S (k+1)=rdF (S k):=fun k=>by rw [hS];rfl
 have h0:Value.int .u64 4611686018427387904=.int .u64 (((S 0).1:Nat):Int)∧Value.int .u64 4611686018427387904=.int .u64 (((S 0).2.1:Nat):Int)∧Value.int .i64 1=.int .i64 (((S 0).2.2:Nat):Int):=by rw [hS];exact ⟨rfl,rfl,rfl⟩
 have hend:(S 26).2.2=67108864:=by rw [hS];exact hal.2
 have Hl2:=hid hl2;have Hok:=hid hok;have Hnx:=hid hnx;have H0:=hid h0;have Hend:=hid hend;clear hl2 hok hnx h0 hend;clear hl hb hst hal hS;go_enter Tryz.func221,Tryz.ntmps221
 go_wp2_with fail
 refine Hl2.out.mono ?_;rintro e W ⟨rfl,rfl⟩;go_wp2_with fail
 go_loop [5,6,7,8,9,21] (fun v5 v6 v7 v8 v9 v21=>∃ k:Nat,v21=.int .i64 k∧k≤26∧v5=.int .u64 (((S k).1:Nat):Int)∧v6=.int .u64 (((S k).2.1:Nat):Int)∧v7=.int .i64 (((S k).2.2:Nat):Int)) (fun _ _ _ _ _ v21=>26 - (zal v21).toNat)
 case atStart=>exact ⟨0,rfl,by omega,H0.out.1,H0.out.2.1,H0.out.2.2⟩
 case round =>
  obtain ⟨k,rfl,hk,rfl,rfl,rfl⟩:=hrel;by_cases hk26:k<26
  ·obtain ⟨ha,hb,hc,p1,p2,p3,hcs⟩:=zfU (Hok.out k hk26);have hn:=Hnx.out k;have hm1:=zfP (S k).1 (S k).1 ha ha w;have hm2:=zfP (S k).2.1 (S k).2.1 hb hb w;have e1:bits BinOp.or .u64 (IntKind.u64.wrap (((((S k).1 * (S k).1 / 18446744073709551616:Nat):Int)) * 4)) ((((S k).1 * (S k).1 % 18446744073709551616:Nat):Int) / 4611686018427387904)=sqF (S k).1:=rfl;have e2:bits BinOp.or .u64 (IntKind.u64.wrap (((((S k).2.1 * (S k).2.1 / 18446744073709551616:Nat):Int)) * 4)) ((((S k).2.1 * (S k).2.1 % 18446744073709551616:Nat):Int) / 4611686018427387904)=sqF (S k).2.1:=rfl;have e3:IntKind.u64.wrap (sqF (S k).2.1+1)=upF (S k).2.1:=rfl;generalize (S k).1 * (S k).1 / 18446744073709551616=ah at *;generalize (S k).1 * (S k).1 % 18446744073709551616=al at *;generalize (S k).2.1 * (S k).2.1 / 18446744073709551616=bh at *;generalize (S k).2.1 * (S k).2.1 % 18446744073709551616=bl at *;generalize sqF (S k).1=m1 at *;generalize sqF (S k).2.1=m2 at *;generalize upF (S k).2.1=m3 at *;generalize rdF (S k)=sn at *;generalize (S k).1=a at *;generalize (S k).2.1=b at *;generalize (S k).2.2=c at *;clear ha hb;rcases hcs with ⟨hg,hr⟩ | ⟨hg,hg2,hr⟩
   ·have t1:decide ((9223372036854775808:Int)≤m1)=true:=hg;have e4:∃ m4,IntKind.u64.wrap (m3 / 2+1)=m4:=⟨_,rfl⟩;obtain ⟨m4,e4⟩:=e4;rw [e4] at hr p3;have Hm1:=hid hm1;have Hm2:=hid hm2;have Hr:=hid hr;have Hn:=hid hn;have P1:=hid p1;have P2:=hid p2;have P3:=hid p3;clear hm1 hm2 hr hn p1 p2 p3;clear hg;go_wp2_with fail
    refine Hm1.out.mono ?_;rintro e W ⟨rfl,rfl⟩;go_wp2_with fail
    refine Hm2.out.mono ?_;rintro e W ⟨rfl,rfl⟩;go_wp2_with fail
    go_round
    case rel =>
     refine ⟨k+1,by go_num,by omega,?_,?_,?_⟩
     ·rw [Hn.out,Hr.out,zfV (by have:=P1.out;omega)]
     ·rw [Hn.out,Hr.out,zfV P3.out]
     ·rw [Hn.out,Hr.out];go_num
    case measure=>simp [zal];omega
   ·have t1:decide ((9223372036854775808:Int)≤m1)=false:=hg;have t2:decide ((9223372036854775808:Int)≤m3)=false:=hg2;have Hm1:=hid hm1;have Hm2:=hid hm2;have Hr:=hid hr;have Hn:=hid hn;have P1:=hid p1;have P2:=hid p2;clear hm1 hm2 hr hn p1 p2;clear hg hg2 p3;go_wp2_with fail
    refine Hm1.out.mono ?_;rintro e W ⟨rfl,rfl⟩;go_wp2_with fail
    refine Hm2.out.mono ?_;rintro e W ⟨rfl,rfl⟩;go_wp2_with fail
    go_round
    case rel =>
     refine ⟨k+1,by go_num,by omega,?_,?_,?_⟩
     ·rw [Hn.out,Hr.out,zfV P1.out]
     ·rw [Hn.out,Hr.out,zfV P2.out]
     ·rw [Hn.out,Hr.out];go_num
    case measure=>simp [zal];omega
  ·obtain rfl:k=26:=by omega
   have he:=Hend.out;generalize (S 26).2.2=c at *;generalize (S 26).2.1=b at *;generalize (S 26).1=a at *;subst he;go_wp2
   go_ret2
   exact ⟨rfl,rfl⟩
theorem zfX (w:World) :
  Calls Tryz.prog 221 #[.int .i64 3] w fun e w'=>e=.returned (.tuple #[.int .i64 106365032,.bool true])∧w=w':=by
 have hb:Lib.bitLen 3=2:=by decide
 have hl:=zfQ 3 (by omega) w;rw [hb] at hl;have hl2:Calls Tryz.prog 100 #[.int .u64 3] w fun e w'=>e=.returned (.int .i64 2)∧w=w':=hl;have hst:s3=stF s3 0:=rfl;have hal:=ok3;obtain ⟨S,hS⟩:∃ S:Nat→Nat × Nat × Nat,S=stF s3:=⟨_,rfl⟩;have hok:∀ k,k<26→okF (S k)=true:=fun k hk=>by rw [hS];exact zfT hal.1 hk
 have hnx:∀ k,S (k+1)=rdF (S k):=fun k=>by rw [hS];rfl
 have h0:Value.int .u64 6917529027641081856=.int .u64 (((S 0).1:Nat):Int)∧Value.int .u64 6917529027641081856=.int .u64 (((S 0).2.1:Nat):Int)∧Value.int .i64 1=.int .i64 (((S 0).2.2:Nat):Int):=by rw [hS];exact ⟨rfl,rfl,rfl⟩
 have hend:(S 26).2.2=106365032:=by rw [hS];exact hal.2
 have Hl2:=hid hl2;have Hok:=hid hok;have Hnx:=hid hnx;have H0:=hid h0;have Hend:=hid hend;clear hl2 hok hnx h0 hend;clear hl hb hst hal hS;go_enter Tryz.func221,Tryz.ntmps221
 go_wp2_with fail
 refine Hl2.out.mono ?_;rintro e W ⟨rfl,rfl⟩;go_wp2_with fail
 go_loop [5,6,7,8,9,21] (fun v5 v6 v7 v8 v9 v21=>∃ k:Nat,v21=.int .i64 k∧k≤26∧v5=.int .u64 (((S k).1:Nat):Int)∧v6=.int .u64 (((S k).2.1:Nat):Int)∧v7=.int .i64 (((S k).2.2:Nat):Int)) (fun _ _ _ _ _ v21=>26 - (zal v21).toNat)
 case atStart=>exact ⟨0,rfl,by omega,H0.out.1,H0.out.2.1,H0.out.2.2⟩
 case round =>
  obtain ⟨k,rfl,hk,rfl,rfl,rfl⟩:=hrel;by_cases hk26:k<26
  ·obtain ⟨ha,hb,hc,p1,p2,p3,hcs⟩:=zfU (Hok.out k hk26);have hn:=Hnx.out k;have hm1:=zfP (S k).1 (S k).1 ha ha w;have hm2:=zfP (S k).2.1 (S k).2.1 hb hb w;have e1:bits BinOp.or .u64 (IntKind.u64.wrap (((((S k).1 * (S k).1 / 18446744073709551616:Nat):Int)) * 4)) ((((S k).1 * (S k).1 % 18446744073709551616:Nat):Int) / 4611686018427387904)=sqF (S k).1:=rfl;have e2:bits BinOp.or .u64 (IntKind.u64.wrap (((((S k).2.1 * (S k).2.1 / 18446744073709551616:Nat):Int)) * 4)) ((((S k).2.1 * (S k).2.1 % 18446744073709551616:Nat):Int) / 4611686018427387904)=sqF (S k).2.1:=rfl;have e3:IntKind.u64.wrap (sqF (S k).2.1+1)=upF (S k).2.1:=rfl;generalize (S k).1 * (S k).1 / 18446744073709551616=ah at *;generalize (S k).1 * (S k).1 % 18446744073709551616=al at *;generalize (S k).2.1 * (S k).2.1 / 18446744073709551616=bh at *;generalize (S k).2.1 * (S k).2.1 % 18446744073709551616=bl at *;generalize sqF (S k).1=m1 at *;generalize sqF (S k).2.1=m2 at *;generalize upF (S k).2.1=m3 at *;generalize rdF (S k)=sn at *;generalize (S k).1=a at *;generalize (S k).2.1=b at *;generalize (S k).2.2=c at *;clear ha hb;rcases hcs with ⟨hg,hr⟩ | ⟨hg,hg2,hr⟩
   ·have t1:decide ((9223372036854775808:Int)≤m1)=true:=hg;have e4:∃ m4,IntKind.u64.wrap (m3 / 2+1)=m4:=⟨_,rfl⟩;obtain ⟨m4,e4⟩:=e4;rw [e4] at hr p3;have Hm1:=hid hm1;have Hm2:=hid hm2;have Hr:=hid hr;have Hn:=hid hn;have P1:=hid p1;have P2:=hid p2;have P3:=hid p3;clear hm1 hm2 hr hn p1 p2 p3;clear hg;go_wp2_with fail
    refine Hm1.out.mono ?_;rintro e W ⟨rfl,rfl⟩;go_wp2_with fail
    refine Hm2.out.mono ?_;rintro e W ⟨rfl,rfl⟩;go_wp2_with fail
    go_round
    case rel =>
     refine ⟨k+1,by go_num,by omega,?_,?_,?_⟩
     ·rw [Hn.out,Hr.out,zfV (by have:=P1.out;omega)]
     ·rw [Hn.out,Hr.out,zfV P3.out]
     ·rw [Hn.out,Hr.out];go_num
    case measure=>simp [zal];omega
   ·have t1:decide ((9223372036854775808:Int)≤m1)=false:=hg;have t2:decide ((9223372036854775808:Int)≤m3)=false:=hg2;have Hm1:=hid hm1;have Hm2:=hid hm2;have Hr:=hid hr;have Hn:=hid hn;have P1:=hid p1;have P2:=hid p2;clear hm1 hm2 hr hn p1 p2;clear hg hg2 p3;go_wp2_with fail
    refine Hm1.out.mono ?_;rintro e W ⟨rfl,rfl⟩;go_wp2_with fail
    refine Hm2.out.mono ?_;rintro e W ⟨rfl,rfl⟩;go_wp2_with fail
    go_round
    case rel =>
     refine ⟨k+1,by go_num,by omega,?_,?_,?_⟩
     ·rw [Hn.out,Hr.out,zfV P1.out]
     ·rw [Hn.out,Hr.out,zfV P2.out]
     ·rw [Hn.out,Hr.out];go_num
    case measure=>simp [zal];omega
  ·obtain rfl:k=26:=by omega
   have he:=Hend.out;generalize (S 26).2.2=c at *;generalize (S 26).2.1=b at *;generalize (S 26).1=a at *;subst he;go_wp2
   go_ret2
   exact ⟨rfl,rfl⟩
theorem zfY (w:World) :
  Calls Tryz.prog 221 #[.int .i64 5] w fun e w'=>e=.returned (.tuple #[.int .i64 155821956,.bool true])∧w=w':=by
 have hb:Lib.bitLen 5=3:=by decide
 have hl:=zfQ 5 (by omega) w;rw [hb] at hl;have hl2:Calls Tryz.prog 100 #[.int .u64 5] w fun e w'=>e=.returned (.int .i64 3)∧w=w':=hl;have hst:s5=stF s5 0:=rfl;have hal:=ok5;obtain ⟨S,hS⟩:∃ S:Nat→Nat × Nat × Nat,S=stF s5:=⟨_,rfl⟩;have hok:∀ k,k<26→okF (S k)=true:=fun k hk=>by rw [hS];exact zfT hal.1 hk
 have hnx:∀ k,S (k+1)=rdF (S k):=fun k=>by rw [hS];rfl
 have h0:Value.int .u64 5764607523034234880=.int .u64 (((S 0).1:Nat):Int)∧Value.int .u64 5764607523034234880=.int .u64 (((S 0).2.1:Nat):Int)∧Value.int .i64 2=.int .i64 (((S 0).2.2:Nat):Int):=by rw [hS];exact ⟨rfl,rfl,rfl⟩
 have hend:(S 26).2.2=155821956:=by rw [hS];exact hal.2
 have Hl2:=hid hl2;have Hok:=hid hok;have Hnx:=hid hnx;have H0:=hid h0;have Hend:=hid hend;clear hl2 hok hnx h0 hend;clear hl hb hst hal hS;go_enter Tryz.func221,Tryz.ntmps221
 go_wp2_with fail
 refine Hl2.out.mono ?_;rintro e W ⟨rfl,rfl⟩;go_wp2_with fail
 go_loop [5,6,7,8,9,21] (fun v5 v6 v7 v8 v9 v21=>∃ k:Nat,v21=.int .i64 k∧k≤26∧v5=.int .u64 (((S k).1:Nat):Int)∧v6=.int .u64 (((S k).2.1:Nat):Int)∧v7=.int .i64 (((S k).2.2:Nat):Int)) (fun _ _ _ _ _ v21=>26 - (zal v21).toNat)
 case atStart=>exact ⟨0,rfl,by omega,H0.out.1,H0.out.2.1,H0.out.2.2⟩
 case round =>
  obtain ⟨k,rfl,hk,rfl,rfl,rfl⟩:=hrel;by_cases hk26:k<26
  ·obtain ⟨ha,hb,hc,p1,p2,p3,hcs⟩:=zfU (Hok.out k hk26);have hn:=Hnx.out k;have hm1:=zfP (S k).1 (S k).1 ha ha w;have hm2:=zfP (S k).2.1 (S k).2.1 hb hb w;have e1:bits BinOp.or .u64 (IntKind.u64.wrap (((((S k).1 * (S k).1 / 18446744073709551616:Nat):Int)) * 4)) ((((S k).1 * (S k).1 % 18446744073709551616:Nat):Int) / 4611686018427387904)=sqF (S k).1:=rfl;have e2:bits BinOp.or .u64 (IntKind.u64.wrap (((((S k).2.1 * (S k).2.1 / 18446744073709551616:Nat):Int)) * 4)) ((((S k).2.1 * (S k).2.1 % 18446744073709551616:Nat):Int) / 4611686018427387904)=sqF (S k).2.1:=rfl;have e3:IntKind.u64.wrap (sqF (S k).2.1+1)=upF (S k).2.1:=rfl;generalize (S k).1 * (S k).1 / 18446744073709551616=ah at *;generalize (S k).1 * (S k).1 % 18446744073709551616=al at *;generalize (S k).2.1 * (S k).2.1 / 18446744073709551616=bh at *;generalize (S k).2.1 * (S k).2.1 % 18446744073709551616=bl at *;generalize sqF (S k).1=m1 at *;generalize sqF (S k).2.1=m2 at *;generalize upF (S k).2.1=m3 at *;generalize rdF (S k)=sn at *;generalize (S k).1=a at *;generalize (S k).2.1=b at *;generalize (S k).2.2=c at *;clear ha hb;rcases hcs with ⟨hg,hr⟩ | ⟨hg,hg2,hr⟩
   ·have t1:decide ((9223372036854775808:Int)≤m1)=true:=hg;have e4:∃ m4,IntKind.u64.wrap (m3 / 2+1)=m4:=⟨_,rfl⟩;obtain ⟨m4,e4⟩:=e4;rw [e4] at hr p3;have Hm1:=hid hm1;have Hm2:=hid hm2;have Hr:=hid hr;have Hn:=hid hn;have P1:=hid p1;have P2:=hid p2;have P3:=hid p3;clear hm1 hm2 hr hn p1 p2 p3;clear hg;go_wp2_with fail
    refine Hm1.out.mono ?_;rintro e W ⟨rfl,rfl⟩;go_wp2_with fail
    refine Hm2.out.mono ?_;rintro e W ⟨rfl,rfl⟩;go_wp2_with fail
    go_round
    case rel =>
     refine ⟨k+1,by go_num,by omega,?_,?_,?_⟩
     ·rw [Hn.out,Hr.out,zfV (by have:=P1.out;omega)]
     ·rw [Hn.out,Hr.out,zfV P3.out]
     ·rw [Hn.out,Hr.out];go_num
    case measure=>simp [zal];omega
   ·have t1:decide ((9223372036854775808:Int)≤m1)=false:=hg;have t2:decide ((9223372036854775808:Int)≤m3)=false:=hg2;have Hm1:=hid hm1;have Hm2:=hid hm2;have Hr:=hid hr;have Hn:=hid hn;have P1:=hid p1;have P2:=hid p2;clear hm1 hm2 hr hn p1 p2;clear hg hg2 p3;go_wp2_with fail
    refine Hm1.out.mono ?_;rintro e W ⟨rfl,rfl⟩;go_wp2_with fail
    refine Hm2.out.mono ?_;rintro e W ⟨rfl,rfl⟩;go_wp2_with fail
    go_round
    case rel =>
     refine ⟨k+1,by go_num,by omega,?_,?_,?_⟩
     ·rw [Hn.out,Hr.out,zfV P1.out]
     ·rw [Hn.out,Hr.out,zfV P2.out]
     ·rw [Hn.out,Hr.out];go_num
    case measure=>simp [zal];omega
  ·obtain rfl:k=26:=by omega
   have he:=Hend.out;generalize (S 26).2.2=c at *;generalize (S 26).2.1=b at *;generalize (S 26).1=a at *;subst he;go_wp2
   go_ret2
   exact ⟨rfl,rfl⟩
end
section
open Go.RowKit Go.Lib
attribute [local go_sem] Oper.semAt_some
def zfZ (n₀ Bb:Nat)(W W':World):Prop:=Below n₀ W W'∧W'.heap[Bb]?=W.heap[Bb]?
def zga (l:List (Int × Int))(k:Nat):Int × Int:=l.getD k (2,0)
theorem zgb (l:List (Int × Int))(k:Nat)(h:k<l.length):(zf1 (l.map Prod.snd))[k]?=some (.string (I (zga l k).2)):=by
 unfold zf1 zga;simp [List.getD_eq_getElem?_getD,List.getElem?_map,List.getElem?_eq_getElem h]
theorem zgc (l:List (Int × Int))(k:Nat)(h:k<l.length):(zap (l.map Prod.fst))[k]?=some (.int .i64 (zga l k).1):=by
 unfold zap zga;simp [List.getD_eq_getElem?_getD,List.getElem?_map,List.getElem?_eq_getElem h]
theorem zgd (l:List Int):(zf1 l).length=l.length:=by unfold zf1;simp
theorem zge (F:Fence)(n:Nat)(h8:F.fn 222)(hro:F.round=none)(hn:1≤n)(l Ba n₀:Nat)(aa ab:Option Addr)(ca cb:Nat)(z:Value)(x:List (Int × Int))(hreach:x.length≤1000000)(J Jx:List Nat→World→Prop)
  (hY:∀ pre p W,J pre W→pre.length<x.length→YieldAt F (n - 1) Tryz.prog l #[.int .i64 (zga x p).1,.string (I (zga x p).2)] W fun e W' =>
   (e=.returned (.bool true)∧J (pre++[p]) W'∧zfZ n₀ Ba W W')∨(e=.returned (.bool false)∧Jx (pre++[p]) W'))
  (W:World) (hBa:zf4 W Ba (.slice aa x.length ca) (.slice ab x.length cb) z)
  (hx:∀ i,i<x.length→∃ b off,aa=some ⟨b,off,none⟩∧b<n₀∧W.cell? ⟨b,off+i,none⟩=some (.int .i64 (zga x i).1))
  (hy:∀ i,i<x.length→∃ b off,ab=some ⟨b,off,none⟩∧b<n₀∧W.cell? ⟨b,off+i,none⟩=some (.string (I (zga x i).2))) (h0:J [] W) :
  CallsIn F n Tryz.prog 222 #[.func (.yield l) #[] #[],.pointer (some ⟨Ba,0,none⟩)] W fun e W'=>(∃ v,e=.returned v) ∧
   ((∃ ys,ys=List.range x.length∧J ys W')∨(∃ pre,True∧Jx pre W')):=by
 have Hx:=hid hx;clear hx;have Hy:=hid hy;clear hy;have hc0:=hBa.c.1;have HBa:=hid hBa;clear hBa;refine callsIn_of_wp Tryz.func222 rfl h8 ?_ hro;simp only [Tryz.ntmps222,List.size_toArray,List.length_cons,List.length_nil,Nat.reduceAdd,Nat.reduceSub,Array.replicate_succ,Array.replicate_zero,List.push_toArray,List.append_toArray,List.nil_append,List.cons_append];gi_wp2;clear hc0;gi_loopw [8] (fun i wr=>∃ k:Nat,k≤x.length∧i=.int .i64 k∧J (List.range k) wr∧zfZ n₀ Ba W wr)
  (fun i _=>x.length - (zal i).toNat)
 case atStart=>exact ⟨0,Nat.zero_le _,rfl,h0,Below.refl _ _,rfl⟩
 case round =>
  obtain ⟨k,hk,rfl,hJs,hnx⟩:=hrel;by_cases hlt:k<x.length
  ·obtain ⟨bx,ox,rfl,hbx,hcx0⟩:=Hx.out k hlt;obtain ⟨by_,oy,rfl,hby,hcy0⟩:=Hy.out k hlt;have hcx:wr.cell? ⟨bx,ox+k,none⟩=some (.int .i64 (zga x k).1):=(hnx.1.cell (p:=⟨bx,ox+k,none⟩) hbx).trans hcx0;have hb3:zf4 wr Ba (.slice (some ⟨bx,ox,none⟩) x.length ca) (.slice (some ⟨by_,oy,none⟩) x.length cb) z:=hnx.2.trans HBa.out;obtain ⟨_,hBbr,_⟩:=hb3.c;have hcy:wr.cell? ⟨by_,oy+k,none⟩=some (.string (I (zga x k).2)):=(hnx.1.cell (p:=⟨by_,oy+k,none⟩) hby).trans hcy0;have hup:List.range (k+1)=List.range k++[k]:=List.range_succ;have Hup:=hid hup;clear hup hcx0 hcy0 hb3;have Hnx:=hid hnx;clear hnx;obtain ⟨fn,tmps,assign,body,hy1,hR⟩:=hY _ k wr hJs (by rw [List.length_range];exact hlt);have HR:=hid hR;clear hR;clear hY;gi_wp2;refine HR.out.mono ?_;rintro e W3 (⟨rfl,hJ3,hk3⟩ | ⟨rfl,hJx3⟩)
   ·gi_wp2;go_roundw
    case rel=>exact ⟨k+1,by omega,by simp,by rw [Hup.out];exact hJ3,Hnx.out.1.trans hk3.1,hk3.2.trans Hnx.out.2⟩
    case measure=>simp [zal];omega
   ·gi_wp2;refine bodyPost_ret (results_none rfl _ _ _) rfl ?_;exact ⟨⟨_,rfl⟩,.inr ⟨_,trivial,hJx3⟩⟩
  ·obtain rfl:k=x.length:=by omega
   clear hY;gi_wp2;go_end0
   exact ⟨⟨_,rfl⟩,.inl ⟨_,rfl,hJs⟩⟩
theorem zgf (F:Fence)(n:Nat)(h5:F.fn 205)(hro:F.round=none)(a b c:Value)(w:World) :
  CallsIn F n Tryz.prog 205 #[.agg #[a,b,c]] w fun e w'=>e=.returned (.func (.func 222) #[] #[.pointer (some ⟨w.heap.size,0,none⟩)]) ∧
   w'=w.alloc (.cells #[a,b,c] 174):=by
 refine callsIn_of_wp Tryz.func205 rfl h5 ?_ hro;simp only [Tryz.ntmps205,List.size_toArray,List.length_cons,List.length_nil,Nat.reduceAdd,Nat.reduceSub,Array.replicate_succ,Array.replicate_zero,List.push_toArray,List.append_toArray,List.nil_append,List.cons_append];gi_wp2;go_ret
 exact ⟨rfl,rfl⟩
theorem zgg (F:Fence)(n:Nat)(h8:F.fn 222)(hro:F.round=none)(hn:1≤n)(Ba n₀:Nat)(aa ab:Option Addr)(ca cb:Nat)(z:Value)(x:List (Int × Int))(hreach:x.length≤1000000)(w:World)
  (hBa:zf4 w Ba (.slice aa x.length ca) (.slice ab x.length cb) z)
  (hx:∀ i,i<x.length→∃ b off,aa=some ⟨b,off,none⟩∧b<n₀∧w.cell? ⟨b,off+i,none⟩=some (.int .i64 (zga x i).1))
  (hy:∀ i,i<x.length→∃ b off,ab=some ⟨b,off,none⟩∧b<n₀∧w.cell? ⟨b,off+i,none⟩=some (.string (I (zga x i).2))) :
  SeqStopsK F n Tryz.prog 222 #[.pointer (some ⟨Ba,0,none⟩)] (fun p:Nat=>#[Value.int .i64 (zga x p).1,Value.string (I (zga x p).2)]) (zfZ n₀ Ba) (fun ys=>ys=List.range x.length) (fun _=>True) x.length w:=fun l J Jx W hW _ _ hY h0=>by
 have hext:Ext w W:=hW;exact zge F n h8 hro hn l Ba n₀ aa ab ca cb z x hreach J Jx hY W (hBa.ext hext)
  (fun i hi=>by obtain ⟨b,off,e,hb,hc⟩:=hx i hi;exact ⟨b,off,e,hb,hext.cell hc⟩)
  (fun i hi=>by obtain ⟨b,off,e,hb,hc⟩:=hy i hi;exact ⟨b,off,e,hb,hext.cell hc⟩) h0
end
end Go.Proofs.YtipkdebkdnbieaaGreatDoor
