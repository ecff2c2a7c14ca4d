/- Walk: size.fast at 7, 11 and 13. (KEEPALL) (Printed by fast7.py.) A region that draws, within a round of a loop over a function: the walk that serves outside of rounds serves there too, where nothing is deferred. -/
import Derived.Test.YtipkdebkdnbieaaGreatDoorPe11
import Derived.Test.YtipkdebkdnbieaaGreatDoorProg
import Derived.BigRegionIn
import Derived.Deep.RegionHeld3
set_option maxRecDepth 100000
set_option maxHeartbeats 4000000
namespace Go.Proofs.YtipkdebkdnbieaaGreatDoor
section
open Go.RowKit Go.Lib
def s7 : Nat × Nat × Nat:=(8070450532247928832,8070450532247928832,2)
theorem ok7 : zfS s7 26=true∧(stF s7 26).2.2=188398399:=by decide +kernel
theorem zjh (w:World) :
  Calls Tryz.prog 221 #[.int .i64 7] w fun e w'=>e=.returned (.tuple #[.int .i64 188398399,.bool true])∧w=w':=by
 have hb:Lib.bitLen 7=3:=by decide
 have hl:=zfQ 7 (by omega) w;rw [hb] at hl;have hl2:Calls Tryz.prog 100 #[.int .u64 7] w fun e w'=>e=.returned (.int .i64 3)∧w=w':=hl;have hst:s7=stF s7 0:=rfl;have hal:=ok7;obtain ⟨S,hS⟩:∃ S:Nat→Nat × Nat × Nat,S=stF s7:=⟨_,rfl⟩;have hok:∀ k,k<26→okF (S k)=true:=fun k hk=>by rw [hS];exact zfT hal.1 hk
 have hnx:∀ k,S (k+1)=rdF (S k):=fun k=>by rw [hS];rfl
 have h0:Value.int .u64 8070450532247928832=.int .u64 (((S 0).1:Nat):Int)∧Value.int .u64 8070450532247928832=.int .u64 (((S 0).2.1:Nat):Int)∧Value.int .i64 2=.int .i64 (((S 0).2.2:Nat):Int):=by rw [hS];exact ⟨rfl,rfl,rfl⟩
 have hend:(S 26).2.2=188398399:=by rw [hS];exact hal.2
 have Hl2:=Lib.hid hl2;have Hok:=Lib.hid hok;have Hnx:=Lib.hid hnx;have H0:=Lib.hid h0;have Hend:=Lib.hid hend;clear hl2 hok hnx h0 hend;clear hl hb hst hal hS;go_enter Tryz.func221,Tryz.ntmps221
 go_wp2_with fail
 refine Hl2.out.mono ?_;rintro e W ⟨rfl,rfl⟩;go_wp2_with fail
 go_loop [5,6,7,8,9,21] (fun v5 v6 v7 v8 v9 v21=>∃ k:Nat,v21=.int .i64 k∧k≤26∧v5=.int .u64 (((S k).1:Nat):Int)∧v6=.int .u64 (((S k).2.1:Nat):Int)∧v7=.int .i64 (((S k).2.2:Nat):Int)) (fun _ _ _ _ _ v21=>26 - (zal v21).toNat)
 case atStart=>exact ⟨0,rfl,by omega,H0.out.1,H0.out.2.1,H0.out.2.2⟩
 case round =>
  obtain ⟨k,rfl,hk,rfl,rfl,rfl⟩:=hrel;by_cases hk26:k<26
  ·obtain ⟨ha,hb,hc,p1,p2,p3,hcs⟩:=zfU (Hok.out k hk26);have hn:=Hnx.out k;have hm1:=zfP (S k).1 (S k).1 ha ha w;have hm2:=zfP (S k).2.1 (S k).2.1 hb hb w;have e1:bits BinOp.or .u64 (IntKind.u64.wrap (((((S k).1 * (S k).1 / 18446744073709551616:Nat):Int)) * 4)) ((((S k).1 * (S k).1 % 18446744073709551616:Nat):Int) / 4611686018427387904)=sqF (S k).1:=rfl;have e2:bits BinOp.or .u64 (IntKind.u64.wrap (((((S k).2.1 * (S k).2.1 / 18446744073709551616:Nat):Int)) * 4)) ((((S k).2.1 * (S k).2.1 % 18446744073709551616:Nat):Int) / 4611686018427387904)=sqF (S k).2.1:=rfl;have e3:IntKind.u64.wrap (sqF (S k).2.1+1)=upF (S k).2.1:=rfl;generalize (S k).1 * (S k).1 / 18446744073709551616=ah at *;generalize (S k).1 * (S k).1 % 18446744073709551616=al at *;generalize (S k).2.1 * (S k).2.1 / 18446744073709551616=bh at *;generalize (S k).2.1 * (S k).2.1 % 18446744073709551616=bl at *;generalize sqF (S k).1=m1 at *;generalize sqF (S k).2.1=m2 at *;generalize upF (S k).2.1=m3 at *;generalize rdF (S k)=sn at *;generalize (S k).1=a at *;generalize (S k).2.1=b at *;generalize (S k).2.2=c at *;clear ha hb;rcases hcs with ⟨hg,hr⟩ | ⟨hg,hg2,hr⟩
   ·have t1:decide ((9223372036854775808:Int)≤m1)=true:=hg;have e4:∃ m4,IntKind.u64.wrap (m3 / 2+1)=m4:=⟨_,rfl⟩;obtain ⟨m4,e4⟩:=e4;rw [e4] at hr p3;have Hm1:=Lib.hid hm1;have Hm2:=Lib.hid hm2;have Hr:=Lib.hid hr;have Hn:=Lib.hid hn;have P1:=Lib.hid p1;have P2:=Lib.hid p2;have P3:=Lib.hid p3;clear hm1 hm2 hr hn p1 p2 p3;clear hg;go_wp2_with fail
    refine Hm1.out.mono ?_;rintro e W ⟨rfl,rfl⟩;go_wp2_with fail
    refine Hm2.out.mono ?_;rintro e W ⟨rfl,rfl⟩;go_wp2_with fail
    go_round
    case rel =>
     refine ⟨k+1,by go_num,by omega,?_,?_,?_⟩
     ·rw [Hn.out,Hr.out,zfV (by have:=P1.out;omega)]
     ·rw [Hn.out,Hr.out,zfV P3.out]
     ·rw [Hn.out,Hr.out];go_num
    case measure=>simp [zal];omega
   ·have t1:decide ((9223372036854775808:Int)≤m1)=false:=hg;have t2:decide ((9223372036854775808:Int)≤m3)=false:=hg2;have Hm1:=Lib.hid hm1;have Hm2:=Lib.hid hm2;have Hr:=Lib.hid hr;have Hn:=Lib.hid hn;have P1:=Lib.hid p1;have P2:=Lib.hid p2;clear hm1 hm2 hr hn p1 p2;clear hg hg2 p3;go_wp2_with fail
    refine Hm1.out.mono ?_;rintro e W ⟨rfl,rfl⟩;go_wp2_with fail
    refine Hm2.out.mono ?_;rintro e W ⟨rfl,rfl⟩;go_wp2_with fail
    go_round
    case rel =>
     refine ⟨k+1,by go_num,by omega,?_,?_,?_⟩
     ·rw [Hn.out,Hr.out,zfV P1.out]
     ·rw [Hn.out,Hr.out,zfV P2.out]
     ·rw [Hn.out,Hr.out];go_num
    case measure=>simp [zal];omega
  ·obtain rfl:k=26:=by omega
   have he:=Hend.out;generalize (S 26).2.2=c at *;generalize (S 26).2.1=b at *;generalize (S 26).1=a at *;subst he;go_wp2
   go_ret2
   exact ⟨rfl,rfl⟩
def s11 : Nat × Nat × Nat:=(6341068275337658368,6341068275337658368,3)
theorem zji : zfS s11 26=true∧(stF s11 26).2.2=232158526:=by decide +kernel
theorem zjj (w:World) :
  Calls Tryz.prog 221 #[.int .i64 11] w fun e w'=>e=.returned (.tuple #[.int .i64 232158526,.bool true])∧w=w':=by
 have hb:Lib.bitLen 11=4:=by decide
 have hl:=zfQ 11 (by omega) w;rw [hb] at hl;have hl2:Calls Tryz.prog 100 #[.int .u64 11] w fun e w'=>e=.returned (.int .i64 4)∧w=w':=hl;have hst:s11=stF s11 0:=rfl;have hal:=zji;obtain ⟨S,hS⟩:∃ S:Nat→Nat × Nat × Nat,S=stF s11:=⟨_,rfl⟩;have hok:∀ k,k<26→okF (S k)=true:=fun k hk=>by rw [hS];exact zfT hal.1 hk
 have hnx:∀ k,S (k+1)=rdF (S k):=fun k=>by rw [hS];rfl
 have h0:Value.int .u64 6341068275337658368=.int .u64 (((S 0).1:Nat):Int)∧Value.int .u64 6341068275337658368=.int .u64 (((S 0).2.1:Nat):Int)∧Value.int .i64 3=.int .i64 (((S 0).2.2:Nat):Int):=by rw [hS];exact ⟨rfl,rfl,rfl⟩
 have hend:(S 26).2.2=232158526:=by rw [hS];exact hal.2
 have Hl2:=Lib.hid hl2;have Hok:=Lib.hid hok;have Hnx:=Lib.hid hnx;have H0:=Lib.hid h0;have Hend:=Lib.hid hend;clear hl2 hok hnx h0 hend;clear hl hb hst hal hS;go_enter Tryz.func221,Tryz.ntmps221
 go_wp2_with fail
 refine Hl2.out.mono ?_;rintro e W ⟨rfl,rfl⟩;go_wp2_with fail
 go_loop [5,6,7,8,9,21] (fun v5 v6 v7 v8 v9 v21=>∃ k:Nat,v21=.int .i64 k∧k≤26∧v5=.int .u64 (((S k).1:Nat):Int)∧v6=.int .u64 (((S k).2.1:Nat):Int)∧v7=.int .i64 (((S k).2.2:Nat):Int)) (fun _ _ _ _ _ v21=>26 - (zal v21).toNat)
 case atStart=>exact ⟨0,rfl,by omega,H0.out.1,H0.out.2.1,H0.out.2.2⟩
 case round =>
  obtain ⟨k,rfl,hk,rfl,rfl,rfl⟩:=hrel;by_cases hk26:k<26
  ·obtain ⟨ha,hb,hc,p1,p2,p3,hcs⟩:=zfU (Hok.out k hk26);have hn:=Hnx.out k;have hm1:=zfP (S k).1 (S k).1 ha ha w;have hm2:=zfP (S k).2.1 (S k).2.1 hb hb w;have e1:bits BinOp.or .u64 (IntKind.u64.wrap (((((S k).1 * (S k).1 / 18446744073709551616:Nat):Int)) * 4)) ((((S k).1 * (S k).1 % 18446744073709551616:Nat):Int) / 4611686018427387904)=sqF (S k).1:=rfl;have e2:bits BinOp.or .u64 (IntKind.u64.wrap (((((S k).2.1 * (S k).2.1 / 18446744073709551616:Nat):Int)) * 4)) ((((S k).2.1 * (S k).2.1 % 18446744073709551616:Nat):Int) / 4611686018427387904)=sqF (S k).2.1:=rfl;have e3:IntKind.u64.wrap (sqF (S k).2.1+1)=upF (S k).2.1:=rfl;generalize (S k).1 * (S k).1 / 18446744073709551616=ah at *;generalize (S k).1 * (S k).1 % 18446744073709551616=al at *;generalize (S k).2.1 * (S k).2.1 / 18446744073709551616=bh at *;generalize (S k).2.1 * (S k).2.1 % 18446744073709551616=bl at *;generalize sqF (S k).1=m1 at *;generalize sqF (S k).2.1=m2 at *;generalize upF (S k).2.1=m3 at *;generalize rdF (S k)=sn at *;generalize (S k).1=a at *;generalize (S k).2.1=b at *;generalize (S k).2.2=c at *;clear ha hb;rcases hcs with ⟨hg,hr⟩ | ⟨hg,hg2,hr⟩
   ·have t1:decide ((9223372036854775808:Int)≤m1)=true:=hg;have e4:∃ m4,IntKind.u64.wrap (m3 / 2+1)=m4:=⟨_,rfl⟩;obtain ⟨m4,e4⟩:=e4;rw [e4] at hr p3;have Hm1:=Lib.hid hm1;have Hm2:=Lib.hid hm2;have Hr:=Lib.hid hr;have Hn:=Lib.hid hn;have P1:=Lib.hid p1;have P2:=Lib.hid p2;have P3:=Lib.hid p3;clear hm1 hm2 hr hn p1 p2 p3;clear hg;go_wp2_with fail
    refine Hm1.out.mono ?_;rintro e W ⟨rfl,rfl⟩;go_wp2_with fail
    refine Hm2.out.mono ?_;rintro e W ⟨rfl,rfl⟩;go_wp2_with fail
    go_round
    case rel =>
     refine ⟨k+1,by go_num,by omega,?_,?_,?_⟩
     ·rw [Hn.out,Hr.out,zfV (by have:=P1.out;omega)]
     ·rw [Hn.out,Hr.out,zfV P3.out]
     ·rw [Hn.out,Hr.out];go_num
    case measure=>simp [zal];omega
   ·have t1:decide ((9223372036854775808:Int)≤m1)=false:=hg;have t2:decide ((9223372036854775808:Int)≤m3)=false:=hg2;have Hm1:=Lib.hid hm1;have Hm2:=Lib.hid hm2;have Hr:=Lib.hid hr;have Hn:=Lib.hid hn;have P1:=Lib.hid p1;have P2:=Lib.hid p2;clear hm1 hm2 hr hn p1 p2;clear hg hg2 p3;go_wp2_with fail
    refine Hm1.out.mono ?_;rintro e W ⟨rfl,rfl⟩;go_wp2_with fail
    refine Hm2.out.mono ?_;rintro e W ⟨rfl,rfl⟩;go_wp2_with fail
    go_round
    case rel =>
     refine ⟨k+1,by go_num,by omega,?_,?_,?_⟩
     ·rw [Hn.out,Hr.out,zfV P1.out]
     ·rw [Hn.out,Hr.out,zfV P2.out]
     ·rw [Hn.out,Hr.out];go_num
    case measure=>simp [zal];omega
  ·obtain rfl:k=26:=by omega
   have he:=Hend.out;generalize (S 26).2.2=c at *;generalize (S 26).2.1=b at *;generalize (S 26).1=a at *;subst he;go_wp2
   go_ret2
   exact ⟨rfl,rfl⟩
def s13 : Nat × Nat × Nat:=(7493989779944505344,7493989779944505344,3)
theorem zjk : zfS s13 26=true∧(stF s13 26).2.2=248332305:=by decide +kernel
theorem zjl (w:World) :
  Calls Tryz.prog 221 #[.int .i64 13] w fun e w'=>e=.returned (.tuple #[.int .i64 248332305,.bool true])∧w=w':=by
 have hb:Lib.bitLen 13=4:=by decide
 have hl:=zfQ 13 (by omega) w;rw [hb] at hl;have hl2:Calls Tryz.prog 100 #[.int .u64 13] w fun e w'=>e=.returned (.int .i64 4)∧w=w':=hl;have hst:s13=stF s13 0:=rfl;have hal:=zjk;obtain ⟨S,hS⟩:∃ S:Nat→Nat × Nat × Nat,S=stF s13:=⟨_,rfl⟩;have hok:∀ k,k<26→okF (S k)=true:=fun k hk=>by rw [hS];exact zfT hal.1 hk
 have hnx:∀ k,S (k+1)=rdF (S k):=fun k=>by rw [hS];rfl
 have h0:Value.int .u64 7493989779944505344=.int .u64 (((S 0).1:Nat):Int)∧Value.int .u64 7493989779944505344=.int .u64 (((S 0).2.1:Nat):Int)∧Value.int .i64 3=.int .i64 (((S 0).2.2:Nat):Int):=by rw [hS];exact ⟨rfl,rfl,rfl⟩
 have hend:(S 26).2.2=248332305:=by rw [hS];exact hal.2
 have Hl2:=Lib.hid hl2;have Hok:=Lib.hid hok;have Hnx:=Lib.hid hnx;have H0:=Lib.hid h0;have Hend:=Lib.hid hend;clear hl2 hok hnx h0 hend;clear hl hb hst hal hS;go_enter Tryz.func221,Tryz.ntmps221
 go_wp2_with fail
 refine Hl2.out.mono ?_;rintro e W ⟨rfl,rfl⟩;go_wp2_with fail
 go_loop [5,6,7,8,9,21] (fun v5 v6 v7 v8 v9 v21=>∃ k:Nat,v21=.int .i64 k∧k≤26∧v5=.int .u64 (((S k).1:Nat):Int)∧v6=.int .u64 (((S k).2.1:Nat):Int)∧v7=.int .i64 (((S k).2.2:Nat):Int)) (fun _ _ _ _ _ v21=>26 - (zal v21).toNat)
 case atStart=>exact ⟨0,rfl,by omega,H0.out.1,H0.out.2.1,H0.out.2.2⟩
 case round =>
  obtain ⟨k,rfl,hk,rfl,rfl,rfl⟩:=hrel;by_cases hk26:k<26
  ·obtain ⟨ha,hb,hc,p1,p2,p3,hcs⟩:=zfU (Hok.out k hk26);have hn:=Hnx.out k;have hm1:=zfP (S k).1 (S k).1 ha ha w;have hm2:=zfP (S k).2.1 (S k).2.1 hb hb w;have e1:bits BinOp.or .u64 (IntKind.u64.wrap (((((S k).1 * (S k).1 / 18446744073709551616:Nat):Int)) * 4)) ((((S k).1 * (S k).1 % 18446744073709551616:Nat):Int) / 4611686018427387904)=sqF (S k).1:=rfl;have e2:bits BinOp.or .u64 (IntKind.u64.wrap (((((S k).2.1 * (S k).2.1 / 18446744073709551616:Nat):Int)) * 4)) ((((S k).2.1 * (S k).2.1 % 18446744073709551616:Nat):Int) / 4611686018427387904)=sqF (S k).2.1:=rfl;have e3:IntKind.u64.wrap (sqF (S k).2.1+1)=upF (S k).2.1:=rfl;generalize (S k).1 * (S k).1 / 18446744073709551616=ah at *;generalize (S k).1 * (S k).1 % 18446744073709551616=al at *;generalize (S k).2.1 * (S k).2.1 / 18446744073709551616=bh at *;generalize (S k).2.1 * (S k).2.1 % 18446744073709551616=bl at *;generalize sqF (S k).1=m1 at *;generalize sqF (S k).2.1=m2 at *;generalize upF (S k).2.1=m3 at *;generalize rdF (S k)=sn at *;generalize (S k).1=a at *;generalize (S k).2.1=b at *;generalize (S k).2.2=c at *;clear ha hb;rcases hcs with ⟨hg,hr⟩ | ⟨hg,hg2,hr⟩
   ·have t1:decide ((9223372036854775808:Int)≤m1)=true:=hg;have e4:∃ m4,IntKind.u64.wrap (m3 / 2+1)=m4:=⟨_,rfl⟩;obtain ⟨m4,e4⟩:=e4;rw [e4] at hr p3;have Hm1:=Lib.hid hm1;have Hm2:=Lib.hid hm2;have Hr:=Lib.hid hr;have Hn:=Lib.hid hn;have P1:=Lib.hid p1;have P2:=Lib.hid p2;have P3:=Lib.hid p3;clear hm1 hm2 hr hn p1 p2 p3;clear hg;go_wp2_with fail
    refine Hm1.out.mono ?_;rintro e W ⟨rfl,rfl⟩;go_wp2_with fail
    refine Hm2.out.mono ?_;rintro e W ⟨rfl,rfl⟩;go_wp2_with fail
    go_round
    case rel =>
     refine ⟨k+1,by go_num,by omega,?_,?_,?_⟩
     ·rw [Hn.out,Hr.out,zfV (by have:=P1.out;omega)]
     ·rw [Hn.out,Hr.out,zfV P3.out]
     ·rw [Hn.out,Hr.out];go_num
    case measure=>simp [zal];omega
   ·have t1:decide ((9223372036854775808:Int)≤m1)=false:=hg;have t2:decide ((9223372036854775808:Int)≤m3)=false:=hg2;have Hm1:=Lib.hid hm1;have Hm2:=Lib.hid hm2;have Hr:=Lib.hid hr;have Hn:=Lib.hid hn;have P1:=Lib.hid p1;have P2:=Lib.hid p2;clear hm1 hm2 hr hn p1 p2;clear hg hg2 p3;go_wp2_with fail
    refine Hm1.out.mono ?_;rintro e W ⟨rfl,rfl⟩;go_wp2_with fail
    refine Hm2.out.mono ?_;rintro e W ⟨rfl,rfl⟩;go_wp2_with fail
    go_round
    case rel =>
     refine ⟨k+1,by go_num,by omega,?_,?_,?_⟩
     ·rw [Hn.out,Hr.out,zfV P1.out]
     ·rw [Hn.out,Hr.out,zfV P2.out]
     ·rw [Hn.out,Hr.out];go_num
    case measure=>simp [zal];omega
  ·obtain rfl:k=26:=by omega
   have he:=Hend.out;generalize (S 26).2.2=c at *;generalize (S 26).2.1=b at *;generalize (S 26).1=a at *;subst he;go_wp2
   go_ret2
   exact ⟨rfl,rfl⟩
end
section
open Go
def zjm (ops:Array Oper):Bool:=ops.toList.all fun o=>match o.op with | .defer _=>false | _=>true
theorem zjn {ops:Array Oper}(h:zjm ops=true){j:Nat}{o:Oper}(hj:ops[j]?=some o):∀ c,o.op ≠ .defer c:=by
 intro c hc;have hm:o∈ops.toList:=by
  rw [← Array.getElem?_toList] at hj;exact List.mem_of_getElem? hj
 have:=List.all_eq_true.1 h o hm;rw [hc] at this
 cases this
section
variable {F : Fence} {n l : Nat} {P : Program} {ops : Array Oper} {Q : Exit → Act → World → Prop} {md : Region.Mode}
theorem zjo (h:zjm ops=true)(i:Nat)(K:Act→World→Prop)(a:Act)(w:World):wpOpIn (F.inRound l) n P ops Q i K a w=wpOpIn F.plain n P ops Q i K a w:=by
 unfold wpOpIn
 cases ho:ops[i]? with
 | none=>rfl
 | some o =>
  have e:o.wpIn (F.inRound l) n P a w K Q=o.wpIn F.plain n P a w K Q:=by
   unfold Oper.wpIn;rw [Oper.semAt_eq _ _ _ (zjn h ho),Oper.semAt_eq _ _ _ (zjn h ho)];rfl
  simp only [e]
  rfl
theorem zjq (h:zjm ops=true):∀ (fuel:Nat)(listed:Array Bool)(a:Act)(w:World),wpAnyIn (F.inRound l) n P md ops Q fuel listed a w=wpAnyIn F.plain n P md ops Q fuel listed a w
 | 0,_,_,_=>rfl
 | fuel+1,listed,a,w=>by
  have ih:=fun i=>(funext fun a=>funext fun w=>zjq h fuel (listed.setIfInBounds i true) a w:wpAnyIn (F.inRound l) n P md ops Q fuel (listed.setIfInBounds i true)=_);show ((Region.ready md ops listed=[]→Q .normal a w)∧∀ i∈Region.ready md ops listed,wpOpIn (F.inRound l) n P ops Q i (wpAnyIn (F.inRound l) n P md ops Q fuel (listed.setIfInBounds i true)) a w)=((Region.ready md ops listed=[]→Q .normal a w)∧∀ i∈Region.ready md ops listed,wpOpIn F.plain n P ops Q i (wpAnyIn F.plain n P md ops Q fuel (listed.setIfInBounds i true)) a w);simp only [ih,zjo h]
theorem zjr {id:Nat}{a:Act}{w:World}(hm:P.follows .mixedOrders=true)(h:zjm ops=true)
  (H:wpAnyIn F.plain n P .any ops (NoPanic Q) ops.size (Array.replicate ops.size false) a w.drew):(Code.region id ops true).wpIn (F.inRound l) n P Q a w :=
 wpIn_mono (wpIn_region_any hm ((zjq h _ _ _ _).mpr H)) NoPanic.imp
end
end
end Go.Proofs.YtipkdebkdnbieaaGreatDoor
