/- whole.Small: strconv.ParseInt at numerals, with the error of the range. Walk: hermite's small. Walk: size.fast at 2, 3 and 5. Walks: a size's terms as an iterator; near: whole numbers between which a size lies. A region that draws, within a round of a loop over a function: the walk that serves outside of rounds serves there too, where nothing is deferred. -/
import Derived.Test.YtoehmpbipbbffaaGreatDoorShelfD
import Derived.Test.YtoehmpbipbbffaaGreatDoorPa01
import Derived.Test.YtoehmpbipbbffaaGreatDoorPa06
import Derived.Test.YtoehmpbipbbffaaGreatDoorPa07
import Derived.Test.YtoehmpbipbbffaaGreatDoorPa09
import Derived.RangeFuncNested
import Derived.RangeFuncBound
import Derived.RangeFuncCalls
import Derived.RangeFuncLeaves
import Derived.RangeFuncBox
import Derived.RangeFuncWrites
import Derived.Shelf.Abstract
import Derived.OwnWalkIn
import Derived.TacticsInMore
import Derived.LoopNIn
import Derived.LoopIn
import Derived.BigRegionIn
import Derived.Test.YtoehmpbipbbffaaGreatDoorProg
import Derived.Deep.RegionHeld3
set_option maxRecDepth 100000
set_option maxHeartbeats 4000000
namespace Go.Proofs.YtoehmpbipbbffaaGreatDoor
section
open Go.RowKit Go.Lib Go.Shelf
def zgJ (w : World) : Prop := ∃ tp p, w.var? Tryz.prog "strconv.ErrRange" = some #[.iface tp p]
theorem zgK : Tryz.prog.globalNamed "strconv.ErrRange" = some 1 := by kernel_rfl
theorem zgJ.ext {w w':World}(h:zgJ w)(hx:Ext w w'):zgJ w':=by
 obtain ⟨tp,p,h⟩:=h;refine ⟨tp,p,var?_below hx zgK ?_ h⟩;unfold World.var? at h;rw [zgK] at h;rcases Nat.lt_or_ge 1 w.heap.size with g | g
 ·exact g
 ·have e:w.heap[1]?=none:=Array.getElem?_eq_none g;simp [e] at h
theorem zgL (z:Int)(h:z < -9223372036854775808∨9223372036854775808≤z):Lib.atoiAll (itoa z)=.range:=by
 have key:∀ (l:List UInt8)(acc:Nat),Dec.Dig l→acc<18446744073709551616→18446744073709551616≤Dec.val acc l→parseUint10 acc l=.range:=by
  intro l;induction l with
  | nil=>intro acc _ h1 h2;rw [Dec.val_nil] at h2;omega
  | cons c r ih =>
   intro acc hd ha hv
   have hc:=hd c (List.mem_cons_self ..)
   have hr:Dec.Dig r:=fun x hx=>hd x (List.mem_cons_of_mem _ hx)
   rw [Dec.val_cons] at hv
   have hdv:c.toNat - 48=Dec.dv c:=rfl
   simp only [parseUint10]
   rw [if_pos hc]
   by_cases h1:1844674407370955162≤acc
   ·rw [if_pos h1]
   ·rw [if_neg h1,hdv]
    by_cases h2:18446744073709551616≤acc * 10+Dec.dv c
    ·rw [if_pos h2]
    ·rw [if_neg h2,Nat.mul_comm acc 10]
     exact ih _ hr (by omega) hv
 have okk:∀ (l:List UInt8)(acc:Nat),Dec.Dig l→Dec.val acc l<18446744073709551616→parseUint10 acc l=.ok (Dec.val acc l):=by
  intro l;induction l with
  | nil=>intro acc _ _;rw [Dec.val_nil];rfl
  | cons c r ih =>
   intro acc hd hv
   have hc:=hd c (List.mem_cons_self ..)
   have hr:Dec.Dig r:=fun x hx=>hd x (List.mem_cons_of_mem _ hx)
   rw [Dec.val_cons] at hv ⊢
   have hmono:10 * acc+Dec.dv c≤Dec.val (10 * acc+Dec.dv c) r:=by
    rw [Dec.val_acc];have:1≤10 ^ r.length:=Nat.one_le_pow _ _ (by decide);have:=Nat.mul_le_mul_left (10 * acc+Dec.dv c) this;omega
   have hdv:c.toNat - 48=Dec.dv c:=rfl
   simp only [parseUint10]
   rw [if_pos hc,if_neg (by omega),hdv,if_neg (by omega),Nat.mul_comm acc 10,ih _ hr hv]
 have mag:∀ n:Nat,parseMag (decDigits n)=if n<18446744073709551616 then .ok n else .range:=by
  intro n;unfold parseMag;rw [if_neg (Dec.dec_ne_nil n)];by_cases hn:n<18446744073709551616
  ·rw [if_pos hn,okk _ 0 (Dec.dig_dec n) (by rw [Dec.val_dec];exact hn),Dec.val_dec]
  ·rw [if_neg hn,key _ 0 (Dec.dig_dec n) (by omega) (by rw [Dec.val_dec];omega)]
 unfold itoa;by_cases hz:z<0
 ·rw [if_pos hz];unfold atoiAll;have e45:(45:UInt8).toNat=45:=rfl;simp only [e45,or_true,if_true];rw [mag];by_cases hn:z.natAbs<18446744073709551616
  ·rw [if_pos hn];simp only [not_true,false_and,if_false,true_and];rw [if_pos (by omega)]
  ·rw [if_neg hn]
 ·rw [if_neg hz];obtain ⟨n,rfl⟩:∃ n:Nat,z=n:=⟨z.toNat,by omega⟩;rw [Int.toNat_natCast]
  cases hl:decDigits n with
  | nil=>exact absurd hl (Dec.dec_ne_nil n)
  | cons c r =>
   have hc:=Dec.dig_dec n c (by rw [hl];exact List.mem_cons_self ..)
   unfold atoiAll
   simp only
   rw [if_neg (by omega),← hl,mag]
   by_cases hn:n<18446744073709551616
   ·rw [if_pos hn]
    simp only
    have h45:¬ c.toNat=45:=by omega
    simp only [h45,not_false_eq_true,true_and,false_and,if_false]
    rw [if_pos (by omega)]
   ·rw [if_neg hn]
theorem zgM (z:Int)(w:World)(h0:-9223372036854775808≤z)(h1:z≤9223372036854775807) :
  Calls Tryz.prog 165 #[.string (I z)] w fun e w'=>e=.returned (.tuple #[.int .i64 z,.bool true])∧Ext w w':=by
 have hs:(I z).size≤9223372036854775806:=by
  show (itoa z).toArray.size≤_;rw [List.size_toArray];unfold itoa;split
  ·rw [List.length_cons,decDigits_length];have:=Dec.nDigits_le (n:=z.natAbs) (k:=20) (by omega) (by omega);omega
  ·rw [decDigits_length];have:=Dec.nDigits_le (n:=z.toNat) (k:=20) (by omega) (by omega);omega
 have hp:=Any.strconv_ParseInt_10_at64_ok Tryz.lParseInt (I z) hs z (by rw [Lib.parseIntB_64];exact zaA z h0 h1) w;have hp2:Calls Tryz.prog 201 #[.string (I z),.int .i64 10,.int .i64 64] w fun e w'=>e=.returned (.tuple #[.int .i64 z,.nilIface])∧Ext w w':=hp.mono fun e w' ⟨h,hw⟩=>⟨h,by
  rcases hw with rfl | ⟨t,rfl⟩
  ·exact Ext.refl _
  ·exact Ext.bytes _ _ _⟩
 have Hp:=Lib.hid hp2;clear hp hp2 hs;go_enter Tryz.func165,Tryz.ntmps165
 go_wp2_with fail
 refine Hp.out.mono ?_;rintro e w1 ⟨rfl,hx1⟩;have Hx1:=Lib.hid hx1;clear hx1;go_wp2
 go_ret2
 exact ⟨rfl,Hx1.out⟩
theorem zgN (z:Int)(w:World)(hr:zgJ w)(h:z < -9223372036854775808∨9223372036854775808≤z)(hf:Fit z) :
  Calls Tryz.prog 165 #[.string (I z)] w fun e w'=>e=.returned (.tuple #[.int .i64 0,.bool false])∧Ext w w':=by
 have hs:(I z).size≤281474976710656:=by
  have:=zbH z hf;omega
 obtain ⟨tp,p,hv⟩:=hr;have hp:=Any.strconv_ParseInt_10_at64_range_var Tryz.lParseInt (I z) hs (by rw [Lib.parseIntB_64];exact zgL z h) tp p w hv;have hp2:Calls Tryz.prog 201 #[.string (I z),.int .i64 10,.int .i64 64] w fun e w'=>∃ n tt N,e=.returned (.tuple #[.int .i64 n,.iface tt (.pointer (some ⟨N,0,none⟩))])∧Ext w w':=hp.mono fun e w' ⟨N,h,_,_,hb⟩=>⟨_,_,N,h,hb⟩;have Hp:=Lib.hid hp2;clear hp hp2 hs hv hf h;go_enter Tryz.func165,Tryz.ntmps165
 go_wp2_with fail
 refine Hp.out.mono ?_;rintro e w1 ⟨n1,tt,N,rfl,hx1⟩;have Hx1:=Lib.hid hx1;clear hx1;go_wp2
 go_ret2
 exact ⟨rfl,Hx1.out⟩
end
section
open Go.RowKit Go.Lib
theorem zgO (x y:Nat)(hx:x<18446744073709551616)(hy:y<18446744073709551616)(w:World) :
  Calls Tryz.prog 203 #[.int .u64 x,.int .u64 y] w fun e w'=>e=.returned (.tuple #[.int .u64 ((x * y / 18446744073709551616:Nat):Int),.int .u64 ((x * y % 18446744073709551616:Nat):Int)])∧w=w' :=
 (Any.bits_Mul64 Tryz.lMul64 x y hx hy w).mono fun _ _ ⟨h1,h2⟩=>⟨h1,h2.symm⟩
theorem zgP (x:Nat)(h:x≤1000)(w:World) :
  Calls Tryz.prog 61 #[.int .u64 x] w fun e w'=>e=.returned (.int .i64 (Lib.bitLen x))∧w=w' :=
 (Any.bits_Len Tryz.lLen (x:Int) w (by omega) (by omega)).mono fun _ _ ⟨h1,h2⟩=>⟨by rw [h1,Int.toNat_natCast],h2.symm⟩
def zgQ (h l:Int):Int:=bits BinOp.or .u64 (IntKind.u64.wrap (h * 4)) (l / 4611686018427387904)
def sqF (a:Nat):Int:=zgQ ((a * a / 18446744073709551616:Nat):Int) ((a * a % 18446744073709551616:Nat):Int)
def upF (b:Nat):Int:=IntKind.u64.wrap (sqF b+1)
def geF (z:Int):Bool:=decide ((9223372036854775808:Int)≤z)
def rdF (s:Nat × Nat × Nat):Nat × Nat × Nat :=
 if geF (sqF s.1) then ((sqF s.1 / 2).toNat,(IntKind.u64.wrap (upF s.2.1 / 2+1)).toNat,s.2.2 * 2+1) else ((sqF s.1).toNat,(upF s.2.1).toNat,s.2.2 * 2)
def stF (s:Nat × Nat × Nat):Nat→Nat × Nat × Nat
 | 0=>s
 | k+1=>rdF (stF s k)
def okF (s:Nat × Nat × Nat):Bool :=
 decide (s.1<18446744073709551616) && decide (s.2.1<18446744073709551616) && decide (s.2.2≤1000000000) && decide (0≤sqF s.1) && decide (0≤upF s.2.1) && (geF (sqF s.1) || !geF (upF s.2.1)) && decide (0≤IntKind.u64.wrap (upF s.2.1 / 2+1))
def zgR (s:Nat × Nat × Nat)(n:Nat):Bool:=(List.range n).all fun k=>okF (stF s k)
def s2 : Nat × Nat × Nat:=(4611686018427387904,4611686018427387904,1)
def s3 : Nat × Nat × Nat:=(6917529027641081856,6917529027641081856,1)
def s5 : Nat × Nat × Nat:=(5764607523034234880,5764607523034234880,2)
theorem ok2 : zgR s2 26=true∧(stF s2 26).2.2=67108864:=by decide +kernel
theorem ok3 : zgR s3 26=true∧(stF s3 26).2.2=106365032:=by decide +kernel
theorem ok5 : zgR s5 26=true∧(stF s5 26).2.2=155821956:=by decide +kernel
theorem zgS {s:Nat × Nat × Nat}{n k:Nat}(h:zgR s n=true)(hk:k<n):okF (stF s k)=true:=List.all_eq_true.1 h k (List.mem_range.2 hk)
theorem zgT {s:Nat × Nat × Nat}(h:okF s=true):s.1<18446744073709551616∧s.2.1<18446744073709551616∧s.2.2≤1000000000∧0≤sqF s.1∧0≤upF s.2.1∧0≤IntKind.u64.wrap (upF s.2.1 / 2+1)∧((geF (sqF s.1)=true∧rdF s=((sqF s.1 / 2).toNat,(IntKind.u64.wrap (upF s.2.1 / 2+1)).toNat,s.2.2 * 2+1))∨(geF (sqF s.1)=false∧geF (upF s.2.1)=false∧rdF s=((sqF s.1).toNat,(upF s.2.1).toNat,s.2.2 * 2))):=by
 unfold okF at h;simp only [Bool.and_eq_true,decide_eq_true_eq] at h;obtain ⟨⟨⟨⟨⟨⟨h1,h2⟩,h3⟩,h4⟩,h5⟩,h6⟩,h7⟩:=h;refine ⟨h1,h2,h3,h4,h5,h7,?_⟩;unfold rdF
 cases hg:geF (sqF s.1) with
 | true=>left;exact ⟨rfl,by simp⟩
 | false =>
  right
  rw [hg] at h6
  refine ⟨rfl,by simpa using h6,by simp⟩
theorem zgU {z:Int}(h:0≤z):Value.int .u64 z=.int .u64 ((z.toNat:Nat):Int):=by rw [Int.toNat_of_nonneg h]
theorem zgV (w:World) :
  Calls Tryz.prog 186 #[.int .i64 2] w fun e w'=>e=.returned (.tuple #[.int .i64 67108864,.bool true])∧w=w':=by
 have hb:Lib.bitLen 2=2:=by decide
 have hl:=zgP 2 (by omega) w;rw [hb] at hl;have hl2:Calls Tryz.prog 61 #[.int .u64 2] w fun e w'=>e=.returned (.int .i64 2)∧w=w':=hl;have hst:s2=stF s2 0:=rfl;have hal:=ok2;obtain ⟨S,hS⟩:∃ S:Nat→Nat × Nat × Nat,S=stF s2:=⟨_,rfl⟩;have hok:∀ k,k<26→okF (S k)=true:=fun k hk=>by rw [hS];exact zgS hal.1 hk
 have hnx:∀ k,S (k+1)=rdF (S k):=fun k=>by rw [hS];rfl
 have h0:Value.int .u64 4611686018427387904=.int .u64 (((S 0).1:Nat):Int)∧Value.int .u64 4611686018427387904=.int .u64 (((S 0).2.1:Nat):Int)∧Value.int .i64 1=.int .i64 (((S 0).2.2:Nat):Int):=by rw [hS];exact ⟨rfl,rfl,rfl⟩
 have hend:(S 26).2.2=67108864:=by rw [hS];exact hal.2
 have Hl2:=Lib.hid hl2;have Hok:=Lib.hid hok;have Hnx:=Lib.hid hnx;have H0:=Lib.hid h0;have Hend:=Lib.hid hend;clear hl2 hok hnx h0 hend;clear hl hb hst hal hS;go_enter Tryz.func186,Tryz.ntmps186
 go_wp2_with fail
 refine Hl2.out.mono ?_;rintro e W ⟨rfl,rfl⟩;go_wp2_with fail
 go_loop [5,6,7,8,9,21] (fun v5 v6 v7 v8 v9 v21=>∃ k:Nat,v21=.int .i64 k∧k≤26∧v5=.int .u64 (((S k).1:Nat):Int)∧v6=.int .u64 (((S k).2.1:Nat):Int)∧v7=.int .i64 (((S k).2.2:Nat):Int)) (fun _ _ _ _ _ v21=>26 - (zag v21).toNat)
 case atStart=>exact ⟨0,rfl,by omega,H0.out.1,H0.out.2.1,H0.out.2.2⟩
 case round =>
  obtain ⟨k,rfl,hk,rfl,rfl,rfl⟩:=hrel;by_cases hk26:k<26
  ·obtain ⟨ha,hb,hc,p1,p2,p3,hcs⟩:=zgT (Hok.out k hk26);have hn:=Hnx.out k;have hm1:=zgO (S k).1 (S k).1 ha ha w;have hm2:=zgO (S k).2.1 (S k).2.1 hb hb w;have e1:bits BinOp.or .u64 (IntKind.u64.wrap (((((S k).1 * (S k).1 / 18446744073709551616:Nat):Int)) * 4)) ((((S k).1 * (S k).1 % 18446744073709551616:Nat):Int) / 4611686018427387904)=sqF (S k).1:=rfl;have e2:bits BinOp.or .u64 (IntKind.u64.wrap (((((S k).2.1 * (S k).2.1 / 18446744073709551616:Nat):Int)) * 4)) ((((S k).2.1 * (S k).2.1 % 18446744073709551616:Nat):Int) / 4611686018427387904)=sqF (S k).2.1:=rfl;have e3:IntKind.u64.wrap (sqF (S k).2.1+1)=upF (S k).2.1:=rfl;generalize (S k).1 * (S k).1 / 18446744073709551616=ah at *;generalize (S k).1 * (S k).1 % 18446744073709551616=al at *;generalize (S k).2.1 * (S k).2.1 / 18446744073709551616=bh at *;generalize (S k).2.1 * (S k).2.1 % 18446744073709551616=bl at *;generalize sqF (S k).1=m1 at *;generalize sqF (S k).2.1=m2 at *;generalize upF (S k).2.1=m3 at *;generalize rdF (S k)=sn at *;generalize (S k).1=a at *;generalize (S k).2.1=b at *;generalize (S k).2.2=c at *;clear ha hb;rcases hcs with ⟨hg,hr⟩ | ⟨hg,hg2,hr⟩
   ·have t1:decide ((9223372036854775808:Int)≤m1)=true:=hg;have e4:∃ m4,IntKind.u64.wrap (m3 / 2+1)=m4:=⟨_,rfl⟩;obtain ⟨m4,e4⟩:=e4;rw [e4] at hr p3;have Hm1:=Lib.hid hm1;have Hm2:=Lib.hid hm2;have Hr:=Lib.hid hr;have Hn:=Lib.hid hn;have P1:=Lib.hid p1;have P2:=Lib.hid p2;have P3:=Lib.hid p3;clear hm1 hm2 hr hn p1 p2 p3;clear hg;go_wp2_with fail
    refine Hm1.out.mono ?_;rintro e W ⟨rfl,rfl⟩;go_wp2_with fail
    refine Hm2.out.mono ?_;rintro e W ⟨rfl,rfl⟩;go_wp2_with fail
    go_round
    case rel =>
     refine ⟨k+1,by go_num,by omega,?_,?_,?_⟩
     ·rw [Hn.out,Hr.out,zgU (by have:=P1.out;omega)]
     ·rw [Hn.out,Hr.out,zgU P3.out]
     ·rw [Hn.out,Hr.out];go_num
    case measure=>simp [zag];omega
   ·have t1:decide ((9223372036854775808:Int)≤m1)=false:=hg;have t2:decide ((9223372036854775808:Int)≤m3)=false:=hg2;have Hm1:=Lib.hid hm1;have Hm2:=Lib.hid hm2;have Hr:=Lib.hid hr;have Hn:=Lib.hid hn;have P1:=Lib.hid p1;have P2:=Lib.hid p2;clear hm1 hm2 hr hn p1 p2;clear hg hg2 p3;go_wp2_with fail
    refine Hm1.out.mono ?_;rintro e W ⟨rfl,rfl⟩;go_wp2_with fail
    refine Hm2.out.mono ?_;rintro e W ⟨rfl,rfl⟩;go_wp2_with fail
    go_round
    case rel =>
     refine ⟨k+1,by go_num,by omega,?_,?_,?_⟩
     ·rw [Hn.out,Hr.out,zgU P1.out]
     ·rw [Hn.out,Hr.out,zgU P2.out]
     ·rw [Hn.out,Hr.out];go_num
    case measure=>simp [zag];omega
  ·obtain rfl:k=26:=by omega
   have he:=Hend.out;generalize (S 26).2.2=c at *;generalize (S 26).2.1=b at *;generalize (S 26).1=a at *;subst he;go_wp2
   go_ret2
   exact ⟨rfl,rfl⟩
theorem zgW (w:World) :
  Calls Tryz.prog 186 #[.int .i64 3] w fun e w'=>e=.returned (.tuple #[.int .i64 106365032,.bool true])∧w=w':=by
 have hb:Lib.bitLen 3=2:=by decide
 have hl:=zgP 3 (by omega) w;rw [hb] at hl;have hl2:Calls Tryz.prog 61 #[.int .u64 3] w fun e w'=>e=.returned (.int .i64 2)∧w=w':=hl;have hst:s3=stF s3 0:=rfl;have hal:=ok3;obtain ⟨S,hS⟩:∃ S:Nat→Nat × Nat × Nat,S=stF s3:=⟨_,rfl⟩;have hok:∀ k,k<26→okF (S k)=true:=fun k hk=>by rw [hS];exact zgS hal.1 hk
 have hnx:∀ k,S (k+1)=rdF (S k):=fun k=>by rw [hS];rfl
 have h0:Value.int .u64 6917529027641081856=.int .u64 (((S 0).1:Nat):Int)∧Value.int .u64 6917529027641081856=.int .u64 (((S 0).2.1:Nat):Int)∧Value.int .i64 1=.int .i64 (((S 0).2.2:Nat):Int):=by rw [hS];exact ⟨rfl,rfl,rfl⟩
 have hend:(S 26).2.2=106365032:=by rw [hS];exact hal.2
 have Hl2:=Lib.hid hl2;have Hok:=Lib.hid hok;have Hnx:=Lib.hid hnx;have H0:=Lib.hid h0;have Hend:=Lib.hid hend;clear hl2 hok hnx h0 hend;clear hl hb hst hal hS;go_enter Tryz.func186,Tryz.ntmps186
 go_wp2_with fail
 refine Hl2.out.mono ?_;rintro e W ⟨rfl,rfl⟩;go_wp2_with fail
 go_loop [5,6,7,8,9,21] (fun v5 v6 v7 v8 v9 v21=>∃ k:Nat,v21=.int .i64 k∧k≤26∧v5=.int .u64 (((S k).1:Nat):Int)∧v6=.int .u64 (((S k).2.1:Nat):Int)∧v7=.int .i64 (((S k).2.2:Nat):Int)) (fun _ _ _ _ _ v21=>26 - (zag v21).toNat)
 case atStart=>exact ⟨0,rfl,by omega,H0.out.1,H0.out.2.1,H0.out.2.2⟩
 case round =>
  obtain ⟨k,rfl,hk,rfl,rfl,rfl⟩:=hrel;by_cases hk26:k<26
  ·obtain ⟨ha,hb,hc,p1,p2,p3,hcs⟩:=zgT (Hok.out k hk26);have hn:=Hnx.out k;have hm1:=zgO (S k).1 (S k).1 ha ha w;have hm2:=zgO (S k).2.1 (S k).2.1 hb hb w;have e1:bits BinOp.or .u64 (IntKind.u64.wrap (((((S k).1 * (S k).1 / 18446744073709551616:Nat):Int)) * 4)) ((((S k).1 * (S k).1 % 18446744073709551616:Nat):Int) / 4611686018427387904)=sqF (S k).1:=rfl;have e2:bits BinOp.or .u64 (IntKind.u64.wrap (((((S k).2.1 * (S k).2.1 / 18446744073709551616:Nat):Int)) * 4)) ((((S k).2.1 * (S k).2.1 % 18446744073709551616:Nat):Int) / 4611686018427387904)=sqF (S k).2.1:=rfl;have e3:IntKind.u64.wrap (sqF (S k).2.1+1)=upF (S k).2.1:=rfl;generalize (S k).1 * (S k).1 / 18446744073709551616=ah at *;generalize (S k).1 * (S k).1 % 18446744073709551616=al at *;generalize (S k).2.1 * (S k).2.1 / 18446744073709551616=bh at *;generalize (S k).2.1 * (S k).2.1 % 18446744073709551616=bl at *;generalize sqF (S k).1=m1 at *;generalize sqF (S k).2.1=m2 at *;generalize upF (S k).2.1=m3 at *;generalize rdF (S k)=sn at *;generalize (S k).1=a at *;generalize (S k).2.1=b at *;generalize (S k).2.2=c at *;clear ha hb;rcases hcs with ⟨hg,hr⟩ | ⟨hg,hg2,hr⟩
   ·have t1:decide ((9223372036854775808:Int)≤m1)=true:=hg;have e4:∃ m4,IntKind.u64.wrap (m3 / 2+1)=m4:=⟨_,rfl⟩;obtain ⟨m4,e4⟩:=e4;rw [e4] at hr p3;have Hm1:=Lib.hid hm1;have Hm2:=Lib.hid hm2;have Hr:=Lib.hid hr;have Hn:=Lib.hid hn;have P1:=Lib.hid p1;have P2:=Lib.hid p2;have P3:=Lib.hid p3;clear hm1 hm2 hr hn p1 p2 p3;clear hg;go_wp2_with fail
    refine Hm1.out.mono ?_;rintro e W ⟨rfl,rfl⟩;go_wp2_with fail
    refine Hm2.out.mono ?_;rintro e W ⟨rfl,rfl⟩;go_wp2_with fail
    go_round
    case rel =>
     refine ⟨k+1,by go_num,by omega,?_,?_,?_⟩
     ·rw [Hn.out,Hr.out,zgU (by have:=P1.out;omega)]
     ·rw [Hn.out,Hr.out,zgU P3.out]
     ·rw [Hn.out,Hr.out];go_num
    case measure=>simp [zag];omega
   ·have t1:decide ((9223372036854775808:Int)≤m1)=false:=hg;have t2:decide ((9223372036854775808:Int)≤m3)=false:=hg2;have Hm1:=Lib.hid hm1;have Hm2:=Lib.hid hm2;have Hr:=Lib.hid hr;have Hn:=Lib.hid hn;have P1:=Lib.hid p1;have P2:=Lib.hid p2;clear hm1 hm2 hr hn p1 p2;clear hg hg2 p3;go_wp2_with fail
    refine Hm1.out.mono ?_;rintro e W ⟨rfl,rfl⟩;go_wp2_with fail
    refine Hm2.out.mono ?_;rintro e W ⟨rfl,rfl⟩;go_wp2_with fail
    go_round
    case rel =>
     refine ⟨k+1,by go_num,by omega,?_,?_,?_⟩
     ·rw [Hn.out,Hr.out,zgU P1.out]
     ·rw [Hn.out,Hr.out,zgU P2.out]
     ·rw [Hn.out,Hr.out];go_num
    case measure=>simp [zag];omega
  ·obtain rfl:k=26:=by omega
   have he:=Hend.out;generalize (S 26).2.2=c at *;generalize (S 26).2.1=b at *;generalize (S 26).1=a at *;subst he;go_wp2
   go_ret2
   exact ⟨rfl,rfl⟩
theorem zgX (w:World) :
  Calls Tryz.prog 186 #[.int .i64 5] w fun e w'=>e=.returned (.tuple #[.int .i64 155821956,.bool true])∧w=w':=by
 have hb:Lib.bitLen 5=3:=by decide
 have hl:=zgP 5 (by omega) w;rw [hb] at hl;have hl2:Calls Tryz.prog 61 #[.int .u64 5] w fun e w'=>e=.returned (.int .i64 3)∧w=w':=hl;have hst:s5=stF s5 0:=rfl;have hal:=ok5;obtain ⟨S,hS⟩:∃ S:Nat→Nat × Nat × Nat,S=stF s5:=⟨_,rfl⟩;have hok:∀ k,k<26→okF (S k)=true:=fun k hk=>by rw [hS];exact zgS hal.1 hk
 have hnx:∀ k,S (k+1)=rdF (S k):=fun k=>by rw [hS];rfl
 have h0:Value.int .u64 5764607523034234880=.int .u64 (((S 0).1:Nat):Int)∧Value.int .u64 5764607523034234880=.int .u64 (((S 0).2.1:Nat):Int)∧Value.int .i64 2=.int .i64 (((S 0).2.2:Nat):Int):=by rw [hS];exact ⟨rfl,rfl,rfl⟩
 have hend:(S 26).2.2=155821956:=by rw [hS];exact hal.2
 have Hl2:=Lib.hid hl2;have Hok:=Lib.hid hok;have Hnx:=Lib.hid hnx;have H0:=Lib.hid h0;have Hend:=Lib.hid hend;clear hl2 hok hnx h0 hend;clear hl hb hst hal hS;go_enter Tryz.func186,Tryz.ntmps186
 go_wp2_with fail
 refine Hl2.out.mono ?_;rintro e W ⟨rfl,rfl⟩;go_wp2_with fail
 go_loop [5,6,7,8,9,21] (fun v5 v6 v7 v8 v9 v21=>∃ k:Nat,v21=.int .i64 k∧k≤26∧v5=.int .u64 (((S k).1:Nat):Int)∧v6=.int .u64 (((S k).2.1:Nat):Int)∧v7=.int .i64 (((S k).2.2:Nat):Int)) (fun _ _ _ _ _ v21=>26 - (zag v21).toNat)
 case atStart=>exact ⟨0,rfl,by omega,H0.out.1,H0.out.2.1,H0.out.2.2⟩
 case round =>
  obtain ⟨k,rfl,hk,rfl,rfl,rfl⟩:=hrel;by_cases hk26:k<26
  ·obtain ⟨ha,hb,hc,p1,p2,p3,hcs⟩:=zgT (Hok.out k hk26);have hn:=Hnx.out k;have hm1:=zgO (S k).1 (S k).1 ha ha w;have hm2:=zgO (S k).2.1 (S k).2.1 hb hb w;have e1:bits BinOp.or .u64 (IntKind.u64.wrap (((((S k).1 * (S k).1 / 18446744073709551616:Nat):Int)) * 4)) ((((S k).1 * (S k).1 % 18446744073709551616:Nat):Int) / 4611686018427387904)=sqF (S k).1:=rfl;have e2:bits BinOp.or .u64 (IntKind.u64.wrap (((((S k).2.1 * (S k).2.1 / 18446744073709551616:Nat):Int)) * 4)) ((((S k).2.1 * (S k).2.1 % 18446744073709551616:Nat):Int) / 4611686018427387904)=sqF (S k).2.1:=rfl;have e3:IntKind.u64.wrap (sqF (S k).2.1+1)=upF (S k).2.1:=rfl;generalize (S k).1 * (S k).1 / 18446744073709551616=ah at *;generalize (S k).1 * (S k).1 % 18446744073709551616=al at *;generalize (S k).2.1 * (S k).2.1 / 18446744073709551616=bh at *;generalize (S k).2.1 * (S k).2.1 % 18446744073709551616=bl at *;generalize sqF (S k).1=m1 at *;generalize sqF (S k).2.1=m2 at *;generalize upF (S k).2.1=m3 at *;generalize rdF (S k)=sn at *;generalize (S k).1=a at *;generalize (S k).2.1=b at *;generalize (S k).2.2=c at *;clear ha hb;rcases hcs with ⟨hg,hr⟩ | ⟨hg,hg2,hr⟩
   ·have t1:decide ((9223372036854775808:Int)≤m1)=true:=hg;have e4:∃ m4,IntKind.u64.wrap (m3 / 2+1)=m4:=⟨_,rfl⟩;obtain ⟨m4,e4⟩:=e4;rw [e4] at hr p3;have Hm1:=Lib.hid hm1;have Hm2:=Lib.hid hm2;have Hr:=Lib.hid hr;have Hn:=Lib.hid hn;have P1:=Lib.hid p1;have P2:=Lib.hid p2;have P3:=Lib.hid p3;clear hm1 hm2 hr hn p1 p2 p3;clear hg;go_wp2_with fail
    refine Hm1.out.mono ?_;rintro e W ⟨rfl,rfl⟩;go_wp2_with fail
    refine Hm2.out.mono ?_;rintro e W ⟨rfl,rfl⟩;go_wp2_with fail
    go_round
    case rel =>
     refine ⟨k+1,by go_num,by omega,?_,?_,?_⟩
     ·rw [Hn.out,Hr.out,zgU (by have:=P1.out;omega)]
     ·rw [Hn.out,Hr.out,zgU P3.out]
     ·rw [Hn.out,Hr.out];go_num
    case measure=>simp [zag];omega
   ·have t1:decide ((9223372036854775808:Int)≤m1)=false:=hg;have t2:decide ((9223372036854775808:Int)≤m3)=false:=hg2;have Hm1:=Lib.hid hm1;have Hm2:=Lib.hid hm2;have Hr:=Lib.hid hr;have Hn:=Lib.hid hn;have P1:=Lib.hid p1;have P2:=Lib.hid p2;clear hm1 hm2 hr hn p1 p2;clear hg hg2 p3;go_wp2_with fail
    refine Hm1.out.mono ?_;rintro e W ⟨rfl,rfl⟩;go_wp2_with fail
    refine Hm2.out.mono ?_;rintro e W ⟨rfl,rfl⟩;go_wp2_with fail
    go_round
    case rel =>
     refine ⟨k+1,by go_num,by omega,?_,?_,?_⟩
     ·rw [Hn.out,Hr.out,zgU P1.out]
     ·rw [Hn.out,Hr.out,zgU P2.out]
     ·rw [Hn.out,Hr.out];go_num
    case measure=>simp [zag];omega
  ·obtain rfl:k=26:=by omega
   have he:=Hend.out;generalize (S 26).2.2=c at *;generalize (S 26).2.1=b at *;generalize (S 26).1=a at *;subst he;go_wp2
   go_ret2
   exact ⟨rfl,rfl⟩
end
section
open Go.RowKit Go.Lib
attribute [local go_sem] Oper.semAt_some
def zgY (n₀ Bb:Nat)(W W':World):Prop:=Below n₀ W W'∧W'.heap[Bb]?=W.heap[Bb]?
def zgZ (l:List (Int × Int))(k:Nat):Int × Int:=l.getD k (2,0)
theorem zha (l:List (Int × Int))(k:Nat)(h:k<l.length):(zgc (l.map Prod.snd))[k]?=some (.string (I (zgZ l k).2)):=by
 unfold zgc zgZ;simp [List.getD_eq_getElem?_getD,List.getElem?_map,List.getElem?_eq_getElem h]
theorem zhb (l:List (Int × Int))(k:Nat)(h:k<l.length):(zak (l.map Prod.fst))[k]?=some (.int .i64 (zgZ l k).1):=by
 unfold zak zgZ;simp [List.getD_eq_getElem?_getD,List.getElem?_map,List.getElem?_eq_getElem h]
theorem zhc (l:List Int):(zgc l).length=l.length:=by unfold zgc;simp
theorem zhd (F:Fence)(n:Nat)(h8:F.fn 187)(hro:F.round=none)(hn:1≤n)(l Ba n₀:Nat)(aa ab:Option Addr)(ca cb:Nat)(z:Value)(x:List (Int × Int))(hreach:x.length≤1000000)(J Jx:List Nat→World→Prop)
  (hY:∀ pre p W,J pre W→pre.length<x.length→YieldAt F (n - 1) Tryz.prog l #[.int .i64 (zgZ x p).1,.string (I (zgZ x p).2)] W fun e W' =>
   (e=.returned (.bool true)∧J (pre++[p]) W'∧zgY n₀ Ba W W')∨(e=.returned (.bool false)∧Jx (pre++[p]) W'))
  (W:World) (hBa:zge W Ba (.slice aa x.length ca) (.slice ab x.length cb) z)
  (hx:∀ i,i<x.length→∃ b off,aa=some ⟨b,off,none⟩∧b<n₀∧W.cell? ⟨b,off+i,none⟩=some (.int .i64 (zgZ x i).1))
  (hy:∀ i,i<x.length→∃ b off,ab=some ⟨b,off,none⟩∧b<n₀∧W.cell? ⟨b,off+i,none⟩=some (.string (I (zgZ x i).2))) (h0:J [] W) :
  CallsIn F n Tryz.prog 187 #[.func (.yield l) #[] #[],.pointer (some ⟨Ba,0,none⟩)] W fun e W'=>(∃ v,e=.returned v) ∧
   ((∃ ys,ys=List.range x.length∧J ys W')∨(∃ pre,True∧Jx pre W')):=by
 have Hx:=Lib.hid hx;clear hx;have Hy:=Lib.hid hy;clear hy;have hc0:=hBa.c.1;have HBa:=Lib.hid hBa;clear hBa;refine callsIn_of_wp Tryz.func187 rfl h8 ?_ hro;simp only [Tryz.ntmps187,List.size_toArray,List.length_cons,List.length_nil,Nat.reduceAdd,Nat.reduceSub,Array.replicate_succ,Array.replicate_zero,List.push_toArray,List.append_toArray,List.nil_append,List.cons_append];gi_wp2;clear hc0;gi_loopw [8] (fun i wr=>∃ k:Nat,k≤x.length∧i=.int .i64 k∧J (List.range k) wr∧zgY n₀ Ba W wr)
  (fun i _=>x.length - (zag i).toNat)
 case atStart=>exact ⟨0,Nat.zero_le _,rfl,h0,Below.refl _ _,rfl⟩
 case round =>
  obtain ⟨k,hk,rfl,hJs,hnx⟩:=hrel;by_cases hlt:k<x.length
  ·obtain ⟨bx,ox,rfl,hbx,hcx0⟩:=Hx.out k hlt;obtain ⟨by_,oy,rfl,hby,hcy0⟩:=Hy.out k hlt;have hcx:wr.cell? ⟨bx,ox+k,none⟩=some (.int .i64 (zgZ x k).1):=(hnx.1.cell (p:=⟨bx,ox+k,none⟩) hbx).trans hcx0;have hb3:zge wr Ba (.slice (some ⟨bx,ox,none⟩) x.length ca) (.slice (some ⟨by_,oy,none⟩) x.length cb) z:=hnx.2.trans HBa.out;obtain ⟨_,hBbr,_⟩:=hb3.c;have hcy:wr.cell? ⟨by_,oy+k,none⟩=some (.string (I (zgZ x k).2)):=(hnx.1.cell (p:=⟨by_,oy+k,none⟩) hby).trans hcy0;have hup:List.range (k+1)=List.range k++[k]:=List.range_succ;have Hup:=Lib.hid hup;clear hup hcx0 hcy0 hb3;have Hnx:=Lib.hid hnx;clear hnx;obtain ⟨fn,tmps,assign,body,hy1,hR⟩:=hY _ k wr hJs (by rw [List.length_range];exact hlt);have HR:=Lib.hid hR;clear hR;clear hY;gi_wp2;refine HR.out.mono ?_;rintro e W3 (⟨rfl,hJ3,hk3⟩ | ⟨rfl,hJx3⟩)
   ·gi_wp2;go_roundw
    case rel=>exact ⟨k+1,by omega,by simp,by rw [Hup.out];exact hJ3,Hnx.out.1.trans hk3.1,hk3.2.trans Hnx.out.2⟩
    case measure=>simp [zag];omega
   ·gi_wp2;refine bodyPost_ret (results_none rfl _ _ _) rfl ?_;exact ⟨⟨_,rfl⟩,.inr ⟨_,trivial,hJx3⟩⟩
  ·obtain rfl:k=x.length:=by omega
   clear hY;gi_wp2;go_end0
   exact ⟨⟨_,rfl⟩,.inl ⟨_,rfl,hJs⟩⟩
theorem zhe (F:Fence)(n:Nat)(h5:F.fn 147)(hro:F.round=none)(a b c:Value)(w:World) :
  CallsIn F n Tryz.prog 147 #[.agg #[a,b,c]] w fun e w'=>e=.returned (.func (.func 187) #[] #[.pointer (some ⟨w.heap.size,0,none⟩)]) ∧
   w'=w.alloc (.cells #[a,b,c] 110):=by
 refine callsIn_of_wp Tryz.func147 rfl h5 ?_ hro;simp only [Tryz.ntmps147,List.size_toArray,List.length_cons,List.length_nil,Nat.reduceAdd,Nat.reduceSub,Array.replicate_succ,Array.replicate_zero,List.push_toArray,List.append_toArray,List.nil_append,List.cons_append];gi_wp2;go_ret
 exact ⟨rfl,rfl⟩
theorem zhf (F:Fence)(n:Nat)(h8:F.fn 187)(hro:F.round=none)(hn:1≤n)(Ba n₀:Nat)(aa ab:Option Addr)(ca cb:Nat)(z:Value)(x:List (Int × Int))(hreach:x.length≤1000000)(w:World)
  (hBa:zge w Ba (.slice aa x.length ca) (.slice ab x.length cb) z)
  (hx:∀ i,i<x.length→∃ b off,aa=some ⟨b,off,none⟩∧b<n₀∧w.cell? ⟨b,off+i,none⟩=some (.int .i64 (zgZ x i).1))
  (hy:∀ i,i<x.length→∃ b off,ab=some ⟨b,off,none⟩∧b<n₀∧w.cell? ⟨b,off+i,none⟩=some (.string (I (zgZ x i).2))) :
  SeqStopsK F n Tryz.prog 187 #[.pointer (some ⟨Ba,0,none⟩)] (fun p:Nat=>#[Value.int .i64 (zgZ x p).1,Value.string (I (zgZ x p).2)]) (zgY n₀ Ba) (fun ys=>ys=List.range x.length) (fun _=>True) x.length w:=fun l J Jx W hW _ _ hY h0=>by
 have hext:Ext w W:=hW;exact zhd F n h8 hro hn l Ba n₀ aa ab ca cb z x hreach J Jx hY W (hBa.ext hext)
  (fun i hi=>by obtain ⟨b,off,e,hb,hc⟩:=hx i hi;exact ⟨b,off,e,hb,hext.cell hc⟩)
  (fun i hi=>by obtain ⟨b,off,e,hb,hc⟩:=hy i hi;exact ⟨b,off,e,hb,hext.cell hc⟩) h0
end
section
open Go
def zhg (ops:Array Oper):Bool:=ops.toList.all fun o=>match o.op with | .defer _=>false | _=>true
theorem zhh {ops:Array Oper}(h:zhg ops=true){j:Nat}{o:Oper}(hj:ops[j]?=some o):∀ c,o.op ≠ .defer c:=by
 intro c hc;have hm:o∈ops.toList:=by
  rw [← Array.getElem?_toList] at hj;exact List.mem_of_getElem? hj
 have:=List.all_eq_true.1 h o hm;rw [hc] at this
 cases this
section
variable {F : Fence} {n l : Nat} {P : Program} {ops : Array Oper} {Q : Exit → Act → World → Prop} {md : Region.Mode}
theorem zhj (h:zhg ops=true)(i:Nat)(K:Act→World→Prop)(a:Act)(w:World):wpOpIn (F.inRound l) n P ops Q i K a w=wpOpIn F.plain n P ops Q i K a w:=by
 unfold wpOpIn
 cases ho:ops[i]? with
 | none=>rfl
 | some o =>
  have e:o.wpIn (F.inRound l) n P a w K Q=o.wpIn F.plain n P a w K Q:=by
   unfold Oper.wpIn;rw [Oper.semAt_eq _ _ _ (zhh h ho),Oper.semAt_eq _ _ _ (zhh h ho)];rfl
  simp only [e]
  rfl
theorem zhk (h:zhg ops=true):∀ (fuel:Nat)(listed:Array Bool)(a:Act)(w:World),wpAnyIn (F.inRound l) n P md ops Q fuel listed a w=wpAnyIn F.plain n P md ops Q fuel listed a w
 | 0,_,_,_=>rfl
 | fuel+1,listed,a,w=>by
  have ih:=fun i=>(funext fun a=>funext fun w=>zhk h fuel (listed.setIfInBounds i true) a w:wpAnyIn (F.inRound l) n P md ops Q fuel (listed.setIfInBounds i true)=_);show ((Region.ready md ops listed=[]→Q .normal a w)∧∀ i∈Region.ready md ops listed,wpOpIn (F.inRound l) n P ops Q i (wpAnyIn (F.inRound l) n P md ops Q fuel (listed.setIfInBounds i true)) a w)=((Region.ready md ops listed=[]→Q .normal a w)∧∀ i∈Region.ready md ops listed,wpOpIn F.plain n P ops Q i (wpAnyIn F.plain n P md ops Q fuel (listed.setIfInBounds i true)) a w);simp only [ih,zhj h]
theorem zhl {id:Nat}{a:Act}{w:World}(hm:P.follows .mixedOrders=true)(h:zhg ops=true)
  (H:wpAnyIn F.plain n P .any ops (NoPanic Q) ops.size (Array.replicate ops.size false) a w.drew):(Code.region id ops true).wpIn (F.inRound l) n P Q a w :=
 wpIn_mono (wpIn_region_any hm ((zhk h _ _ _ _).mpr H)) NoPanic.imp
end
end
end Go.Proofs.YtoehmpbipbbffaaGreatDoor
