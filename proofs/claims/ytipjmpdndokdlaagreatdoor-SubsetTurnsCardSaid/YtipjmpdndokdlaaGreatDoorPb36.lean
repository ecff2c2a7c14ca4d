/- Walk: the law SubsetTurns. What the rows' condition gives the walks, and the last step of a law (the seat of chapters 31 and 32). Walks: law 31's primes of a world. A world that came in. A pair of bytes that came in; sixteen bits that came in. -/
import Derived.Test.YtipjmpdndokdlaaGreatDoorPb35
import Derived.Test.YtipjmpdndokdlaaGreatDoorPb00
import Derived.Below
import Derived.ChangeSame
import Derived.OpenShut
import Derived.LaidMore
import Derived.ProofKit
import Derived.Stop.Joined
import Derived.Laws.IdiomArrays
import Derived.Test.YtipjmpdndokdlaaGreatDoorRows
import Derived.Test.YtipjmpdndokdlaaGreatDoorTie
import Derived.Test.YtipjmpdndokdlaaGreatDoorCards
import Derived.Handy
import Derived.Lay
import Derived.SevenTiedAt
import Derived.Stop.LaidErr
import Derived.Carry
import Derived.Test.YtipjmpdndokdlaaGreatDoorPb25
import Derived.Lib.SmallJoins
set_option maxRecDepth 100000
set_option maxHeartbeats 4000000
namespace Go.Proofs.YtipjmpdndokdlaaGreatDoor
open Go.RowKit Go.Lib Go.Shelf
attribute [local go_sem] Oper.semAt_some
/-- Two lists of ints that a call made, apart. -/
structure TwoI (W0 w : World) (va vb : Value) (la lb : List Int) : Prop where
 a:OwnI w W0.heap.size va la
 b:OwnI w W0.heap.size vb lb
 ne:∀ r,va.ownBlock=some r→vb.ownBlock ≠ some r
 x:Ext W0 w
theorem TwoI.nil (W : World) : TwoI W W (.slice none 0 0) (.slice none 0 0) [] []:=⟨⟨rfl,.inl ⟨rfl,rfl⟩⟩,⟨rfl,.inl ⟨rfl,rfl⟩⟩,fun r h => (by simp [Value.ownBlock] at h),Ext.refl _⟩
theorem TwoI.swap {W0 w : World} {va vb : Value} {la lb : List Int} (h : TwoI W0 w va vb la lb) : TwoI W0 w vb va lb la:=⟨h.b,h.a,fun r e f => h.ne r f e,h.x⟩
theorem TwoI.ext {W0 w w' : World} {va vb : Value} {la lb : List Int} (h : TwoI W0 w va vb la lb) (hx : Ext w w') : TwoI W0 w' va vb la lb:=⟨hx.ownI h.a,hx.ownI h.b,h.ne,h.x.trans hx⟩
theorem TwoI.put {W0 w V : World} {va vb : Value} {la lb : List Int} {o : Obj} {x : Int} {g cap n : Nat} (h : TwoI W0 w va vb la lb) (hn : la.length=n)
  (hown:V.ownsRow W0.heap.size 3 1 (.slice (some ⟨g,0,none⟩) (n + 1) cap) (n + 1) (i64s la ++ [.int .i64 x])) (hg:(w.alloc o).grownBy V va.ownBlock) (hat:va.ownBlock=some g ∨ g=w.heap.size + 1) :
  TwoI W0 V (.slice (some ⟨g,0,none⟩) (n + 1) cap) vb (la ++ [x]) lb:=by
 subst hn
 refine ⟨?_,?_,fun r e=>?_,?_⟩
 ·unfold OwnI
  rw [List.length_append,List.length_singleton,i64s,List.map_append]
  exact hown
 ·refine World.ownsRow.kept (World.ownsRow.alloc h.b o) hg ?_
  cases hv:vb.ownBlock with
  | none=>exact .inl rfl
  | some r=>exact .inr fun e=>h.ne r e.symm hv
 ·have e2:g=r:=by simpa [Value.ownBlock] using e
  subst e2
  intro f
  rcases hat with k | k
  ·exact h.ne g k f
  ·have:=(World.ownsRow.lt h.b g f).2
   omega
 ·exact (h.x.alloc o).grown hg fun k e=>(World.ownsRow.lt h.a k e).1
theorem bit_u16 (b k : Nat) (hb : b < 65536) : (bits .and .u16 ((b : Int) / 2 ^ k) 1 == 1)=b.testBit k:=by
 have e:((b:Int) / 2 ^ k)=((b / 2 ^ k:Nat):Int):=by
  rw [Int.natCast_ediv,Int.natCast_pow];rfl
 have hlt:b / 2 ^ k ≤ b:=Nat.div_le_self _ _
 have hx:b / 2 ^ k &&& 1 < 2 ^ 16:=Nat.and_lt_two_pow _ (by omega)
 have h1:(BitVec.ofInt 16 ((b / 2 ^ k:Nat):Int)).toNat=b / 2 ^ k:=by
  rw [BitVec.ofInt_natCast,BitVec.toNat_ofNat];exact Nat.mod_eq_of_lt (by omega)
 have h2:(BitVec.ofInt 16 (1:Int)).toNat=1:=by decide
 have h3:bits .and .u16 ((b:Int) / 2 ^ k) 1=((b / 2 ^ k % 2:Nat):Int):=by
  rw [e]
  show IntKind.u16.wrap ((BitVec.ofInt 16 ((b / 2 ^ k:Nat):Int) &&& BitVec.ofInt 16 (1:Int)).toNat:Int)=_
  rw [BitVec.toNat_and,h1,h2,Nat.and_one_is_mod]
  have:b / 2 ^ k % 2 < 2:=Nat.mod_lt _ (by omega)
  generalize b / 2 ^ k % 2=z at *
  have:z=0 ∨ z=1:=by omega
  rcases this with rfl | rfl <;> decide
 rw [h3,Nat.testBit_eq_decide_div_mod_eq,Bool.eq_iff_iff,beq_iff_eq,decide_eq_true_iff]
 omega
theorem bitL_succ (k : Nat) (q : Nat → Bool) : bitL (k + 1) q=bitL k q ++ if q k=true then [(k : Int)] else []:=by
 unfold bitL
 rw [List.range_succ,List.filter_append,List.map_append]
 congr 1
 by_cases h:q k=true
 ·rw [if_pos h,List.filter_cons_of_pos h];rfl
 ·rw [if_neg h,List.filter_cons_of_neg h];rfl
theorem bitL_ok (k : Nat) (q : Nat → Bool) : (∀ x ∈ bitL k q,0 ≤ x ∧ x < (k : Int)) ∧ (bitL k q).Pairwise (· < ·):=by
 unfold bitL
 constructor
 ·intro x hx
  obtain ⟨i,hi,rfl⟩:=List.mem_map.1 hx
  have:=List.mem_range.1 (List.mem_filter.1 hi).1
  omega
 ·rw [List.pairwise_map]
  exact (List.pairwise_lt_range.sublist List.filter_sublist).imp fun h=>by omega
theorem fit_bits (k : Nat) (p : Nat → Bool) (P : Int) (hn : bitL k p ≠ []) (m : Int) (hm : ((bitL k p).length : Int)=m) :
  fitV P [2,3] (eqN k) k m [] (bitL k p)=.tuple #[.bool (tst P [2,3] (subN [2,3] (eqN k) (bitL k p))),.int .i64 0]:=by
 have h:=bitL_ok k p
 unfold fitV
 rw [if_pos (sub_yesE hn h.1 h.2),decide_eq_true hm]
 simp
theorem bitL_len (k : Nat) (q : Nat → Bool) : (bitL k q).length ≤ k:=by
 unfold bitL
 rw [List.length_map]
 exact Nat.le_trans (List.length_filter_le _ _) (by rw [List.length_range];exact Nat.le_refl _)
theorem turnsL_c (n b x0 x1 : Nat) (w : World) (he : Env w) (hn : n < 256) (hb : b < 65536) (hx0 : x0 < 256) (hx1 : x1 < 256) :
  Calls Tryz.prog 3 #[.int .u8 (n:Int),.int .u16 (b:Int),.agg #[.int .u8 (x0:Int),.int .u8 (x1:Int)]] w fun e w'=>e=.returned (.bool true)∧Ext w w':=by
 have hkn:=fun W (hE:Ext w W)=>known38_c W (he.ext hE)
 have heq:=fun (k:Nat) (h0:0 < k) (h60:k ≤ 60) W vp vb (hE:Ext w W) (hp:Sl W vp (i64s [2,3])) (hb:Rd W vb (ov 1))=>(scEqual_c vp vb k W (he.ext hE) hp hb h0 h60).mono fun e w' ⟨v,rs,h1,h2,h3,h4⟩=>(show ∃ a1 c1 a2 c2 rs,e=Ending.returned (.tuple #[.agg #[.slice a1 2 c1,.slice a2 k c2],.int .i64 0])∧Sl w' (.slice a1 2 c1) (i64s [2,3])∧RdM w' (.slice a2 k c2) rs∧rs.map Qw.x=eqN k∧Ext W w' by
  obtain ⟨vp,vn,rfl,hop,hqn⟩:=h2
  obtain ⟨a1,c1,rfl⟩:=own_shape hop
  obtain ⟨a2,c2,rfl⟩:=own_shape hqn.1
  have hl:=len_map h3 (eqN_len k)
  have hr:=hqn.rd
  rw [hl] at hr h1
  exact ⟨a1,c1,a2,c2,rs,h1,sl_own hop,hr,h3,h4⟩)
 have hE0:Ext w (w.alloc (.cells #[.int .u8 (x0:Int),.int .u8 (x1:Int)] 23)):=(Ext.refl w).alloc _
 obtain ⟨K,hK⟩:∃ K:Nat,K=2 + n % 11:=⟨_,rfl⟩
 have hKc:(2:Int) + (n:Int) % 11=(K:Int):=by omega
 have hK2:2 ≤ K∧K ≤ 12:=by omega
 have hcx0:=World.alloc_heap_new w (.cells #[.int .u8 (x0:Int),.int .u8 (x1:Int)] 23)
 have Hkn:=Lib.hid hkn;have Heq:=Lib.hid heq;have HE0:=Lib.hid hE0;have Hcx0:=Lib.hid hcx0;have HK:=Lib.hid hK;clear hkn heq hE0 hcx0 hK
 go_enter Tryz.func3,Tryz.ntmps3
 go_wp2_with fail
 refine (Hkn.out _ HE0.out).mono ?_
 rintro e w1 ⟨rfl,hx1⟩
 have HE1:=Lib.hid (HE0.out.trans hx1)
 have Hcx1:=Lib.hid (hx1.heap Hcx0.out)
 clear hx1
 go_wp2_with fail
 have hE3:=((Ext.refl w1).alloc (.cells #[.string ⟨#[48]⟩,.string ⟨#[49]⟩] 27)).alloc (.cells #[.string ⟨#[49]⟩,.string ⟨#[49]⟩] 27)
 generalize hW3:(w1.alloc (.cells #[.string ⟨#[48]⟩,.string ⟨#[49]⟩] 27)).alloc (.cells #[.string ⟨#[49]⟩,.string ⟨#[49]⟩] 27)=W3 at *
 have hz3:W3.heap.size=w1.heap.size + 1 + 1:=by rw [← hW3,World.size_alloc,World.size_alloc]
 obtain ⟨hp,hbb⟩:=eq_args W3 _ hz3
 have hE5:=(hE3.alloc (.cells #[.int .i64 2,.int .i64 3] 3)).alloc (.cells #[.string ⟨#[49]⟩,.string ⟨#[49]⟩,.string ⟨#[48]⟩,.string ⟨#[49]⟩] 27)
 refine (Heq.out K (by omega) (by omega) _ _ _ (HE1.out.trans hE5) hp hbb).mono ?_
 have Hcx5:=Lib.hid (hE5.heap Hcx1.out)
 have HE5:=Lib.hid (HE1.out.trans hE5)
 clear hE5 hp hbb hE3 hz3 hW3
 rintro e w2 ⟨a1,c1,a2,c2,rs,rfl,hp2,hn2,hm,hx2⟩
 have hb2:=BoxT.new 32 w2 (.slice a1 2 c1) (.slice a2 K c2)
 have hE6:=(Ext.refl w2).alloc (.cells #[.slice a1 2 c1,.slice a2 K c2] 32)
 have HE6:=Lib.hid ((HE5.out.trans hx2).trans hE6);have Hp2:=Lib.hid (hE6.sl hp2);have Hn2:=Lib.hid (hE6.rdM hn2);have Hb2:=Lib.hid hb2;have Hm:=Lib.hid hm
 have Hcx:=Lib.hid ((hx2.trans hE6).heap Hcx5.out)
 clear hp2 hn2 hx2 hE6 hb2 hm
 go_wp2_with fail
 generalize w2.alloc (.cells #[.slice a1 2 c1,.slice a2 K c2] 32)=W6 at *
 have hW0:w.heap.size < W6.heap.size:=(Array.getElem?_eq_some_iff.1 Hcx.out).1
 have hcx:∀ V,Ext W6 V→V.cell? ⟨w.heap.size,0,none⟩=some (.int .u8 (x0:Int))∧V.cell? ⟨w.heap.size,1,none⟩=some (.int .u8 (x1:Int)):=fun V hE=>by
  have h:=hE.heap Hcx.out
  unfold World.cell?
  dsimp only
  rw [h]
  exact ⟨rfl,rfl⟩
 obtain ⟨i0,hj,hz0,hz1,hz2⟩:=info_parts info_int
 obtain ⟨t,ht⟩:∃ t:Nat,x1 % K=t:=⟨_,rfl⟩
 have hxt:(x1:Int) % (K:Int)=(t:Int):=by rw [← ht];rfl
 have htK:t < K:=by rw [← ht];exact Nat.mod_lt _ (by omega)
 obtain ⟨p,hp⟩:∃ p:Nat→Bool,p=fun i=>b.testBit i:=⟨_,rfl⟩
 obtain ⟨q,hq⟩:∃ q:Nat→Bool,q=fun i=>p ((i + t) % K):=⟨_,rfl⟩
 have Hp:=Lib.hid hp;have Hq:=Lib.hid hq;have Hxc:=Lib.hid hcx
 clear hp hq hcx ht
 go_loopw [12,13,14] (fun v12 v13 v14 wr=>∃ k:Nat,v14=.int .i64 k∧k ≤ K∧TwoI W6 wr v12 v13 (bitL k p) (bitL k q)) (fun _ _ v14 _=>K - (intOf v14).toNat)
 case atStart=>exact ⟨0,rfl,Nat.zero_le _,TwoI.nil W6⟩
 case round =>
  obtain ⟨k,rfl,hk,hT⟩:=hrel
  obtain ⟨aa,ca,rfl⟩:=own_shape hT.a
  obtain ⟨ab,cb,rfl⟩:=own_shape hT.b
  have hLa:=bitL_len k p
  have hLb:=bitL_len k q
  have ha:=hT.a
  have hbo:=hT.b
  unfold OwnI at ha hbo
  have hsp:=bitL_succ k p
  have hsq:=bitL_succ k q
  have hc1:=(Hxc.out wr hT.x).2
  have hwr:=hT.x.size
  generalize hla:(bitL k p).length=La at *
  generalize hlb:(bitL k q).length=Lb at *
  have HT:=Lib.hid hT;have Hla:=Lib.hid hla;have Hlb:=Lib.hid hlb;have Hsp:=Lib.hid hsp;have Hsq:=Lib.hid hsq;have Ha:=Lib.hid ha;have Hbo:=Lib.hid hbo
  clear hT hla hlb hsp hsq ha hbo
  by_cases hkK:k < K
  ·have hk0:(k:Int) < (K:Int):=by omega
   have hKz:¬ (K:Int)=0:=by omega
   have hq1:=bit_u16 b k hb
   obtain ⟨j,hj0⟩:∃ j:Nat,(k + t) % K=j:=⟨_,rfl⟩
   have hjt:((k:Int) + (t:Int)) % (K:Int)=(j:Int):=by rw [← hj0];rfl
   have hjK:j < K:=by rw [← hj0];exact Nat.mod_lt _ (by omega)
   have hq2:=bit_u16 b j hb
   rw [show b.testBit k=p k by rw [Hp.out]] at hq1
   rw [show b.testBit j=q k by rw [Hq.out,Hp.out,← hj0]] at hq2
   clear hj0
   cases hb1:p k with
   | true =>
    cases hb2:q k with
    | true =>
     have Hs1:=Lib.hid (show bitL (k + 1) p=bitL k p ++ [(k:Int)] by rw [Hsp.out,hb1];simp)
     have Hs2:=Lib.hid (show bitL (k + 1) q=bitL k q ++ [(k:Int)] by rw [Hsq.out,hb2];simp)
     rw [hb1] at hq1
     rw [hb2] at hq2
     have hm3:La + 1 ≤ maxLen:=by unfold maxLen;omega
     have hm4:(La + 1) * 8 ≤ 140737488355328:=by omega
     have hm5:Lb + 1 ≤ maxLen:=by unfold maxLen;omega
     have hm6:(Lb + 1) * 8 ≤ 140737488355328:=by omega
     go_wp2_with (first | (at_builtin;refine wpList_append_lies _ rfl _ _ 28 rfl W6.heap.size 3 i0 (.int .i64 0) 1 8 Tryz.underlying28 hj hz0 hz1 hz2 rfl (by decide) _ _ _ rfl (Ha.out.alloc _) ⟨wr.heap.size,0,none⟩ 1 1 [.int .i64 (k:Int)] rfl rfl (cell_one_new _ _ _) (by simp [Value.oneCell']) (by decide) hm3 hm4 (by rw [World.size_alloc];omega) (wr.heap.size + 1) (by rw [World.size_alloc]) ?_;intro g1 cc1 V1 hown1 hgrow1 hat1 hlt1;have HT1:=Lib.hid (TwoI.put HT.out Hla.out hown1 hgrow1 hat1);have hcV:=(Hxc.out V1 HT1.out.x).2;have hwV:=HT1.out.x.size;have hbo:=HT1.out.b;unfold OwnI at hbo;rw [Hlb.out] at hbo;have Hbo2:=Lib.hid hbo;clear hbo hown1 hgrow1 hat1 hlt1) | (at_builtin;refine wpList_append_lies _ rfl _ _ 28 rfl W6.heap.size 3 i0 (.int .i64 0) 1 8 Tryz.underlying28 hj hz0 hz1 hz2 rfl (by decide) _ _ _ rfl (Hbo2.out.alloc _) ⟨V1.heap.size,0,none⟩ 1 1 [.int .i64 (k:Int)] rfl rfl (cell_one_new _ _ _) (by simp [Value.oneCell']) (by decide) hm5 hm6 (by rw [World.size_alloc];omega) (V1.heap.size + 1) (by rw [World.size_alloc]) ?_;intro g2 cc2 V2 hown2 hgrow2 hat2 hlt2;have HT2:=Lib.hid (TwoI.put HT1.out.swap Hlb.out hown2 hgrow2 hat2).swap;clear hown2 hgrow2 hat2 hlt2))
     go_roundw
     case rel=>exact ⟨k + 1,by go_num,hkK,by rw [Hs1.out,Hs2.out];exact HT2.out⟩
     case measure=>simp [intOf];omega
    | false =>
     have Hs1:=Lib.hid (show bitL (k + 1) p=bitL k p ++ [(k:Int)] by rw [Hsp.out,hb1];simp)
     have Hs2:=Lib.hid (show bitL (k + 1) q=bitL k q by rw [Hsq.out,hb2];simp)
     rw [hb1] at hq1
     rw [hb2] at hq2
     have hm3:La + 1 ≤ maxLen:=by unfold maxLen;omega
     have hm4:(La + 1) * 8 ≤ 140737488355328:=by omega
     go_wp2_with (at_builtin;refine wpList_append_lies _ rfl _ _ 28 rfl W6.heap.size 3 i0 (.int .i64 0) 1 8 Tryz.underlying28 hj hz0 hz1 hz2 rfl (by decide) _ _ _ rfl (Ha.out.alloc _) ⟨wr.heap.size,0,none⟩ 1 1 [.int .i64 (k:Int)] rfl rfl (cell_one_new _ _ _) (by simp [Value.oneCell']) (by decide) hm3 hm4 (by rw [World.size_alloc];omega) (wr.heap.size + 1) (by rw [World.size_alloc]) ?_;intro g1 cc1 V1 hown1 hgrow1 hat1 hlt1;have HT1:=Lib.hid (TwoI.put HT.out Hla.out hown1 hgrow1 hat1);have hcV:=(Hxc.out V1 HT1.out.x).2;have hwV:=HT1.out.x.size;clear hown1 hgrow1 hat1 hlt1)
     go_roundw
     case rel=>exact ⟨k + 1,by go_num,hkK,by rw [Hs1.out,Hs2.out];exact HT1.out⟩
     case measure=>simp [intOf];omega
   | false =>
    cases hb2:q k with
    | true =>
     have Hs1:=Lib.hid (show bitL (k + 1) p=bitL k p by rw [Hsp.out,hb1];simp)
     have Hs2:=Lib.hid (show bitL (k + 1) q=bitL k q ++ [(k:Int)] by rw [Hsq.out,hb2];simp)
     rw [hb1] at hq1
     rw [hb2] at hq2
     have hm3:Lb + 1 ≤ maxLen:=by unfold maxLen;omega
     have hm4:(Lb + 1) * 8 ≤ 140737488355328:=by omega
     go_wp2_with (at_builtin;refine wpList_append_lies _ rfl _ _ 28 rfl W6.heap.size 3 i0 (.int .i64 0) 1 8 Tryz.underlying28 hj hz0 hz1 hz2 rfl (by decide) _ _ _ rfl (Hbo.out.alloc _) ⟨wr.heap.size,0,none⟩ 1 1 [.int .i64 (k:Int)] rfl rfl (cell_one_new _ _ _) (by simp [Value.oneCell']) (by decide) hm3 hm4 (by rw [World.size_alloc];omega) (wr.heap.size + 1) (by rw [World.size_alloc]) ?_;intro g2 cc2 V2 hown2 hgrow2 hat2 hlt2;have HT2:=Lib.hid (TwoI.put HT.out.swap Hlb.out hown2 hgrow2 hat2).swap;clear hown2 hgrow2 hat2 hlt2)
     go_roundw
     case rel=>exact ⟨k + 1,by go_num,hkK,by rw [Hs1.out,Hs2.out];exact HT2.out⟩
     case measure=>simp [intOf];omega
    | false =>
     have Hs1:=Lib.hid (show bitL (k + 1) p=bitL k p by rw [Hsp.out,hb1];simp)
     have Hs2:=Lib.hid (show bitL (k + 1) q=bitL k q by rw [Hsq.out,hb2];simp)
     rw [hb1] at hq1
     rw [hb2] at hq2
     go_wp2_with fail
     go_roundw
     case rel=>exact ⟨k + 1,by go_num,hkK,by rw [Hs1.out,Hs2.out];exact HT.out⟩
     case measure=>simp [intOf];omega
  ·have hkk:k=K:=by omega
   subst hkk
   have hkn:¬ (k:Int) < (k:Int):=by omega
   have hb6:=Hb2.out.ext HT.out.x
   have d0:=hb6.c0
   have d1:=hb6.c1
   have dx:=(Hxc.out wr HT.out.x).1
   clear hb6 hk
   by_cases hL0:La=0
   ·subst hL0
    clear hc1 hLb
    have HEz:=Lib.hid (HE6.out.trans HT.out.x)
    go_wp2_with fail
    go_ret
    exact ⟨rfl,HEz.out⟩
   ·have hLn:¬ (La:Int)=0:=by omega
    have hne:bitL k p ≠ []:=fun e=>hL0 (by rw [← Hla.out,e];rfl)
    have hwc:Wc [2,3] (eqN k):=eq_wc (by omega) (by omega)
    obtain ⟨hbn,hbl,m0,hbm⟩:=turn_bits (n:=k) (t:=t) (by omega) htK p hne
    rw [← Hq.out] at hbn hbl hbm
    have hLL:Lb=La:=by rw [← Hla.out,← Hlb.out,hbl]
    subst hLL
    have hokp:=bitL_ok k p
    have hokq:=bitL_ok k q
    have hqy:=qyv_new (p:=[2,3]) (m:=(Lb:Int)) (P:=1 + (x0:Int) % 6) (b:=false) (vm:=.slice none 0 0) (M:=[]) ((HT.out.x).sl Hp2.out) ((HT.out.x).rdM Hn2.out) (.inl ⟨none,0,rfl,Nat.zero_le _,rfl⟩)
    have hrl:=len_map Hm.out (eqN_len k)
    have hqe:qryE rs.length (Lb:Int) (1 + (x0:Int) % 6) []=0:=by
     rw [hrl]
     unfold qryE
     rw [if_neg (by omega),if_neg (by omega)]
     rfl
    have hE7:=(Ext.refl wr).alloc (.cells #[.slice a1 2 c1,.slice a2 k c2,.int .i64 (Lb:Int),.int .i64 (1 + (x0:Int) % 6),.slice none 0 0,.bool false] 39)
    have hb7:=Box6.new wr (.slice a1 2 c1) (.slice a2 k c2) (Lb:Int) (1 + (x0:Int) % 6) (.slice none 0 0) false
    have hq7:=hqy.ext hE7
    have hf:=fun (u:Nat→Bool) (vu:Value) V (hE:Ext wr V) (hq:QyV V (.agg #[.slice a1 2 c1,.slice a2 k c2,.int .i64 (Lb:Int),.int .i64 (1 + (x0:Int) % 6),.slice none 0 0,.bool false]) [2,3] rs (Lb:Int) (1 + (x0:Int) % 6) [] false) (hl:Sl V vu (i64s (bitL k u))) (hn:bitL k u ≠ []) (hlen:(bitL k u).length=Lb)=>(show Calls Tryz.prog 10 #[.agg #[.slice a1 2 c1,.slice a2 k c2,.int .i64 (Lb:Int),.int .i64 (1 + (x0:Int) % 6),.slice none 0 0,.bool false],vu] V fun e w'=>e=.returned (.tuple #[.bool (tst (1 + (x0:Int) % 6) [2,3] (subN [2,3] (eqN k) (bitL k u))),.int .i64 0])∧Ext V w' from by
     have hok:=bitL_ok k u
     have:=fits_c _ vu [2,3] rs (Lb:Int) (1 + (x0:Int) % 6) [] false (bitL k u) V (he.ext ((HE6.out.trans HT.out.x).trans hE)) hq (by rw [Hm.out];exact hwc.wd) hl (by omega) hqe (by simp) (fun _ _ _=>by rw [Hm.out];exact sub_wc hwc hn (by omega) (by rw [eqN_len];exact hok.1) hok.2)
     rw [Hm.out,hrl,fit_bits k u (1 + (x0:Int) % 6) hn (Lb:Int) (by rw [hlen])] at this
     exact this)
    have hf1:=hf p _ _ hE7 hq7 (sl_own (hE7.ownI HT.out.a)) hne Hla.out
    have hf2:=fun V (hE:Ext (wr.alloc (.cells #[.slice a1 2 c1,.slice a2 k c2,.int .i64 (Lb:Int),.int .i64 (1 + (x0:Int) % 6),.slice none 0 0,.bool false] 39)) V)=>hf q _ V (hE7.trans hE) (hq7.ext hE) (sl_own ((hE7.trans hE).ownI HT.out.b)) hbn (by rw [hbl];exact Hla.out)
    rw [hbm,tst_md (sub_wc hwc hne (by rw [Hla.out];omega) (by rw [eqN_len];exact hokp.1) hokp.2) (1 + (x0:Int) % 6) m0] at hf2
    generalize tst (1 + (x0:Int) % 6) [2,3] (subN [2,3] (eqN k) (bitL k p))=T at *
    have Hf1:=Lib.hid hf1;have Hf2:=Lib.hid hf2;have Hb7:=Lib.hid hb7;have HE7:=Lib.hid ((HE6.out.trans HT.out.x).trans hE7)
    clear hf1 hf2 hb7 hE7 hq7 hf hqe hrl hqy hokp hokq hbn hbl hbm hne hwc hc1
    go_wp2_with fail
    refine Hf1.out.mono ?_
    generalize wr.alloc (.cells #[.slice a1 2 c1,.slice a2 k c2,.int .i64 (Lb:Int),.int .i64 (1 + (x0:Int) % 6),.slice none 0 0,.bool false] 39)=W7 at *
    rintro e w8 ⟨rfl,hx8⟩
    obtain ⟨q0,q1,q2,q3,q4,q5⟩:=(Hb7.out.ext hx8).cs
    have Hf3:=Lib.hid (Hf2.out w8 hx8);have HE8:=Lib.hid (HE7.out.trans hx8)
    clear hx8 d0 d1 dx
    go_wp2_with fail
    refine Hf3.out.mono ?_
    rintro e w9 ⟨rfl,hx9⟩
    have HE9:=Lib.hid (HE8.out.trans hx9)
    clear hx9 q0 q1 q2 q3 q4 q5
    cases T with
    | true =>
     go_wp2_with fail
     go_ret
     exact ⟨rfl,HE9.out⟩
    | false =>
     go_wp2_with fail
     go_ret
     exact ⟨rfl,HE9.out⟩
end Go.Proofs.YtipjmpdndokdlaaGreatDoor

namespace Go.Proofs.YtipjmpdndokdlaaGreatDoor
open Go.ChangeShapes Go.WideShapes Go.ChangeAt Go.WideMaps Go.WideElems Go.RowKit
theorem bounds_u8 {n : Int} (h : (Lit.int .u8 n).wf=true) : 0 ≤ n ∧ n ≤ 255:=by
 simp [Lit.wf,IntKind.min,IntKind.max,IntKind.signed,IntKind.bits] at h
 omega
section
variable {H : Type} {enc : TypeId × Value → H} {P : Program}
theorem post_of_below {f : Func} {s : ChangeSpec} {apart fresh handsOn again : Bool} {W W' : World} {args : Array Value} {v : Value} {ds gs : List (DataW H)} {before pa pv : List MemPlace}
  (hW:DataW.Whole enc P f.params.toList s.vars apart W args.toList ds gs before)
  (hres:∀ (b:Nat) (sp:Nat→Bool) (hd:Bool),DataW.TrodAll enc P W' b sp hd f.resultTypes.toList (v.resultList f.resultTypes.size) (s.fn H (ds ++ gs)).results [])
  (hargs:∀ sp:Nat→Bool,(∀ p ∈ before,sp p.block=true)→DataW.TrodAll enc P W' 0 sp true f.params.toList args.toList (s.fn H (ds ++ gs)).args pa)
  (hvars:∀ sp:Nat→Bool,(∀ p ∈ before,sp p.block=true)→DataW.TrodVars enc P W' sp s.vars (s.fn H (ds ++ gs)).vars pv)
  (hps:before=pa ++ pv) (hb:Below W.heap.size W W')
  (hok:∀ (j:Nat) (t:TypeId) (r:Value),f.resultTypes[j]?=some t→(v.resultList f.resultTypes.size)[j]?=some r→Value.okWide P W' .any 0 t r) :
  s.post enc P f apart fresh handsOn again W args v W':=by
 have hlt:∀ p ∈ before,p.block < W.heap.size:=fun p hp=>hW.lt p hp
 have hold:∀ p ∈ before,(fun b=>decide (b < W.heap.size)) p.block=true:=fun p hp=>by simpa using hlt p hp
 refine ⟨ds,gs,before,[],pa,pv,hW,hres _ _ _,hargs _ hold,hvars _ hold,World.keptBut_mono (fun p hp=>⟨hp,?_⟩) (hb.frame (· ∈ before)),fun _=>?_⟩
 ·rw [hps,List.mem_append] at hp
  exact Or.inr hp
 ·obtain ⟨_,_,_,_,_,hz,hn⟩:=hW
  refine ⟨hok,_,_,([] ++ pa) ++ pv,⟨[] ++ pa,pv,trodAll_append (hargs _ (fun _ _=>rfl)) (hres _ _ _),hvars _ (fun _ _=>rfl),rfl,?_,?_⟩,?_⟩
  ·intro b off hp
   have hin:MemPlace.cell b off ∈ before:=by rw [hps];simpa using hp
   rw [hb.frozen (hlt _ hin)]
   exact hz b off hin
  ·intro ha
   have:=hn ha
   rw [hps] at this
   simpa using this
  ·intro p hp _
   rw [hps]
   simpa using hp
end
theorem ownKnob_none : ownKnob Tryz.prog.godebug=none:=by kernel_rfl
theorem pow10_type : (Tryz.prog.globals[0]?).map (·.type)=some 310:=by kernel_rfl
theorem cells_u64 : Tryz.prog.cellsOf 211=1:=by kernel_rfl
theorem cells_pow10 : Tryz.prog.cellsOf 310=20:=by kernel_rfl
theorem env_of_laid {W : World} (h : laidMetH Tryz.prog [("math/bits.deBruijn32tab", Rows.laid_math_bits_deBruijn32tab), ("math/bits.deBruijn64tab", Rows.laid_math_bits_deBruijn64tab), ("internal/strconv.uint64pow10", Rows.laid_internal_strconv_uint64pow10), ("strconv.ErrRange", Rows.laid_strconv_ErrRange), ("strconv.ErrSyntax", Rows.laid_strconv_ErrSyntax)] W) : Env W := by
 rw [MakeChecks.laidMetH_plain _ _ _ (by kernel_rfl)] at h
 exact Lib.tabIs_of_head (k:=.u64) (zs:=Lib.pow10Tab) globalAt pow10_type Tryz.underlying310 Tryz.underlying211 cells_u64 cells_pow10 h.tail.tail
/-- The cells that the rows list. -/
def rowLaid : List (String × DataW Unit) := [("math/bits.deBruijn32tab", Rows.laid_math_bits_deBruijn32tab), ("math/bits.deBruijn64tab", Rows.laid_math_bits_deBruijn64tab), ("internal/strconv.uint64pow10", Rows.laid_internal_strconv_uint64pow10), ("strconv.ErrRange", Rows.laid_strconv_ErrRange), ("strconv.ErrSyntax", Rows.laid_strconv_ErrSyntax)]
theorem rows_shaped (os : Os) (args : Array Value) : ((World.laidAll Tryz.prog os rowLaid).forCall (fun _ _ => 0) ⟨#[],args,[]⟩).Shaped Tryz.prog:=World.shaped_of_ZipB (by kernel_rfl) (by kernel_rfl)
theorem rows_met (os : Os) (args : Array Value) : laidMetH Tryz.prog rowLaid ((World.laidAll Tryz.prog os rowLaid).forCall (fun _ _ => 0) ⟨#[],args,[]⟩).memory:=by
 rw [MakeChecks.laidMetH_plain _ _ _ (by kernel_rfl)];exact laidMet_laidAll _ (by kernel_rfl) (by kernel_rfl)
theorem laidOut_yes : laidOutB Tryz.prog=true:=by kernel_rfl
section
variable {H : Type} {enc : TypeId × Value → H} {W W' : World} {sp : Nat → Bool}
theorem trodAll_stays : ∀ {ts : List TypeId} {vs : List Value} {ds : List (DataW H)} {ps : List MemPlace},(∀ t ∈ ts,Tryz.prog.readableRec t=true ∧ t < Tryz.prog.types.size) →
  DataW.TrodAll enc Tryz.prog W 0 (fun _=>true) true ts vs ds ps→(∀ x ∈ ps,W.sameAt W' x)→(∀ x ∈ ps,sp x.block=true)→DataW.TrodAll enc Tryz.prog W' 0 sp true ts vs ds ps
 | [],_,_,_,_,h,_,_=>by
  obtain ⟨rfl,rfl,rfl⟩:=trodAll_nil h
  exact trodAll_mk0
 | t :: ts,vs,ds,ps,hts,h,hs,hp=>by
  obtain ⟨v,vs',d,ds',p,p',rfl,rfl,rfl,h1,h2⟩:=trodAll_cons h
  obtain ⟨hr,hw⟩:=hts t (List.mem_cons_self ..)
  exact trodAll_cons_mk (WideElems.Trod_stays laidOut_yes hr hw h1 (fun x hx=>hs x (List.mem_append_left _ hx)) (fun x hx=>hp x (List.mem_append_left _ hx)))
   (trodAll_stays (fun t ht=>hts t (List.mem_cons_of_mem _ ht)) h2 (fun x hx=>hs x (List.mem_append_right _ hx)) (fun x hx=>hp x (List.mem_append_right _ hx)))
end
/-- A law that returned true, and laid new blocks alone. -/
theorem law_post {H : Type} {enc : TypeId × Value → H} {f : Func} {s : ChangeSpec} {W W' : World} {args : Array Value} {ds : List (DataW H)} {before : List MemPlace} (hv : s.vars=[]) (hts : ∀ t ∈ f.params.toList,Tryz.prog.readableRec t=true ∧ t < Tryz.prog.types.size)
  (hres:f.resultTypes=#[4]) (hfn:s.fn H ds={ results:=[.lit (.bool true)],args:=ds })
  (hW:DataW.Whole enc Tryz.prog f.params.toList s.vars false W args.toList ds [] before) (hb:Below W.heap.size W W'):s.post enc Tryz.prog f false true false false W args (.bool true) W':=by
 have hW':=hW
 obtain ⟨p,q,hA0,hV,rfl,_,_⟩:=hW
 rw [hv] at hV
 obtain ⟨_,rfl⟩:=trodVars_none hV
 have hlt:∀ x ∈ p ++ [],x.block < W.heap.size:=fun x hx=>hW'.lt x hx
 refine post_of_below (pa:=p) (pv:=[]) hW' (fun _ _ _=>?_) (fun sp hsp=>?_) (fun _ _=>?_) rfl hb ?_
 ·rw [List.append_nil,hfn,hres]
  exact trodAll_mk1 (shut_bool Tryz.underlying4 _)
 ·rw [List.append_nil,hfn]
  exact trodAll_stays hts hA0 (fun x hx=>hb.same (hlt x (List.mem_append_left _ hx))) (fun x hx=>hsp x (List.mem_append_left _ hx))
 ·rw [List.append_nil,hfn,hv];rfl
 ·exact ok_one hres rfl (okWide_bool_mk Tryz.underlying4 _)
end Go.Proofs.YtipjmpdndokdlaaGreatDoor

namespace Go.Proofs.YtipjmpdndokdlaaGreatDoor
open Go.RowKit Go.Lib Go.Shelf
attribute [local go_sem] Oper.semAt_some
/-- A world as the program holds it. -/
def Wl.cs (a : Wl) : Array Value:=#[.bool a.three,.int .u8 a.kind,.int .u8 a.num,.int .i8 (a.xs 0).a,.int .i8 (a.xs 0).b,.int .i8 (a.xs 0).c,.int .i8 (a.xs 1).a,.int .i8 (a.xs 1).b,.int .i8 (a.xs 1).c,.int .i8 (a.xs 2).a,.int .i8 (a.xs 2).b,.int .i8 (a.xs 2).c,.int .i8 (a.xs 3).a,.int .i8 (a.xs 3).b,.int .i8 (a.xs 3).c,.int .i8 (a.xs 4).a,.int .i8 (a.xs 4).b,.int .i8 (a.xs 4).c,.int .i8 (a.xs 5).a,.int .i8 (a.xs 5).b,.int .i8 (a.xs 5).c,.int .i8 (a.xs 6).a,.int .i8 (a.xs 6).b,.int .i8 (a.xs 6).c,.int .i8 (a.xs 7).a,.int .i8 (a.xs 7).b,.int .i8 (a.xs 7).c]
def Wl.v (a : Wl) : Value:=.agg a.cs
end Go.Proofs.YtipjmpdndokdlaaGreatDoor

namespace Go.Proofs.YtipjmpdndokdlaaGreatDoor
open Go.ChangeShapes Go.WideShapes Go.ChangeAt Go.WideMaps Go.WideElems Go.RowKit
theorem cellsU : Tryz.prog.cellsOf 5=1:=by kernel_rfl
section
variable {H : Type} {enc : TypeId × Value → H} {w : World} {base : Nat} {spare : Nat → Bool} {held : Bool}
theorem wf_u8 {n : Int} (h : (Lit.int .u8 n).wf=true) : ∃ k : Nat,n=k ∧ k < 256:=by
 have:=bounds_u8 h
 exact ⟨n.toNat,by omega,by omega⟩
end
end Go.Proofs.YtipjmpdndokdlaaGreatDoor

namespace Go.Proofs.YtipjmpdndokdlaaGreatDoor
open Go.ChangeShapes Go.WideShapes Go.ChangeAt Go.WideMaps Go.WideElems Go.RowKit
theorem wf_u16 {n : Int} (h : (Lit.int .u16 n).wf=true) : ∃ k : Nat,n=k ∧ k < 65536:=by
 have:=bounds_u16 h
 exact ⟨n.toNat,by omega,by omega⟩
theorem okWide_arr {r : Reach} {w : World} {b0 : Nat} {v : Value} {t e : TypeId} {n : Nat} (ht : Tryz.prog.underlying t=some (.array n e)) (h : Value.okWide Tryz.prog w r b0 t v) : ∃ cs,v=.agg cs ∧ cs.size=Tryz.prog.cellsOf t:=by
 simp only [Value.okWide,ht] at h
 obtain ⟨cs,h1,h2,_⟩:=h
 exact ⟨cs,h1,h2⟩
theorem cells2u : Tryz.prog.cellsOf 23=2:=by kernel_rfl
section
variable {H : Type} {enc : TypeId × Value → H} {w : World} {base : Nat} {spare : Nat → Bool} {held : Bool}
theorem open_u82 {r : Reach} {b0 : Nat} {v : Value} {d : DataW H} {p : List MemPlace} (hv : Value.okWide Tryz.prog w r b0 23 v) (h : DataW.Trod enc Tryz.prog w base spare held 23 v d p) :
  ∃ x0 x1:Nat,v=.agg #[.int .u8 (x0:Int),.int .u8 (x1:Int)]∧x0 < 256∧x1 < 256:=by
 obtain ⟨cs,rfl,hsz⟩:=okWide_arr Tryz.underlying23 hv
 rw [cells2u] at hsz
 obtain ⟨l⟩:=cs
 match l,hsz with
 | [c0,c1],_ =>
  obtain ⟨fuel,hf⟩:=h
  obtain ⟨xs,j,_,_,_,hxl,hg⟩:=DataW.trod_array Tryz.underlying23 hf
  obtain ⟨q0,hq0⟩:∃ q,xs[0]?=some q:=⟨_,List.getElem?_eq_getElem (by omega)⟩
  have g0:=hg 0 (by omega)
  rw [hq0,cellsU] at g0
  simp only [Value.cells,Nat.reduceMul,List.drop_zero,List.take_succ_cons,List.take_zero] at g0
  obtain ⟨q1,hq1⟩:∃ q,xs[1]?=some q:=⟨_,List.getElem?_eq_getElem (by omega)⟩
  have g1:=hg 1 (by omega)
  rw [hq1,cellsU] at g1
  simp only [Value.cells,Nat.reduceMul,List.drop_zero,List.take_succ_cons,List.take_zero,List.drop_succ_cons] at g1
  obtain ⟨a,ha,_,wa⟩:=DataW.trod_int Tryz.underlying5 g0
  obtain ⟨b,hb,_,wb⟩:=DataW.trod_int Tryz.underlying5 g1
  simp only [List.cons.injEq,and_true] at ha hb
  obtain ⟨a',rfl,h1⟩:=wf_u8 wa
  obtain ⟨b',rfl,h2⟩:=wf_u8 wb
  exact ⟨a',b',by rw [ha,hb],h1,h2⟩
end
end Go.Proofs.YtipjmpdndokdlaaGreatDoor
