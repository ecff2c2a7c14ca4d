/- Walks: table.one, table.zero; how long a quotient gets; dividing fractions by any other than zero. (KEEPALL) -/
import Derived.Test.YtkdgmahilfnnmaaGreatDoorPc23
import Derived.Test.YtkdgmahilfnnmaaGreatDoorPc14
namespace Go.Proofs.YtkdgmahilfnnmaaGreatDoor
open Go.RowKit Go.Lib Go.Shelf
theorem zns (w:World):Calls Tryz.prog 128 #[] w fun e w'=>e=.returned (Rv 1)∧Ext w w':=by
 have hb:=zep.new w (.string ⟨#[]⟩) (.string ⟨#[]⟩);have hc0:=hb.c0;have hc1:=hb.c1;have hf0:=hb.fz 0;have hf1:=hb.fz 1;have hp:=zep.new w (.string ⟨#[49]⟩) (.string ⟨#[49]⟩);have hd0:=hp.c0;have hd1:=hp.c1;clear hb hp;go_enter Tryz.func128,Tryz.ntmps128
 go_wp2_with fail
 exact bodyPost_ret (v:=.agg #[.string ⟨#[49]⟩,.string ⟨#[49]⟩]) (by simp [results,Tryz.results128,go_sem,hd0,hd1]) rfl ⟨by rw [zmd];rfl,(Ext.refl w).alloc _⟩
theorem znt (w:World):Calls Tryz.prog 130 #[] w fun e w'=>e=.returned (Rv 0)∧Ext w w':=by
 have hb:=zep.new w (.string ⟨#[]⟩) (.string ⟨#[]⟩);have hc0:=hb.c0;have hc1:=hb.c1;have hf0:=hb.fz 0;have hf1:=hb.fz 1;have hp:=zep.new w (.string ⟨#[48]⟩) (.string ⟨#[49]⟩);have hd0:=hp.c0;have hd1:=hp.c1;clear hb hp;go_enter Tryz.func130,Tryz.ntmps130
 go_wp2_with fail
 exact bodyPost_ret (v:=.agg #[.string ⟨#[48]⟩,.string ⟨#[49]⟩]) (by simp [results,Tryz.results130,go_sem,hd0,hd1]) rfl ⟨by rw [zmd,zme];rfl,(Ext.refl w).alloc _⟩
theorem znu {k l:Nat}{a b:Rat}(ha:Ft k a)(hb:Ft l b)(h0:0<b.num):Ft (k+l) (a / b):=by
 obtain ⟨n,hn⟩:∃ n:Nat,b.num=(n:Int):=⟨b.num.toNat,by omega⟩;have hbn:=hb.1;rw [hn,Int.natAbs_natCast] at hbn;rw [← zjL a b n hn (by omega)];unfold Ft;refine zja (Nat.mul_pos a.den_pos (by omega)) ?_ ?_
 ·rw [Int.natAbs_mul,Int.natAbs_natCast];exact Nat.le_trans (zbD _ _) (Nat.add_le_add ha.1 hb.2)
 ·exact Nat.le_trans (zbD _ _) (Nat.add_le_add ha.2 hbn)
theorem znv {k l:Nat}{a b:Rat}(ha:Ft k a)(hb:Ft l b)(h0:b ≠ 0):Ft (k+l) (a / b):=by
 have hn:b.num ≠ 0:=fun h=>h0 (Rat.num_eq_zero.1 h);by_cases hp:0<b.num
 ·exact znu ha hb hp
 ·have:=znu ha.neg hb.neg (by rw [Rat.neg_num];omega);have e:-a / -b=a / b:=by grind
  rwa [e] at this
theorem znw (a b:Rat)(w:World)(he:Env w)(ha:Ft 100000 a)(hb:Ft 100000 b)(h0:b ≠ 0) :
  Calls Tryz.prog 133 #[Rv a,Rv b] w fun e w'=>e=.returned (.tuple #[Rv (a / b),.int .i64 0])∧Ext w w':=by
 have hn:b.num ≠ 0:=fun h=>h0 (Rat.num_eq_zero.1 h);by_cases hp:0<b.num
 ·exact zjM a b w he ha hb hp
 ·exact znr a b w he ha hb (by omega)
theorem znx {q:Rat}(h:okQ q=true):Ft 40 q:=by
 unfold okQ at h;rw [Bool.and_eq_true,decide_eq_true_eq,decide_eq_true_eq] at h;exact ⟨Dec.nDigits_le (by decide) h.1,Dec.nDigits_le (by decide) h.2⟩
theorem zny {m:List (List Rat)}(h:okM m=true){r:List Rat}(hr:r∈m){q:Rat}(hq:q∈r):Ft 40 q:=by
 unfold okM at h;rw [List.all_eq_true] at h;have:=h r hr;rw [List.all_eq_true] at this;exact znx (this q hq)
end Go.Proofs.YtkdgmahilfnnmaaGreatDoor
