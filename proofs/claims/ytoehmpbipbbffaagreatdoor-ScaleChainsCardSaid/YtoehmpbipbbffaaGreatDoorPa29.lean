/- Walk: slices.symMergeCmpFunc at ints, with a compare that makes memory. Walk: slices.insertionSortCmpFunc at ints over a range, with a compare that makes memory. -/
import Derived.Test.YtoehmpbipbbffaaGreatDoorPa28
import Derived.Shelf.RegionOpenPlain
import Derived.Shelf.Abstract
import Derived.Shelf.SlicesE.Kit
import Derived.Deep.RegionHeld3
set_option maxRecDepth 100000
set_option maxHeartbeats 4000000
namespace Go.Proofs.YtoehmpbipbbffaaGreatDoor
open Go.RowKit Go.Lib Go.Shelf
def zok {α:Type}(T:TypeId)(W0:World)(B blk cap:Nat)(enc:α→Value)(key:α→Rat)(d0 d:List α)(a b:Nat)(e:Ending)(w':World):Prop :=
 e=.returned (.tuple #[])∧∃ d',InR T W0 B blk cap enc d0 w' d'∧MvF (fun k=>d[k]?) (fun k=>d'[k]?) a b∧SrF key (fun k=>d'[k]?) a b
theorem zol {x h:Nat}(hx:x≤100000)(hh:h=x / 2):IntKind.u64.wrap (x:Int)=(x:Int)∧((x:Int) / 2=(h:Int)):=by
 refine ⟨?_,by omega⟩;rw [IntKind.wrap_u64];omega
theorem zom {α:Type}(enc:α→Value)(key:α→Rat)(g:Nat)(cb:Array Value)(B blk cap a b:Nat)(d0 d:List α)(W0 w:World)(hR:InR 3 W0 B blk cap enc d0 w d)(hl:d0.length≤1000)(h1:OneCell enc)
  (eg:∀ args w,(callFunc g args).run Tryz.prog w=.ok (.enter g args) w)
  (hcmp:∀ W,W0.grownBy W (some blk)→∀ x∈d0,∀ y∈d0,Calls Tryz.prog g (#[enc x,enc y]++cb) W fun e w'=>(∃ z:Int,e=.returned (.int .i64 z)∧(z<0 ↔ key x<key y))∧Ext W w')
  (hab:a+1<b) (hbn:b≤d0.length) (hs2:SrF key (fun k=>d[k]?) (a+1) b) :
  Calls Tryz.prog 158 #[.slice (some ⟨blk,0,none⟩) d0.length cap,.int .i64 a,.int .i64 ((a+1:Nat):Int),.int .i64 b,.func (.func g) #[] cb] w (zok 3 W0 B blk cap enc key d0 d a b):=by
 have mixed:Tryz.prog.follows .mixedOrders=true:=by kernel_rfl
 have hcl0:=h1.cells;simp only [Value.cells] at hcl0;have hst:=h1.store Tryz.prog;have hdl:=hR.len;generalize hn:d0.length=n at *;have HR:=hid hR;have Hcmp:=hid hcmp;have Hn:=hid hn;have Hs2:=hid hs2;clear hR hcmp hn hs2;obtain ⟨m,hm⟩:∃ m,m=a+1:=⟨_,rfl⟩;rw [← hm];have hma:a<m:=by omega
 have hmb:m<b:=by omega
 have z1:((m:Int) - (a:Int) == 1)=true:=by rw [beq_iff_eq];omega
 have z1b:(m:Int) - (a:Int)=1:=by omega
 have ham1:m≤a+1:=by omega
 have Hm:=hid hm;clear hm hab;go_enter Tryz.func158,Tryz.ntmps158
 go_wp2_with fail
 go_loopw [10,11,12] (fun vi vj _ wr=>∃ (i j:Nat),vi=.int .i64 i∧vj=.int .i64 j∧m≤i∧i≤j∧j≤b∧Hid (j=b∨∀ x y,d[a]?=some x→d[j]?=some y→key x≤key y)∧Hid (i=m∨∀ x y,d[i - 1]?=some x→d[a]?=some y→key x≤key y)∧Hid (InR 3 W0 B blk cap enc d0 wr d)) (fun vi vj _ _=>(zag vj).toNat - (zag vi).toNat)
 case atStart=>exact ⟨m,b,rfl,rfl,Nat.le_refl _,by omega,Nat.le_refl _,hid (.inl rfl),hid (.inl rfl),HR⟩
 case round =>
  clear HR;obtain ⟨i,j,rfl,rfl,hmi,hij,hjb,HA,HB,HR⟩:=hrel;by_cases hlt:i<j
  ·have hltz:(i:Int)<(j:Int):=(by omega);obtain ⟨h,hh⟩:∃ h,h=(i+j) / 2:=⟨_,rfl⟩;obtain ⟨s,hs⟩:∃ s,s=i+j:=⟨_,rfl⟩;have e1:(i:Int)+(j:Int)=(s:Int):=(by omega);have e2:=zol (x:=s) (h:=h) (by omega) (by omega);have e3:=e2.1;have e4:=e2.2;have hsb:s≤2000:=(by omega);have hih:i≤h:=(by omega);have hhj:h<j:=(by omega);obtain ⟨x,hx⟩:∃ x,d[h]?=some x:=⟨_,List.getElem?_eq_getElem (by omega)⟩;obtain ⟨y,hy⟩:∃ y,d[a]?=some y:=⟨_,List.getElem?_eq_getElem (by omega)⟩;have c1:=HR.out.cell hx;have c2:=HR.out.cell hy;have hcm:=fun W (hE:Ext wr W)=>Hcmp.out W (zeq HR.out.only hE) x (HR.out.mem hx) y (HR.out.mem hy);have hex:=fun W (hE:Ext wr W)=>HR.out.ext hE;have pa:(0:Int)≤(h:Int):=(by omega);have ba:(h:Int)<(n:Int):=(by omega);have pc:(0:Int)≤(a:Int):=(by omega);have bc:(a:Int)<(n:Int):=(by omega);have Hx:=hid hx;have Hy:=hid hy;have Hcm:=hid hcm;have Hex:=hid hex;clear e2 hs hh hx hy hcm hex HR;by_cases hxy:key x<key y
   ·have HB2:Hid (h+1=m∨∀ x y,d[h+1 - 1]?=some x→d[a]?=some y→key x≤key y):=hid (.inr fun u v hu hv=>by
     rw [Nat.add_sub_cancel,Hx.out] at hu;rw [Hy.out] at hv;rw [← Option.some.inj hu,← Option.some.inj hv];exact Rat.le_of_lt hxy)
    have Hxy:=hid hxy;clear hxy;go_wp2_with fail
    go_region_held3 (fun w'=>Ext wr w'∧w'.cell? ⟨blk,h,none⟩=some (enc x)∧w'.cell? ⟨blk,a,none⟩=some (enc y))
     (first | (with_reducible assumption) | exact ⟨(Ext.refl wr).drew,c1,c2⟩)
     (first | (go_at_fn g;refine (Hcm.out _ (And.left (by assumption))).mono ?_;rintro e9 VA ⟨⟨z,rfl,hz⟩,hxa⟩;have hEA:=((Ext.refl wr).drew).trans hxa;have hS2:Ext wr VA∧VA.cell? ⟨blk,h,none⟩=some (enc x)∧VA.cell? ⟨blk,a,none⟩=some (enc y):=⟨hEA,hEA.cell c1,hEA.cell c2⟩;have hz1:z<0:=hz.2 Hxy.out;have hz2:decide (z<0)=true:=decide_eq_true hz1;have HEA:=hid hEA;clear hxa hEA hz))
    all_goals
     clear hS2 c1 c2;have S4:=hid (Hex.out VA HEA.out);go_wp2_with fail
     go_roundw
     case rel=>exact ⟨h+1,j,by go_num,rfl,by omega,by omega,hjb,HA,HB2,S4⟩
     case measure=>simp [zag];omega
   ·have HA2:Hid (h=b∨∀ x y,d[a]?=some x→d[h]?=some y→key x≤key y):=hid (.inr fun u v hu hv=>by
     rw [Hx.out] at hv;rw [Hy.out] at hu;rw [← Option.some.inj hu,← Option.some.inj hv];exact Rat.not_lt.1 hxy)
    have Hxy:=hid hxy;clear hxy;go_wp2_with fail
    go_region_held3 (fun w'=>Ext wr w'∧w'.cell? ⟨blk,h,none⟩=some (enc x)∧w'.cell? ⟨blk,a,none⟩=some (enc y))
     (first | (with_reducible assumption) | exact ⟨(Ext.refl wr).drew,c1,c2⟩)
     (first | (go_at_fn g;refine (Hcm.out _ (And.left (by assumption))).mono ?_;rintro e9 VA ⟨⟨z,rfl,hz⟩,hxa⟩;have hEA:=((Ext.refl wr).drew).trans hxa;have hS2:Ext wr VA∧VA.cell? ⟨blk,h,none⟩=some (enc x)∧VA.cell? ⟨blk,a,none⟩=some (enc y):=⟨hEA,hEA.cell c1,hEA.cell c2⟩;have hz1:¬ z<0:=fun h=>Hxy.out (hz.1 h);have hz2:decide (z<0)=false:=decide_eq_false hz1;have HEA:=hid hEA;clear hxa hEA hz))
    all_goals
     clear hS2 c1 c2;have S4:=hid (Hex.out VA HEA.out);go_wp2_with fail
     go_roundw
     case rel=>exact ⟨i,h,rfl,rfl,hmi,hih,by omega,HA2,HB,S4⟩
     case measure=>simp [zag];omega
  ·obtain rfl:i=j:=by omega
   have hi1:IntKind.i64.wrap ((i:Int) - 1)=(i:Int) - 1:=(by rw [IntKind.wrap_i64];omega);go_wp2_with fail
   obtain ⟨wa,hwa⟩:∃ wa,wa=wr:=⟨_,rfl⟩;subst hwa;go_loopw [13] (fun vk wr=>∃ (k:Nat)(dk:List α),vk=.int .i64 k∧a≤k∧k+1≤i∧Hid (InR 3 W0 B blk cap enc d0 wr dk)∧Hid (zoc (fun k=>d[k]?) (fun k=>dk[k]?) a (a+1) (k+1))) (fun vk _=>i - (zag vk).toNat)
   case atStart=>exact ⟨a,d,rfl,Nat.le_refl _,by omega,HR,hid (zoc.up0 _ _)⟩
   case round =>
    clear HR;obtain ⟨k,dk,rfl,hak,hki,HR,HT⟩:=hrel;by_cases hk:k+1<i
    ·have hkz:(k:Int)<(i:Int) - 1:=(by omega);obtain ⟨iN,hiN⟩:∃ q,q=k:=⟨_,rfl⟩;obtain ⟨jN,hjN⟩:∃ q,q=k+1:=⟨_,rfl⟩;have hjl:dk.length=n:=HR.out.len.trans Hn.out;obtain ⟨u,hu⟩:∃ u,dk[iN]?=some u:=⟨_,List.getElem?_eq_getElem (by omega)⟩;obtain ⟨v,hv⟩:∃ v,dk[jN]?=some v:=⟨_,List.getElem?_eq_getElem (by omega)⟩;have c1:=HR.out.cell hu;have c2:=HR.out.cell hv;have f1:=HR.out.frozen iN;have f2:=HR.out.frozen jN;have hij2:iN ≠ jN:=(by omega);have S3:=hid (HR.out.swp hu hv);have hg:=fun k=>zoh (k:=k) hij2 hu hv;have hmore:=HT.out.up (h:=fun q=>((dk.set iN v).set jN u)[q]?) hak (((hg k).1 hiN.symm).trans (by rw [hjN])) (((hg (k+1)).2.1 hjN.symm).trans (by rw [hiN])) (fun q e1 e2=>(hg q).2.2 (by omega) (by omega));have c3:∃ z,(wr.setCell ⟨blk,iN,none⟩ (enc v)).cell? ⟨blk,jN,none⟩=some z:=by
      rw [World.cell?_setCell_other _ _ _ _ (by intro e';simp only [Addr.mk.injEq] at e';omega)];exact ⟨_,c2⟩
     obtain ⟨u3,c3⟩:=c3;have f3:(wr.setCell ⟨blk,iN,none⟩ (enc v)).frozen? ⟨blk,jN,none⟩=false:=(by rw [World.frozen?_setCell];exact f2);have ea:((k:Int)).toNat=iN:=(by omega);have pa:(0:Int)≤(k:Int):=(by omega);have ba:(k:Int)<(n:Int):=(by omega);have ec:((k:Int)+1).toNat=jN:=(by omega);have pc:(0:Int)≤(k:Int)+1:=(by omega);have bc:(k:Int)+1<(n:Int):=(by omega);have rc:IntKind.i64.wrap ((k:Int)+1)=(k:Int)+1:=(by rw [IntKind.wrap_i64];omega);have Hmore:=hid hmore;have HiN:=hid hiN;have HjN:=hid hjN;clear hu hv hg hmore hjl HR HT hiN hjN;go_wp2_with fail
     go_big_region_o
     have S4:=hid (S3.out.ext ((Ext.refl _).drew));clear c1 c2 c3 f1 f2 f3 S3 ea ec;generalize ((wr.setCell ⟨blk,iN,none⟩ (enc v)).setCell ⟨blk,jN,none⟩ (enc u)).drew=w3 at S4 ⊢;go_wp2_with fail
     go_roundw
     case rel=>exact ⟨k+1,_,by go_num,by omega,by omega,S4,Hmore⟩
     case measure=>simp [zag];omega
    ·have hkz:¬ (k:Int)<(i:Int) - 1:=(by omega);obtain rfl:i=k+1:=by omega
     go_wp2
     go_end0
     have tot:∀ q,a≤q→q<b→∃ x,d[q]?=some x:=fun q _ h2=>⟨_,List.getElem?_eq_getElem (by omega)⟩;have hm1:=Hm.out;subst hm1;exact ⟨rfl,dk,HR.out,(HT.out.mv (by omega) (by omega)).wide (Nat.le_refl _) hjb,zoe Hs2.out hmi hjb HT.out HA.out HB.out tot⟩
theorem zon {α:Type}(enc:α→Value)(key:α→Rat)(g:Nat)(cb:Array Value)(B blk cap a m:Nat)(d0 d:List α)(W0 w:World)(hR:InR 3 W0 B blk cap enc d0 w d)(hl:d0.length≤1000)(h1:OneCell enc)
  (eg:∀ args w,(callFunc g args).run Tryz.prog w=.ok (.enter g args) w)
  (hcmp:∀ W,W0.grownBy W (some blk)→∀ x∈d0,∀ y∈d0,Calls Tryz.prog g (#[enc x,enc y]++cb) W fun e w'=>(∃ z:Int,e=.returned (.int .i64 z)∧(z<0 ↔ key x<key y))∧Ext W w')
  (hab:a+1<m) (hbn:m+1≤d0.length) (hs2:SrF key (fun k=>d[k]?) a m) :
  Calls Tryz.prog 158 #[.slice (some ⟨blk,0,none⟩) d0.length cap,.int .i64 a,.int .i64 m,.int .i64 ((m+1:Nat):Int),.func (.func g) #[] cb] w (zok 3 W0 B blk cap enc key d0 d a (m+1)):=by
 have mixed:Tryz.prog.follows .mixedOrders=true:=by kernel_rfl
 have hcl0:=h1.cells;simp only [Value.cells] at hcl0;have hst:=h1.store Tryz.prog;have hdl:=hR.len;generalize hn:d0.length=n at *;have HR:=hid hR;have Hcmp:=hid hcmp;have Hn:=hid hn;have Hs2:=hid hs2;clear hR hcmp hn hs2;obtain ⟨b,hb⟩:∃ b,b=m+1:=⟨_,rfl⟩;rw [← hb];have hma:a<m:=by omega
 have hmb:m<b:=by omega
 have z1:((m:Int) - (a:Int) == 1)=false:=beq_eq_false_iff_ne.2 (by omega);have z1b:¬ (m:Int) - (a:Int)=1:=by omega
 have z2:((b:Int) - (m:Int) == 1)=true:=by rw [beq_iff_eq];omega
 have z2b:(b:Int) - (m:Int)=1:=by omega
 have hbm1:b≤m+1:=by omega
 have Hb:=hid hb;clear hb;go_enter Tryz.func158,Tryz.ntmps158
 go_wp2_with fail
 go_loopw [14,15,16] (fun vi vj _ wr=>∃ (i j:Nat),vi=.int .i64 i∧vj=.int .i64 j∧a≤i∧i≤j∧j≤m∧Hid (j=m∨∀ x y,d[m]?=some x→d[j]?=some y→key x≤key y)∧Hid (i=a∨∀ x y,d[i - 1]?=some x→d[m]?=some y→key x≤key y)∧Hid (InR 3 W0 B blk cap enc d0 wr d)) (fun vi vj _ _=>(zag vj).toNat - (zag vi).toNat)
 case atStart=>exact ⟨a,m,rfl,rfl,Nat.le_refl _,by omega,Nat.le_refl _,hid (.inl rfl),hid (.inl rfl),HR⟩
 case round =>
  clear HR;obtain ⟨i,j,rfl,rfl,hmi,hij,hjb,HA,HB,HR⟩:=hrel;by_cases hlt:i<j
  ·have hltz:(i:Int)<(j:Int):=(by omega);obtain ⟨h,hh⟩:∃ h,h=(i+j) / 2:=⟨_,rfl⟩;obtain ⟨s,hs⟩:∃ s,s=i+j:=⟨_,rfl⟩;have e1:(i:Int)+(j:Int)=(s:Int):=(by omega);have e2:=zol (x:=s) (h:=h) (by omega) (by omega);have e3:=e2.1;have e4:=e2.2;have hsb:s≤2000:=(by omega);have hih:i≤h:=(by omega);have hhj:h<j:=(by omega);obtain ⟨x,hx⟩:∃ x,d[m]?=some x:=⟨_,List.getElem?_eq_getElem (by omega)⟩;obtain ⟨y,hy⟩:∃ y,d[h]?=some y:=⟨_,List.getElem?_eq_getElem (by omega)⟩;have c1:=HR.out.cell hx;have c2:=HR.out.cell hy;have hcm:=fun W (hE:Ext wr W)=>Hcmp.out W (zeq HR.out.only hE) x (HR.out.mem hx) y (HR.out.mem hy);have hex:=fun W (hE:Ext wr W)=>HR.out.ext hE;have pa:(0:Int)≤(h:Int):=(by omega);have ba:(h:Int)<(n:Int):=(by omega);have pc:(0:Int)≤(m:Int):=(by omega);have bc:(m:Int)<(n:Int):=(by omega);have Hx:=hid hx;have Hy:=hid hy;have Hcm:=hid hcm;have Hex:=hid hex;clear e2 hs hh hx hy hcm hex HR;by_cases hxy:key x<key y
   ·have HA2:Hid (h=m∨∀ x y,d[m]?=some x→d[h]?=some y→key x≤key y):=hid (.inr fun u v hu hv=>by
     rw [Hx.out] at hu;rw [Hy.out] at hv;rw [← Option.some.inj hu,← Option.some.inj hv];exact Rat.le_of_lt hxy)
    have Hxy:=hid hxy;clear hxy;go_wp2_with fail
    go_region_held3 (fun w'=>Ext wr w'∧w'.cell? ⟨blk,m,none⟩=some (enc x)∧w'.cell? ⟨blk,h,none⟩=some (enc y))
     (first | (with_reducible assumption) | exact ⟨(Ext.refl wr).drew,c1,c2⟩)
     (first | (go_at_fn g;refine (Hcm.out _ (And.left (by assumption))).mono ?_;rintro e9 VA ⟨⟨z,rfl,hz⟩,hxa⟩;have hEA:=((Ext.refl wr).drew).trans hxa;have hS2:Ext wr VA∧VA.cell? ⟨blk,m,none⟩=some (enc x)∧VA.cell? ⟨blk,h,none⟩=some (enc y):=⟨hEA,hEA.cell c1,hEA.cell c2⟩;have hz1:z<0:=hz.2 Hxy.out;have hz2:decide (z<0)=true:=decide_eq_true hz1;have HEA:=hid hEA;clear hxa hEA hz))
    all_goals
     clear hS2 c1 c2;have S4:=hid (Hex.out VA HEA.out);go_wp2_with fail
     go_roundw
     case rel=>exact ⟨i,h,rfl,rfl,hmi,hih,by omega,HA2,HB,S4⟩
     case measure=>simp [zag];omega
   ·have HB2:Hid (h+1=a∨∀ x y,d[h+1 - 1]?=some x→d[m]?=some y→key x≤key y):=hid (.inr fun u v hu hv=>by
     rw [Nat.add_sub_cancel,Hy.out] at hu;rw [Hx.out] at hv;rw [← Option.some.inj hu,← Option.some.inj hv];exact Rat.not_lt.1 hxy)
    have Hxy:=hid hxy;clear hxy;go_wp2_with fail
    go_region_held3 (fun w'=>Ext wr w'∧w'.cell? ⟨blk,m,none⟩=some (enc x)∧w'.cell? ⟨blk,h,none⟩=some (enc y))
     (first | (with_reducible assumption) | exact ⟨(Ext.refl wr).drew,c1,c2⟩)
     (first | (go_at_fn g;refine (Hcm.out _ (And.left (by assumption))).mono ?_;rintro e9 VA ⟨⟨z,rfl,hz⟩,hxa⟩;have hEA:=((Ext.refl wr).drew).trans hxa;have hS2:Ext wr VA∧VA.cell? ⟨blk,m,none⟩=some (enc x)∧VA.cell? ⟨blk,h,none⟩=some (enc y):=⟨hEA,hEA.cell c1,hEA.cell c2⟩;have hz1:¬ z<0:=fun h=>Hxy.out (hz.1 h);have hz2:decide (z<0)=false:=decide_eq_false hz1;have HEA:=hid hEA;clear hxa hEA hz))
    all_goals
     clear hS2 c1 c2;have S4:=hid (Hex.out VA HEA.out);go_wp2_with fail
     go_roundw
     case rel=>exact ⟨h+1,j,by go_num,rfl,by omega,by omega,hjb,HA,HB2,S4⟩
     case measure=>simp [zag];omega
  ·obtain rfl:i=j:=by omega
   go_wp2_with fail
   obtain ⟨wa,hwa⟩:∃ wa,wa=wr:=⟨_,rfl⟩;subst hwa;go_loopw [17] (fun vk wr=>∃ (k:Nat)(dk:List α),vk=.int .i64 k∧i≤k∧k≤m∧Hid (InR 3 W0 B blk cap enc d0 wr dk)∧Hid (zoc (fun k=>d[k]?) (fun k=>dk[k]?) k m (m+1))) (fun vk _=>(zag vk).toNat)
   case atStart=>exact ⟨m,d,rfl,hjb,Nat.le_refl _,HR,hid (zoc.down0 _ _)⟩
   case round =>
    clear HR;obtain ⟨k,dk,rfl,hak,hki,HR,HT⟩:=hrel;by_cases hk:i<k
    ·obtain ⟨kp,hkp⟩:∃ q,k=q+1:=⟨k - 1,by omega⟩;subst hkp;have zk:(((kp+1:Nat)):Int)=(kp:Int)+1:=(by omega);have hkz:(i:Int)<(kp:Int)+1:=(by omega);obtain ⟨iN,hiN⟩:∃ q,q=kp+1:=⟨_,rfl⟩;obtain ⟨jN,hjN⟩:∃ q,q=kp:=⟨_,rfl⟩;have hjl:dk.length=n:=HR.out.len.trans Hn.out;obtain ⟨u,hu⟩:∃ u,dk[iN]?=some u:=⟨_,List.getElem?_eq_getElem (by omega)⟩;obtain ⟨v,hv⟩:∃ v,dk[jN]?=some v:=⟨_,List.getElem?_eq_getElem (by omega)⟩;have c1:=HR.out.cell hu;have c2:=HR.out.cell hv;have f1:=HR.out.frozen iN;have f2:=HR.out.frozen jN;have hij2:iN ≠ jN:=(by omega);have S3:=hid (HR.out.swp hu hv);have hg:=fun k=>zoh (k:=k) hij2 hu hv;have hmore:=HT.out.down (h:=fun q=>((dk.set iN v).set jN u)[q]?) hki (((hg kp).2.1 hjN.symm).trans (by rw [hiN])) (((hg (kp+1)).1 hiN.symm).trans (by rw [hjN])) (fun q e1 e2=>(hg q).2.2 (by omega) (by omega));have c3:∃ z,(wr.setCell ⟨blk,iN,none⟩ (enc v)).cell? ⟨blk,jN,none⟩=some z:=by
      rw [World.cell?_setCell_other _ _ _ _ (by intro e';simp only [Addr.mk.injEq] at e';omega)];exact ⟨_,c2⟩
     obtain ⟨u3,c3⟩:=c3;have f3:(wr.setCell ⟨blk,iN,none⟩ (enc v)).frozen? ⟨blk,jN,none⟩=false:=(by rw [World.frozen?_setCell];exact f2);have ea:((kp:Int)+1).toNat=iN:=(by omega);have pa:(0:Int)≤(kp:Int)+1:=(by omega);have ba:(kp:Int)+1<(n:Int):=(by omega);have ec:((kp:Int)).toNat=jN:=(by omega);have pc:(0:Int)≤(kp:Int):=(by omega);have bc:(kp:Int)<(n:Int):=(by omega);have rc:IntKind.i64.wrap ((kp:Int))=(kp:Int):=(by rw [IntKind.wrap_i64];omega);have rd:(kp:Int)+1 - 1=(kp:Int):=(by omega);have Hmore:=hid hmore;have HiN:=hid hiN;have HjN:=hid hjN;have Hzk:=hid zk;rw [zk];clear hu hv hg hmore hjl HR HT hiN hjN zk;go_wp2_with fail
     go_big_region_o
     have S4:=hid (S3.out.ext ((Ext.refl _).drew));clear c1 c2 c3 f1 f2 f3 S3 ea ec;generalize ((wr.setCell ⟨blk,iN,none⟩ (enc v)).setCell ⟨blk,jN,none⟩ (enc u)).drew=w3 at S4 ⊢;go_wp2_with fail
     go_roundw
     case rel=>exact ⟨kp,_,by first | rfl | go_num,by omega,by omega,S4,Hmore⟩
     case measure=>first | (simp [zag];done) | (simp [zag];omega)
    ·have hkz:¬ (i:Int)<(k:Int):=(by omega);obtain rfl:i=k:=by omega
     go_wp2
     go_end0
     have tot:∀ q,a≤q→q<m+1→∃ x,d[q]?=some x:=fun q _ h2=>⟨_,List.getElem?_eq_getElem (by omega)⟩;have hb1:=Hb.out;subst hb1;exact ⟨rfl,dk,HR.out,(HT.out.mv hjb (by omega)).wide hmi (Nat.le_refl _),zof Hs2.out hmi hjb HT.out HB.out HA.out tot⟩
section
variable {α : Type} {key : α → Rat} {f g : Nat → Option α}
def SaF (key:α→Rat)(f:Nat→Option α)(a i k:Nat):Prop:=∀ p q x y,a≤p→p<q→q≤i→q ≠ k→f p=some x→f q=some y→key x≤key y
theorem zoo {a i:Nat}(h:SrF key f a i):SaF key f a i i:=fun p q x y h1 h2 _ _=>h p q x y h1 h2 (by omega)
theorem zop {a i:Nat}(h:SaF key f a i a):SrF key f a (i+1):=fun p q x y h1 h2 _=>h p q x y h1 h2 (by omega) (by omega)
theorem zoq {a i k:Nat}{x y:α}(h:SaF key f a i (k+1))(hx:f (k+1)=some x)(hy:f k=some y)(hle:key y≤key x):SrF key f a (i+1):=by
 intro p q u v h1 h2 h3 hu hv;by_cases e:q=k+1
 ·subst e;rw [hx] at hv
  cases hv
  rcases Nat.lt_or_ge p k with e2 | e2
  ·exact Rat.le_trans (h p k u y h1 e2 (by omega) (by omega) hu hy) hle
  ·obtain rfl:p=k:=by omega
   rw [hy] at hu
   cases hu
   exact hle
 ·exact h p q u v h1 h2 (by omega) e hu hv
theorem zor {a i k:Nat}{x y:α}(ha:a≤k)(h:SaF key f a i (k+1))(hx:f (k+1)=some x)(hy:f k=some y)(hle:key x≤key y)(g1:g (k+1)=f k)(g2:g k=f (k+1))(g3:∀ q,q ≠ k→q ≠ k+1→g q=f q):SaF key g a i k:=by
 intro p q u v h1 h2 h3 h4 hu hv;by_cases e:q=k+1
 ·subst e;rw [g1,hy] at hv
  cases hv
  by_cases e2:p=k
  ·subst e2;rw [g2,hx] at hu
   cases hu
   exact hle
  ·rw [g3 p e2 (by omega)] at hu;exact h p k u y h1 (by omega) (by omega) (by omega) hu hy
 ·rw [g3 q h4 e] at hv;by_cases e2:p=k
  ·subst e2;rw [g2] at hu;exact h (p+1) q u v (by omega) (by omega) h3 (by omega) hu hv
  ·by_cases e3:p=k+1
   ·subst e3;rw [g1] at hu;exact h k q u v (by omega) (by omega) h3 (by omega) hu hv
   ·rw [g3 p e2 e3] at hu;exact h p q u v h1 h2 h3 (by omega) hu hv
theorem MvF.swp {a b k:Nat}(g1:g (k+1)=f k)(g2:g k=f (k+1))(g3:∀ q,q ≠ k→q ≠ k+1→g q=f q)(ha:a≤k)(hb:k+1<b):MvF f g a b :=
 ⟨fun q hq=>g3 q (by omega) (by omega),fun q h1 h2=>by
  by_cases e:q=k
  ·exact ⟨k+1,by omega,hb,by rw [e];exact g2⟩
  ·by_cases e2:q=k+1
   ·exact ⟨k,ha,by omega,by rw [e2];exact g1⟩
   ·exact ⟨q,h1,h2,g3 q e e2⟩⟩
theorem zos {a b:Nat}(h:b≤a+1):SrF key f a b:=fun p q x y h1 h2 h3=>by omega
end
theorem zot {α:Type}(enc:α→Value)(key:α→Rat)(g:Nat)(cb:Array Value)(B blk cap a b:Nat)(d0 d:List α)(W0 w:World)(hR:InR 3 W0 B blk cap enc d0 w d)(hl:d0.length≤1000)(h1:OneCell enc)
  (eg:∀ args w,(callFunc g args).run Tryz.prog w=.ok (.enter g args) w)
  (hcmp:∀ W,W0.grownBy W (some blk)→∀ x∈d0,∀ y∈d0,Calls Tryz.prog g (#[enc x,enc y]++cb) W fun e w'=>(∃ z:Int,e=.returned (.int .i64 z)∧(z<0 ↔ key x<key y))∧Ext W w')
  (hbn:b≤d0.length) (hab:a≤b) :
  Calls Tryz.prog 157 #[.slice (some ⟨blk,0,none⟩) d0.length cap,.int .i64 a,.int .i64 b,.func (.func g) #[] cb] w (zok 3 W0 B blk cap enc key d0 d a b):=by
 have mixed:Tryz.prog.follows .mixedOrders=true:=by kernel_rfl
 have hcl0:=h1.cells;simp only [Value.cells] at hcl0;have hst:=h1.store Tryz.prog;generalize hn:d0.length=n at *;have HR:=hid hR;have Hcmp:=hid hcmp;have Hn:=hid hn;clear hR hcmp hn;go_enter Tryz.func157,Tryz.ntmps157
 go_wp2_with fail
 go_loopw [8] (fun vi wr=>∃ (i:Nat)(dk:List α),vi=.int .i64 i∧a+1≤i∧(i≤b∨i=a+1)∧Hid (MvF (fun k=>d[k]?) (fun k=>dk[k]?) a b∧SrF key (fun k=>dk[k]?) a i)∧Hid (InR 3 W0 B blk cap enc d0 wr dk)) (fun vi _=>b+1 - (zag vi).toNat)
 case atStart=>exact ⟨a+1,d,by go_num,Nat.le_refl _,.inr rfl,hid ⟨MvF.refl _ _ _,zos (Nat.le_refl _)⟩,HR⟩
 case round =>
  clear HR;obtain ⟨i,dk,rfl,hi1,hin,HS,HR⟩:=hrel;by_cases hlt:i<b
  ·have hltz:(i:Int)<(b:Int):=(by omega);go_wp2_with fail
   obtain ⟨wa,hwa⟩:∃ wa,wa=wr:=⟨_,rfl⟩;subst hwa;go_loopw [9] (fun vj wr=>∃ (j:Nat)(dj:List α),vj=.int .i64 j∧a≤j∧j≤i∧Hid (MvF (fun k=>d[k]?) (fun k=>dj[k]?) a b∧SaF key (fun k=>dj[k]?) a i j)∧Hid (InR 3 W0 B blk cap enc d0 wr dj)) (fun vj _=>(zag vj).toNat)
   case atStart=>exact ⟨i,dk,rfl,by omega,Nat.le_refl _,hid ⟨HS.out.1,zoo HS.out.2⟩,HR⟩
   case round =>
    clear HR;obtain ⟨j,dj,rfl,haj,hji,HA,HR⟩:=hrel;by_cases hja:a<j
    ·obtain ⟨jp,hjp⟩:∃ q,q+1=j:=⟨j - 1,by omega⟩;have hjl:dj.length=n:=HR.out.len.trans Hn.out;obtain ⟨x,hx⟩:∃ x,dj[jp+1]?=some x:=⟨_,List.getElem?_eq_getElem (by omega)⟩;obtain ⟨y,hy⟩:∃ y,dj[jp]?=some y:=⟨_,List.getElem?_eq_getElem (by omega)⟩;obtain ⟨iN,hiN⟩:∃ q,q=j:=⟨_,rfl⟩;obtain ⟨jN,hjN⟩:∃ q,q=jp:=⟨_,rfl⟩;have c1:=HR.out.cell hx;have c2:=HR.out.cell hy;rw [hjp,← hiN] at c1;rw [← hjN] at c2;have hcm:=fun W (hE:Ext wr W)=>Hcmp.out W (zeq HR.out.only hE) x (HR.out.mem hx) y (HR.out.mem hy);have hsw:=fun W (hE:Ext wr W)=>(HR.out.ext hE).swap hx hy;have hcf:=fun W (hE:Ext wr W)=>(⟨(HR.out.ext hE).cell hx,(HR.out.ext hE).cell hy,(HR.out.ext hE).frozen (jp+1),(HR.out.ext hE).frozen jp⟩:_∧_∧_∧_);have hex:=fun W (hE:Ext wr W)=>HR.out.ext hE;have hij:jN<iN:=(by omega);rw [hjp,← hiN,← hjN] at hcf;have hsw2:=fun W (hE:Ext wr W)=>(show InR 3 W0 B blk cap enc d0 ((W.setCell ⟨blk,iN,none⟩ (enc y)).setCell ⟨blk,jN,none⟩ (enc x)) ((dj.set (jp+1) y).set jp x) by rw [hiN,hjN,← hjp];exact hsw W hE);have zjp:(j:Int)=(jp:Int)+1:=(by omega);have hjad:decide ((jp:Int)+1 > (a:Int))=true:=decide_eq_true (by omega);have hjaz:(a:Int)<(jp:Int)+1:=(by omega);have ea:((jp:Int)+1).toNat=iN:=(by omega);have pa:(0:Int)≤(jp:Int)+1:=(by omega);have ba:(jp:Int)+1<(n:Int):=(by omega);have ra:IntKind.i64.wrap ((jp:Int)+1)=(jp:Int)+1:=(by rw [IntKind.wrap_i64];omega);have ec:((jp:Int)).toNat=jN:=(by omega);have pc:(0:Int)≤(jp:Int):=(by omega);have bc:(jp:Int)<(n:Int):=(by omega);have rc:IntKind.i64.wrap ((jp:Int))=(jp:Int):=(by rw [IntKind.wrap_i64];omega);have Hx:=hid hx;have Hy:=hid hy;have Hcm:=hid hcm;have Hsw:=hid hsw2;have Hcf:=hid hcf;have Hex:=hid hex;have HiN:=hid hiN;have HjN:=hid hjN;clear hx hy hcm hsw hsw2 hcf hex hjl hiN hjN HR;by_cases hxy:key x<key y
     ·have hxy2:key x≤key y:=Rat.le_of_lt hxy;have Hxy:=hid hxy;have Hxy2:=hid hxy2;clear hxy hxy2;go_wp2_with fail
      go_region_held3 (fun w'=>Ext wr w'∧w'.cell? ⟨blk,iN,none⟩=some (enc x)∧w'.cell? ⟨blk,jN,none⟩=some (enc y))
       (first | (with_reducible assumption) | exact ⟨(Ext.refl wr).drew,c1,c2⟩)
       (first | (go_at_fn g;refine (Hcm.out _ (And.left (by assumption))).mono ?_;rintro e9 VA ⟨⟨z,rfl,hz⟩,hxa⟩;have hEA:=((Ext.refl wr).drew).trans hxa;have hS2:Ext wr VA∧VA.cell? ⟨blk,iN,none⟩=some (enc x)∧VA.cell? ⟨blk,jN,none⟩=some (enc y):=⟨hEA,hEA.cell c1,hEA.cell c2⟩;have hz1:z<0:=hz.2 Hxy.out;have hz2:decide (z<0)=true:=decide_eq_true hz1;have HEA:=hid hEA;clear hxa hEA hz))
      all_goals
       clear hS2 c1 c2;obtain ⟨k1,k2,k3,k4⟩:=Hcf.out VA HEA.out;have S3:=hid (Hsw.out VA HEA.out);have c3:∃ u,(VA.setCell ⟨blk,iN,none⟩ (enc y)).cell? ⟨blk,jN,none⟩=some u:=by
        rw [World.cell?_setCell_other _ _ _ _ (by intro e';simp only [Addr.mk.injEq] at e';omega)];exact ⟨_,k2⟩
       obtain ⟨u3,c3⟩:=c3;go_wp2_with fail
       go_big_region_o
       have S4:=hid (S3.out.ext ((Ext.refl _).drew));have HA2:=(by
        have hg:=fun q=>zoh (k:=q) (show jp+1 ≠ jp by omega) Hx.out Hy.out;have e1:((dj.set (jp+1) y).set jp x)[jp+1]?=dj[jp]?:=(hg (jp+1)).1 rfl;have e2:((dj.set (jp+1) y).set jp x)[jp]?=dj[jp+1]?:=(hg jp).2.1 rfl;have e3:∀ q,q ≠ jp→q ≠ jp+1→((dj.set (jp+1) y).set jp x)[q]?=dj[q]?:=fun q f1 f2=>(hg q).2.2 f2 f1;exact hid ⟨HA.out.1.trans (MvF.swp (k:=jp) e1 e2 e3 (by omega) (by omega)),zor (k:=jp) (by omega) (by rw [hjp];exact HA.out.2) Hx.out Hy.out Hxy2.out e1 e2 e3⟩:Hid (MvF (fun k=>d[k]?) (fun k=>((dj.set (jp+1) y).set jp x)[k]?) a b∧SaF key (fun k=>((dj.set (jp+1) y).set jp x)[k]?) a i jp))
       clear c3 k1 k2 k3 k4 S3;generalize ((VA.setCell ⟨blk,iN,none⟩ (enc y)).setCell ⟨blk,jN,none⟩ (enc x)).drew=w3 at S4 ⊢;clear ea ec;go_wp2_with fail
       go_roundw
       case rel=>exact ⟨jp,(dj.set (jp+1) y).set jp x,by first | rfl | go_num | (congr 1;omega),by omega,by omega,HA2,S4⟩
       case measure=>simp [zag];omega
     ·have Hxy:=hid (Rat.not_lt.1 hxy);have hxy2:=hid hxy;clear hxy;go_wp2_with fail
      go_region_held3 (fun w'=>Ext wr w'∧w'.cell? ⟨blk,iN,none⟩=some (enc x)∧w'.cell? ⟨blk,jN,none⟩=some (enc y))
       (first | (with_reducible assumption) | exact ⟨(Ext.refl wr).drew,c1,c2⟩)
       (first | (go_at_fn g;refine (Hcm.out _ (And.left (by assumption))).mono ?_;rintro e9 VA ⟨⟨z,rfl,hz⟩,hxa⟩;have hEA:=((Ext.refl wr).drew).trans hxa;have hS2:Ext wr VA∧VA.cell? ⟨blk,iN,none⟩=some (enc x)∧VA.cell? ⟨blk,jN,none⟩=some (enc y):=⟨hEA,hEA.cell c1,hEA.cell c2⟩;have hz1:¬ z<0:=fun h=>hxy2.out (hz.1 h);have hz2:decide (z<0)=false:=decide_eq_false hz1;have HEA:=hid hEA;clear hxa hEA hz))
      all_goals
       clear hS2 c1 c2;have S4:=hid (Hex.out VA HEA.out);have HS2:=hid (And.intro HA.out.1 (zoq (k:=jp) (by rw [hjp];exact HA.out.2) Hx.out Hy.out Hxy.out));clear ea ec;go_wp2_with fail
       go_roundw
       case rel=>exact ⟨i+1,dj,by go_num,by omega,.inl (by omega),HS2,S4⟩
       case measure=>simp [zag];omega
    ·have hja2:j=a:=(by omega);have HS2:Hid (MvF (fun k=>d[k]?) (fun k=>dj[k]?) a b∧SrF key (fun k=>dj[k]?) a (i+1)):=hid ⟨HA.out.1,zop (by have:=HA.out.2;rwa [hja2] at this)⟩;have hjaz:decide ((j:Int) > (a:Int))=false:=decide_eq_false (by omega);have hjaz':¬ (j:Int) > (a:Int):=(by omega);clear hja2;go_wp2_with fail
     go_big_region_o
     have S4:=hid (HR.out.ext ((Ext.refl _).drew));clear HR;generalize wr.drew=w3 at S4 ⊢;go_wp2_with fail
     go_roundw
     case rel=>exact ⟨i+1,dj,by go_num,by omega,.inl (by omega),HS2,S4⟩
     case measure=>simp [zag];omega
  ·have hkk:¬ (i:Int)<(b:Int):=(by omega);go_wp2
   go_end0
   exact ⟨rfl,dk,HR.out,HS.out.1,HS.out.2.mono (Nat.le_refl _) (by omega)⟩
end Go.Proofs.YtoehmpbipbbffaaGreatDoor
