/- Walk: slices.insertionSortCmpFunc at sizes, with a compare that makes memory. Walk: slices.insertionSortCmpFunc at ints, with a compare that makes memory. Walks: slices.SortStableFunc at ints and slices.SortFunc at sizes, at most twelve elements, with a compare that makes memory. Walk: size.Sort of at most twelve sizes. Walks: equal sizes: slices.Equal at fractions, size.Equal. Walks: slices.Clone at sizes and at primes; a list of sizes with one more. Walk: size.Sort of at most twelve sizes: the whole. -/
import Derived.Test.YtbkfhacmekbniaaGreatDoorPa19
import Derived.Shelf.RegionOpenPlain
import Derived.Shelf.Abstract
import Derived.Shelf.SlicesE.Kit
import Derived.Deep.RegionHeld3
import Derived.Test.YtbkfhacmekbniaaGreatDoorPa13
import Derived.Test.YtbkfhacmekbniaaGreatDoorPa16
import Derived.Test.YtbkfhacmekbniaaGreatDoorPa09
import Derived.Test.YtbkfhacmekbniaaGreatDoorPa08
import Derived.Test.YtbkfhacmekbniaaGreatDoorShelfE
set_option maxRecDepth 100000
set_option maxHeartbeats 4000000
namespace Go.Proofs.YtbkfhacmekbniaaGreatDoor
section
open Go.RowKit Go.Lib Go.Shelf
theorem zkb {α:Type}(enc:α→Value)(key:α→Rat)(g:Nat)(cb:Array Value)(B blk cap:Nat)(d0 d:List α)(W0 w:World)(hR:InR 32 W0 B blk cap enc d0 w d)(hl:d0.length≤1000)(h1:OneCell enc)
  (eg:∀ args w,(callFunc g args).run Tryz.prog w=.ok (.enter g args) w)
  (hcmp:∀ W,W0.grownBy W (some blk)→∀ x∈d0,∀ y∈d0,Calls Tryz.prog g (#[enc x,enc y]++cb) W fun e w'=>(∃ z:Int,e=.returned (.int .i64 z)∧(z<0 ↔ key x<key y))∧Ext W w') :
  Calls Tryz.prog 112 #[.slice (some ⟨blk,0,none⟩) d0.length cap,.int .i64 0,.int .i64 d0.length,.func (.func g) #[] cb] w fun e w'=>e=.returned (.tuple #[])∧∃ d',InR 32 W0 B blk cap enc d0 w' d'∧d'.Pairwise fun x y=>key x≤key y:=by
 have mixed:Tryz.prog.follows .mixedOrders=true:=by kernel_rfl
 have hcl0:=h1.cells;simp only [Value.cells] at hcl0;have hst:=h1.store Tryz.prog;generalize hn:d0.length=n at *;have HR:=hid hR;have Hcmp:=hid hcmp;have Hn:=hid hn;clear hR hcmp hn;go_enter Tryz.func112,Tryz.ntmps112
 go_wp2_with fail
 go_loopw [8] (fun vi wr=>∃ (i:Nat)(dk:List α),vi=.int .i64 i∧1≤i∧(i≤n∨i=1)∧Hid (STo key dk i)∧Hid (InR 32 W0 B blk cap enc d0 wr dk)) (fun vi _=>n+1 - (zag vi).toNat)
 case atStart=>exact ⟨1,d,rfl,Nat.le_refl _,.inr rfl,hid (ziS d),HR⟩
 case round =>
  clear HR;obtain ⟨i,dk,rfl,hi1,hin,HS,HR⟩:=hrel;by_cases hlt:i<n
  ·have hltz:(i:Int)<(n:Int):=(by omega);go_wp2_with fail
   obtain ⟨wa,hwa⟩:∃ wa,wa=wr:=⟨_,rfl⟩;subst hwa;go_loopw [9] (fun vj wr=>∃ (j:Nat)(dj:List α),vj=.int .i64 j∧j≤i∧Hid (SAt key dj i j)∧Hid (InR 32 W0 B blk cap enc d0 wr dj)) (fun vj _=>(zag vj).toNat)
   case atStart=>exact ⟨i,dk,rfl,Nat.le_refl _,hid (ziT HS.out),HR⟩
   case round =>
    clear HR;obtain ⟨j,dj,rfl,hji,HA,HR⟩:=hrel;by_cases hja:0<j
    ·obtain ⟨jp,hjp⟩:∃ q,q+1=j:=⟨j - 1,by omega⟩;have hjl:dj.length=n:=HR.out.len.trans Hn.out;obtain ⟨x,hx⟩:∃ x,dj[jp+1]?=some x:=⟨_,List.getElem?_eq_getElem (by omega)⟩;obtain ⟨y,hy⟩:∃ y,dj[jp]?=some y:=⟨_,List.getElem?_eq_getElem (by omega)⟩;obtain ⟨iN,hiN⟩:∃ q,q=j:=⟨_,rfl⟩;obtain ⟨jN,hjN⟩:∃ q,q=jp:=⟨_,rfl⟩;have c1:=HR.out.cell hx;have c2:=HR.out.cell hy;rw [hjp,← hiN] at c1;rw [← hjN] at c2;have hcm:=fun W (hE:Ext wr W)=>Hcmp.out W (zeq HR.out.only hE) x (HR.out.mem hx) y (HR.out.mem hy);have hsw:=fun W (hE:Ext wr W)=>(HR.out.ext hE).swap hx hy;have hcf:=fun W (hE:Ext wr W)=>(⟨(HR.out.ext hE).cell hx,(HR.out.ext hE).cell hy,(HR.out.ext hE).frozen (jp+1),(HR.out.ext hE).frozen jp⟩:_∧_∧_∧_);have hex:=fun W (hE:Ext wr W)=>HR.out.ext hE;have hij:jN<iN:=(by omega);rw [hjp,← hiN,← hjN] at hcf;have hsw2:=fun W (hE:Ext wr W)=>(show InR 32 W0 B blk cap enc d0 ((W.setCell ⟨blk,iN,none⟩ (enc y)).setCell ⟨blk,jN,none⟩ (enc x)) ((dj.set (jp+1) y).set jp x) by rw [hiN,hjN,← hjp];exact hsw W hE);have zjp:(j:Int)=(jp:Int)+1:=(by omega);have hjad:decide ((jp:Int)+1 > (0:Int))=true:=decide_eq_true (by omega);have hjaz:(0:Int)<(jp:Int)+1:=(by omega);have ea:((jp:Int)+1).toNat=iN:=(by omega);have pa:(0:Int)≤(jp:Int)+1:=(by omega);have ba:(jp:Int)+1<(n:Int):=(by omega);have ra:IntKind.i64.wrap ((jp:Int)+1)=(jp:Int)+1:=(by rw [IntKind.wrap_i64];omega);have ec:((jp:Int)).toNat=jN:=(by omega);have pc:(0:Int)≤(jp:Int):=(by omega);have bc:(jp:Int)<(n:Int):=(by omega);have rc:IntKind.i64.wrap ((jp:Int))=(jp:Int):=(by rw [IntKind.wrap_i64];omega);have Hx:=hid hx;have Hy:=hid hy;have Hcm:=hid hcm;have Hsw:=hid hsw2;have Hcf:=hid hcf;have Hex:=hid hex;have HiN:=hid hiN;have HjN:=hid hjN;clear hx hy hcm hsw hsw2 hcf hex hjl hiN hjN HR;by_cases hxy:key x<key y
     ·have hxy2:key x≤key y:=Rat.le_of_lt hxy;have Hxy:=hid hxy;have Hxy2:=hid hxy2;clear hxy hxy2;go_wp2_with fail
      go_region_held3 (fun w'=>Ext wr w'∧w'.cell? ⟨blk,iN,none⟩=some (enc x)∧w'.cell? ⟨blk,jN,none⟩=some (enc y))
       (first | (with_reducible assumption) | exact ⟨(Ext.refl wr).drew,c1,c2⟩)
       (first | (go_at_fn g;refine (Hcm.out _ (And.left (by assumption))).mono ?_;rintro e9 VA ⟨⟨z,rfl,hz⟩,hxa⟩;have hEA:=((Ext.refl wr).drew).trans hxa;have hS2:Ext wr VA∧VA.cell? ⟨blk,iN,none⟩=some (enc x)∧VA.cell? ⟨blk,jN,none⟩=some (enc y):=⟨hEA,hEA.cell c1,hEA.cell c2⟩;have hz1:z<0:=hz.2 Hxy.out;have hz2:decide (z<0)=true:=decide_eq_true hz1;have HEA:=hid hEA;clear hxa hEA hz))
      all_goals
       clear hS2 c1 c2;obtain ⟨k1,k2,k3,k4⟩:=Hcf.out VA HEA.out;have S3:=hid (Hsw.out VA HEA.out);have c3:∃ u,(VA.setCell ⟨blk,iN,none⟩ (enc y)).cell? ⟨blk,jN,none⟩=some u:=by
        rw [World.cell?_setCell_other _ _ _ _ (by intro e';simp only [Addr.mk.injEq] at e';omega)];exact ⟨_,k2⟩
       obtain ⟨u3,c3⟩:=c3;go_wp2_with fail
       go_big_region_o
       have S4:=hid (S3.out.ext ((Ext.refl _).drew));have HA2:=hid (ziX (show SAt key dj i (jp+1) by rw [hjp];exact HA.out) Hx.out Hy.out Hxy2.out);clear c3 k1 k2 k3 k4 S3;generalize ((VA.setCell ⟨blk,iN,none⟩ (enc y)).setCell ⟨blk,jN,none⟩ (enc x)).drew=w3 at S4 ⊢;clear ea ec;go_wp2_with fail
       go_roundw
       case rel=>exact ⟨jp,(dj.set (jp+1) y).set jp x,by first | rfl | go_num | (congr 1;omega),by omega,HA2,S4⟩
       case measure=>simp [zag];omega
     ·have Hxy:=hid (Rat.not_lt.1 hxy);have hxy2:=hid hxy;clear hxy;go_wp2_with fail
      go_region_held3 (fun w'=>Ext wr w'∧w'.cell? ⟨blk,iN,none⟩=some (enc x)∧w'.cell? ⟨blk,jN,none⟩=some (enc y))
       (first | (with_reducible assumption) | exact ⟨(Ext.refl wr).drew,c1,c2⟩)
       (first | (go_at_fn g;refine (Hcm.out _ (And.left (by assumption))).mono ?_;rintro e9 VA ⟨⟨z,rfl,hz⟩,hxa⟩;have hEA:=((Ext.refl wr).drew).trans hxa;have hS2:Ext wr VA∧VA.cell? ⟨blk,iN,none⟩=some (enc x)∧VA.cell? ⟨blk,jN,none⟩=some (enc y):=⟨hEA,hEA.cell c1,hEA.cell c2⟩;have hz1:¬ z<0:=fun h=>hxy2.out (hz.1 h);have hz2:decide (z<0)=false:=decide_eq_false hz1;have HEA:=hid hEA;clear hxa hEA hz))
      all_goals
       clear hS2 c1 c2;have S4:=hid (Hex.out VA HEA.out);have HS2:=hid (ziV (show SAt key dj i (jp+1) by rw [hjp];exact HA.out) Hx.out Hy.out Hxy.out);clear ea ec;go_wp2_with fail
       go_roundw
       case rel=>exact ⟨i+1,dj,by go_num,by omega,.inl (by omega),HS2,S4⟩
       case measure=>simp [zag];omega
    ·obtain rfl:j=0:=by omega
     have hjaz:decide (((0:Nat):Int) > (0:Int))=false:=(by decide);have hjaz':¬ ((0:Nat):Int) > (0:Int):=(by decide);have HS2:=hid (ziU HA.out);go_wp2_with fail
     go_big_region_o
     have S4:=hid (HR.out.ext ((Ext.refl _).drew));clear HR;generalize wr.drew=w3 at S4 ⊢;go_wp2_with fail
     go_roundw
     case rel=>exact ⟨i+1,dj,by go_num,by omega,.inl (by omega),HS2,S4⟩
     case measure=>simp [zag];omega
  ·have hkk:¬ (i:Int)<(n:Int):=(by omega);go_wp2
   go_end0
   refine ⟨rfl,dk,HR.out,?_⟩;have hS:STo key dk dk.length:=by
    rw [HR.out.len,Hn.out];intro a b x y h1 h2;exact HS.out a b x y h1 (by omega)
   exact ziZ hS
theorem zkc {α:Type}(enc:α→Value)(key:α→Rat)(g:Nat)(cb:Array Value)(B blk cap:Nat)(d0 d:List α)(W0 w:World)(hR:InR 3 W0 B blk cap enc d0 w d)(hl:d0.length≤1000)(h1:OneCell enc)
  (eg:∀ args w,(callFunc g args).run Tryz.prog w=.ok (.enter g args) w)
  (hcmp:∀ W,W0.grownBy W (some blk)→∀ x∈d0,∀ y∈d0,Calls Tryz.prog g (#[enc x,enc y]++cb) W fun e w'=>(∃ z:Int,e=.returned (.int .i64 z)∧(z<0 ↔ key x<key y))∧Ext W w') :
  Calls Tryz.prog 189 #[.slice (some ⟨blk,0,none⟩) d0.length cap,.int .i64 0,.int .i64 d0.length,.func (.func g) #[] cb] w fun e w'=>e=.returned (.tuple #[])∧∃ d',InR 3 W0 B blk cap enc d0 w' d'∧d'.Pairwise fun x y=>key x≤key y:=by
 have mixed:Tryz.prog.follows .mixedOrders=true:=by kernel_rfl
 have hcl0:=h1.cells;simp only [Value.cells] at hcl0;have hst:=h1.store Tryz.prog;generalize hn:d0.length=n at *;have HR:=hid hR;have Hcmp:=hid hcmp;have Hn:=hid hn;clear hR hcmp hn;go_enter Tryz.func189,Tryz.ntmps189
 go_wp2_with fail
 go_loopw [8] (fun vi wr=>∃ (i:Nat)(dk:List α),vi=.int .i64 i∧1≤i∧(i≤n∨i=1)∧Hid (STo key dk i)∧Hid (InR 3 W0 B blk cap enc d0 wr dk)) (fun vi _=>n+1 - (zag vi).toNat)
 case atStart=>exact ⟨1,d,rfl,Nat.le_refl _,.inr rfl,hid (ziS d),HR⟩
 case round =>
  clear HR;obtain ⟨i,dk,rfl,hi1,hin,HS,HR⟩:=hrel;by_cases hlt:i<n
  ·have hltz:(i:Int)<(n:Int):=(by omega);go_wp2_with fail
   obtain ⟨wa,hwa⟩:∃ wa,wa=wr:=⟨_,rfl⟩;subst hwa;go_loopw [9] (fun vj wr=>∃ (j:Nat)(dj:List α),vj=.int .i64 j∧j≤i∧Hid (SAt key dj i j)∧Hid (InR 3 W0 B blk cap enc d0 wr dj)) (fun vj _=>(zag vj).toNat)
   case atStart=>exact ⟨i,dk,rfl,Nat.le_refl _,hid (ziT HS.out),HR⟩
   case round =>
    clear HR;obtain ⟨j,dj,rfl,hji,HA,HR⟩:=hrel;by_cases hja:0<j
    ·obtain ⟨jp,hjp⟩:∃ q,q+1=j:=⟨j - 1,by omega⟩;have hjl:dj.length=n:=HR.out.len.trans Hn.out;obtain ⟨x,hx⟩:∃ x,dj[jp+1]?=some x:=⟨_,List.getElem?_eq_getElem (by omega)⟩;obtain ⟨y,hy⟩:∃ y,dj[jp]?=some y:=⟨_,List.getElem?_eq_getElem (by omega)⟩;obtain ⟨iN,hiN⟩:∃ q,q=j:=⟨_,rfl⟩;obtain ⟨jN,hjN⟩:∃ q,q=jp:=⟨_,rfl⟩;have c1:=HR.out.cell hx;have c2:=HR.out.cell hy;rw [hjp,← hiN] at c1;rw [← hjN] at c2;have hcm:=fun W (hE:Ext wr W)=>Hcmp.out W (zeq HR.out.only hE) x (HR.out.mem hx) y (HR.out.mem hy);have hsw:=fun W (hE:Ext wr W)=>(HR.out.ext hE).swap hx hy;have hcf:=fun W (hE:Ext wr W)=>(⟨(HR.out.ext hE).cell hx,(HR.out.ext hE).cell hy,(HR.out.ext hE).frozen (jp+1),(HR.out.ext hE).frozen jp⟩:_∧_∧_∧_);have hex:=fun W (hE:Ext wr W)=>HR.out.ext hE;have hij:jN<iN:=(by omega);rw [hjp,← hiN,← hjN] at hcf;have hsw2:=fun W (hE:Ext wr W)=>(show InR 3 W0 B blk cap enc d0 ((W.setCell ⟨blk,iN,none⟩ (enc y)).setCell ⟨blk,jN,none⟩ (enc x)) ((dj.set (jp+1) y).set jp x) by rw [hiN,hjN,← hjp];exact hsw W hE);have zjp:(j:Int)=(jp:Int)+1:=(by omega);have hjad:decide ((jp:Int)+1 > (0:Int))=true:=decide_eq_true (by omega);have hjaz:(0:Int)<(jp:Int)+1:=(by omega);have ea:((jp:Int)+1).toNat=iN:=(by omega);have pa:(0:Int)≤(jp:Int)+1:=(by omega);have ba:(jp:Int)+1<(n:Int):=(by omega);have ra:IntKind.i64.wrap ((jp:Int)+1)=(jp:Int)+1:=(by rw [IntKind.wrap_i64];omega);have ec:((jp:Int)).toNat=jN:=(by omega);have pc:(0:Int)≤(jp:Int):=(by omega);have bc:(jp:Int)<(n:Int):=(by omega);have rc:IntKind.i64.wrap ((jp:Int))=(jp:Int):=(by rw [IntKind.wrap_i64];omega);have Hx:=hid hx;have Hy:=hid hy;have Hcm:=hid hcm;have Hsw:=hid hsw2;have Hcf:=hid hcf;have Hex:=hid hex;have HiN:=hid hiN;have HjN:=hid hjN;clear hx hy hcm hsw hsw2 hcf hex hjl hiN hjN HR;by_cases hxy:key x<key y
     ·have hxy2:key x≤key y:=Rat.le_of_lt hxy;have Hxy:=hid hxy;have Hxy2:=hid hxy2;clear hxy hxy2;go_wp2_with fail
      go_region_held3 (fun w'=>Ext wr w'∧w'.cell? ⟨blk,iN,none⟩=some (enc x)∧w'.cell? ⟨blk,jN,none⟩=some (enc y))
       (first | (with_reducible assumption) | exact ⟨(Ext.refl wr).drew,c1,c2⟩)
       (first | (go_at_fn g;refine (Hcm.out _ (And.left (by assumption))).mono ?_;rintro e9 VA ⟨⟨z,rfl,hz⟩,hxa⟩;have hEA:=((Ext.refl wr).drew).trans hxa;have hS2:Ext wr VA∧VA.cell? ⟨blk,iN,none⟩=some (enc x)∧VA.cell? ⟨blk,jN,none⟩=some (enc y):=⟨hEA,hEA.cell c1,hEA.cell c2⟩;have hz1:z<0:=hz.2 Hxy.out;have hz2:decide (z<0)=true:=decide_eq_true hz1;have HEA:=hid hEA;clear hxa hEA hz))
      all_goals
       clear hS2 c1 c2;obtain ⟨k1,k2,k3,k4⟩:=Hcf.out VA HEA.out;have S3:=hid (Hsw.out VA HEA.out);have c3:∃ u,(VA.setCell ⟨blk,iN,none⟩ (enc y)).cell? ⟨blk,jN,none⟩=some u:=by
        rw [World.cell?_setCell_other _ _ _ _ (by intro e';simp only [Addr.mk.injEq] at e';omega)];exact ⟨_,k2⟩
       obtain ⟨u3,c3⟩:=c3;go_wp2_with fail
       go_big_region_o
       have S4:=hid (S3.out.ext ((Ext.refl _).drew));have HA2:=hid (ziX (show SAt key dj i (jp+1) by rw [hjp];exact HA.out) Hx.out Hy.out Hxy2.out);clear c3 k1 k2 k3 k4 S3;generalize ((VA.setCell ⟨blk,iN,none⟩ (enc y)).setCell ⟨blk,jN,none⟩ (enc x)).drew=w3 at S4 ⊢;clear ea ec;go_wp2_with fail
       go_roundw
       case rel=>exact ⟨jp,(dj.set (jp+1) y).set jp x,by first | rfl | go_num | (congr 1;omega),by omega,HA2,S4⟩
       case measure=>simp [zag];omega
     ·have Hxy:=hid (Rat.not_lt.1 hxy);have hxy2:=hid hxy;clear hxy;go_wp2_with fail
      go_region_held3 (fun w'=>Ext wr w'∧w'.cell? ⟨blk,iN,none⟩=some (enc x)∧w'.cell? ⟨blk,jN,none⟩=some (enc y))
       (first | (with_reducible assumption) | exact ⟨(Ext.refl wr).drew,c1,c2⟩)
       (first | (go_at_fn g;refine (Hcm.out _ (And.left (by assumption))).mono ?_;rintro e9 VA ⟨⟨z,rfl,hz⟩,hxa⟩;have hEA:=((Ext.refl wr).drew).trans hxa;have hS2:Ext wr VA∧VA.cell? ⟨blk,iN,none⟩=some (enc x)∧VA.cell? ⟨blk,jN,none⟩=some (enc y):=⟨hEA,hEA.cell c1,hEA.cell c2⟩;have hz1:¬ z<0:=fun h=>hxy2.out (hz.1 h);have hz2:decide (z<0)=false:=decide_eq_false hz1;have HEA:=hid hEA;clear hxa hEA hz))
      all_goals
       clear hS2 c1 c2;have S4:=hid (Hex.out VA HEA.out);have HS2:=hid (ziV (show SAt key dj i (jp+1) by rw [hjp];exact HA.out) Hx.out Hy.out Hxy.out);clear ea ec;go_wp2_with fail
       go_roundw
       case rel=>exact ⟨i+1,dj,by go_num,by omega,.inl (by omega),HS2,S4⟩
       case measure=>simp [zag];omega
    ·obtain rfl:j=0:=by omega
     have hjaz:decide (((0:Nat):Int) > (0:Int))=false:=(by decide);have hjaz':¬ ((0:Nat):Int) > (0:Int):=(by decide);have HS2:=hid (ziU HA.out);go_wp2_with fail
     go_big_region_o
     have S4:=hid (HR.out.ext ((Ext.refl _).drew));clear HR;generalize wr.drew=w3 at S4 ⊢;go_wp2_with fail
     go_roundw
     case rel=>exact ⟨i+1,dj,by go_num,by omega,.inl (by omega),HS2,S4⟩
     case measure=>simp [zag];omega
  ·have hkk:¬ (i:Int)<(n:Int):=(by omega);go_wp2
   go_end0
   refine ⟨rfl,dk,HR.out,?_⟩;have hS:STo key dk dk.length:=by
    rw [HR.out.len,Hn.out];intro a b x y h1 h2;exact HS.out a b x y h1 (by omega)
   exact ziZ hS
theorem zkd {α:Type}(enc:α→Value)(key:α→Rat)(g:Nat)(cb:Array Value)(B blk cap:Nat)(d:List α)(w:World)(hR:w.ownsRow B 3 1 (.slice (some ⟨blk,0,none⟩) d.length cap) d.length (d.map enc))(hl:d.length≤12)(h1:OneCell enc)
  (eg:∀ args w,(callFunc g args).run Tryz.prog w=.ok (.enter g args) w)
  (hcmp:∀ W,w.grownBy W (some blk)→∀ x∈d,∀ y∈d,Calls Tryz.prog g (#[enc x,enc y]++cb) W fun e w'=>(∃ z:Int,e=.returned (.int .i64 z)∧(z<0 ↔ key x<key y))∧Ext W w') :
  Calls Tryz.prog 107 #[.slice (some ⟨blk,0,none⟩) d.length cap,.func (.func g) #[] cb] w fun e w'=>e=.returned (.tuple #[])∧∃ d',InR 3 w B blk cap enc d w' d'∧d'.Pairwise fun x y=>key x≤key y:=by
 have hi:=zkc enc key g cb B blk cap d d w w ⟨List.Perm.refl _,hR,zeo _ _⟩ (by omega) h1 eg hcmp;have h2:Calls Tryz.prog 153 #[.slice (some ⟨blk,0,none⟩) d.length cap,.int .i64 d.length,.func (.func g) #[] cb] w fun e w'=>e=.returned (.tuple #[])∧∃ d',InR 3 w B blk cap enc d w' d'∧d'.Pairwise fun x y=>key x≤key y:=by
  generalize hn:d.length=n at *;have Hi:=hid hi;clear hi hR hcmp hn;have t1:¬ (20:Int)≤(n:Int):=by omega
  have t2:¬ (20:Int)<(n:Int):=by omega
  go_enter Tryz.func153,Tryz.ntmps153
  go_wp2_with fail
  refine wp_loop_rounds 1 ?_;rw [rounds_succ];go_wp2_with fail
  refine Hi.out.mono ?_;rintro e w1 ⟨rfl,hd⟩;have Hd:=hid hd;clear hd;go_wp2_with fail
  refine wp_loop_rounds 1 ?_;rw [rounds_succ];go_wp2
  go_end0
  exact ⟨rfl,Hd.out⟩
 generalize hn:d.length=n at *;have H2:=hid h2;clear hi hR hcmp hn h2;go_enter Tryz.func107,Tryz.ntmps107
 go_wp2_with fail
 refine H2.out.mono ?_;rintro e w1 ⟨rfl,hd⟩;have Hd:=hid hd;clear hd;go_wp2
 go_end0
 exact ⟨rfl,Hd.out⟩
theorem zke (g:Nat)(cb:Array Value)(w:World) :
  Calls Tryz.prog 107 #[.slice none 0 0,.func (.func g) #[] cb] w fun e w'=>e=.returned (.tuple #[])∧Ext w w':=by
 have hi:Calls Tryz.prog 189 #[.slice none 0 0,.int .i64 0,.int .i64 0,.func (.func g) #[] cb] w fun e w'=>e=.returned (.tuple #[])∧w'=w:=by
  go_enter Tryz.func189,Tryz.ntmps189
  go_wp2_with fail
  refine wp_loop_rounds 1 ?_;rw [rounds_succ];go_wp2
  go_end0
  exact ⟨rfl,rfl⟩
 have h2:Calls Tryz.prog 153 #[.slice none 0 0,.int .i64 0,.func (.func g) #[] cb] w fun e w'=>e=.returned (.tuple #[])∧w'=w:=by
  have Hi:=hid hi;clear hi;go_enter Tryz.func153,Tryz.ntmps153
  go_wp2_with fail
  refine wp_loop_rounds 1 ?_;rw [rounds_succ];go_wp2_with fail
  refine Hi.out.mono ?_;rintro e w1 ⟨rfl,rfl⟩;go_wp2_with fail
  refine wp_loop_rounds 1 ?_;rw [rounds_succ];go_wp2
  go_end0
  exact ⟨rfl,rfl⟩
 have H2:=hid h2;clear hi h2;go_enter Tryz.func107,Tryz.ntmps107
 go_wp2_with fail
 refine H2.out.mono ?_;rintro e w1 ⟨rfl,rfl⟩;go_wp2
 go_end0
 exact ⟨rfl,Ext.refl _⟩
theorem zkf {α:Type}(enc:α→Value)(key:α→Rat)(g:Nat)(cb:Array Value)(B blk cap:Nat)(d:List α)(w:World)(hR:w.ownsRow B 32 1 (.slice (some ⟨blk,0,none⟩) d.length cap) d.length (d.map enc))(hl:d.length≤12)(h1:OneCell enc)
  (eg:∀ args w,(callFunc g args).run Tryz.prog w=.ok (.enter g args) w)
  (hcmp:∀ W,w.grownBy W (some blk)→∀ x∈d,∀ y∈d,Calls Tryz.prog g (#[enc x,enc y]++cb) W fun e w'=>(∃ z:Int,e=.returned (.int .i64 z)∧(z<0 ↔ key x<key y))∧Ext W w') :
  Calls Tryz.prog 45 #[.slice (some ⟨blk,0,none⟩) d.length cap,.func (.func g) #[] cb] w fun e w'=>e=.returned (.tuple #[])∧∃ d',InR 32 w B blk cap enc d w' d'∧d'.Pairwise fun x y=>key x≤key y:=by
 have hi:=fun W (hE:Ext w W)=>zkb enc key g cb B blk cap d d w W ⟨List.Perm.refl _,hE.own hR,zeq (zeo _ _) hE⟩ (by omega) h1 eg hcmp;have h2:∀ W (lim:Int),Ext w W→Calls Tryz.prog 80 #[.slice (some ⟨blk,0,none⟩) d.length cap,.int .i64 0,.int .i64 d.length,.int .i64 lim,.func (.func g) #[] cb] W fun e w'=>e=.returned (.tuple #[])∧∃ d',InR 32 w B blk cap enc d w' d'∧d'.Pairwise fun x y=>key x≤key y:=by
  intro W lim hE;have Hi:=hid (hi W hE);generalize hn:d.length=n at *;clear hi hR hcmp hn hE;have t1:(n:Int)≤12:=by omega
  go_enter Tryz.func80,Tryz.ntmps80
  go_wp2_with fail
  refine wp_loop_rounds 1 ?_;rw [rounds_succ];go_wp2_with fail
  refine Hi.out.mono ?_;rintro e w1 ⟨rfl,hd⟩;have Hd:=hid hd;clear hd;go_wp2
  (try simp only [Exit.inBlock,Exit.then]);refine bodyPost_ret (results_none rfl _ _ _) rfl ?_;exact ⟨rfl,Hd.out⟩
 generalize hn:d.length=n at *;have H2:=hid h2;clear hi hR hcmp hn h2;go_enter Tryz.func45,Tryz.ntmps45
 have hln:=fun W=>zhm n (by omega) W;have Hln:=hid hln;clear hln;have hw:IntKind.u64.wrap (n:Int)=(n:Int):=by rw [IntKind.wrap_u64];omega
 go_wp2_with fail
 refine (Hln.out _).mono ?_;rintro e w1 ⟨rfl,rfl⟩;go_wp2_with fail
 refine (H2.out w _ (Ext.refl w)).mono ?_;rintro e w1 ⟨rfl,hd⟩;have Hd:=hid hd;clear hd;go_wp2
 go_end0
 exact ⟨rfl,Hd.out⟩
end
section
open Go.RowKit Go.Lib Go.Shelf
attribute [local go_sem] Oper.semAt_some
structure zkg (p:List Int)(l:List (List Rat)):Prop where
 pe:zee p=0
 few:p.length≤100
 len:∀ x∈l,x.length=p.length
 ft:∀ x∈l,∀ q∈x,Ft 30 q
 quick:∀ x∈l,∀ y∈l,ziz p (zeV x y)
 sgn:∀ x∈l,∀ y∈l,(zfe (tms p (dn (zeV x y)) (zeV x y))<0 ↔ sF p x<sF p y)
def zkh (p:List Int)(rs:List Qw)(i:Nat):Rat:=sF p (((rs[i]?).map Qw.x).getD [])
theorem zki (vp vl:Value)(p:List Int)(rs:List Qw)(bp bl:Nat)(i k:Nat)(w:World)(he:Env w)(h0:w.cell? ⟨bp,0,none⟩=some vp)(h1:w.cell? ⟨bl,0,none⟩=some vl)(hp:Sl w vp (zak p))(hl:RdM w vl rs)(hc:zkg p (rs.map Qw.x))(hi:i<rs.length)(hk:k<rs.length)(_hn:rs.length≤1000) :
  Calls Tryz.prog 108 #[.int .i64 i,.int .i64 k,.pointer (some ⟨bp,0,none⟩),.pointer (some ⟨bl,0,none⟩)] w fun e w'=>(∃ z:Int,e=.returned (.int .i64 z)∧(z<0 ↔ zkh p rs i<zkh p rs k))∧Ext w w':=by
 obtain ⟨r,hr⟩:∃ r,rs[i]?=some r:=⟨_,List.getElem?_eq_getElem hi⟩;obtain ⟨s,hs⟩:∃ s,rs[k]?=some s:=⟨_,List.getElem?_eq_getElem hk⟩;have hrm:=List.mem_of_getElem? hr;have hsm:=List.mem_of_getElem? hs;have hrx:=List.mem_map_of_mem (f:=Qw.x) hrm;have hsx:=List.mem_map_of_mem (f:=Qw.x) hsm;have hco:=fun W (hE:Ext w W)=>zi0 vp r.u s.u p r.x s.x W (he.ext hE) (hE.sl hp) (hE.rd (hl.2 r hrm)) (hE.rd (hl.2 s hsm)) hc.few (hc.len _ hrx) (hc.len _ hsx) (fun q hq=>(hc.ft _ hrx q hq).mono (by omega)) (fun q hq=>(hc.ft _ hsx q hq).mono (by omega)) (hc.quick _ hrx _ hsx);have hsg:=hc.sgn _ hrx _ hsx;have hkey:zkh p rs i=sF p r.x∧zkh p rs k=sF p s.x:=by unfold zkh;rw [hr,hs];exact ⟨rfl,rfl⟩
 rw [hkey.1,hkey.2];obtain ⟨ap,cp,rfl,_,_,_⟩:=hp.parts;obtain ⟨al,cl,rfl,_,_,hcl⟩:=hl.1.parts;obtain ⟨b,off,rfl,h2⟩:=hcl i r.u (by unfold qwc;rw [List.getElem?_map,hr];rfl);obtain ⟨b',off',e',h3⟩:=hcl k s.u (by unfold qwc;rw [List.getElem?_map,hs];rfl)
 cases e'
 obtain ⟨ar,cr,hru,_,_,_⟩:=(hl.2 r hrm).parts;obtain ⟨as',cs,hsu,_,_,_⟩:=(hl.2 s hsm).parts;rw [hru] at hco h2;rw [hsu] at hco h3;rw [zam] at *;rw [zf9] at *;generalize r.x.length=n1 at *;generalize s.x.length=n2 at *;generalize zfe (tms p (dn (zeV r.x s.x)) (zeV r.x s.x))=z at *;generalize rs.length=n at *;have hi0:(0:Int)≤(i:Int):=by omega
 have hi1:(i:Int)<(n:Int):=by omega
 have hk0:(0:Int)≤(k:Int):=by omega
 have hk1:(k:Int)<(n:Int):=by omega
 clear he hp hl hc hr hs hrm hsm hrx hsx hkey hcl hru hsu;have Hco:=hid hco;have Hsg:=hid hsg;clear hco hsg;go_enter Tryz.func108,Tryz.ntmps108
 go_wp2_with fail
 go_region_held3 (fun w'=>Ext w w'∧w'.cell? ⟨bp,0,none⟩=some (.slice ap p.length cp)∧w'.cell? ⟨bl,0,none⟩=some (.slice (some ⟨b,off,none⟩) n cl)∧w'.cell? ⟨b,off+i,none⟩=some (.slice ar n1 cr)∧w'.cell? ⟨b,off+k,none⟩=some (.slice as' n2 cs))
  (first | (with_reducible assumption) | exact ⟨(Ext.refl w).drew,h0,h1,h2,h3⟩)
  (first | (go_at_call 109;refine (Hco.out _ (And.left (by assumption))).mono ?_;rintro e9 VA ⟨rfl,hxa⟩;have hEA:=((Ext.refl w).drew).trans hxa;have hS2:Ext w VA∧VA.cell? ⟨bp,0,none⟩=some (.slice ap p.length cp)∧VA.cell? ⟨bl,0,none⟩=some (.slice (some ⟨b,off,none⟩) n cl)∧VA.cell? ⟨b,off+i,none⟩=some (.slice ar n1 cr)∧VA.cell? ⟨b,off+k,none⟩=some (.slice as' n2 cs):=⟨hEA,hEA.cell h0,hEA.cell h1,hEA.cell h2,hEA.cell h3⟩;have HEA:=hid hEA;clear hxa hEA))
 all_goals
  clear hS2 h0 h1 h2 h3;go_wp2
  go_ret
  exact ⟨⟨z,rfl,Hsg.out⟩,HEA.out⟩
end
section
open Go.RowKit Go.Lib
attribute [local go_sem] Oper.semAt_some
theorem toList_inj {s t:ByteArray}(h:s.toList=t.toList):s=t:=by
 rw [Lib.toList_data,Lib.toList_data] at h;exact ByteArray.ext (Array.toList_inj.1 h)
theorem zkj (va vb:Value)(x y:List Rat)(w:World)(ha:Rd w va x)(hb:Rd w vb y)(hx:x.length≤1000)(hy:y.length≤1000) :
  Calls Tryz.prog 61 #[va,vb] w fun e w'=>e=.returned (.bool (decide (x=y)))∧Ext w w':=by
 obtain ⟨aa,ca,rfl,_,_,hca⟩:=ha.parts;obtain ⟨ab,cb,rfl,_,_,hcb⟩:=hb.parts;clear ha hb;by_cases hl:x.length=y.length
 ·have Hl:=hid hl;rw [← hl];have hfin:(∀ i,i<x.length→x[i]?=y[i]?)→decide (x=y)=true:=fun h=>by
   rw [decide_eq_true_eq];apply List.ext_getElem? ;intro i;rcases Nat.lt_or_ge i x.length with g | g
   ·exact h i g
   ·rw [List.getElem?_eq_none g,List.getElem?_eq_none (by omega)]
  generalize hn:x.length=n at *;have hbad:∀ (i:Nat)(q r:Rat),x[i]?=some q→y[i]?=some r→q ≠ r→decide (x=y)=false:=fun i q r h1 h2 h3=>by
   rw [decide_eq_false_iff_not];rintro rfl;rw [h1] at h2;exact h3 (Option.some.inj h2)
  clear hl hy;have Hca:=hid hca;have Hcb:=hid hcb;have Hfin:=hid hfin;have Hbad:=hid hbad;have Hn:=hid hn;clear hca hcb hfin hbad hn;go_enter Tryz.func61,Tryz.ntmps61
  go_wp2_with fail
  go_loopw [5,13] (fun v5 v13 wr=>∃ k:Nat,v13=.int .i64 k∧k≤n∧(∀ i,i<k→x[i]?=y[i]?)∧Ext w wr) (fun _ v13 _=>n - (zag v13).toNat)
  case atStart=>exact ⟨0,rfl,Nat.zero_le _,fun i h=>by omega,Ext.refl _⟩
  case round =>
   obtain ⟨k,rfl,hk,hall,hE⟩:=hrel;by_cases hkn:k<n
   ·obtain ⟨q,hq⟩:∃ q,x[k]?=some q:=⟨_,List.getElem?_eq_getElem (by rw [Hn.out];exact hkn)⟩;obtain ⟨r,hr⟩:∃ r,y[k]?=some r:=⟨_,List.getElem?_eq_getElem (by rw [← Hl.out];exact hkn)⟩;obtain ⟨ba,oa,rfl,hx0,hx1⟩:=Hca.out k q hq;obtain ⟨bb,ob,rfl,hy0,hy1⟩:=Hcb.out k r hr;have c0:=hE.cell hx0;have c1:=hE.cell hx1;have e0:=hE.cell hy0;have e1:=hE.cell hy1;have hk0:(0:Int)≤(k:Int):=(by omega);have hk1:(k:Int)<(n:Int):=(by omega);clear hx0 hx1 hy0 hy1;by_cases hqr:q=r
    ·subst hqr;have hnx:∀ i,i<k+1→x[i]?=y[i]?:=fun i hi=>by
      rcases Nat.lt_or_ge i k with g | g
      ·exact hall i g
      ·rw [show i=k by omega,hq,hr]
     generalize I q.num=s1 at *;generalize I (q.den:Int)=s2 at *;clear hall hq hr;have Hnx:=hid hnx;have HE:=hid hE;clear hnx hE;go_wp2_with fail
     go_quiet (fail)
     go_wp2_with fail
     go_roundw
     case rel=>exact ⟨k+1,by go_num,by omega,Hnx.out,HE.out.drewN _⟩
     case measure=>simp [zag];omega
    ·have hb1:=Hbad.out k q r hq hr hqr;have hpart:¬ (I q.num).toList=(I r.num).toList∨((I r.num).toList=(I q.num).toList∧¬ (I (q.den:Int)).toList=(I (r.den:Int)).toList):=by
      by_cases g:(I q.num).toList=(I r.num).toList
      ·refine Or.inr ⟨g.symm,fun g2=>hqr (zdo ?_)⟩;unfold Rv;rw [toList_inj g,toList_inj g2]
      ·exact Or.inl g
     generalize I q.num=s1 at *;generalize I (q.den:Int)=s2 at *;generalize I r.num=s3 at *;generalize I (r.den:Int)=s4 at *;clear hall hq hr hqr;have Hb1:=hid hb1;have HE:=hid hE;clear hb1 hE;rcases hpart with g | ⟨g,g2⟩
     all_goals
      go_wp2_with fail
      go_quiet (fail)
      go_wp2
      go_ret
      exact ⟨by rw [Hb1.out];rfl,HE.out.drewN _⟩
   ·obtain rfl:n=k:=by omega
    have hf:=Hfin.out hall;clear hall;have Hf:=hid hf;have HE:=hid hE;clear hf hE;go_wp2
    go_ret
    exact ⟨by rw [Hf.out];rfl,HE.out⟩
 ·have hne:decide (x=y)=false:=by
   rw [decide_eq_false_iff_not];rintro rfl;exact hl rfl
  rw [hne];clear hca hcb hne;have hl2:¬ (x.length:Int)=(y.length:Int):=by omega
  generalize x.length=n at *;generalize y.length=m at *;go_enter Tryz.func61,Tryz.ntmps61
  go_wp2
  go_ret
  exact ⟨rfl,Ext.refl _⟩
theorem zkk (va vb:Value)(x y:List Rat)(w:World)(ha:Rd w va x)(hb:Rd w vb y)(hx:x.length≤1000)(hy:y.length≤1000) :
  Calls Tryz.prog 23 #[va,vb] w fun e w'=>e=.returned (.bool (decide (x=y)))∧Ext w w':=by
 have h:=zkj va vb x y w ha hb hx hy;obtain ⟨aa,ca,rfl,_,_,_⟩:=ha.parts;obtain ⟨ab,cb,rfl,_,_,_⟩:=hb.parts;generalize decide (x=y)=b at *;clear ha hb;have H:=hid h;clear h;go_enter Tryz.func23,Tryz.ntmps23
 go_wp2_with fail
 refine (H.out).mono ?_;rintro e w1 ⟨rfl,hx1⟩;have Hx1:=hid hx1;clear hx1;go_wp2
 go_ret
 exact ⟨rfl,Hx1.out⟩
end
section
open Go.RowKit Go.Lib
theorem zkl (v:Value)(x:List Rat)(w:World)(hx:Rd w v x)(hl:x.length≤1000000)(hne:x ≠ []) :
  Calls Tryz.prog 70 #[v] w fun e w'=>∃ u,e=.returned u∧zf6 w' w.heap.size u x∧Ext w w':=by
 obtain ⟨i0,hi,hz0,hz1,hz2⟩:=info_parts zf7;rcases hx with ⟨a,cap,rfl,hm,e⟩ | ⟨b,off,cap,rfl,h1,h2,hc⟩
 ·exact absurd e hne
 ·have hcell:∀ j u,(rcs x)[j]?=some u→w.cell? ⟨b,off+j,none⟩=some u:=fun j u hu=>by
   have hj:j<(rcs x).length:=(List.getElem?_eq_some_iff.1 hu).1;rw [zf4] at hj;obtain ⟨r,hr⟩:∃ r,x[j / 2]?=some r:=⟨_,List.getElem?_eq_getElem (by omega)⟩;obtain ⟨e1,e2⟩:=zf5 hr;obtain ⟨g1,g2⟩:=hc (j / 2) r hr;rcases (by omega:j=j / 2 * 2∨j=j / 2 * 2+1) with e | e
   ·rw [e,e1] at hu;cases hu;rw [e];exact g1
   ·rw [e,e2] at hu;cases hu;rw [e,← Nat.add_assoc];exact g2
  exact (AnyE.slices_Clone Tryz.lCloneQ i0 (.agg #[.string ByteArray.empty,.string ByteArray.empty]) 2 32 hi hz0 hz1 hz2 rfl (by decide) Tryz.sizeOf60 b off x.length cap (rcs x) w (by rw [zf4];omega) (by unfold maxLen;omega) (by omega) hcell (by
   intro u hu;unfold rcs at hu;obtain ⟨r,_,hr⟩:=List.mem_flatMap.1 hu;simp only [rc,List.mem_cons,List.not_mem_nil,or_false] at hr;rcases hr with rfl | rfl <;> rfl)).mono fun e w' ⟨v',he,ho,_,hb⟩=>⟨v',he,ho,hb⟩
theorem zkm (v:Value)(p:List Int)(w:World)(hx:Sl w v (zak p))(hl:p.length≤1000000)(hne:p ≠ []) :
  Calls Tryz.prog 77 #[v] w fun e w'=>∃ u,e=.returned u∧zek w' w.heap.size u p∧Ext w w':=by
 obtain ⟨i0,hi,hz0,hz1,hz2⟩:=info_parts zej;obtain ⟨a,cap,rfl,hm,h1,hc⟩:=hx.parts;obtain ⟨q,hq⟩:∃ q,p[0]?=some q:=⟨_,List.getElem?_eq_getElem (List.length_pos_iff.2 hne)⟩;obtain ⟨b,off,rfl,_⟩:=hc 0 (.int .i64 q) (by unfold zak;rw [List.getElem?_map,hq];rfl);have hcell:∀ j u,(zak p)[j]?=some u→w.cell? ⟨b,off+j,none⟩=some u:=fun j u hu=>by
  obtain ⟨b2,off2,e,h⟩:=hc j u hu
  cases e
  exact h
 refine (AnyE.slices_Clone Tryz.lCloneP i0 (.int .i64 0) 1 8 hi hz0 hz1 hz2 rfl (by decide) Tryz.sizeOf3 b off (zak p).length cap (zak p) w (by omega) (by rw [zam];unfold maxLen;omega) (by rw [zam];omega) hcell (by simp [zak,Value.oneCell'])).mono fun e w' ⟨v',he,ho,_,hb⟩=>⟨v',he,?_,hb⟩;rw [zam] at ho;exact ho
theorem zkn (rs:List Qw)(r:Qw):qwc (rs++[r])=qwc rs++[r.u]:=by simp [qwc]
theorem QwM.nil (w:World)(b B:Nat):QwM w b B (.slice none 0 0) []:=⟨World.ownsRow_nil w _ _ 1,fun _ h=>by cases h⟩
theorem QwM.more {w0 W V:World}{o:Obj}{v v7:Value}{rs:List Qw}{r:Qw}(hE:Ext w0 W)(h:QwM W w0.heap.size w0.heap.size v rs)(hr:zf6 W w0.heap.size r.u r.x)
  (hown:V.ownsRow w0.heap.size 32 1 v7 (rs.length+1) (qwc rs++[r.u])) (hgrow:(W.alloc o).grownBy V v.ownBlock):QwM V w0.heap.size w0.heap.size v7 (rs++[r])∧Ext w0 V:=by
 have hal:=h.1.alloc o;have hkeep:∀ s:Qw,zf6 W w0.heap.size s.u s.x→zf6 V w0.heap.size s.u s.x:=fun s hs=>World.ownsRow.kept (World.ownsRow.alloc hs o) hgrow (zem (World.ownsRow.alloc hs o) hal (by decide));refine ⟨⟨?_,fun s hs=>?_⟩,(hE.alloc o).grown hgrow fun k hk=>(World.ownsRow.lt hal k hk).1⟩
 ·rw [List.length_append,List.length_singleton,zkn];exact hown
 ·rcases List.mem_append.1 hs with g | g
  ·exact hkeep s (h.2 s g)
  ·rw [List.mem_singleton] at g;subst g;exact hkeep s hr
end
section
open Go.RowKit Go.Lib Go.Shelf
attribute [local go_sem] Oper.semAt_some
def zko (l:List Nat):List Value:=l.map fun (i:Nat)=>.int .i64 (i:Int)
theorem zkp (k:Nat):zko (List.range (k+1))=zko (List.range k)++[.int .i64 k]:=by unfold zko;rw [List.range_succ,List.map_append];rfl
theorem zkq : ∀ args w,(callFunc 108 args).run Tryz.prog w=.ok (.enter 108 args) w:=enters_of Tryz.func108 (by kernel_rfl) rfl
def zkr (w':World)(B:Nat)(u:Value)(p:List Int)(rs:List Qw)(ord:List Nat):Prop:=w'.ownsRow B 3 1 u rs.length (zko ord)∧ord.Perm (List.range rs.length)∧ord.Pairwise fun i k=>zkh p rs i≤zkh p rs k
theorem zks (vp vl:Value)(p:List Int)(rs:List Qw)(w:World)(he:Env w)(hp:Sl w vp (zak p))(hl:RdM w vl rs)(hc:zkg p (rs.map Qw.x))(hn12:rs.length≤12) :
  Calls Tryz.prog 76 #[vp,vl] w fun e w'=>∃ u ord,e=.returned (.tuple #[u,.int .i64 0])∧zkr w' w.heap.size u p rs ord∧Ext w w':=by
 obtain ⟨i0,hi,hz0,hz1,hz2⟩:=info_parts zej;have hall:∀ r∈rs,r.x.length=p.length∧∀ q∈r.x,Ft 30 q:=fun r hr=>⟨hc.len _ (List.mem_map_of_mem hr),hc.ft _ (List.mem_map_of_mem hr)⟩;have hca:=fun W (hE:Ext w W)=>zfR vp vl p rs W (he.ext hE) (hE.sl hp) (hE.rdM hl) hc.pe (by omega) hall;have hs1:=fun W W' (bp bl i k:Nat)(hE:Ext w W)(hg:W.grownBy W' none)=>True.intro;clear hs1;have hcl:=fun W (bp bl i k:Nat)(he':Env W)(h0:W.cell? ⟨bp,0,none⟩=some vp)(h1:W.cell? ⟨bl,0,none⟩=some vl)(hp':Sl W vp (zak p))(hl':RdM W vl rs)(hi:i<rs.length)(hk:k<rs.length)=>zki vp vl p rs bp bl i k W he' h0 h1 hp' hl' hc hi hk (by omega);obtain ⟨ap,cp,rfl,_,_,_⟩:=hp.parts;obtain ⟨al,cl,rfl,_,_,_⟩:=hl.1.parts;rw [zam] at *;rw [zf9] at *;have hE0:Ext w ((w.alloc (.cells #[.slice ap p.length cp] 29)).alloc (.cells #[.slice al rs.length cl] 34)):=((Ext.refl w).alloc _).alloc _;have b1:((w.alloc (.cells #[.slice ap p.length cp] 29)).alloc (.cells #[.slice al rs.length cl] 34)).heap[w.heap.size]?=some (.cells #[.slice ap p.length cp] 29 (0,0)):=((Ext.refl _).alloc _).heap (World.alloc_heap_new w _);have b2:((w.alloc (.cells #[.slice ap p.length cp] 29)).alloc (.cells #[.slice al rs.length cl] 34)).heap[w.heap.size+1]?=some (.cells #[.slice al rs.length cl] 34 (0,0)):=by
  have:=World.alloc_heap_new (w.alloc (.cells #[.slice ap p.length cp] 29)) (.cells #[.slice al rs.length cl] 34);rwa [World.size_alloc] at this
 generalize hn:rs.length=n at *;have Hn:=hid hn;have Hp:=hid hp;have Hl:=hid hl;have Hcl:=hid hcl;have HE0:=hid hE0;have B1:=hid b1;have B2:=hid b2;have Hca:=hid hca;have He:=hid he;clear hp hl hc hall hcl hE0 b1 b2 hca he hn;have cell1:∀ (W:World)(b:Nat)(x:Value)(t:TypeId),W.heap[b]?=some (.cells #[x] t (0,0))→W.cell? ⟨b,0,none⟩=some x:=fun W b x t h=>by unfold World.cell?;dsimp only;rw [h];rfl
 have Cell1:=hid cell1;clear cell1;go_enter Tryz.func76,Tryz.ntmps76
 have q0:=Cell1.out _ _ _ _ B1.out;have q1:=Cell1.out _ _ _ _ B2.out;go_wp2_with fail
 refine (Hca.out _ HE0.out).mono ?_;rintro e w1 ⟨rfl,hx1⟩;have q0:=hx1.cell q0;have q1:=hx1.cell q1;have Hx1:=hid hx1;clear hx1;go_wp2_with fail
 go_loopw [7,8,17] (fun v7 v8 v17 wr=>∃ k:Nat,v17=.int .i64 k∧k≤n∧wr.ownsRow w1.heap.size 3 1 v7 k (zko (List.range k))∧Ext w1 wr) (fun _ _ v17 _=>n - (zag v17).toNat)
 case atStart=>exact ⟨0,rfl,Nat.zero_le _,World.ownsRow_nil w1 _ _ 1,Ext.refl _⟩
 case round =>
  clear q0 q1;obtain ⟨k,rfl,hk,ho,hE⟩:=hrel;obtain ⟨a7,c7,rfl⟩:=zel ho;by_cases hkn:k<n
  ·have hk1:(k:Int)<(n:Int):=(by omega);have hm3:k+1≤maxLen:=(by unfold maxLen;omega);have hm4:(k+1) * 8≤140737488355328:=(by omega);have hbase:=hE.size;have HE:=hid hE;clear hE;go_wp2_with (at_builtin;refine wpList_append_own _ rfl _ _ 28 rfl w1.heap.size 3 i0 (.int .i64 0) 1 8 Tryz.underlying28 hi hz0 hz1 hz2 rfl (by decide) _ _ _ rfl (ho.alloc _) ⟨wr.heap.size,0,none⟩ 1 1 [.int .i64 k] rfl rfl (cell_one_new _ _ _) (by simp [Value.oneCell']) hm3 hm4 (by rw [World.size_alloc];omega) ?_;intro v7 V7 hown7 hgrow7 _)
   go_roundw
   case rel=>exact ⟨k+1,by go_num,by omega,by rw [zkp];exact hown7,(HE.out.alloc _).grown hgrow7 fun j hj=>(World.ownsRow.lt ho j hj).1⟩
   case measure=>simp [zag];omega
  ·obtain rfl:n=k:=by omega
   have q0:=hE.cell (Hx1.out.cell (Cell1.out _ _ _ _ B1.out));have q1:=hE.cell (Hx1.out.cell (Cell1.out _ _ _ _ B2.out));have hEw:=(HE0.out.trans Hx1.out).trans hE;have hlo:=(HE0.out.trans Hx1.out).size;have HE:=hid hE;have HEw:=hid hEw;clear hE hEw;rcases ho.2 with ⟨e0,hn0⟩ | ⟨g,cap,cur,e0,hb,hg,h1,h2,h3,h4⟩
   ·obtain rfl:n=0:=hn0;injection e0 with e1 e2 e3;subst e1;subst e3;have hst:=fun W=>zke 108 #[.pointer (some ⟨w.heap.size,0,none⟩),.pointer (some ⟨w.heap.size+1,0,none⟩)] W;have Hst:=hid hst;clear hst ho e2;go_wp2_with fail
    refine (Hst.out _).mono ?_;rintro e w5 ⟨rfl,hx5⟩;have Hx5:=hid hx5;clear hx5 q0 q1;go_wp2
    go_ret2
    exact ⟨_,[],rfl,⟨by rw [Hn.out];exact World.ownsRow_nil _ _ _ 1,by rw [Hn.out];exact List.Perm.refl _,List.Pairwise.nil⟩,HEw.out.trans Hx5.out⟩
   ·injection e0 with e1 e2 e3;subst e1;subst e3;have hgne:g ≠ w.heap.size∧g ≠ w.heap.size+1:=by
     have l1:w.heap.size+1<w1.heap.size:=by
      have:=Hx1.out.heap B2.out;exact (Array.getElem?_eq_some_iff.1 this).1
     omega
    have hpr:∀ W,wr.grownBy W (some g)→Sl W (.slice ap p.length cp) (zak p)∧RdM W (.slice al n cl) rs∧Env W∧W.cell? ⟨w.heap.size,0,none⟩=some (.slice ap p.length cp)∧W.cell? ⟨w.heap.size+1,0,none⟩=some (.slice al n cl):=fun W hg=>by
     have hx:Ext w W:=HEw.out.grown hg (fun k hk=>by cases hk;omega);refine ⟨hx.sl Hp.out,hx.rdM Hl.out,He.out.ext hx,?_,?_⟩
     ·exact Cell1.out _ _ _ _ ((hg.block _ (by have:=HE.out.size;have:=(Array.getElem?_eq_some_iff.1 (Hx1.out.heap B1.out)).1;omega) (by intro e;cases e;exact hgne.1 rfl)).trans ((HE.out.heap (Hx1.out.heap B1.out))))
     ·exact Cell1.out _ _ _ _ ((hg.block _ (by have:=HE.out.size;have:=(Array.getElem?_eq_some_iff.1 (Hx1.out.heap B2.out)).1;omega) (by intro e;cases e;exact hgne.2 rfl)).trans ((HE.out.heap (Hx1.out.heap B2.out))))
    have hst:=zkd (fun i:Nat=>Value.int .i64 (i:Int)) (zkh p rs) 108 #[.pointer (some ⟨w.heap.size,0,none⟩),.pointer (some ⟨w.heap.size+1,0,none⟩)] w1.heap.size g c7 (List.range n) wr (by rw [List.length_range];exact ho) (by rw [List.length_range];exact hn12) (fun _=>rfl) zkq (fun W hg x hx y hy=>by
     obtain ⟨a1,a2,a3,a4,a5⟩:=hpr W hg;rw [List.mem_range] at hx hy;exact Hcl.out W w.heap.size (w.heap.size+1) x y a3 a4 a5 a1 a2 hx hy)
    rw [List.length_range] at hst;have Hst:=hid hst;clear hst hpr ho hg h1 h2 h3 h4 q0 q1 e2;go_wp2_with fail
    refine Hst.out.mono ?_;rintro e w5 ⟨rfl,d5,hR5,hS5⟩;have HR5:=hid hR5;have HS5:=hid hS5;clear hR5 hS5;go_wp2
    go_ret2
    have hown:=HR5.out.own;rw [List.length_range] at hown;exact ⟨_,d5,rfl,⟨by rw [Hn.out];exact zah hown hlo,by rw [Hn.out];exact HR5.out.perm,HS5.out⟩,HEw.out.grown HR5.out.only fun k hk=>by cases hk;omega⟩
end
end Go.Proofs.YtbkfhacmekbniaaGreatDoor
