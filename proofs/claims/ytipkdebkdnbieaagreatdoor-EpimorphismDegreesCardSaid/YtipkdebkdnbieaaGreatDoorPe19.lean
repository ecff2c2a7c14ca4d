/- Walk: slices.insertionSortCmpFunc at rows, with a compare that makes memory. Walk: slices.SortFunc at rows, at most twelve elements, with a compare that makes memory. (KEEPALL) Walk: row.IsZero. (KEEPALL) Walks: table's Check, slices.Repeat at a slice of one string; a row less a multiple of another one: out of XHermA, XHermB. (Printed by rebase.py.) -/
import Derived.Test.YtipkdebkdnbieaaGreatDoorPe18
import Derived.Shelf.RegionOpenPlain
import Derived.Shelf.Abstract
import Derived.Shelf.SlicesE.Kit
import Derived.Deep.RegionHeld3
import Derived.Test.YtipkdebkdnbieaaGreatDoorPe11
import Derived.Test.YtipkdebkdnbieaaGreatDoorPe12
import Derived.Test.YtipkdebkdnbieaaGreatDoorPe10
import Derived.Test.YtipkdebkdnbieaaGreatDoorPe04
import Derived.BigQuiet
import Derived.Laws.CopyOwn
import Derived.Deep.RegionLaw
import Derived.Deep.AppendLies
import Derived.Test.YtipkdebkdnbieaaGreatDoorShelfM
import Derived.RegionTactic
import Derived.ChangeAlike
set_option maxRecDepth 100000
set_option maxHeartbeats 4000000
namespace Go.Proofs.YtipkdebkdnbieaaGreatDoor
section
open Go.RowKit Go.Lib Go.Shelf
theorem zkx {α:Type}(enc:α→Value)(key:α→Rat)(g:Nat)(cb:Array Value)(B blk cap:Nat)(d0 d:List α)(W0 w:World)(hR:InR 33 W0 B blk cap enc d0 w d)(hl:d0.length≤1000)(h1:OneCell enc)
  (eg:∀ args w,(callFunc g args).run Tryz.prog w=.ok (.enter g args) w)
  (hcmp:∀ W,W0.grownBy W (some blk)→∀ x∈d0,∀ y∈d0,Calls Tryz.prog g (#[enc x,enc y]++cb) W fun e w'=>(∃ z:Int,e=.returned (.int .i64 z)∧(z<0 ↔ key x<key y))∧Ext W w') :
  Calls Tryz.prog 130 #[.slice (some ⟨blk,0,none⟩) d0.length cap,.int .i64 0,.int .i64 d0.length,.func (.func g) #[] cb] w fun e w'=>e=.returned (.tuple #[])∧∃ d',InR 33 W0 B blk cap enc d0 w' d'∧d'.Pairwise fun x y=>key x≤key y:=by
 have mixed:Tryz.prog.follows .mixedOrders=true:=by kernel_rfl
 have hcl0:=h1.cells;simp only [Value.cells] at hcl0;have hst:=h1.store Tryz.prog;generalize hn:d0.length=n at *;have HR:=hid hR;have Hcmp:=hid hcmp;have Hn:=hid hn;clear hR hcmp hn;go_enter Tryz.func130,Tryz.ntmps130
 go_wp2_with fail
 go_loopw [8] (fun vi wr=>∃ (i:Nat)(dk:List α),vi=.int .i64 i∧1≤i∧(i≤n∨i=1)∧Hid (STo key dk i)∧Hid (InR 33 W0 B blk cap enc d0 wr dk)) (fun vi _=>n+1 - (zal vi).toNat)
 case atStart=>exact ⟨1,d,rfl,Nat.le_refl _,.inr rfl,hid (zkp d),HR⟩
 case round =>
  clear HR;obtain ⟨i,dk,rfl,hi1,hin,HS,HR⟩:=hrel;by_cases hlt:i<n
  ·have hltz:(i:Int)<(n:Int):=(by omega);go_wp2_with fail
   obtain ⟨wa,hwa⟩:∃ wa,wa=wr:=⟨_,rfl⟩;subst hwa;go_loopw [9] (fun vj wr=>∃ (j:Nat)(dj:List α),vj=.int .i64 j∧j≤i∧Hid (SAt key dj i j)∧Hid (InR 33 W0 B blk cap enc d0 wr dj)) (fun vj _=>(zal vj).toNat)
   case atStart=>exact ⟨i,dk,rfl,Nat.le_refl _,hid (zkq HS.out),HR⟩
   case round =>
    clear HR;obtain ⟨j,dj,rfl,hji,HA,HR⟩:=hrel;by_cases hja:0<j
    ·obtain ⟨jp,hjp⟩:∃ q,q+1=j:=⟨j - 1,by omega⟩;have hjl:dj.length=n:=HR.out.len.trans Hn.out;obtain ⟨x,hx⟩:∃ x,dj[jp+1]?=some x:=⟨_,List.getElem?_eq_getElem (by omega)⟩;obtain ⟨y,hy⟩:∃ y,dj[jp]?=some y:=⟨_,List.getElem?_eq_getElem (by omega)⟩;obtain ⟨iN,hiN⟩:∃ q,q=j:=⟨_,rfl⟩;obtain ⟨jN,hjN⟩:∃ q,q=jp:=⟨_,rfl⟩;have c1:=HR.out.cell hx;have c2:=HR.out.cell hy;rw [hjp,← hiN] at c1;rw [← hjN] at c2;have hcm:=fun W (hE:Ext wr W)=>Hcmp.out W (zcC HR.out.only hE) x (HR.out.mem hx) y (HR.out.mem hy);have hsw:=fun W (hE:Ext wr W)=>(HR.out.ext hE).swap hx hy;have hcf:=fun W (hE:Ext wr W)=>(⟨(HR.out.ext hE).cell hx,(HR.out.ext hE).cell hy,(HR.out.ext hE).frozen (jp+1),(HR.out.ext hE).frozen jp⟩:_∧_∧_∧_);have hex:=fun W (hE:Ext wr W)=>HR.out.ext hE;have hij:jN<iN:=(by omega);rw [hjp,← hiN,← hjN] at hcf;have hsw2:=fun W (hE:Ext wr W)=>(show InR 33 W0 B blk cap enc d0 ((W.setCell ⟨blk,iN,none⟩ (enc y)).setCell ⟨blk,jN,none⟩ (enc x)) ((dj.set (jp+1) y).set jp x) by rw [hiN,hjN,← hjp];exact hsw W hE);have zjp:(j:Int)=(jp:Int)+1:=(by omega);have hjad:decide ((jp:Int)+1 > (0:Int))=true:=decide_eq_true (by omega);have hjaz:(0:Int)<(jp:Int)+1:=(by omega);have ea:((jp:Int)+1).toNat=iN:=(by omega);have pa:(0:Int)≤(jp:Int)+1:=(by omega);have ba:(jp:Int)+1<(n:Int):=(by omega);have ra:IntKind.i64.wrap ((jp:Int)+1)=(jp:Int)+1:=(by rw [IntKind.wrap_i64];omega);have ec:((jp:Int)).toNat=jN:=(by omega);have pc:(0:Int)≤(jp:Int):=(by omega);have bc:(jp:Int)<(n:Int):=(by omega);have rc:IntKind.i64.wrap ((jp:Int))=(jp:Int):=(by rw [IntKind.wrap_i64];omega);have Hx:=hid hx;have Hy:=hid hy;have Hcm:=hid hcm;have Hsw:=hid hsw2;have Hcf:=hid hcf;have Hex:=hid hex;have HiN:=hid hiN;have HjN:=hid hjN;clear hx hy hcm hsw hsw2 hcf hex hjl hiN hjN HR;by_cases hxy:key x<key y
     ·have hxy2:key x≤key y:=Rat.le_of_lt hxy;have Hxy:=hid hxy;have Hxy2:=hid hxy2;clear hxy hxy2;go_wp2_with fail
      go_region_held3 (fun w'=>Ext wr w'∧w'.cell? ⟨blk,iN,none⟩=some (enc x)∧w'.cell? ⟨blk,jN,none⟩=some (enc y))
       (first | (with_reducible assumption) | exact ⟨(Ext.refl wr).drew,c1,c2⟩)
       (first | (go_at_fn g;refine (Hcm.out _ (And.left (by assumption))).mono ?_;rintro e9 VA ⟨⟨z,rfl,hz⟩,hxa⟩;have hEA:=((Ext.refl wr).drew).trans hxa;have hS2:Ext wr VA∧VA.cell? ⟨blk,iN,none⟩=some (enc x)∧VA.cell? ⟨blk,jN,none⟩=some (enc y):=⟨hEA,hEA.cell c1,hEA.cell c2⟩;have hz1:z<0:=hz.2 Hxy.out;have hz2:decide (z<0)=true:=decide_eq_true hz1;have HEA:=hid hEA;clear hxa hEA hz))
      all_goals
       clear hS2 c1 c2;obtain ⟨k1,k2,k3,k4⟩:=Hcf.out VA HEA.out;have S3:=hid (Hsw.out VA HEA.out);have c3:∃ u,(VA.setCell ⟨blk,iN,none⟩ (enc y)).cell? ⟨blk,jN,none⟩=some u:=by
        rw [World.cell?_setCell_other _ _ _ _ (by intro e';simp only [Addr.mk.injEq] at e';omega)];exact ⟨_,k2⟩
       obtain ⟨u3,c3⟩:=c3;go_wp2_with fail
       go_big_region_o
       have S4:=hid (S3.out.ext ((Ext.refl _).drew));have HA2:=hid (zku (show SAt key dj i (jp+1) by rw [hjp];exact HA.out) Hx.out Hy.out Hxy2.out);clear c3 k1 k2 k3 k4 S3;generalize ((VA.setCell ⟨blk,iN,none⟩ (enc y)).setCell ⟨blk,jN,none⟩ (enc x)).drew=w3 at S4 ⊢;clear ea ec;go_wp2_with fail
       go_roundw
       case rel=>exact ⟨jp,(dj.set (jp+1) y).set jp x,by first | rfl | go_num | (congr 1;omega),by omega,HA2,S4⟩
       case measure=>simp [zal];omega
     ·have Hxy:=hid (Rat.not_lt.1 hxy);have hxy2:=hid hxy;clear hxy;go_wp2_with fail
      go_region_held3 (fun w'=>Ext wr w'∧w'.cell? ⟨blk,iN,none⟩=some (enc x)∧w'.cell? ⟨blk,jN,none⟩=some (enc y))
       (first | (with_reducible assumption) | exact ⟨(Ext.refl wr).drew,c1,c2⟩)
       (first | (go_at_fn g;refine (Hcm.out _ (And.left (by assumption))).mono ?_;rintro e9 VA ⟨⟨z,rfl,hz⟩,hxa⟩;have hEA:=((Ext.refl wr).drew).trans hxa;have hS2:Ext wr VA∧VA.cell? ⟨blk,iN,none⟩=some (enc x)∧VA.cell? ⟨blk,jN,none⟩=some (enc y):=⟨hEA,hEA.cell c1,hEA.cell c2⟩;have hz1:¬ z<0:=fun h=>hxy2.out (hz.1 h);have hz2:decide (z<0)=false:=decide_eq_false hz1;have HEA:=hid hEA;clear hxa hEA hz))
      all_goals
       clear hS2 c1 c2;have S4:=hid (Hex.out VA HEA.out);have HS2:=hid (zks (show SAt key dj i (jp+1) by rw [hjp];exact HA.out) Hx.out Hy.out Hxy.out);clear ea ec;go_wp2_with fail
       go_roundw
       case rel=>exact ⟨i+1,dj,by go_num,by omega,.inl (by omega),HS2,S4⟩
       case measure=>simp [zal];omega
    ·obtain rfl:j=0:=by omega
     have hjaz:decide (((0:Nat):Int) > (0:Int))=false:=(by decide);have hjaz':¬ ((0:Nat):Int) > (0:Int):=(by decide);have HS2:=hid (zkr HA.out);go_wp2_with fail
     go_big_region_o
     have S4:=hid (HR.out.ext ((Ext.refl _).drew));clear HR;generalize wr.drew=w3 at S4 ⊢;go_wp2_with fail
     go_roundw
     case rel=>exact ⟨i+1,dj,by go_num,by omega,.inl (by omega),HS2,S4⟩
     case measure=>simp [zal];omega
  ·have hkk:¬ (i:Int)<(n:Int):=(by omega);go_wp2
   go_end0
   refine ⟨rfl,dk,HR.out,?_⟩;have hS:STo key dk dk.length:=by
    rw [HR.out.len,Hn.out];intro a b x y h1 h2;exact HS.out a b x y h1 (by omega)
   exact zkw hS
theorem zky {α:Type}(enc:α→Value)(key:α→Rat)(g:Nat)(cb:Array Value)(B blk cap:Nat)(d:List α)(w:World)(hR:w.ownsRow B 33 1 (.slice (some ⟨blk,0,none⟩) d.length cap) d.length (d.map enc))(hl:d.length≤12)(h1:OneCell enc)
  (eg:∀ args w,(callFunc g args).run Tryz.prog w=.ok (.enter g args) w)
  (hcmp:∀ W,w.grownBy W (some blk)→∀ x∈d,∀ y∈d,Calls Tryz.prog g (#[enc x,enc y]++cb) W fun e w'=>(∃ z:Int,e=.returned (.int .i64 z)∧(z<0 ↔ key x<key y))∧Ext W w') :
  Calls Tryz.prog 66 #[.slice (some ⟨blk,0,none⟩) d.length cap,.func (.func g) #[] cb] w fun e w'=>e=.returned (.tuple #[])∧∃ d',InR 33 w B blk cap enc d w' d'∧d'.Pairwise fun x y=>key x≤key y:=by
 have hi:=fun W (hE:Ext w W)=>zkx enc key g cb B blk cap d d w W ⟨List.Perm.refl _,hE.own hR,zcC (zc9 _ _) hE⟩ (by omega) h1 eg hcmp;have h2:∀ W (lim:Int),Ext w W→Calls Tryz.prog 99 #[.slice (some ⟨blk,0,none⟩) d.length cap,.int .i64 0,.int .i64 d.length,.int .i64 lim,.func (.func g) #[] cb] W fun e w'=>e=.returned (.tuple #[])∧∃ d',InR 33 w B blk cap enc d w' d'∧d'.Pairwise fun x y=>key x≤key y:=by
  intro W lim hE;have Hi:=hid (hi W hE);generalize hn:d.length=n at *;clear hi hR hcmp hn hE;have t1:(n:Int)≤12:=by omega
  go_enter Tryz.func99,Tryz.ntmps99
  go_wp2_with fail
  refine wp_loop_rounds 1 ?_;rw [rounds_succ];go_wp2_with fail
  refine Hi.out.mono ?_;rintro e w1 ⟨rfl,hd⟩;have Hd:=hid hd;clear hd;go_wp2
  (try simp only [Exit.inBlock,Exit.then]);refine bodyPost_ret (results_none rfl _ _ _) rfl ?_;exact ⟨rfl,Hd.out⟩
 generalize hn:d.length=n at *;have H2:=hid h2;clear hi hR hcmp hn h2;go_enter Tryz.func66,Tryz.ntmps66
 have hln:=fun W=>zfQ n (by omega) W;have Hln:=hid hln;clear hln;have hw:IntKind.u64.wrap (n:Int)=(n:Int):=by rw [IntKind.wrap_u64];omega
 go_wp2_with fail
 refine (Hln.out _).mono ?_;rintro e w1 ⟨rfl,rfl⟩;go_wp2_with fail
 refine (H2.out w _ (Ext.refl w)).mono ?_;rintro e w1 ⟨rfl,hd⟩;have Hd:=hid hd;clear hd;go_wp2
 go_end0
 exact ⟨rfl,Hd.out⟩
end
section
open Go.RowKit Go.Lib
theorem zkz (z:Int)(w:World):Calls Tryz.prog 98 #[.int .i64 z] w fun e w'=>e=.returned (.bool (z != 0))∧∃ q,w'=w.drewN q:=by
 cases hd:(z != 0)
 all_goals
  go_enter Tryz.func98,Tryz.ntmps98
  go_wp2
  go_ret
  exact ⟨rfl,0,rfl⟩
theorem zk0 (w:World):Go.Proofs.PredAt Tryz.prog 98 #[] (Value.int .i64) (fun n=>n != 0) w:=fun W x _=>zkz x W
theorem zk1 : ∀ args w,(callFunc 98 args).run Tryz.prog w=.ok (.enter 98 args) w:=enters_of Tryz.func98 (by kernel_rfl) rfl
theorem zk2 (a:Option Addr)(cap:Nat)(x:List Int)(w:World)(hl:x.length≤1000000)
  (hc:∀ i u,(zap x)[i]?=some u→∃ b off,a=some ⟨b,off,none⟩∧w.cell? ⟨b,off+i,none⟩=some u) :
  Calls Tryz.prog 47 #[.slice a x.length cap,.func (.func 98) #[] #[]] w fun e w'=>e=.returned (.bool (x.any fun n=>n != 0))∧Ext w w':=by
 cases x with
 | nil=>exact (AnyE.slices_ContainsFunc_empty Tryz.lContainsR a cap _ w).mono fun e w' ⟨h,hw⟩=>⟨h,by rw [hw];exact Ext.refl _⟩
 | cons z r =>
  obtain ⟨b,off,rfl,_⟩:=hc 0 _ (zau (l:=z::r) (by simp))
  have h:=AnyE.slices_ContainsFunc Tryz.lContainsR (Value.int .i64) (fun n=>n != 0) 98 #[] zk1 b off (z::r).length cap (z::r) w (zk0 w) (Nat.le_refl _) (by omega) (fun j hj=>by
   obtain ⟨b2,off2,e2,hcell⟩:=hc j _ (zau hj);simp only [Option.some.injEq,Addr.mk.injEq,and_true] at e2;obtain ⟨rfl,rfl⟩:=e2;rw [hcell];unfold zas;rw [List.getD_eq_getElem?_getD,List.getElem?_eq_getElem hj,getElem!_pos _ j hj];rfl)
  rw [List.take_length] at h
  exact h.mono fun e w' ⟨he,q,hw⟩=>⟨he,by rw [hw];exact (Ext.refl w).drewN q⟩
theorem zk3 (v:Value)(x:List Int)(w:World)(hv:Sl w v (zap x))(hl:x.length≤1000000) :
  Calls Tryz.prog 65 #[v] w fun e w'=>e=.returned (.bool (!x.any fun n=>n != 0))∧Ext w w':=by
 obtain ⟨a,cap,rfl,_,_,hc⟩:=hv.parts;rw [zar];have hcon:=zk2 a cap x w hl hc;clear hc hv;generalize (x.any fun n=>n != 0)=b at *;have Hcon:=hid hcon;clear hcon;go_enter Tryz.func65,Tryz.ntmps65
 go_wp2_with fail
 refine Hcon.out.mono ?_;rintro e w1 ⟨rfl,hx1⟩;have Hx1:=hid hx1;clear hx1;go_wp2
 go_ret
 exact ⟨rfl,Hx1.out⟩
end
section
open Go.RowKit Go.Lib
open Go.RowKit Go.Lib Go.Shelf
theorem zk4 (n:Int)(w:World):Calls Tryz.prog 145 #[.int .i64 n] w fun e w'=>e=.returned (.bool (!zgA n))∧∃ q,w'=w.drewN q:=by
 unfold zgA;by_cases h1:1000000000<n
 ·rw [decide_eq_false (fun h=>by omega)];have hd:decide (1000000000<n)=true:=decide_eq_true h1;go_enter Tryz.func145,Tryz.ntmps145
  go_wp2
  go_ret
  exact ⟨rfl,0,rfl⟩
 ·have hd:decide (1000000000<n)=false:=decide_eq_false h1;by_cases h2:n < -1000000000
  ·rw [decide_eq_false (fun h=>by omega)];have hd2:decide (n < -1000000000)=true:=decide_eq_true h2;go_enter Tryz.func145,Tryz.ntmps145
   go_wp2
   go_ret
   exact ⟨rfl,0,rfl⟩
  ·rw [decide_eq_true ⟨by omega,by omega⟩];have hd2:decide (n < -1000000000)=false:=decide_eq_false h2;go_enter Tryz.func145,Tryz.ntmps145
   go_wp2
   go_ret
   exact ⟨rfl,0,rfl⟩
theorem zk5 (w:World):Go.Proofs.PredAt Tryz.prog 145 #[] (Value.int .i64) (fun n=>!zgA n) w:=fun W x _=>zk4 x W
theorem zk6 : ∀ args w,(callFunc 145 args).run Tryz.prog w=.ok (.enter 145 args) w:=enters_of Tryz.func145 (by kernel_rfl) rfl
theorem zk7 (a:Option Addr)(cap:Nat)(x:List Int)(w:World)(hl:x.length≤1000000)
  (hc:∀ i u,(zap x)[i]?=some u→∃ b off,a=some ⟨b,off,none⟩∧w.cell? ⟨b,off+i,none⟩=some u) :
  Calls Tryz.prog 47 #[.slice a x.length cap,.func (.func 145) #[] #[]] w fun e w'=>e=.returned (.bool (x.any fun n=>!zgA n))∧Ext w w':=by
 cases x with
 | nil=>exact (AnyE.slices_ContainsFunc_empty Tryz.lContainsR a cap _ w).mono fun e w' ⟨h,hw⟩=>⟨h,by rw [hw];exact Ext.refl _⟩
 | cons z r =>
  obtain ⟨b,off,rfl,_⟩:=hc 0 _ (zau (l:=z::r) (by simp))
  have h:=AnyE.slices_ContainsFunc Tryz.lContainsR (Value.int .i64) (fun n=>!zgA n) 145 #[] zk6 b off (z::r).length cap (z::r) w (zk5 w) (Nat.le_refl _) (by omega) (fun j hj=>by
   obtain ⟨b2,off2,e2,hcell⟩:=hc j _ (zau hj);simp only [Option.some.injEq,Addr.mk.injEq,and_true] at e2;obtain ⟨rfl,rfl⟩:=e2;rw [hcell];unfold zas;rw [List.getD_eq_getElem?_getD,List.getElem?_eq_getElem hj,getElem!_pos _ j hj];rfl)
  rw [List.take_length] at h
  exact h.mono fun e w' ⟨he,q,hw⟩=>⟨he,by rw [hw];exact (Ext.refl w).drewN q⟩
def zk8 (n:Nat)(x:List Int):Int:=if 12<x.length then 4 else if x.length ≠ n then 5 else if x.any (fun z=>!zgA z)=true then 4 else 0
def zk9 (n:Nat):List (List Int)→Int
 | []=>0
 | x::r=>if zk8 n x ≠ 0 then zk8 n x else zk9 n r
def zkA (m:List (List Int)):Int:=if 12<m.length then 4 else zk9 (m.getD 0 []).length m
theorem zkB {n:Nat}{l:List (List Int)}{k:Nat}(hk:k<l.length):zk9 n (l.drop k)=if zk8 n (l.getD k []) ≠ 0 then zk8 n (l.getD k []) else zk9 n (l.drop (k+1)):=by
 rw [List.drop_eq_getElem_cons hk,zk9];rw [List.getD_eq_getElem?_getD,List.getElem?_eq_getElem hk];rfl
theorem zkC (vm:Value)(m:List (List Int))(w:World)(hm:Mat w vm m)(hrow:∀ i,(m.getD i []).length≤1000000)(hml:m.length≤1000000) :
  Calls Tryz.prog 104 #[vm] w fun e w'=>e=.returned (.int .i64 (zkA m))∧Ext w w':=by
 obtain ⟨vs,hvs,hsl,hr⟩:=hm;obtain ⟨am,cm,rfl,_,_,hcm⟩:=hsl.parts;rw [hvs];by_cases h12:12<m.length
 ·have ht:zkA m=4:=by unfold zkA;rw [if_pos h12]
  rw [ht];clear ht hcm hsl hr hrow hvs;go_enter Tryz.func104,Tryz.ntmps104
  go_wp2
  go_ret
  exact ⟨rfl,Ext.refl _⟩
 ·obtain ⟨r,hr0⟩:∃ r,r=zkA m:=⟨_,rfl⟩;rw [← hr0];have ht:r=zk9 (m.getD 0 []).length m:=by rw [hr0];unfold zkA;rw [if_neg h12]
  obtain ⟨n0,hn0⟩:∃ n0,n0=(m.getD 0 []).length:=⟨_,rfl⟩;rw [← hn0] at ht;have hn0b:n0≤1000000:=by rw [hn0];exact hrow 0
  have Ht:=hid ht;have Hcm:=hid hcm;have Hr:=hid hr;have Hrow:=hid hrow;have Hvs:=hid hvs;have Hn0:=hid hn0;clear ht hcm hsl hr hrow hvs hr0 hn0;go_enter Tryz.func104,Tryz.ntmps104
  go_wp2_with fail
  go_loopw [10] (fun i wr=>∃ k:Nat,i=.int .i64 k∧k≤m.length∧r=zk9 n0 (m.drop k)∧Ext w wr) (fun i _=>m.length - (zal i).toNat)
  case atStart=>exact ⟨0,rfl,Nat.zero_le _,Ht.out,Ext.refl _⟩
  case round =>
   obtain ⟨k,rfl,hk,hrk,hext⟩:=hrel;have Hrk:=hid hrk;have Hext:=hid hext;clear hrk hext;by_cases hkl:k<m.length
   ·obtain ⟨u,hu⟩:∃ u,vs[k]?=some u:=⟨_,List.getElem?_eq_getElem (by rw [Hvs.out];exact hkl)⟩;obtain ⟨u0,hu0⟩:∃ u,vs[0]?=some u:=⟨_,List.getElem?_eq_getElem (by rw [Hvs.out];omega)⟩;obtain ⟨b,off,e1,hcu⟩:=Hcm.out k u hu;obtain ⟨b2,off2,e2,hcu0⟩:=Hcm.out 0 u0 hu0;subst e1;injection e2 with e2;injection e2 with e3 e4 _;subst e3;subst e4;have hs:=Hr.out k u hu;have hs0:=Hr.out 0 u0 hu0;have hxl:=Hrow.out k;have hrd:=zkB (n:=n0) hkl;rw [← Hrk.out] at hrd;generalize m.getD k []=x at *;obtain ⟨a0,c0,rfl,_,_,_⟩:=hs0.parts;rw [zar,← Hn0.out] at hcu0;obtain ⟨ax,cx,rfl,_,_,hcx⟩:=hs.parts;rw [zar] at hcu;have h1:=Hext.out.cell hcu;have h2:=Hext.out.cell hcu0;have hcon:=fun W (h:Ext w W)=>zk7 ax cx x W hxl (fun i u hu=>by
     obtain ⟨b,off,e,hc⟩:=hcx i u hu;exact ⟨b,off,e,h.cell hc⟩)
    have Hcon:=hid hcon;clear hcu hcu0 hs hs0 hcx hcon hu hu0;rw [Nat.add_zero] at h2;have hk0:(0:Int)≤(k:Int):=(by omega);have hk1:(k:Int)<(m.length:Int):=(by omega);have hm0:(0:Int)<(m.length:Int):=(by omega);by_cases hx12:12<x.length
    ·have ht:zk8 n0 x=4:=(by unfold zk8;rw [if_pos hx12]);rw [ht,if_pos (by decide)] at hrd;subst hrd;go_wp2
     go_ret
     exact ⟨rfl,Hext.out⟩
    ·by_cases hxn:x.length=n0
     ·have ht:zk8 n0 x=if x.any (fun z=>!zgA z)=true then 4 else 0:=(by unfold zk8;rw [if_neg hx12,if_neg (by simpa using hxn)]);have hne:((x.length:Int) != (n0:Int))=false:=(by rw [bne_eq_false_iff_eq];omega);rw [ht] at hrd;clear ht;generalize x.any (fun z=>!zgA z)=bb at *;have Hrd:=hid hrd;have Hxn:=hid hxn;clear hrd hxn
      cases bb with
      | true =>
       have hr4:r=4:=by have:=Hrd.out;simpa using this
       subst hr4
       go_wp2_with fail
       refine (Hcon.out wr Hext.out).mono ?_
       rintro e w1 ⟨rfl,hx1⟩
       have Hx1:=hid hx1;clear hx1
       go_wp2
       go_ret
       exact ⟨rfl,Hext.out.trans Hx1.out⟩
      | false =>
       have hr5:r=zk9 n0 (m.drop (k+1)):=by have:=Hrd.out;simpa using this
       have Hr5:=hid hr5;clear hr5
       go_wp2_with fail
       refine (Hcon.out wr Hext.out).mono ?_
       rintro e w1 ⟨rfl,hx1⟩
       have Hx1:=hid hx1;clear hx1
       go_wp2
       go_roundw
       case rel=>exact ⟨k+1,by go_num,by omega,Hr5.out,Hext.out.trans Hx1.out⟩
       case measure=>simp [zal];omega
     ·have ht:zk8 n0 x=5:=(by unfold zk8;rw [if_neg hx12,if_pos hxn]);have hne:((x.length:Int) != (n0:Int))=true:=(by rw [bne_iff_ne];omega);rw [ht,if_pos (by decide)] at hrd;subst hrd;clear hxn;go_wp2
      go_ret
      exact ⟨rfl,Hext.out⟩
   ·have hr0:r=0:=(by rw [Hrk.out,List.drop_of_length_le (by omega)];rfl);subst hr0;go_wp2
    go_ret
    exact ⟨rfl,Hext.out⟩
def zkD (k n:Nat)(v z:Value):List Value:=List.replicate k v++List.replicate (n - k) z
theorem zkE {k n:Nat}(v z:Value):splice (zkD k n v z) k (List.replicate (Nat.min k (n - k)) v)=zkD (k+Nat.min k (n - k)) n v z:=by
 have hm:Nat.min k (n - k)≤n - k:=Nat.min_le_right _ _;unfold splice zkD;rw [List.take_append_of_le_length (by simp),List.take_of_length_le (by simp),List.length_replicate,List.drop_append,List.drop_of_length_le (by simp),List.nil_append,List.length_replicate,← List.append_assoc,List.drop_replicate,List.replicate_append_replicate];congr 2;omega
theorem zkF {k n:Nat}(v z:Value)(h:k≤n):(zkD k n v z).length=n:=by unfold zkD;simp;omega
theorem zkG : (Tryz.prog.info? 100).map (·.size)=some 1:=by kernel_rfl
theorem zkH (n:Nat)(v z:Value)(hz:z=.string ByteArray.empty)(w:World)(h:n≤1000):(Instr.makeSlice 129 (.int .i64 (n:Int)) (.int .i64 (n:Int))).run Tryz.prog w=.ok (.slice (some ⟨w.heap.size,0,none⟩) n n) (w.alloc (.cells (zkD 0 n v z).toArray 100)):=by
 subst hz;obtain ⟨i0,hi,hz0,hz1,hz2⟩:=info_parts zf3;have h1:=run_make (P:=Tryz.prog) w 129 100 i0 (.string ByteArray.empty) Tryz.underlying129 hi hz0 .i64 .i64 (n:Int) (n:Int) (by omega) (Int.le_refl _) (by rw [hz2];omega) (by omega);rw [h1,hz1,Int.toNat_natCast,Nat.mul_one];have h2:madeCells (Value.string ByteArray.empty).cells n=(zkD 0 n v (.string ByteArray.empty)).toArray:=by
  apply Array.ext';show (madeCells #[Value.string ByteArray.empty] n).toList=_;rw [toList_madeCells_one];unfold zkD;simp
 rw [h2]
theorem zkI {n:Nat}(v z:Value):splice (zkD 0 n v z) 0 [v]=zkD 1 n v z:=by
 unfold splice zkD;simp
theorem zkJ (x y:Nat)(hx:x<18446744073709551616)(hy:y<18446744073709551616)(w:World) :
  Calls Tryz.prog 111 #[.int .u64 x,.int .u64 y] w fun e w'=>e=.returned (.tuple #[.int .u64 ((x * y / 18446744073709551616:Nat):Int),.int .u64 ((x * y % 18446744073709551616:Nat):Int)])∧w'=w:=Any.bits_Mul Tryz.lBitsMul x y hx hy w
theorem zkK (b:Nat)(v z:Value)(hz:z=.string ByteArray.empty)(hv:v.oneCell'=true)(n:Nat)(w:World)(hn:n≤1000)(hnp:0<n)(hc:w.cell? ⟨b,0,none⟩=some v) :
  Calls Tryz.prog 79 #[.slice (some ⟨b,0,none⟩) 1 1,.int .i64 n] w fun e w'=>e=.returned (.slice (some ⟨w.heap.size,0,none⟩) n n)∧w'.heap[w.heap.size]?=some (.cells (zkD n n v z).toArray 100 (0,0))∧Ext w w':=by
 have hmul:=zkJ 1 n (by omega) (by omega) w;rw [show 1 * n / 18446744073709551616=0 by omega,show 1 * n % 18446744073709551616=n by omega] at hmul;have Hmul:=hid hmul;have hmk:=zkH n v z hz w hn;clear hmul;have hn0:(0:Int)≤(n:Int):=by omega
 have hn1:(n:Int)≤1000:=by omega
 have hw1:IntKind.u64.wrap (n:Int)=(n:Int):=by rw [IntKind.wrap_u64];omega
 have hw2:IntKind.i64.wrap (n:Int)=(n:Int):=by rw [IntKind.wrap_i64];omega
 go_enter Tryz.func79,Tryz.ntmps79
 go_wp2_with fail
 refine Hmul.out.mono ?_;rintro e w1 ⟨rfl,hw1⟩;rw [hw1];clear hw1 w1;have hE0:Ext w (w.alloc (.cells (zkD 0 n v z).toArray 100)):=(Ext.refl w).alloc _;have hg0:(w.alloc (.cells (zkD 0 n v z).toArray 100)).heap[w.heap.size]?=some (.cells (zkD 0 n v z).toArray 100 (0,0)):=World.alloc_heap_new w _;have hc0:=hE0.cell hc;generalize hw0:w.alloc (.cells (zkD 0 n v z).toArray 100)=W0 at *;have HE0:=hid hE0;have Hg0:=hid hg0;have Hc0:=hid hc0;clear hE0 hg0 hc0 hc Hmul;have Hv1:=hid hv;clear hv hz;have k1:[v].length=Nat.min 1 n:=by rw [show Nat.min 1 n=1 from Nat.min_eq_left hnp];rfl
 have k2:∀ j u,[v][j]?=some u→W0.cell? (Addr.add ⟨b,0,none⟩ j)=some u:=fun j u hu=>by
  cases j with
  | zero=>injection hu with hu;subst hu;exact Hc0.out
  | succ j=>simp at hu
 have k3:0+[v].length≤(zkD 0 n v z).length:=by rw [zkF v z (Nat.zero_le _)];simp;omega
 have k4:∀ u∈[v],u.oneCell'=true:=fun u hu=>by
  have:=List.mem_singleton.1 hu;subst this;exact Hv1.out
 have K1:=hid k1;have K2:=hid k2;have K3:=hid k3;have K4:=hid k4;clear k1 k2 k3 k4;go_wp2_with ((with_reducible show wpList _ _ _ (⟨some 33,_,_,_,_,_⟩::_) _ _);(refine wpList_copy_splice (o:=⟨some 33,_,_,_,_,_⟩) rfl (.tmp 31) (.tmp 32) 129 129 rfl 100 Tryz.underlying129 zkG _ _ _ _ _ _ rfl rfl w.heap.size 0 (zkD 0 n v z) 100 Hg0.out [v] K1.out (fun _=>⟨rfl,_,rfl,K2.out⟩) K3.out K4.out w.heap.size w HE0.out (Nat.le_refl _) ?_);intro w1 hg1 hb1)
 rw [zkI] at hg1;have HE1:Hid (Ext w w1):=hid hb1;have Hg1:=hg1;clear hb1 hg1 K1 K2 K3 K4;go_loopw [8] (fun v8 wr=>∃ k:Nat,v8=.int .i64 k∧0<k∧k≤n∧wr.heap[w.heap.size]?=some (.cells (zkD k n v z).toArray 100 (0,0))∧Ext w wr) (fun v8 _=>n - (zal v8).toNat)
 case atStart=>exact ⟨1,rfl,by omega,hnp,Hg1.out,HE1.out⟩
 case round =>
  obtain ⟨k,rfl,hk0,hk,hg,hE⟩:=hrel;have Hg:=hid hg;have HE:=hid hE;clear hg hE;by_cases hkn:k<n
  ·have k1:(List.replicate (Nat.min k (n - k)) v).length=Nat.min k (n - k):=List.length_replicate;have k2:∀ j u,(List.replicate (Nat.min k (n - k)) v)[j]?=some u→wr.drew.cell? (Addr.add ⟨w.heap.size,0,none⟩ j)=some u:=fun j u hu=>by
    have hj:j<Nat.min k (n - k):=by
     have:=(List.getElem?_eq_some_iff.1 hu).1;rwa [List.length_replicate] at this
    have hjk:j<k:=Nat.lt_of_lt_of_le hj (Nat.min_le_left _ _);have e:(zkD k n v z)[j]?=some u:=by
     unfold zkD;rw [List.getElem?_append_left (by rw [List.length_replicate];exact hjk)];rw [List.getElem?_replicate,if_pos hj] at hu;rw [List.getElem?_replicate,if_pos hjk];exact hu
    rw [show (Addr.add ⟨w.heap.size,0,none⟩ j)=⟨w.heap.size,0+j,none⟩ by unfold Addr.add;split <;> simp_all]
    unfold World.cell?;dsimp only;rw [show wr.drew.heap[w.heap.size]?=_ from Hg.out];simpa using e
   have k3:k+(List.replicate (Nat.min k (n - k)) v).length≤(zkD k n v z).length:=by
    rw [zkF v z hk,List.length_replicate];have h7:Nat.min k (n - k)≤n - k:=Nat.min_le_right _ _;generalize Nat.min k (n - k)=m at *;omega
   have k4:∀ u∈List.replicate (Nat.min k (n - k)) v,u.oneCell'=true:=fun u hu=>by
    have:=List.eq_of_mem_replicate hu;subst this;exact Hv1.out
   have k5:=zkE (k:=k) (n:=n) v z;have k6:0<Nat.min k (n - k):=Nat.lt_min.2 ⟨hk0,by omega⟩;have k7:Nat.min k (n - k)≤n - k:=Nat.min_le_right _ _;generalize hcs:List.replicate (Nat.min k (n - k)) v=cs at *;generalize hm:Nat.min k (n - k)=m at *;have K1:=hid k1;have K2:=hid k2;have K3:=hid k3;have K4:=hid k4;have K5:=hid k5;have Hm:=hid hm;have hw3:IntKind.i64.wrap ((k:Int)+(m:Int))=((k+m:Nat):Int):=(by rw [IntKind.wrap_i64];omega);clear k1 k2 k3 k4 k5 hcs hm;have hki:(k:Int)<(n:Int):=(by omega);have hk0i:(0:Int)≤(k:Int):=(by omega);go_wp2_with fail
   have hgd:wr.drew.heap[w.heap.size]?=some (.cells (zkD k n v z).toArray 100 (0,0)):=Hg.out;have hEd:Ext w wr.drew:=HE.out.drewN 1;have Hgd:=hid hgd;have HEd:=hid hEd;clear hgd hEd;have hnk:¬ n=k:=(by omega);go_region_law ((refine step_copy_splice rfl (.tmp 41) (.tmp 44) 129 129 rfl 100 Tryz.underlying129 zkG (some ⟨w.heap.size,k,none⟩) (some ⟨w.heap.size,0,none⟩) (n - k) (n - k) k n (by simp [Act.eval,Act.put]) (by simp [Act.eval,Act.put]) w.heap.size k (zkD k n v z) 100 Hgd.out cs (K1.out.trans Hm.out.symm) (fun _=>⟨rfl,_,rfl,K2.out⟩) K3.out K4.out w.heap.size w HEd.out (Nat.le_refl _) ?_);intro w4 hg4 hb4)
   rw [K5.out] at hg4;rw [K1.out];have Hb4:Hid (Ext w w4):=hid hb4;clear hb4;go_simp
   go_roundw
   case rel=>exact ⟨_,_,_,_,_,_,_,_,_,_,_,_,_,_,⟨k+m,rfl,by omega,by omega,hg4.out,Hb4.out⟩,rfl⟩
   case measure=>simp [zal];omega
  ·obtain rfl:k=n:=by omega
   go_wp2
   go_ret
   exact ⟨rfl,Hg.out,HE.out⟩
def zkL (k:Int)(a b:List Int)(j:Nat):List Int:=(List.zipWith (fun x y=>x - k * y) a b).take j++a.drop j
theorem zkM (k:Int)(a b:List Int):zkL k a b 0=a:=by simp [zkL]
theorem zkN {k:Int}{a b:List Int}{n:Nat}(ha:a.length=n)(hb:b.length=n):zkL k a b n=List.zipWith (fun x y=>x - k * y) a b:=by
 unfold zkL;rw [List.drop_of_length_le (by omega),List.append_nil,List.take_of_length_le (by simp;omega)]
theorem zkO {k:Int}{a b:List Int}{n j:Nat}(ha:a.length=n)(hb:b.length=n)(hj:j<n):(zkL k a b j).set j (zas a j - k * zas b j)=zkL k a b (j+1):=by
 have hz:(List.zipWith (fun x y=>x - k * y) a b).length=n:=by simp;omega
 unfold zkL;rw [List.take_succ_eq_append_getElem (by omega),List.set_append_right _ _ (by simp;omega)];rw [show (List.take j (List.zipWith (fun x y=>x - k * y) a b)).length=j by simp;omega,Nat.sub_self,List.drop_eq_getElem_cons (by omega),List.set_cons_zero,List.append_assoc];congr 1;simp only [List.getElem_zipWith,List.singleton_append,List.cons.injEq,and_true];unfold zas;rw [List.getD_eq_getElem?_getD,List.getElem?_eq_getElem (by omega),List.getD_eq_getElem?_getD,List.getElem?_eq_getElem (by omega)];rfl
theorem zkP {k:Int}{a b:List Int}{n j:Nat}(ha:a.length=n)(hb:b.length=n)(hj:j<n):(zkL k a b j)[j]?=some (zas a j):=by
 have hz:(List.zipWith (fun x y=>x - k * y) a b).length=n:=by simp;omega
 unfold zkL;rw [List.getElem?_append_right (by simp;omega),List.length_take,hz,Nat.min_eq_left (by omega),Nat.sub_self,List.getElem?_drop];unfold zas;rw [List.getD_eq_getElem?_getD,Nat.add_zero,List.getElem?_eq_getElem (by omega)];rfl
theorem zkQ (l:List Int)(j:Nat)(z:Int):(zf1 l).set j (.string (I z))=zf1 (l.set j z):=by
 unfold zf1;rw [List.map_set]
theorem zkR {w:World}{B E g n cap:Nat}{xs:List Value}(h:w.ownsRow B E 1 (.slice (some ⟨g,0,none⟩) n cap) n xs){j:Nat}{u:Value}(hj:xs[j]?=some u):w.cell? ⟨g,j,none⟩=some u:=by
 have:=h.cells (g:=g) rfl j u hj;rwa [show ((⟨g,0,none⟩:Addr).add j)=⟨g,j,none⟩ by unfold Addr.add;split <;> simp_all] at this
end
end Go.Proofs.YtipkdebkdnbieaaGreatDoor
