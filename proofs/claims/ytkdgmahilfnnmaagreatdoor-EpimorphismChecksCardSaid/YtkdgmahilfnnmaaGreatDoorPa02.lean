/- Walks: prime's IsPrime and Check; general words on rows that a call made. The row of an insertion sort whose compare makes memory. Walk: slices.insertionSortCmpFunc at rows, with a compare that makes memory. Walk: size.fast at 2, 3 and 5. Walk: slices.SortFunc at rows, at most twelve elements, with a compare that makes memory. (KEEPALL) -/
import Derived.Test.YtkdgmahilfnnmaaGreatDoorPa01
import Derived.Maps.AppendAt
import Derived.RangeFuncRecord
import Derived.Test.YtkdgmahilfnnmaaGreatDoorPa00
import Derived.Shelf.RegionOpenPlain
import Derived.Shelf.Abstract
import Derived.Shelf.SlicesE.Kit
import Derived.Deep.RegionHeld3
set_option maxRecDepth 100000
set_option maxHeartbeats 4000000
namespace Go.Proofs.YtkdgmahilfnnmaaGreatDoor
section
open Go.RowKit Go.Lib
def zcA (n:Int):Bool:=decide (2≤n∧n≤97) && (List.range 10).all fun d=>decide (d<2) || decide (n<(d * d:Nat)) || decide (n % (d:Int) ≠ 0)
theorem zcB {n:Int}(h:¬ (2≤n∧n≤97)):zcA n=false:=by
 unfold zcA;rw [decide_eq_false h];rfl
theorem zcC {n:Int}{d:Nat}(h2:2≤d)(h3:(d * d:Nat)≤n)(h4:d<10)(h:n % (d:Int)=0):zcA n=false:=by
 unfold zcA;rw [Bool.and_eq_false_iff];refine .inr ?_;rw [List.all_eq_false];refine ⟨d,List.mem_range.2 h4,?_⟩;rw [decide_eq_false (p:=d<2) (by omega),decide_eq_false (p:=n<(d * d:Nat)) (by omega),decide_eq_false (p:=n % (d:Int) ≠ 0) (by simpa using h)];simp
theorem zcD {n:Int}{d:Nat}(h:2≤n∧n≤97)(h3:n<(d * d:Nat))(hd:∀ e:Nat,2≤e→e<d→n % (e:Int) ≠ 0):zcA n=true:=by
 unfold zcA;rw [decide_eq_true h,Bool.true_and,List.all_eq_true];intro e _;by_cases h1:e<2
 ·rw [decide_eq_true h1];simp
 ·by_cases h2:e<d
  ·rw [decide_eq_true (p:=n % (e:Int) ≠ 0) (hd e (by omega) h2)];simp
  ·have:d * d≤e * e:=Nat.mul_le_mul (by omega) (by omega);rw [decide_eq_true (p:=n<(e * e:Nat)) (by omega)];simp
theorem zcE (n:Int)(w:World) :
  Calls Tryz.prog 58 #[.int .i64 n] w fun e w'=>e=.returned (.bool (zcA n))∧w=w':=by
 by_cases h:2≤n∧n≤97
 ·obtain ⟨hA,hB⟩:=h;go_enter Tryz.func58,Tryz.ntmps58
  go_wp2
  go_loop [3] (fun v=>∃ d:Nat,v=.int .i64 d∧2≤d∧d≤10∧∀ e:Nat,2≤e→e<d→n % (e:Int) ≠ 0) (fun v=>10 - (za6 v).toNat)
  case atStart=>exact ⟨2,rfl,by omega,by omega,fun e h1 h2=>by omega⟩
  case round =>
   obtain ⟨d,rfl,h2,h10,hd⟩:=hrel;have Hd:=hid hd;clear hd;have hdd:(d:Int) * d≤100:=(by rw [← Int.natCast_mul];have:=Nat.mul_le_mul h10 h10;omega);have hdd0:0≤(d:Int) * d:=(by rw [← Int.natCast_mul];omega);by_cases hle:(d:Int) * d≤n
   ·have h9:d≤9:=by
     refine Nat.le_of_not_lt fun hh=>?_;have:=Nat.mul_le_mul (show 10≤d by omega) (show 10≤d by omega);rw [← Int.natCast_mul] at hle;omega
    by_cases hz:n % (d:Int)=0
    ·have ht:(n % (d:Int) == 0)=true:=beq_iff_eq.2 hz;have hp:=zcC h2 (by rw [← Int.natCast_mul] at hle;omega) (by omega) hz;have Hp:=hid hp;clear hp hz;go_wp2
     go_ret
     exact ⟨by rw [Hp.out];rfl,rfl⟩
    ·have ht:(n % (d:Int) == 0)=false:=beq_eq_false_iff_ne.2 hz;have Hz:=hid hz;clear hz;go_wp2
     go_round
     case rel=>exact ⟨d+1,by go_num,by omega,by omega,fun e h3 h4=>by
      rcases Nat.lt_or_ge e d with g | g
      ·exact Hd.out e h3 g
      ·rw [show e=d by omega];exact Hz.out⟩
     case measure=>simp [za6];omega
   ·have hp:=zcD ⟨hA,hB⟩ (d:=d) (by rw [Int.natCast_mul];omega) Hd.out;have Hp:=hid hp;clear hp;go_wp2
    go_ret
    exact ⟨by rw [Hp.out];rfl,rfl⟩
 ·rw [zcB h];rcases (by omega:n<2∨(2≤n∧97<n)) with g | ⟨g1,g2⟩
  ·clear h;go_enter Tryz.func58,Tryz.ntmps58
   go_wp2
   go_ret
   exact ⟨rfl,rfl⟩
  ·clear h;go_enter Tryz.func58,Tryz.ntmps58
   go_wp2
   go_ret
   exact ⟨rfl,rfl⟩
def zcF (p:List Int)(k:Nat):Nat→Int
 | 0=>0
 | f+1=>if !zcA (zaD p k) then 25 else if 0<k∧zaD p k≤zaD p (k - 1) then 6 else zcF p (k+1) f
def zcG (p:List Int):Int:=if p.length=0 then 13 else if 6<p.length then 4 else zcF p 0 p.length
theorem zcH (v:Value)(p:List Int)(w:World)(hv:Sl w v (zaA p))(hl:p.length≤1000000) :
  Calls Tryz.prog 31 #[v] w fun e w'=>e=.returned (.int .i64 (zcG p))∧w=w':=by
 obtain ⟨a,cap,rfl,_,_,hc⟩:=hv.parts;rw [zaC];have Hc:=hid hc;clear hc;unfold zcG;by_cases h0:p.length=0
 ·rw [if_pos h0];have ht:((p.length:Int) == 0)=true:=by rw [h0];rfl
  clear h0;go_enter Tryz.func31,Tryz.ntmps31
  go_wp2
  go_ret
  exact ⟨rfl,rfl⟩
 ·rw [if_neg h0];have ht:((p.length:Int) == 0)=false:=beq_eq_false_iff_ne.2 (by omega);by_cases h6:6<p.length
  ·rw [if_pos h6];clear h0;go_enter Tryz.func31,Tryz.ntmps31
   go_wp2
   go_ret
   exact ⟨rfl,rfl⟩
  ·rw [if_neg h6];clear h0;obtain ⟨r,hr⟩:∃ r,r=zcF p 0 p.length:=⟨_,rfl⟩;rw [← hr];have Hr:=hid hr;clear hr;go_enter Tryz.func31,Tryz.ntmps31
   go_wp2
   go_loop [15] (fun i=>∃ k:Nat,i=.int .i64 k∧k≤p.length∧r=zcF p k (p.length - k)) (fun i=>p.length - (za6 i).toNat)
   case atStart=>exact ⟨0,rfl,Nat.zero_le _,Hr.out⟩
   case round =>
    obtain ⟨k,rfl,hk,hr⟩:=hrel;by_cases hlt:k<p.length
    ·obtain ⟨b,off,rfl,hcell⟩:=Hc.out k _ (zaF hlt);have hf:p.length - k=(p.length - (k+1))+1:=(by omega);rw [hf,zcF] at hr;have hip:=zcE (zaD p k) w;have Hip:=hid hip;clear hip hf;by_cases hpr:zcA (zaD p k)=true
     ·rw [hpr] at Hip hr;rw [if_neg (by simp)] at hr;by_cases hk0:0<k
      ·obtain ⟨b2,off2,e2,hcell2⟩:=Hc.out (k - 1) _ (zaF (show k - 1<p.length by omega));simp only [Option.some.injEq,Addr.mk.injEq,and_true] at e2;obtain ⟨rfl,rfl⟩:=e2;by_cases hle:zaD p k≤zaD p (k - 1)
       ·rw [if_pos ⟨hk0,hle⟩] at hr;have Hr2:=hid hr;clear hr hpr;generalize zaD p k=x at *;generalize zaD p (k - 1)=y at *;go_wp2_with fail
        refine Hip.out.mono ?_;rintro e w1 ⟨rfl,rfl⟩;go_wp2
        go_ret
        exact ⟨zb3 Hr2.out.symm,rfl⟩
       ·rw [if_neg (fun hh=>hle hh.2)] at hr;have Hr2:=hid hr;clear hr hpr;generalize zaD p k=x at *;generalize zaD p (k - 1)=y at *;go_wp2_with fail
        refine Hip.out.mono ?_;rintro e w1 ⟨rfl,rfl⟩;go_wp2
        go_round
        case rel=>exact ⟨k+1,by go_num,by omega,Hr2.out⟩
        case measure=>simp [za6];omega
      ·rw [if_neg (fun hh=>hk0 hh.1)] at hr;have Hr2:=hid hr;clear hr hpr;generalize zaD p k=x at *;go_wp2_with fail
       refine Hip.out.mono ?_;rintro e w1 ⟨rfl,rfl⟩;go_wp2
       go_round
       case rel=>exact ⟨k+1,by go_num,by omega,Hr2.out⟩
       case measure=>simp [za6];omega
     ·have hpf:zcA (zaD p k)=false:=(by simpa using hpr);rw [hpf] at Hip hr;rw [if_pos (by simp)] at hr;have Hr2:=hid hr;clear hr hpr hpf;generalize zaD p k=x at *;go_wp2_with fail
      refine Hip.out.mono ?_;rintro e w1 ⟨rfl,rfl⟩;go_wp2
      go_ret
      exact ⟨zb3 Hr2.out.symm,rfl⟩
    ·have hr0:r=0:=(by rw [hr,show p.length - k=0 by omega,zcF]);have Hr2:=hid hr0;clear hr hr0;go_wp2
     go_ret
     exact ⟨zb3 Hr2.out.symm,rfl⟩
theorem zcI (p:List Int):∀ (f k:Nat),zcF p k f=0→∀ i,k≤i→i<k+f→zcA (zaD p i)=true
 | 0,k,_,i,h1,h2=>by omega
 | f+1,k,h,i,h1,h2=>by
  rw [zcF] at h;by_cases hp:zcA (zaD p k)=true
  ·rw [if_neg (by rw [hp];simp)] at h;by_cases hk:0<k∧zaD p k≤zaD p (k - 1)
   ·rw [if_pos hk] at h;omega
   ·rw [if_neg hk] at h;rcases Nat.eq_or_lt_of_le h1 with e | e
    ·rw [← e];exact hp
    ·exact zcI p f (k+1) h i e (by omega)
  ·rw [if_pos (by simpa using hp)] at h;omega
theorem zcJ {n:Int}(h:zcA n=true):2≤n∧n≤97:=by
 unfold zcA at h;rw [Bool.and_eq_true] at h;simpa using h.1
theorem zcK {p:List Int}(h:zcG p=0):0<p.length∧p.length≤6∧∀ i,i<p.length→2≤zaD p i∧zaD p i≤97:=by
 unfold zcG at h;by_cases h0:p.length=0
 ·rw [if_pos h0] at h;omega
 ·rw [if_neg h0] at h;by_cases h6:6<p.length
  ·rw [if_pos h6] at h;omega
  ·rw [if_neg h6] at h;exact ⟨by omega,by omega,fun i hi=>zcJ (zcI p _ 0 h i (by omega) (by omega))⟩
theorem zcL : (Tryz.prog.info? 3).map (fun i=>(i.zero,i.size,i.bytes))=some (some (.int .i64 0),1,8):=by kernel_rfl
def zcM (w:World)(B:Nat)(v:Value)(l:List Int):Prop:=w.ownsRow B 3 1 v l.length (zaA l)
theorem Ext.ownI {w w':World}(h:Ext w w'){B:Nat}{v:Value}{l:List Int}(ho:zcM w B v l):zcM w' B v l:=h.own ho
theorem zcM.sl {w:World}{B:Nat}{v:Value}{l:List Int}(ho:zcM w B v l):Sl w v (zaA l):=za8 ho
theorem zcN {w:World}{B:Nat}{v:Value}{E s k:Nat}{xs:List Value}(h:w.ownsRow B E s v k xs):∃ a cap,v=.slice a k cap:=by
 rcases h.2 with ⟨rfl,rfl⟩ | ⟨g,cap,cur,rfl,_⟩ <;> exact ⟨_,_,rfl⟩
def Qu (w w':World):Prop:=∃ q,w'=w.drewN q
theorem Qu.refl (w:World):Qu w w:=⟨0,rfl⟩
theorem Qu.drewN {a w:World}(h:Qu a w)(n:Nat):Qu a (w.drewN n):=by
 obtain ⟨q,rfl⟩:=h;exact ⟨q+n,World.drewN_drewN ..⟩
theorem Qu.ext {w w':World}(h:Qu w w'):Ext w w':=by
 obtain ⟨q,rfl⟩:=h;exact (Ext.refl w).drewN q
theorem Qu.trans {a b c:World}(h:Qu a b)(k:Qu b c):Qu a c:=by
 obtain ⟨q,rfl⟩:=k;exact h.drewN q
theorem zcO {w:World}{B B' E E' s s' n n':Nat}{v u:Value}{xs ys:List Value}(h:w.ownsRow B E s v n xs)(k:w.ownsRow B' E' s' u n' ys)(hE:E ≠ E'):v.ownBlock=none∨v.ownBlock ≠ u.ownBlock:=by
 rcases h.2 with ⟨rfl,_⟩ | ⟨g,cap,cur,rfl,_,hg,_⟩
 ·exact .inl rfl
 ·rcases k.2 with ⟨rfl,_⟩ | ⟨g',cap',cur',rfl,_,hg',_⟩
  ·exact .inr (by simp [Value.ownBlock])
  ·refine .inr fun e=>?_;obtain rfl:g=g':=by simpa [Value.ownBlock] using e
   rw [hg] at hg';simp at hg';exact hE hg'.2
theorem zcP {w:World}{B s:Nat}{v:Value}{E k:Nat}{xs:List Value}(h:w.ownsRow B E s v k xs)(hk:0<k):∃ g cap,v=.slice (some ⟨g,0,none⟩) k cap∧∀ j u,xs[j]?=some u→w.cell? ⟨g,j,none⟩=some u:=by
 rcases h.2 with ⟨_,h0⟩ | ⟨g,cap,cur,rfl,_⟩
 ·omega
 ·refine ⟨g,cap,rfl,fun j u hj=>?_⟩;have:=h.cells (g:=g) rfl j u hj;rwa [show ((⟨g,0,none⟩:Addr).add j)=⟨g,j,none⟩ by unfold Addr.add;split <;> simp_all] at this
theorem zcQ {w:World}{b k:Nat}{us:List Value}{t:TypeId}{u:Value}(h:w.heap[b]?=some (.cells us.toArray t (0,0)))(hu:us[k]?=some u):w.cell? ⟨b,k,none⟩=some u:=by
 unfold World.cell?;dsimp only;rw [h];simpa using hu
theorem zcR {x:List Int}{j:Nat}(h:j<x.length):zaD x j∈x:=by
 unfold zaD;rw [List.getD_eq_getElem?_getD,List.getElem?_eq_getElem h];exact List.getElem_mem h
theorem zcS (a:World)(row:Option Nat):a.grownBy a row:=⟨rfl,rfl,rfl,Nat.le_refl _,fun _ _ _=>rfl⟩
theorem zcT {a w:World}{row:Option Nat}(h:a.grownBy w row)(n:Nat):a.grownBy (w.drewN n) row:=⟨h.os,h.tape,h.output,h.size,h.block⟩
theorem zcU {a w:World}{g:Nat}(h:a.grownBy w (some g)){p:Addr}(hp:p.block=g)(u:Value):a.grownBy (w.setCell p u) (some g) :=
 ⟨h.os,h.tape,h.output,by simpa [World.setCell] using h.size,fun i hi hne=>(Below.heap_setCell w p u i (by
  rintro rfl;exact hne (by rw [hp]))).trans (h.block i hi hne)⟩
theorem zcV {a w w':World}{row:Option Nat}(h:a.grownBy w row)(hx:Ext w w'):a.grownBy w' row :=
 ⟨hx.os.trans h.os,hx.tape.trans h.tape,hx.output.trans h.output,Nat.le_trans h.size hx.size,fun i hi hne=>(hx.block i (Nat.lt_of_lt_of_le hi h.size)).trans (h.block i hi hne)⟩
structure InR {α:Type}(T:TypeId)(W0:World)(B blk cap:Nat)(enc:α→Value)(d0:List α)(wr:World)(dk:List α):Prop where
 perm:dk.Perm d0
 own:wr.ownsRow B T 1 (.slice (some ⟨blk,0,none⟩) d0.length cap) d0.length (dk.map enc)
 only:W0.grownBy wr (some blk)
section
variable {α : Type} {T : TypeId} {W0 wr : World} {B blk cap : Nat} {enc : α → Value} {d0 dk : List α}
theorem InR.ext {w':World}(h:InR T W0 B blk cap enc d0 wr dk)(hx:Ext wr w'):InR T W0 B blk cap enc d0 w' dk:=⟨h.perm,hx.own h.own,zcV h.only hx⟩
theorem InR.len (h:InR T W0 B blk cap enc d0 wr dk):dk.length=d0.length:=h.perm.length_eq
theorem InR.cell (h:InR T W0 B blk cap enc d0 wr dk){k:Nat}{x:α}(hx:dk[k]?=some x):wr.cell? ⟨blk,k,none⟩=some (enc x):=by
 have hk:=(List.getElem?_eq_some_iff.1 hx).1;have:=h.len;rw [World.ownsRow.cellAt h.own k (by omega),List.getElem?_map,hx];rfl
theorem InR.frozen (h:InR T W0 B blk cap enc d0 wr dk)(k:Nat):wr.frozen? ⟨blk,k,none⟩=false:=by
 rcases h.own.2 with ⟨e,_⟩ | ⟨g,cap',cur,e,hb,hg,_⟩
 ·cases e
 ·injection e with e1 _ _;injection e1 with e1;injection e1 with e1;subst e1;exact frozen_of_row _ _ _ _ _ hg
theorem InR.swap (h:InR T W0 B blk cap enc d0 wr dk){k:Nat}{x y:α}(hx:dk[k+1]?=some x)(hy:dk[k]?=some y) :
  InR T W0 B blk cap enc d0 ((wr.setCell ⟨blk,k+1,none⟩ (enc y)).setCell ⟨blk,k,none⟩ (enc x)) ((dk.set (k+1) y).set k x):=by
 have h1:=World.ownsRow.stored h.own (k+1) (enc y);have h2:=World.ownsRow.stored h1.1 k (enc x);refine ⟨(zar hx hy).trans h.perm,?_,zcU (zcU h.only rfl _) rfl _⟩;rw [List.map_set,List.map_set];exact h2.1
theorem InR.mem (h:InR T W0 B blk cap enc d0 wr dk){k:Nat}{x:α}(hx:dk[k]?=some x):x∈d0:=h.perm.mem_iff.1 (List.mem_of_getElem? hx)
end
end
section
open Go.RowKit Go.Lib Go.Shelf
theorem zcW {α:Type}(enc:α→Value)(key:α→Rat)(g:Nat)(cb:Array Value)(B blk cap:Nat)(d0 d:List α)(W0 w:World)(hR:InR 26 W0 B blk cap enc d0 w d)(hl:d0.length≤1000)(h1:OneCell enc)
  (eg:∀ args w,(callFunc g args).run Tryz.prog w=.ok (.enter g args) w)
  (hcmp:∀ W,W0.grownBy W (some blk)→∀ x∈d0,∀ y∈d0,Calls Tryz.prog g (#[enc x,enc y]++cb) W fun e w'=>(∃ z:Int,e=.returned (.int .i64 z)∧(z<0 ↔ key x<key y))∧Ext W w') :
  Calls Tryz.prog 111 #[.slice (some ⟨blk,0,none⟩) d0.length cap,.int .i64 0,.int .i64 d0.length,.func (.func g) #[] cb] w fun e w'=>e=.returned (.tuple #[])∧∃ d',InR 26 W0 B blk cap enc d0 w' d'∧d'.Pairwise fun x y=>key x≤key y:=by
 have mixed:Tryz.prog.follows .mixedOrders=true:=by kernel_rfl
 have hcl0:=h1.cells;simp only [Value.cells] at hcl0;have hst:=h1.store Tryz.prog;generalize hn:d0.length=n at *;have HR:=hid hR;have Hcmp:=hid hcmp;have Hn:=hid hn;clear hR hcmp hn;go_enter Tryz.func111,Tryz.ntmps111
 go_wp2_with fail
 go_loopw [8] (fun vi wr=>∃ (i:Nat)(dk:List α),vi=.int .i64 i∧1≤i∧(i≤n∨i=1)∧Hid (STo key dk i)∧Hid (InR 26 W0 B blk cap enc d0 wr dk)) (fun vi _=>n+1 - (za6 vi).toNat)
 case atStart=>exact ⟨1,d,rfl,Nat.le_refl _,.inr rfl,hid (zal d),HR⟩
 case round =>
  clear HR;obtain ⟨i,dk,rfl,hi1,hin,HS,HR⟩:=hrel;by_cases hlt:i<n
  ·have hltz:(i:Int)<(n:Int):=(by omega);go_wp2_with fail
   obtain ⟨wa,hwa⟩:∃ wa,wa=wr:=⟨_,rfl⟩;subst hwa;go_loopw [9] (fun vj wr=>∃ (j:Nat)(dj:List α),vj=.int .i64 j∧j≤i∧Hid (SAt key dj i j)∧Hid (InR 26 W0 B blk cap enc d0 wr dj)) (fun vj _=>(za6 vj).toNat)
   case atStart=>exact ⟨i,dk,rfl,Nat.le_refl _,hid (zam HS.out),HR⟩
   case round =>
    clear HR;obtain ⟨j,dj,rfl,hji,HA,HR⟩:=hrel;by_cases hja:0<j
    ·obtain ⟨jp,hjp⟩:∃ q,q+1=j:=⟨j - 1,by omega⟩;have hjl:dj.length=n:=HR.out.len.trans Hn.out;obtain ⟨x,hx⟩:∃ x,dj[jp+1]?=some x:=⟨_,List.getElem?_eq_getElem (by omega)⟩;obtain ⟨y,hy⟩:∃ y,dj[jp]?=some y:=⟨_,List.getElem?_eq_getElem (by omega)⟩;obtain ⟨iN,hiN⟩:∃ q,q=j:=⟨_,rfl⟩;obtain ⟨jN,hjN⟩:∃ q,q=jp:=⟨_,rfl⟩;have c1:=HR.out.cell hx;have c2:=HR.out.cell hy;rw [hjp,← hiN] at c1;rw [← hjN] at c2;have hcm:=fun W (hE:Ext wr W)=>Hcmp.out W (zcV HR.out.only hE) x (HR.out.mem hx) y (HR.out.mem hy);have hsw:=fun W (hE:Ext wr W)=>(HR.out.ext hE).swap hx hy;have hcf:=fun W (hE:Ext wr W)=>(⟨(HR.out.ext hE).cell hx,(HR.out.ext hE).cell hy,(HR.out.ext hE).frozen (jp+1),(HR.out.ext hE).frozen jp⟩:_∧_∧_∧_);have hex:=fun W (hE:Ext wr W)=>HR.out.ext hE;have hij:jN<iN:=(by omega);rw [hjp,← hiN,← hjN] at hcf;have hsw2:=fun W (hE:Ext wr W)=>(show InR 26 W0 B blk cap enc d0 ((W.setCell ⟨blk,iN,none⟩ (enc y)).setCell ⟨blk,jN,none⟩ (enc x)) ((dj.set (jp+1) y).set jp x) by rw [hiN,hjN,← hjp];exact hsw W hE);have zjp:(j:Int)=(jp:Int)+1:=(by omega);have hjad:decide ((jp:Int)+1 > (0:Int))=true:=decide_eq_true (by omega);have hjaz:(0:Int)<(jp:Int)+1:=(by omega);have ea:((jp:Int)+1).toNat=iN:=(by omega);have pa:(0:Int)≤(jp:Int)+1:=(by omega);have ba:(jp:Int)+1<(n:Int):=(by omega);have ra:IntKind.i64.wrap ((jp:Int)+1)=(jp:Int)+1:=(by rw [IntKind.wrap_i64];omega);have ec:((jp:Int)).toNat=jN:=(by omega);have pc:(0:Int)≤(jp:Int):=(by omega);have bc:(jp:Int)<(n:Int):=(by omega);have rc:IntKind.i64.wrap ((jp:Int))=(jp:Int):=(by rw [IntKind.wrap_i64];omega);have Hx:=hid hx;have Hy:=hid hy;have Hcm:=hid hcm;have Hsw:=hid hsw2;have Hcf:=hid hcf;have Hex:=hid hex;have HiN:=hid hiN;have HjN:=hid hjN;clear hx hy hcm hsw hsw2 hcf hex hjl hiN hjN HR;by_cases hxy:key x<key y
     ·have hxy2:key x≤key y:=Rat.le_of_lt hxy;have Hxy:=hid hxy;have Hxy2:=hid hxy2;clear hxy hxy2;go_wp2_with fail
      go_region_held3 (fun w'=>Ext wr w'∧w'.cell? ⟨blk,iN,none⟩=some (enc x)∧w'.cell? ⟨blk,jN,none⟩=some (enc y))
       (first | (with_reducible assumption) | exact ⟨(Ext.refl wr).drew,c1,c2⟩)
       (first | (go_at_fn g;refine (Hcm.out _ (And.left (by assumption))).mono ?_;rintro e9 VA ⟨⟨z,rfl,hz⟩,hxa⟩;have hEA:=((Ext.refl wr).drew).trans hxa;have hS2:Ext wr VA∧VA.cell? ⟨blk,iN,none⟩=some (enc x)∧VA.cell? ⟨blk,jN,none⟩=some (enc y):=⟨hEA,hEA.cell c1,hEA.cell c2⟩;have hz1:z<0:=hz.2 Hxy.out;have hz2:decide (z<0)=true:=decide_eq_true hz1;have HEA:=hid hEA;clear hxa hEA hz))
      all_goals
       clear hS2 c1 c2;obtain ⟨k1,k2,k3,k4⟩:=Hcf.out VA HEA.out;have S3:=hid (Hsw.out VA HEA.out);have c3:∃ u,(VA.setCell ⟨blk,iN,none⟩ (enc y)).cell? ⟨blk,jN,none⟩=some u:=by
        rw [World.cell?_setCell_other _ _ _ _ (by intro e';simp only [Addr.mk.injEq] at e';omega)];exact ⟨_,k2⟩
       obtain ⟨u3,c3⟩:=c3;go_wp2_with fail
       go_big_region_o
       have S4:=hid (S3.out.ext ((Ext.refl _).drew));have HA2:=hid (zaq (show SAt key dj i (jp+1) by rw [hjp];exact HA.out) Hx.out Hy.out Hxy2.out);clear c3 k1 k2 k3 k4 S3;generalize ((VA.setCell ⟨blk,iN,none⟩ (enc y)).setCell ⟨blk,jN,none⟩ (enc x)).drew=w3 at S4 ⊢;clear ea ec;go_wp2_with fail
       go_roundw
       case rel=>exact ⟨jp,(dj.set (jp+1) y).set jp x,by first | rfl | go_num | (congr 1;omega),by omega,HA2,S4⟩
       case measure=>simp [za6];omega
     ·have Hxy:=hid (Rat.not_lt.1 hxy);have hxy2:=hid hxy;clear hxy;go_wp2_with fail
      go_region_held3 (fun w'=>Ext wr w'∧w'.cell? ⟨blk,iN,none⟩=some (enc x)∧w'.cell? ⟨blk,jN,none⟩=some (enc y))
       (first | (with_reducible assumption) | exact ⟨(Ext.refl wr).drew,c1,c2⟩)
       (first | (go_at_fn g;refine (Hcm.out _ (And.left (by assumption))).mono ?_;rintro e9 VA ⟨⟨z,rfl,hz⟩,hxa⟩;have hEA:=((Ext.refl wr).drew).trans hxa;have hS2:Ext wr VA∧VA.cell? ⟨blk,iN,none⟩=some (enc x)∧VA.cell? ⟨blk,jN,none⟩=some (enc y):=⟨hEA,hEA.cell c1,hEA.cell c2⟩;have hz1:¬ z<0:=fun h=>hxy2.out (hz.1 h);have hz2:decide (z<0)=false:=decide_eq_false hz1;have HEA:=hid hEA;clear hxa hEA hz))
      all_goals
       clear hS2 c1 c2;have S4:=hid (Hex.out VA HEA.out);have HS2:=hid (zao (show SAt key dj i (jp+1) by rw [hjp];exact HA.out) Hx.out Hy.out Hxy.out);clear ea ec;go_wp2_with fail
       go_roundw
       case rel=>exact ⟨i+1,dj,by go_num,by omega,.inl (by omega),HS2,S4⟩
       case measure=>simp [za6];omega
    ·obtain rfl:j=0:=by omega
     have hjaz:decide (((0:Nat):Int) > (0:Int))=false:=(by decide);have hjaz':¬ ((0:Nat):Int) > (0:Int):=(by decide);have HS2:=hid (zan HA.out);go_wp2_with fail
     go_big_region_o
     have S4:=hid (HR.out.ext ((Ext.refl _).drew));clear HR;generalize wr.drew=w3 at S4 ⊢;go_wp2_with fail
     go_roundw
     case rel=>exact ⟨i+1,dj,by go_num,by omega,.inl (by omega),HS2,S4⟩
     case measure=>simp [za6];omega
  ·have hkk:¬ (i:Int)<(n:Int):=(by omega);go_wp2
   go_end0
   refine ⟨rfl,dk,HR.out,?_⟩;have hS:STo key dk dk.length:=by
    rw [HR.out.len,Hn.out];intro a b x y h1 h2;exact HS.out a b x y h1 (by omega)
   exact zas hS
end
section
open Go.RowKit Go.Lib
theorem zcX (x y:Nat)(hx:x<18446744073709551616)(hy:y<18446744073709551616)(w:World) :
  Calls Tryz.prog 139 #[.int .u64 x,.int .u64 y] w fun e w'=>e=.returned (.tuple #[.int .u64 ((x * y / 18446744073709551616:Nat):Int),.int .u64 ((x * y % 18446744073709551616:Nat):Int)])∧w=w' :=
 (Any.bits_Mul64 Tryz.lMul64 x y hx hy w).mono fun _ _ ⟨h1,h2⟩=>⟨h1,h2.symm⟩
theorem zcY (x:Nat)(h:x≤1000)(w:World) :
  Calls Tryz.prog 84 #[.int .u64 x] w fun e w'=>e=.returned (.int .i64 (Lib.bitLen x))∧w=w' :=
 (Any.bits_Len Tryz.lLen (x:Int) w (by omega) (by omega)).mono fun _ _ ⟨h1,h2⟩=>⟨by rw [h1,Int.toNat_natCast],h2.symm⟩
def zcZ (h l:Int):Int:=bits BinOp.or .u64 (IntKind.u64.wrap (h * 4)) (l / 4611686018427387904)
def sqF (a:Nat):Int:=zcZ ((a * a / 18446744073709551616:Nat):Int) ((a * a % 18446744073709551616:Nat):Int)
def upF (b:Nat):Int:=IntKind.u64.wrap (sqF b+1)
def geF (z:Int):Bool:=decide ((9223372036854775808:Int)≤z)
def rdF (s:Nat × Nat × Nat):Nat × Nat × Nat :=
 if geF (sqF s.1) then ((sqF s.1 / 2).toNat,(IntKind.u64.wrap (upF s.2.1 / 2+1)).toNat,s.2.2 * 2+1) else ((sqF s.1).toNat,(upF s.2.1).toNat,s.2.2 * 2)
def stF (s:Nat × Nat × Nat):Nat→Nat × Nat × Nat
 | 0=>s
 | k+1=>rdF (stF s k)
def okF (s:Nat × Nat × Nat):Bool :=
 decide (s.1<18446744073709551616) && decide (s.2.1<18446744073709551616) && decide (s.2.2≤1000000000) && decide (0≤sqF s.1) && decide (0≤upF s.2.1) && (geF (sqF s.1) || !geF (upF s.2.1)) && decide (0≤IntKind.u64.wrap (upF s.2.1 / 2+1))
def zda (s:Nat × Nat × Nat)(n:Nat):Bool:=(List.range n).all fun k=>okF (stF s k)
def s2 : Nat × Nat × Nat:=(4611686018427387904,4611686018427387904,1)
def s3 : Nat × Nat × Nat:=(6917529027641081856,6917529027641081856,1)
def s5 : Nat × Nat × Nat:=(5764607523034234880,5764607523034234880,2)
theorem ok2 : zda s2 26=true∧(stF s2 26).2.2=67108864:=by decide +kernel
theorem ok3 : zda s3 26=true∧(stF s3 26).2.2=106365032:=by decide +kernel
theorem ok5 : zda s5 26=true∧(stF s5 26).2.2=155821956:=by decide +kernel
theorem zdb {s:Nat × Nat × Nat}{n k:Nat}(h:zda s n=true)(hk:k<n):okF (stF s k)=true:=List.all_eq_true.1 h k (List.mem_range.2 hk)
theorem zdc {s:Nat × Nat × Nat}(h:okF s=true):s.1<18446744073709551616∧s.2.1<18446744073709551616∧s.2.2≤1000000000∧0≤sqF s.1∧0≤upF s.2.1∧0≤IntKind.u64.wrap (upF s.2.1 / 2+1)∧((geF (sqF s.1)=true∧rdF s=((sqF s.1 / 2).toNat,(IntKind.u64.wrap (upF s.2.1 / 2+1)).toNat,s.2.2 * 2+1))∨(geF (sqF s.1)=false∧geF (upF s.2.1)=false∧rdF s=((sqF s.1).toNat,(upF s.2.1).toNat,s.2.2 * 2))):=by
 unfold okF at h;simp only [Bool.and_eq_true,decide_eq_true_eq] at h;obtain ⟨⟨⟨⟨⟨⟨h1,h2⟩,h3⟩,h4⟩,h5⟩,h6⟩,h7⟩:=h;refine ⟨h1,h2,h3,h4,h5,h7,?_⟩;unfold rdF
 cases hg:geF (sqF s.1) with
 | true=>left;exact ⟨rfl,by simp⟩
 | false =>
  right
  rw [hg] at h6
  refine ⟨rfl,by simpa using h6,by simp⟩
theorem zdd {z:Int}(h:0≤z):Value.int .u64 z=.int .u64 ((z.toNat:Nat):Int):=by rw [Int.toNat_of_nonneg h]
theorem zde (w:World) :
  Calls Tryz.prog 201 #[.int .i64 2] w fun e w'=>e=.returned (.tuple #[.int .i64 67108864,.bool true])∧w=w':=by
 have hb:Lib.bitLen 2=2:=by decide
 have hl:=zcY 2 (by omega) w;rw [hb] at hl;have hl2:Calls Tryz.prog 84 #[.int .u64 2] w fun e w'=>e=.returned (.int .i64 2)∧w=w':=hl;have hst:s2=stF s2 0:=rfl;have hal:=ok2;obtain ⟨S,hS⟩:∃ S:Nat→Nat × Nat × Nat,S=stF s2:=⟨_,rfl⟩;have hok:∀ k,k<26→okF (S k)=true:=fun k hk=>by rw [hS];exact zdb hal.1 hk
 have hnx:∀ k,S (k+1)=rdF (S k):=fun k=>by rw [hS];rfl
 have h0:Value.int .u64 4611686018427387904=.int .u64 (((S 0).1:Nat):Int)∧Value.int .u64 4611686018427387904=.int .u64 (((S 0).2.1:Nat):Int)∧Value.int .i64 1=.int .i64 (((S 0).2.2:Nat):Int):=by rw [hS];exact ⟨rfl,rfl,rfl⟩
 have hend:(S 26).2.2=67108864:=by rw [hS];exact hal.2
 have Hl2:=hid hl2;have Hok:=hid hok;have Hnx:=hid hnx;have H0:=hid h0;have Hend:=hid hend;clear hl2 hok hnx h0 hend;clear hl hb hst hal hS;go_enter Tryz.func201,Tryz.ntmps201
 go_wp2_with fail
 refine Hl2.out.mono ?_;rintro e W ⟨rfl,rfl⟩;go_wp2_with fail
 go_loop [5,6,7,8,9,21] (fun v5 v6 v7 v8 v9 v21=>∃ k:Nat,v21=.int .i64 k∧k≤26∧v5=.int .u64 (((S k).1:Nat):Int)∧v6=.int .u64 (((S k).2.1:Nat):Int)∧v7=.int .i64 (((S k).2.2:Nat):Int)) (fun _ _ _ _ _ v21=>26 - (za6 v21).toNat)
 case atStart=>exact ⟨0,rfl,by omega,H0.out.1,H0.out.2.1,H0.out.2.2⟩
 case round =>
  obtain ⟨k,rfl,hk,rfl,rfl,rfl⟩:=hrel;by_cases hk26:k<26
  ·obtain ⟨ha,hb,hc,p1,p2,p3,hcs⟩:=zdc (Hok.out k hk26);have hn:=Hnx.out k;have hm1:=zcX (S k).1 (S k).1 ha ha w;have hm2:=zcX (S k).2.1 (S k).2.1 hb hb w;have e1:bits BinOp.or .u64 (IntKind.u64.wrap (((((S k).1 * (S k).1 / 18446744073709551616:Nat):Int)) * 4)) ((((S k).1 * (S k).1 % 18446744073709551616:Nat):Int) / 4611686018427387904)=sqF (S k).1:=rfl;have e2:bits BinOp.or .u64 (IntKind.u64.wrap (((((S k).2.1 * (S k).2.1 / 18446744073709551616:Nat):Int)) * 4)) ((((S k).2.1 * (S k).2.1 % 18446744073709551616:Nat):Int) / 4611686018427387904)=sqF (S k).2.1:=rfl;have e3:IntKind.u64.wrap (sqF (S k).2.1+1)=upF (S k).2.1:=rfl;generalize (S k).1 * (S k).1 / 18446744073709551616=ah at *;generalize (S k).1 * (S k).1 % 18446744073709551616=al at *;generalize (S k).2.1 * (S k).2.1 / 18446744073709551616=bh at *;generalize (S k).2.1 * (S k).2.1 % 18446744073709551616=bl at *;generalize sqF (S k).1=m1 at *;generalize sqF (S k).2.1=m2 at *;generalize upF (S k).2.1=m3 at *;generalize rdF (S k)=sn at *;generalize (S k).1=a at *;generalize (S k).2.1=b at *;generalize (S k).2.2=c at *;clear ha hb;rcases hcs with ⟨hg,hr⟩ | ⟨hg,hg2,hr⟩
   ·have t1:decide ((9223372036854775808:Int)≤m1)=true:=hg;have e4:∃ m4,IntKind.u64.wrap (m3 / 2+1)=m4:=⟨_,rfl⟩;obtain ⟨m4,e4⟩:=e4;rw [e4] at hr p3;have Hm1:=hid hm1;have Hm2:=hid hm2;have Hr:=hid hr;have Hn:=hid hn;have P1:=hid p1;have P2:=hid p2;have P3:=hid p3;clear hm1 hm2 hr hn p1 p2 p3;clear hg;go_wp2_with fail
    refine Hm1.out.mono ?_;rintro e W ⟨rfl,rfl⟩;go_wp2_with fail
    refine Hm2.out.mono ?_;rintro e W ⟨rfl,rfl⟩;go_wp2_with fail
    go_round
    case rel =>
     refine ⟨k+1,by go_num,by omega,?_,?_,?_⟩
     ·rw [Hn.out,Hr.out,zdd (by have:=P1.out;omega)]
     ·rw [Hn.out,Hr.out,zdd P3.out]
     ·rw [Hn.out,Hr.out];go_num
    case measure=>simp [za6];omega
   ·have t1:decide ((9223372036854775808:Int)≤m1)=false:=hg;have t2:decide ((9223372036854775808:Int)≤m3)=false:=hg2;have Hm1:=hid hm1;have Hm2:=hid hm2;have Hr:=hid hr;have Hn:=hid hn;have P1:=hid p1;have P2:=hid p2;clear hm1 hm2 hr hn p1 p2;clear hg hg2 p3;go_wp2_with fail
    refine Hm1.out.mono ?_;rintro e W ⟨rfl,rfl⟩;go_wp2_with fail
    refine Hm2.out.mono ?_;rintro e W ⟨rfl,rfl⟩;go_wp2_with fail
    go_round
    case rel =>
     refine ⟨k+1,by go_num,by omega,?_,?_,?_⟩
     ·rw [Hn.out,Hr.out,zdd P1.out]
     ·rw [Hn.out,Hr.out,zdd P2.out]
     ·rw [Hn.out,Hr.out];go_num
    case measure=>simp [za6];omega
  ·obtain rfl:k=26:=by omega
   have he:=Hend.out;generalize (S 26).2.2=c at *;generalize (S 26).2.1=b at *;generalize (S 26).1=a at *;subst he;go_wp2
   go_ret2
   exact ⟨rfl,rfl⟩
theorem zdf (w:World) :
  Calls Tryz.prog 201 #[.int .i64 3] w fun e w'=>e=.returned (.tuple #[.int .i64 106365032,.bool true])∧w=w':=by
 have hb:Lib.bitLen 3=2:=by decide
 have hl:=zcY 3 (by omega) w;rw [hb] at hl;have hl2:Calls Tryz.prog 84 #[.int .u64 3] w fun e w'=>e=.returned (.int .i64 2)∧w=w':=hl;have hst:s3=stF s3 0:=rfl;have hal:=ok3;obtain ⟨S,hS⟩:∃ S:Nat→Nat × Nat × Nat,S=stF s3:=⟨_,rfl⟩;have hok:∀ k,k<26→okF (S k)=true:=fun k hk=>by rw [hS];exact zdb hal.1 hk
 have hnx:∀ k,S (k+1)=rdF (S k):=fun k=>by rw [hS];rfl
 have h0:Value.int .u64 6917529027641081856=.int .u64 (((S 0).1:Nat):Int)∧Value.int .u64 6917529027641081856=.int .u64 (((S 0).2.1:Nat):Int)∧Value.int .i64 1=.int .i64 (((S 0).2.2:Nat):Int):=by rw [hS];exact ⟨rfl,rfl,rfl⟩
 have hend:(S 26).2.2=106365032:=by rw [hS];exact hal.2
 have Hl2:=hid hl2;have Hok:=hid hok;have Hnx:=hid hnx;have H0:=hid h0;have Hend:=hid hend;clear hl2 hok hnx h0 hend;clear hl hb hst hal hS;go_enter Tryz.func201,Tryz.ntmps201
 go_wp2_with fail
 refine Hl2.out.mono ?_;rintro e W ⟨rfl,rfl⟩;go_wp2_with fail
 go_loop [5,6,7,8,9,21] (fun v5 v6 v7 v8 v9 v21=>∃ k:Nat,v21=.int .i64 k∧k≤26∧v5=.int .u64 (((S k).1:Nat):Int)∧v6=.int .u64 (((S k).2.1:Nat):Int)∧v7=.int .i64 (((S k).2.2:Nat):Int)) (fun _ _ _ _ _ v21=>26 - (za6 v21).toNat)
 case atStart=>exact ⟨0,rfl,by omega,H0.out.1,H0.out.2.1,H0.out.2.2⟩
 case round =>
  obtain ⟨k,rfl,hk,rfl,rfl,rfl⟩:=hrel;by_cases hk26:k<26
  ·obtain ⟨ha,hb,hc,p1,p2,p3,hcs⟩:=zdc (Hok.out k hk26);have hn:=Hnx.out k;have hm1:=zcX (S k).1 (S k).1 ha ha w;have hm2:=zcX (S k).2.1 (S k).2.1 hb hb w;have e1:bits BinOp.or .u64 (IntKind.u64.wrap (((((S k).1 * (S k).1 / 18446744073709551616:Nat):Int)) * 4)) ((((S k).1 * (S k).1 % 18446744073709551616:Nat):Int) / 4611686018427387904)=sqF (S k).1:=rfl;have e2:bits BinOp.or .u64 (IntKind.u64.wrap (((((S k).2.1 * (S k).2.1 / 18446744073709551616:Nat):Int)) * 4)) ((((S k).2.1 * (S k).2.1 % 18446744073709551616:Nat):Int) / 4611686018427387904)=sqF (S k).2.1:=rfl;have e3:IntKind.u64.wrap (sqF (S k).2.1+1)=upF (S k).2.1:=rfl;generalize (S k).1 * (S k).1 / 18446744073709551616=ah at *;generalize (S k).1 * (S k).1 % 18446744073709551616=al at *;generalize (S k).2.1 * (S k).2.1 / 18446744073709551616=bh at *;generalize (S k).2.1 * (S k).2.1 % 18446744073709551616=bl at *;generalize sqF (S k).1=m1 at *;generalize sqF (S k).2.1=m2 at *;generalize upF (S k).2.1=m3 at *;generalize rdF (S k)=sn at *;generalize (S k).1=a at *;generalize (S k).2.1=b at *;generalize (S k).2.2=c at *;clear ha hb;rcases hcs with ⟨hg,hr⟩ | ⟨hg,hg2,hr⟩
   ·have t1:decide ((9223372036854775808:Int)≤m1)=true:=hg;have e4:∃ m4,IntKind.u64.wrap (m3 / 2+1)=m4:=⟨_,rfl⟩;obtain ⟨m4,e4⟩:=e4;rw [e4] at hr p3;have Hm1:=hid hm1;have Hm2:=hid hm2;have Hr:=hid hr;have Hn:=hid hn;have P1:=hid p1;have P2:=hid p2;have P3:=hid p3;clear hm1 hm2 hr hn p1 p2 p3;clear hg;go_wp2_with fail
    refine Hm1.out.mono ?_;rintro e W ⟨rfl,rfl⟩;go_wp2_with fail
    refine Hm2.out.mono ?_;rintro e W ⟨rfl,rfl⟩;go_wp2_with fail
    go_round
    case rel =>
     refine ⟨k+1,by go_num,by omega,?_,?_,?_⟩
     ·rw [Hn.out,Hr.out,zdd (by have:=P1.out;omega)]
     ·rw [Hn.out,Hr.out,zdd P3.out]
     ·rw [Hn.out,Hr.out];go_num
    case measure=>simp [za6];omega
   ·have t1:decide ((9223372036854775808:Int)≤m1)=false:=hg;have t2:decide ((9223372036854775808:Int)≤m3)=false:=hg2;have Hm1:=hid hm1;have Hm2:=hid hm2;have Hr:=hid hr;have Hn:=hid hn;have P1:=hid p1;have P2:=hid p2;clear hm1 hm2 hr hn p1 p2;clear hg hg2 p3;go_wp2_with fail
    refine Hm1.out.mono ?_;rintro e W ⟨rfl,rfl⟩;go_wp2_with fail
    refine Hm2.out.mono ?_;rintro e W ⟨rfl,rfl⟩;go_wp2_with fail
    go_round
    case rel =>
     refine ⟨k+1,by go_num,by omega,?_,?_,?_⟩
     ·rw [Hn.out,Hr.out,zdd P1.out]
     ·rw [Hn.out,Hr.out,zdd P2.out]
     ·rw [Hn.out,Hr.out];go_num
    case measure=>simp [za6];omega
  ·obtain rfl:k=26:=by omega
   have he:=Hend.out;generalize (S 26).2.2=c at *;generalize (S 26).2.1=b at *;generalize (S 26).1=a at *;subst he;go_wp2
   go_ret2
   exact ⟨rfl,rfl⟩
theorem zdg (w:World) :
  Calls Tryz.prog 201 #[.int .i64 5] w fun e w'=>e=.returned (.tuple #[.int .i64 155821956,.bool true])∧w=w':=by
 have hb:Lib.bitLen 5=3:=by decide
 have hl:=zcY 5 (by omega) w;rw [hb] at hl;have hl2:Calls Tryz.prog 84 #[.int .u64 5] w fun e w'=>e=.returned (.int .i64 3)∧w=w':=hl;have hst:s5=stF s5 0:=rfl;have hal:=ok5;obtain ⟨S,hS⟩:∃ S:Nat→Nat × Nat × Nat,S=stF s5:=⟨_,rfl⟩;have hok:∀ k,k<26→okF (S k)=true:=fun k hk=>by rw [hS];exact zdb hal.1 hk
 have hnx:∀ k,S (k+1)=rdF (S k):=fun k=>by rw [hS];rfl
 have h0:Value.int .u64 5764607523034234880=.int .u64 (((S 0).1:Nat):Int)∧Value.int .u64 5764607523034234880=.int .u64 (((S 0).2.1:Nat):Int)∧Value.int .i64 2=.int .i64 (((S 0).2.2:Nat):Int):=by rw [hS];exact ⟨rfl,rfl,rfl⟩
 have hend:(S 26).2.2=155821956:=by rw [hS];exact hal.2
 have Hl2:=hid hl2;have Hok:=hid hok;have Hnx:=hid hnx;have H0:=hid h0;have Hend:=hid hend;clear hl2 hok hnx h0 hend;clear hl hb hst hal hS;go_enter Tryz.func201,Tryz.ntmps201
 go_wp2_with fail
 refine Hl2.out.mono ?_;rintro e W ⟨rfl,rfl⟩;go_wp2_with fail
 go_loop [5,6,7,8,9,21] (fun v5 v6 v7 v8 v9 v21=>∃ k:Nat,v21=.int .i64 k∧k≤26∧v5=.int .u64 (((S k).1:Nat):Int)∧v6=.int .u64 (((S k).2.1:Nat):Int)∧v7=.int .i64 (((S k).2.2:Nat):Int)) (fun _ _ _ _ _ v21=>26 - (za6 v21).toNat)
 case atStart=>exact ⟨0,rfl,by omega,H0.out.1,H0.out.2.1,H0.out.2.2⟩
 case round =>
  obtain ⟨k,rfl,hk,rfl,rfl,rfl⟩:=hrel;by_cases hk26:k<26
  ·obtain ⟨ha,hb,hc,p1,p2,p3,hcs⟩:=zdc (Hok.out k hk26);have hn:=Hnx.out k;have hm1:=zcX (S k).1 (S k).1 ha ha w;have hm2:=zcX (S k).2.1 (S k).2.1 hb hb w;have e1:bits BinOp.or .u64 (IntKind.u64.wrap (((((S k).1 * (S k).1 / 18446744073709551616:Nat):Int)) * 4)) ((((S k).1 * (S k).1 % 18446744073709551616:Nat):Int) / 4611686018427387904)=sqF (S k).1:=rfl;have e2:bits BinOp.or .u64 (IntKind.u64.wrap (((((S k).2.1 * (S k).2.1 / 18446744073709551616:Nat):Int)) * 4)) ((((S k).2.1 * (S k).2.1 % 18446744073709551616:Nat):Int) / 4611686018427387904)=sqF (S k).2.1:=rfl;have e3:IntKind.u64.wrap (sqF (S k).2.1+1)=upF (S k).2.1:=rfl;generalize (S k).1 * (S k).1 / 18446744073709551616=ah at *;generalize (S k).1 * (S k).1 % 18446744073709551616=al at *;generalize (S k).2.1 * (S k).2.1 / 18446744073709551616=bh at *;generalize (S k).2.1 * (S k).2.1 % 18446744073709551616=bl at *;generalize sqF (S k).1=m1 at *;generalize sqF (S k).2.1=m2 at *;generalize upF (S k).2.1=m3 at *;generalize rdF (S k)=sn at *;generalize (S k).1=a at *;generalize (S k).2.1=b at *;generalize (S k).2.2=c at *;clear ha hb;rcases hcs with ⟨hg,hr⟩ | ⟨hg,hg2,hr⟩
   ·have t1:decide ((9223372036854775808:Int)≤m1)=true:=hg;have e4:∃ m4,IntKind.u64.wrap (m3 / 2+1)=m4:=⟨_,rfl⟩;obtain ⟨m4,e4⟩:=e4;rw [e4] at hr p3;have Hm1:=hid hm1;have Hm2:=hid hm2;have Hr:=hid hr;have Hn:=hid hn;have P1:=hid p1;have P2:=hid p2;have P3:=hid p3;clear hm1 hm2 hr hn p1 p2 p3;clear hg;go_wp2_with fail
    refine Hm1.out.mono ?_;rintro e W ⟨rfl,rfl⟩;go_wp2_with fail
    refine Hm2.out.mono ?_;rintro e W ⟨rfl,rfl⟩;go_wp2_with fail
    go_round
    case rel =>
     refine ⟨k+1,by go_num,by omega,?_,?_,?_⟩
     ·rw [Hn.out,Hr.out,zdd (by have:=P1.out;omega)]
     ·rw [Hn.out,Hr.out,zdd P3.out]
     ·rw [Hn.out,Hr.out];go_num
    case measure=>simp [za6];omega
   ·have t1:decide ((9223372036854775808:Int)≤m1)=false:=hg;have t2:decide ((9223372036854775808:Int)≤m3)=false:=hg2;have Hm1:=hid hm1;have Hm2:=hid hm2;have Hr:=hid hr;have Hn:=hid hn;have P1:=hid p1;have P2:=hid p2;clear hm1 hm2 hr hn p1 p2;clear hg hg2 p3;go_wp2_with fail
    refine Hm1.out.mono ?_;rintro e W ⟨rfl,rfl⟩;go_wp2_with fail
    refine Hm2.out.mono ?_;rintro e W ⟨rfl,rfl⟩;go_wp2_with fail
    go_round
    case rel =>
     refine ⟨k+1,by go_num,by omega,?_,?_,?_⟩
     ·rw [Hn.out,Hr.out,zdd P1.out]
     ·rw [Hn.out,Hr.out,zdd P2.out]
     ·rw [Hn.out,Hr.out];go_num
    case measure=>simp [za6];omega
  ·obtain rfl:k=26:=by omega
   have he:=Hend.out;generalize (S 26).2.2=c at *;generalize (S 26).2.1=b at *;generalize (S 26).1=a at *;subst he;go_wp2
   go_ret2
   exact ⟨rfl,rfl⟩
end
section
open Go.RowKit Go.Lib Go.Shelf
theorem zdh {α:Type}(enc:α→Value)(key:α→Rat)(g:Nat)(cb:Array Value)(B blk cap:Nat)(d:List α)(w:World)(hR:w.ownsRow B 26 1 (.slice (some ⟨blk,0,none⟩) d.length cap) d.length (d.map enc))(hl:d.length≤12)(h1:OneCell enc)
  (eg:∀ args w,(callFunc g args).run Tryz.prog w=.ok (.enter g args) w)
  (hcmp:∀ W,w.grownBy W (some blk)→∀ x∈d,∀ y∈d,Calls Tryz.prog g (#[enc x,enc y]++cb) W fun e w'=>(∃ z:Int,e=.returned (.int .i64 z)∧(z<0 ↔ key x<key y))∧Ext W w') :
  Calls Tryz.prog 51 #[.slice (some ⟨blk,0,none⟩) d.length cap,.func (.func g) #[] cb] w fun e w'=>e=.returned (.tuple #[])∧∃ d',InR 26 w B blk cap enc d w' d'∧d'.Pairwise fun x y=>key x≤key y:=by
 have hi:=fun W (hE:Ext w W)=>zcW enc key g cb B blk cap d d w W ⟨List.Perm.refl _,hE.own hR,zcV (zcS _ _) hE⟩ (by omega) h1 eg hcmp;have h2:∀ W (lim:Int),Ext w W→Calls Tryz.prog 83 #[.slice (some ⟨blk,0,none⟩) d.length cap,.int .i64 0,.int .i64 d.length,.int .i64 lim,.func (.func g) #[] cb] W fun e w'=>e=.returned (.tuple #[])∧∃ d',InR 26 w B blk cap enc d w' d'∧d'.Pairwise fun x y=>key x≤key y:=by
  intro W lim hE;have Hi:=hid (hi W hE);generalize hn:d.length=n at *;clear hi hR hcmp hn hE;have t1:(n:Int)≤12:=by omega
  go_enter Tryz.func83,Tryz.ntmps83
  go_wp2_with fail
  refine wp_loop_rounds 1 ?_;rw [rounds_succ];go_wp2_with fail
  refine Hi.out.mono ?_;rintro e w1 ⟨rfl,hd⟩;have Hd:=hid hd;clear hd;go_wp2
  (try simp only [Exit.inBlock,Exit.then]);refine bodyPost_ret (results_none rfl _ _ _) rfl ?_;exact ⟨rfl,Hd.out⟩
 generalize hn:d.length=n at *;have H2:=hid h2;clear hi hR hcmp hn h2;go_enter Tryz.func51,Tryz.ntmps51
 have hln:=fun W=>zcY n (by omega) W;have Hln:=hid hln;clear hln;have hw:IntKind.u64.wrap (n:Int)=(n:Int):=by rw [IntKind.wrap_u64];omega
 go_wp2_with fail
 refine (Hln.out _).mono ?_;rintro e w1 ⟨rfl,rfl⟩;go_wp2_with fail
 refine (H2.out w _ (Ext.refl w)).mono ?_;rintro e w1 ⟨rfl,hd⟩;have Hd:=hid hd;clear hd;go_wp2
 go_end0
 exact ⟨rfl,Hd.out⟩
end
end Go.Proofs.YtkdgmahilfnnmaaGreatDoor
