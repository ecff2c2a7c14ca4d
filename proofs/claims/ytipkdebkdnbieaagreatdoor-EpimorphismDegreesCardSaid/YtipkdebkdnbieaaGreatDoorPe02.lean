/- Walks: prime's IsPrime and Check; general words on rows that a call made. -/
import Derived.Test.YtipkdebkdnbieaaGreatDoorPe01
import Derived.Maps.AppendAt
import Derived.RangeFuncRecord
set_option maxHeartbeats 400000
namespace Go.Proofs.YtipkdebkdnbieaaGreatDoor
open Go.RowKit Go.Lib
def zcq (n:Int):Bool:=decide (2≤n∧n≤97) && (List.range 10).all fun d=>decide (d<2) || decide (n<(d * d:Nat)) || decide (n % (d:Int) ≠ 0)
theorem zcr {n:Int}(h:¬ (2≤n∧n≤97)):zcq n=false:=by
 unfold zcq;rw [decide_eq_false h];rfl
theorem zcs {n:Int}{d:Nat}(h2:2≤d)(h3:(d * d:Nat)≤n)(h4:d<10)(h:n % (d:Int)=0):zcq n=false:=by
 unfold zcq;rw [Bool.and_eq_false_iff];refine .inr ?_;rw [List.all_eq_false];refine ⟨d,List.mem_range.2 h4,?_⟩;rw [decide_eq_false (p:=d<2) (by omega),decide_eq_false (p:=n<(d * d:Nat)) (by omega),decide_eq_false (p:=n % (d:Int) ≠ 0) (by simpa using h)];simp
theorem zct {n:Int}{d:Nat}(h:2≤n∧n≤97)(h3:n<(d * d:Nat))(hd:∀ e:Nat,2≤e→e<d→n % (e:Int) ≠ 0):zcq n=true:=by
 unfold zcq;rw [decide_eq_true h,Bool.true_and,List.all_eq_true];intro e _;by_cases h1:e<2
 ·rw [decide_eq_true h1];simp
 ·by_cases h2:e<d
  ·rw [decide_eq_true (p:=n % (e:Int) ≠ 0) (hd e (by omega) h2)];simp
  ·have:d * d≤e * e:=Nat.mul_le_mul (by omega) (by omega);rw [decide_eq_true (p:=n<(e * e:Nat)) (by omega)];simp
theorem zcu (n:Int)(w:World) :
  Calls Tryz.prog 86 #[.int .i64 n] w fun e w'=>e=.returned (.bool (zcq n))∧w=w':=by
 by_cases h:2≤n∧n≤97
 ·obtain ⟨hA,hB⟩:=h;go_enter Tryz.func86,Tryz.ntmps86
  go_wp2
  go_loop [3] (fun v=>∃ d:Nat,v=.int .i64 d∧2≤d∧d≤10∧∀ e:Nat,2≤e→e<d→n % (e:Int) ≠ 0) (fun v=>10 - (zal v).toNat)
  case atStart=>exact ⟨2,rfl,by omega,by omega,fun e h1 h2=>by omega⟩
  case round =>
   obtain ⟨d,rfl,h2,h10,hd⟩:=hrel;have Hd:=hid hd;clear hd;have hdd:(d:Int) * d≤100:=(by rw [← Int.natCast_mul];have:=Nat.mul_le_mul h10 h10;omega);have hdd0:0≤(d:Int) * d:=(by rw [← Int.natCast_mul];omega);by_cases hle:(d:Int) * d≤n
   ·have h9:d≤9:=by
     refine Nat.le_of_not_lt fun hh=>?_;have:=Nat.mul_le_mul (show 10≤d by omega) (show 10≤d by omega);rw [← Int.natCast_mul] at hle;omega
    by_cases hz:n % (d:Int)=0
    ·have ht:(n % (d:Int) == 0)=true:=beq_iff_eq.2 hz;have hp:=zcs h2 (by rw [← Int.natCast_mul] at hle;omega) (by omega) hz;have Hp:=hid hp;clear hp hz;go_wp2
     go_ret
     exact ⟨by rw [Hp.out];rfl,rfl⟩
    ·have ht:(n % (d:Int) == 0)=false:=beq_eq_false_iff_ne.2 hz;have Hz:=hid hz;clear hz;go_wp2
     go_round
     case rel=>exact ⟨d+1,by go_num,by omega,by omega,fun e h3 h4=>by
      rcases Nat.lt_or_ge e d with g | g
      ·exact Hd.out e h3 g
      ·rw [show e=d by omega];exact Hz.out⟩
     case measure=>simp [zal];omega
   ·have hp:=zct ⟨hA,hB⟩ (d:=d) (by rw [Int.natCast_mul];omega) Hd.out;have Hp:=hid hp;clear hp;go_wp2
    go_ret
    exact ⟨by rw [Hp.out];rfl,rfl⟩
 ·rw [zcr h];rcases (by omega:n<2∨(2≤n∧97<n)) with g | ⟨g1,g2⟩
  ·clear h;go_enter Tryz.func86,Tryz.ntmps86
   go_wp2
   go_ret
   exact ⟨rfl,rfl⟩
  ·clear h;go_enter Tryz.func86,Tryz.ntmps86
   go_wp2
   go_ret
   exact ⟨rfl,rfl⟩
def zcv (p:List Int)(k:Nat):Nat→Int
 | 0=>0
 | f+1=>if !zcq (zas p k) then 25 else if 0<k∧zas p k≤zas p (k - 1) then 6 else zcv p (k+1) f
def zcw (p:List Int):Int:=if p.length=0 then 13 else if 6<p.length then 4 else zcv p 0 p.length
theorem zcx (v:Value)(p:List Int)(w:World)(hv:Sl w v (zap p))(hl:p.length≤1000000) :
  Calls Tryz.prog 40 #[v] w fun e w'=>e=.returned (.int .i64 (zcw p))∧w=w':=by
 obtain ⟨a,cap,rfl,_,_,hc⟩:=hv.parts;rw [zar];have Hc:=hid hc;clear hc;unfold zcw;by_cases h0:p.length=0
 ·rw [if_pos h0];have ht:((p.length:Int) == 0)=true:=by rw [h0];rfl
  clear h0;go_enter Tryz.func40,Tryz.ntmps40
  go_wp2
  go_ret
  exact ⟨rfl,rfl⟩
 ·rw [if_neg h0];have ht:((p.length:Int) == 0)=false:=beq_eq_false_iff_ne.2 (by omega);by_cases h6:6<p.length
  ·rw [if_pos h6];clear h0;go_enter Tryz.func40,Tryz.ntmps40
   go_wp2
   go_ret
   exact ⟨rfl,rfl⟩
  ·rw [if_neg h6];clear h0;obtain ⟨r,hr⟩:∃ r,r=zcv p 0 p.length:=⟨_,rfl⟩;rw [← hr];have Hr:=hid hr;clear hr;go_enter Tryz.func40,Tryz.ntmps40
   go_wp2
   go_loop [15] (fun i=>∃ k:Nat,i=.int .i64 k∧k≤p.length∧r=zcv p k (p.length - k)) (fun i=>p.length - (zal i).toNat)
   case atStart=>exact ⟨0,rfl,Nat.zero_le _,Hr.out⟩
   case round =>
    obtain ⟨k,rfl,hk,hr⟩:=hrel;by_cases hlt:k<p.length
    ·obtain ⟨b,off,rfl,hcell⟩:=Hc.out k _ (zau hlt);have hf:p.length - k=(p.length - (k+1))+1:=(by omega);rw [hf,zcv] at hr;have hip:=zcu (zas p k) w;have Hip:=hid hip;clear hip hf;by_cases hpr:zcq (zas p k)=true
     ·rw [hpr] at Hip hr;rw [if_neg (by simp)] at hr;by_cases hk0:0<k
      ·obtain ⟨b2,off2,e2,hcell2⟩:=Hc.out (k - 1) _ (zau (show k - 1<p.length by omega));simp only [Option.some.injEq,Addr.mk.injEq,and_true] at e2;obtain ⟨rfl,rfl⟩:=e2;by_cases hle:zas p k≤zas p (k - 1)
       ·rw [if_pos ⟨hk0,hle⟩] at hr;have Hr2:=hid hr;clear hr hpr;generalize zas p k=x at *;generalize zas p (k - 1)=y at *;go_wp2_with fail
        refine Hip.out.mono ?_;rintro e w1 ⟨rfl,rfl⟩;go_wp2
        go_ret
        exact ⟨zbi Hr2.out.symm,rfl⟩
       ·rw [if_neg (fun hh=>hle hh.2)] at hr;have Hr2:=hid hr;clear hr hpr;generalize zas p k=x at *;generalize zas p (k - 1)=y at *;go_wp2_with fail
        refine Hip.out.mono ?_;rintro e w1 ⟨rfl,rfl⟩;go_wp2
        go_round
        case rel=>exact ⟨k+1,by go_num,by omega,Hr2.out⟩
        case measure=>simp [zal];omega
      ·rw [if_neg (fun hh=>hk0 hh.1)] at hr;have Hr2:=hid hr;clear hr hpr;generalize zas p k=x at *;go_wp2_with fail
       refine Hip.out.mono ?_;rintro e w1 ⟨rfl,rfl⟩;go_wp2
       go_round
       case rel=>exact ⟨k+1,by go_num,by omega,Hr2.out⟩
       case measure=>simp [zal];omega
     ·have hpf:zcq (zas p k)=false:=(by simpa using hpr);rw [hpf] at Hip hr;rw [if_pos (by simp)] at hr;have Hr2:=hid hr;clear hr hpr hpf;generalize zas p k=x at *;go_wp2_with fail
      refine Hip.out.mono ?_;rintro e w1 ⟨rfl,rfl⟩;go_wp2
      go_ret
      exact ⟨zbi Hr2.out.symm,rfl⟩
    ·have hr0:r=0:=(by rw [hr,show p.length - k=0 by omega,zcv]);have Hr2:=hid hr0;clear hr hr0;go_wp2
     go_ret
     exact ⟨zbi Hr2.out.symm,rfl⟩
theorem zcy (p:List Int):∀ (f k:Nat),zcv p k f=0→∀ i,k≤i→i<k+f→zcq (zas p i)=true
 | 0,k,_,i,h1,h2=>by omega
 | f+1,k,h,i,h1,h2=>by
  rw [zcv] at h;by_cases hp:zcq (zas p k)=true
  ·rw [if_neg (by rw [hp];simp)] at h;by_cases hk:0<k∧zas p k≤zas p (k - 1)
   ·rw [if_pos hk] at h;omega
   ·rw [if_neg hk] at h;rcases Nat.eq_or_lt_of_le h1 with e | e
    ·rw [← e];exact hp
    ·exact zcy p f (k+1) h i e (by omega)
  ·rw [if_pos (by simpa using hp)] at h;omega
theorem zcz {n:Int}(h:zcq n=true):2≤n∧n≤97:=by
 unfold zcq at h;rw [Bool.and_eq_true] at h;simpa using h.1
theorem zc0 {p:List Int}(h:zcw p=0):0<p.length∧p.length≤6∧∀ i,i<p.length→2≤zas p i∧zas p i≤97:=by
 unfold zcw at h;by_cases h0:p.length=0
 ·rw [if_pos h0] at h;omega
 ·rw [if_neg h0] at h;by_cases h6:6<p.length
  ·rw [if_pos h6] at h;omega
  ·rw [if_neg h6] at h;exact ⟨by omega,by omega,fun i hi=>zcz (zcy p _ 0 h i (by omega) (by omega))⟩
theorem zc1 : (Tryz.prog.info? 3).map (fun i=>(i.zero,i.size,i.bytes))=some (some (.int .i64 0),1,8):=by kernel_rfl
def zc2 (w:World)(B:Nat)(v:Value)(l:List Int):Prop:=w.ownsRow B 3 1 v l.length (zap l)
theorem Ext.ownI {w w':World}(h:Ext w w'){B:Nat}{v:Value}{l:List Int}(ho:zc2 w B v l):zc2 w' B v l:=h.own ho
theorem zc2.sl {w:World}{B:Nat}{v:Value}{l:List Int}(ho:zc2 w B v l):Sl w v (zap l):=zan ho
theorem zc3 {w:World}{B:Nat}{v:Value}{E s k:Nat}{xs:List Value}(h:w.ownsRow B E s v k xs):∃ a cap,v=.slice a k cap:=by
 rcases h.2 with ⟨rfl,rfl⟩ | ⟨g,cap,cur,rfl,_⟩ <;> exact ⟨_,_,rfl⟩
theorem zc4 {w0 W W7:World}{E s n:Nat}{v:Value}{xs:List Value}{tmp:Obj}(hE:Ext w0 W)(hr:W.ownsRow w0.heap.size E s v n xs)(hgrow:(W.alloc tmp).grownBy W7 v.ownBlock):Ext w0 W7:=by
 refine (hE.alloc tmp).grown hgrow fun k hk=>?_;rcases hr.2 with ⟨rfl,_⟩ | ⟨g,cap,cur,rfl,hb,_⟩
 ·simp [Value.ownBlock] at hk
 ·simp [Value.ownBlock] at hk;omega
def Qu (w w':World):Prop:=∃ q,w'=w.drewN q
theorem Qu.refl (w:World):Qu w w:=⟨0,rfl⟩
theorem Qu.drewN {a w:World}(h:Qu a w)(n:Nat):Qu a (w.drewN n):=by
 obtain ⟨q,rfl⟩:=h;exact ⟨q+n,World.drewN_drewN ..⟩
theorem Qu.ext {w w':World}(h:Qu w w'):Ext w w':=by
 obtain ⟨q,rfl⟩:=h;exact (Ext.refl w).drewN q
theorem Qu.trans {a b c:World}(h:Qu a b)(k:Qu b c):Qu a c:=by
 obtain ⟨q,rfl⟩:=k;exact h.drewN q
theorem zc5 {w:World}{B B' E E' s s' n n':Nat}{v u:Value}{xs ys:List Value}(h:w.ownsRow B E s v n xs)(k:w.ownsRow B' E' s' u n' ys)(hE:E ≠ E'):v.ownBlock=none∨v.ownBlock ≠ u.ownBlock:=by
 rcases h.2 with ⟨rfl,_⟩ | ⟨g,cap,cur,rfl,_,hg,_⟩
 ·exact .inl rfl
 ·rcases k.2 with ⟨rfl,_⟩ | ⟨g',cap',cur',rfl,_,hg',_⟩
  ·exact .inr (by simp [Value.ownBlock])
  ·refine .inr fun e=>?_;obtain rfl:g=g':=by simpa [Value.ownBlock] using e
   rw [hg] at hg';simp at hg';exact hE hg'.2
theorem zc6 {w:World}{B s:Nat}{v:Value}{E k:Nat}{xs:List Value}(h:w.ownsRow B E s v k xs)(hk:0<k):∃ g cap,v=.slice (some ⟨g,0,none⟩) k cap∧∀ j u,xs[j]?=some u→w.cell? ⟨g,j,none⟩=some u:=by
 rcases h.2 with ⟨_,h0⟩ | ⟨g,cap,cur,rfl,_⟩
 ·omega
 ·refine ⟨g,cap,rfl,fun j u hj=>?_⟩;have:=h.cells (g:=g) rfl j u hj;rwa [show ((⟨g,0,none⟩:Addr).add j)=⟨g,j,none⟩ by unfold Addr.add;split <;> simp_all] at this
theorem zc7 {w:World}{b k:Nat}{us:List Value}{t:TypeId}{u:Value}(h:w.heap[b]?=some (.cells us.toArray t (0,0)))(hu:us[k]?=some u):w.cell? ⟨b,k,none⟩=some u:=by
 unfold World.cell?;dsimp only;rw [h];simpa using hu
theorem zc8 {x:List Int}{j:Nat}(h:j<x.length):zas x j∈x:=by
 unfold zas;rw [List.getD_eq_getElem?_getD,List.getElem?_eq_getElem h];exact List.getElem_mem h
theorem zc9 (a:World)(row:Option Nat):a.grownBy a row:=⟨rfl,rfl,rfl,Nat.le_refl _,fun _ _ _=>rfl⟩
theorem zcA {a w:World}{row:Option Nat}(h:a.grownBy w row)(n:Nat):a.grownBy (w.drewN n) row:=⟨h.os,h.tape,h.output,h.size,h.block⟩
theorem zcB {a w:World}{g:Nat}(h:a.grownBy w (some g)){p:Addr}(hp:p.block=g)(u:Value):a.grownBy (w.setCell p u) (some g) :=
 ⟨h.os,h.tape,h.output,by simpa [World.setCell] using h.size,fun i hi hne=>(Below.heap_setCell w p u i (by
  rintro rfl;exact hne (by rw [hp]))).trans (h.block i hi hne)⟩
theorem zcC {a w w':World}{row:Option Nat}(h:a.grownBy w row)(hx:Ext w w'):a.grownBy w' row :=
 ⟨hx.os.trans h.os,hx.tape.trans h.tape,hx.output.trans h.output,Nat.le_trans h.size hx.size,fun i hi hne=>(hx.block i (Nat.lt_of_lt_of_le hi h.size)).trans (h.block i hi hne)⟩
end Go.Proofs.YtipkdebkdnbieaaGreatDoor
