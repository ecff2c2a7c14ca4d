/- Walks: prime's IsPrime and Check; general words on rows that a call made. Walks: schismaref03's trim, Int. -/
import Derived.Test.YtipjmpdndokdlaaGreatDoorPc01
import Derived.Maps.AppendAt
import Derived.RangeFuncRecord
import Derived.Test.YtipjmpdndokdlaaGreatDoorPc06
set_option maxRecDepth 100000
set_option maxHeartbeats 2000000
namespace Go.Proofs.YtipjmpdndokdlaaGreatDoor
open Go.RowKit Go.Lib
/-- A prime number up to 97. -/
def isPrime (n : Int) : Bool:=decide (2≤n ∧ n≤97) && (List.range 10).all fun d => decide (d<2) || decide (n<(d * d : Nat)) || decide (n % (d : Int) ≠ 0)
theorem isPrime_no {n:Int}(h:¬ (2≤n∧n≤97)):isPrime n=false:=by
 unfold isPrime;rw [decide_eq_false h];rfl
theorem isPrime_div {n:Int}{d:Nat}(h2:2≤d)(h3:(d * d:Nat)≤n)(h4:d<10)(h:n % (d:Int)=0):isPrime n=false:=by
 unfold isPrime
 rw [Bool.and_eq_false_iff]
 refine .inr ?_
 rw [List.all_eq_false]
 refine ⟨d,List.mem_range.2 h4,?_⟩
 rw [decide_eq_false (p:=d<2) (by omega),decide_eq_false (p:=n<(d * d:Nat)) (by omega),decide_eq_false (p:=n % (d:Int) ≠ 0) (by simpa using h)]
 simp
theorem isPrime_yes {n:Int}{d:Nat}(h:2≤n∧n≤97)(h3:n<(d * d:Nat))(hd:∀ e:Nat,2≤e→e<d→n % (e:Int) ≠ 0):isPrime n=true:=by
 unfold isPrime
 rw [decide_eq_true h,Bool.true_and,List.all_eq_true]
 intro e _
 by_cases h1:e<2
 ·rw [decide_eq_true h1];simp
 ·by_cases h2:e<d
  ·rw [decide_eq_true (p:=n % (e:Int) ≠ 0) (hd e (by omega) h2)];simp
  ·have:d * d≤e * e:=Nat.mul_le_mul (by omega) (by omega)
   rw [decide_eq_true (p:=n<(e * e:Nat)) (by omega)];simp
theorem isPrime_c (n:Int)(w:World) :
  Calls Tryz.prog 96 #[.int .i64 n] w fun e w'=>e=.returned (.bool (isPrime n))∧w=w':=by
 by_cases h:2≤n∧n≤97
 ·obtain ⟨hA,hB⟩:=h
  go_enter Tryz.func96,Tryz.ntmps96
  go_wp2
  go_loop [3] (fun v=>∃ d:Nat,v=.int .i64 d∧2≤d∧d≤10∧∀ e:Nat,2≤e→e<d→n % (e:Int) ≠ 0) (fun v=>10 - (intOf v).toNat)
  case atStart=>exact ⟨2,rfl,by omega,by omega,fun e h1 h2=>by omega⟩
  case round =>
   obtain ⟨d,rfl,h2,h10,hd⟩:=hrel
   have Hd:=hid hd;clear hd
   have hdd:(d:Int) * d≤100:=by rw [← Int.natCast_mul];have:=Nat.mul_le_mul h10 h10;omega
   have hdd0:0≤(d:Int) * d:=by rw [← Int.natCast_mul];omega
   by_cases hle:(d:Int) * d≤n
   ·have h9:d≤9:=by
     refine Nat.le_of_not_lt fun hh=>?_
     have:=Nat.mul_le_mul (show 10≤d by omega) (show 10≤d by omega)
     rw [← Int.natCast_mul] at hle
     omega
    by_cases hz:n % (d:Int)=0
    ·have ht:(n % (d:Int) == 0)=true:=beq_iff_eq.2 hz
     have hp:=isPrime_div h2 (by rw [← Int.natCast_mul] at hle;omega) (by omega) hz
     have Hp:=hid hp;clear hp hz
     go_wp2
     go_ret
     exact ⟨by rw [Hp.out];rfl,rfl⟩
    ·have ht:(n % (d:Int) == 0)=false:=beq_eq_false_iff_ne.2 hz
     have Hz:=hid hz;clear hz
     go_wp2
     go_round
     case rel=>exact ⟨d+1,by go_num,by omega,by omega,fun e h3 h4=>by
      rcases Nat.lt_or_ge e d with g | g
      ·exact Hd.out e h3 g
      ·rw [show e=d by omega];exact Hz.out⟩
     case measure=>simp [intOf];omega
   ·have hp:=isPrime_yes ⟨hA,hB⟩ (d:=d) (by rw [Int.natCast_mul];omega) Hd.out
    have Hp:=hid hp;clear hp
    go_wp2
    go_ret
    exact ⟨by rw [Hp.out];rfl,rfl⟩
 ·rw [isPrime_no h]
  rcases (by omega:n<2∨(2≤n∧97<n)) with g | ⟨g1,g2⟩
  ·clear h
   go_enter Tryz.func96,Tryz.ntmps96
   go_wp2
   go_ret
   exact ⟨rfl,rfl⟩
  ·clear h
   go_enter Tryz.func96,Tryz.ntmps96
   go_wp2
   go_ret
   exact ⟨rfl,rfl⟩
/-- The error of the primes from place k on. -/
def primesFrom (p : List Int) (k : Nat) : Nat → Int
 | 0=>0
 | f+1=>if !isPrime (nthI p k) then 25 else if 0<k∧nthI p k≤nthI p (k - 1) then 6 else primesFrom p (k+1) f
/-- The error of a list of primes. -/
def primesErr (p : List Int) : Int:=if p.length=0 then 13 else if 6<p.length then 4 else primesFrom p 0 p.length
theorem primes_c (v:Value)(p:List Int)(w:World)(hv:Sl w v (i64s p))(hl:p.length≤1000000) :
  Calls Tryz.prog 53 #[v] w fun e w'=>e=.returned (.int .i64 (primesErr p))∧w=w':=by
 obtain ⟨a,cap,rfl,_,_,hc⟩:=hv.parts
 rw [i64s_length]
 have Hc:=hid hc;clear hc
 unfold primesErr
 by_cases h0:p.length=0
 ·rw [if_pos h0]
  have ht:((p.length:Int) == 0)=true:=by rw [h0];rfl
  clear h0
  go_enter Tryz.func53,Tryz.ntmps53
  go_wp2
  go_ret
  exact ⟨rfl,rfl⟩
 ·rw [if_neg h0]
  have ht:((p.length:Int) == 0)=false:=beq_eq_false_iff_ne.2 (by omega)
  by_cases h6:6<p.length
  ·rw [if_pos h6]
   clear h0
   go_enter Tryz.func53,Tryz.ntmps53
   go_wp2
   go_ret
   exact ⟨rfl,rfl⟩
  ·rw [if_neg h6]
   clear h0
   obtain ⟨r,hr⟩:∃ r,r=primesFrom p 0 p.length:=⟨_,rfl⟩
   rw [← hr]
   have Hr:=hid hr;clear hr
   go_enter Tryz.func53,Tryz.ntmps53
   go_wp2
   go_loop [15] (fun i=>∃ k:Nat,i=.int .i64 k∧k≤p.length∧r=primesFrom p k (p.length - k)) (fun i=>p.length - (intOf i).toNat)
   case atStart=>exact ⟨0,rfl,Nat.zero_le _,Hr.out⟩
   case round =>
    obtain ⟨k,rfl,hk,hr⟩:=hrel
    by_cases hlt:k<p.length
    ·obtain ⟨b,off,rfl,hcell⟩:=Hc.out k _ (i64s_at hlt)
     have hf:p.length - k=(p.length - (k+1))+1:=by omega
     rw [hf,primesFrom] at hr
     have hip:=isPrime_c (nthI p k) w
     have Hip:=hid hip;clear hip hf
     by_cases hpr:isPrime (nthI p k)=true
     ·rw [hpr] at Hip hr
      rw [if_neg (by simp)] at hr
      by_cases hk0:0<k
      ·obtain ⟨b2,off2,e2,hcell2⟩:=Hc.out (k - 1) _ (i64s_at (show k - 1<p.length by omega))
       simp only [Option.some.injEq,Addr.mk.injEq,and_true] at e2
       obtain ⟨rfl,rfl⟩:=e2
       by_cases hle:nthI p k≤nthI p (k - 1)
       ·rw [if_pos ⟨hk0,hle⟩] at hr
        have Hr2:=hid hr;clear hr hpr
        generalize nthI p k=x at *
        generalize nthI p (k - 1)=y at *
        go_wp2_with fail
        refine Hip.out.mono ?_
        rintro e w1 ⟨rfl,rfl⟩
        go_wp2
        go_ret
        exact ⟨ret_int Hr2.out.symm,rfl⟩
       ·rw [if_neg (fun hh=>hle hh.2)] at hr
        have Hr2:=hid hr;clear hr hpr
        generalize nthI p k=x at *
        generalize nthI p (k - 1)=y at *
        go_wp2_with fail
        refine Hip.out.mono ?_
        rintro e w1 ⟨rfl,rfl⟩
        go_wp2
        go_round
        case rel=>exact ⟨k+1,by go_num,by omega,Hr2.out⟩
        case measure=>simp [intOf];omega
      ·rw [if_neg (fun hh=>hk0 hh.1)] at hr
       have Hr2:=hid hr;clear hr hpr
       generalize nthI p k=x at *
       go_wp2_with fail
       refine Hip.out.mono ?_
       rintro e w1 ⟨rfl,rfl⟩
       go_wp2
       go_round
       case rel=>exact ⟨k+1,by go_num,by omega,Hr2.out⟩
       case measure=>simp [intOf];omega
     ·have hpf:isPrime (nthI p k)=false:=by simpa using hpr
      rw [hpf] at Hip hr
      rw [if_pos (by simp)] at hr
      have Hr2:=hid hr;clear hr hpr hpf
      generalize nthI p k=x at *
      go_wp2_with fail
      refine Hip.out.mono ?_
      rintro e w1 ⟨rfl,rfl⟩
      go_wp2
      go_ret
      exact ⟨ret_int Hr2.out.symm,rfl⟩
    ·have hr0:r=0:=by rw [hr,show p.length - k=0 by omega,primesFrom]
     have Hr2:=hid hr0;clear hr hr0
     go_wp2
     go_ret
     exact ⟨ret_int Hr2.out.symm,rfl⟩
theorem primesFrom_zero (p:List Int):∀ (f k:Nat),primesFrom p k f=0→∀ i,k≤i→i<k+f→isPrime (nthI p i)=true
 | 0,k,_,i,h1,h2=>by omega
 | f+1,k,h,i,h1,h2=>by
  rw [primesFrom] at h
  by_cases hp:isPrime (nthI p k)=true
  ·rw [if_neg (by rw [hp];simp)] at h
   by_cases hk:0<k∧nthI p k≤nthI p (k - 1)
   ·rw [if_pos hk] at h;omega
   ·rw [if_neg hk] at h
    rcases Nat.eq_or_lt_of_le h1 with e | e
    ·rw [← e];exact hp
    ·exact primesFrom_zero p f (k+1) h i e (by omega)
  ·rw [if_pos (by simpa using hp)] at h;omega
theorem isPrime_bounds {n:Int}(h:isPrime n=true):2≤n∧n≤97:=by
 unfold isPrime at h
 rw [Bool.and_eq_true] at h
 simpa using h.1
theorem primesErr_zero {p:List Int}(h:primesErr p=0):0<p.length∧p.length≤6∧∀ i,i<p.length→2≤nthI p i∧nthI p i≤97:=by
 unfold primesErr at h
 by_cases h0:p.length=0
 ·rw [if_pos h0] at h;omega
 ·rw [if_neg h0] at h
  by_cases h6:6<p.length
  ·rw [if_pos h6] at h;omega
  ·rw [if_neg h6] at h
   exact ⟨by omega,by omega,fun i hi=>isPrime_bounds (primesFrom_zero p _ 0 h i (by omega) (by omega))⟩
theorem info_int : (Tryz.prog.info? 3).map (fun i=>(i.zero,i.size,i.bytes))=some (some (.int .i64 0),1,8):=by kernel_rfl
/-- A row that a call made. -/
def OwnI (w : World) (B : Nat) (v : Value) (l : List Int) : Prop:=w.ownsRow B 3 1 v l.length (i64s l)
theorem Ext.ownI {w w':World}(h:Ext w w'){B:Nat}{v:Value}{l:List Int}(ho:OwnI w B v l):OwnI w' B v l:=h.own ho
theorem OwnI.sl {w:World}{B:Nat}{v:Value}{l:List Int}(ho:OwnI w B v l):Sl w v (i64s l):=sl_own ho
theorem own_shape {w:World}{B:Nat}{v:Value}{E s k:Nat}{xs:List Value}(h:w.ownsRow B E s v k xs):∃ a cap,v=.slice a k cap:=by
 rcases h.2 with ⟨rfl,rfl⟩ | ⟨g,cap,cur,rfl,_⟩ <;> exact ⟨_,_,rfl⟩
theorem ext_grown {w0 W W7:World}{E s n:Nat}{v:Value}{xs:List Value}{tmp:Obj}(hE:Ext w0 W)(hr:W.ownsRow w0.heap.size E s v n xs)(hgrow:(W.alloc tmp).grownBy W7 v.ownBlock):Ext w0 W7:=by
 refine (hE.alloc tmp).grown hgrow fun k hk=>?_
 rcases hr.2 with ⟨rfl,_⟩ | ⟨g,cap,cur,rfl,hb,_⟩
 ·simp [Value.ownBlock] at hk
 ·simp [Value.ownBlock] at hk;omega
/-- Draws alone. -/
def Qu (w w' : World) : Prop:=∃ q,w'=w.drewN q
theorem Qu.refl (w:World):Qu w w:=⟨0,rfl⟩
theorem Qu.drewN {a w:World}(h:Qu a w)(n:Nat):Qu a (w.drewN n):=by
 obtain ⟨q,rfl⟩:=h
 exact ⟨q+n,World.drewN_drewN ..⟩
theorem Qu.ext {w w':World}(h:Qu w w'):Ext w w':=by
 obtain ⟨q,rfl⟩:=h
 exact (Ext.refl w).drewN q
theorem Qu.trans {a b c:World}(h:Qu a b)(k:Qu b c):Qu a c:=by
 obtain ⟨q,rfl⟩:=k
 exact h.drewN q
theorem own_off {w:World}{B E s n:Nat}{x:Value}{xs:List Value}(h:w.ownsRow B E s x n xs){p:Addr}(hp:p.block<B)(u:Value):(w.setCell p u).ownsRow B E s x n xs:=by
 refine ⟨h.1,?_⟩
 rcases h.2 with hn | ⟨g,cap,cur,hv,hb,hg,r⟩
 ·exact .inl hn
 ·exact .inr ⟨g,cap,cur,hv,hb,(Below.heap_setCell w p u g (by omega)).trans hg,r⟩
theorem own_ne {w:World}{B B' E E' s s' n n':Nat}{v u:Value}{xs ys:List Value}(h:w.ownsRow B E s v n xs)(k:w.ownsRow B' E' s' u n' ys)(hE:E ≠ E'):v.ownBlock=none∨v.ownBlock ≠ u.ownBlock:=by
 rcases h.2 with ⟨rfl,_⟩ | ⟨g,cap,cur,rfl,_,hg,_⟩
 ·exact .inl rfl
 ·rcases k.2 with ⟨rfl,_⟩ | ⟨g',cap',cur',rfl,_,hg',_⟩
  ·exact .inr (by simp [Value.ownBlock])
  ·refine .inr fun e=>?_
   obtain rfl:g=g':=by simpa [Value.ownBlock] using e
   rw [hg] at hg'
   simp at hg'
   exact hE hg'.2
theorem own_slice {w:World}{B s:Nat}{v:Value}{E k:Nat}{xs:List Value}(h:w.ownsRow B E s v k xs)(hk:0<k):∃ g cap,v=.slice (some ⟨g,0,none⟩) k cap∧∀ j u,xs[j]?=some u→w.cell? ⟨g,j,none⟩=some u:=by
 rcases h.2 with ⟨_,h0⟩ | ⟨g,cap,cur,rfl,_⟩
 ·omega
 ·refine ⟨g,cap,rfl,fun j u hj=>?_⟩
  have:=h.cells (g:=g) rfl j u hj
  rwa [show ((⟨g,0,none⟩:Addr).add j)=⟨g,j,none⟩ by unfold Addr.add;split <;> simp_all] at this
theorem row_cell {w:World}{b k:Nat}{us:List Value}{t:TypeId}{u:Value}(h:w.heap[b]?=some (.cells us.toArray t (0,0)))(hu:us[k]?=some u):w.cell? ⟨b,k,none⟩=some u:=by
 unfold World.cell?
 dsimp only
 rw [h]
 simpa using hu
theorem only_refl (a:World)(row:Option Nat):a.grownBy a row:=⟨rfl,rfl,rfl,Nat.le_refl _,fun _ _ _=>rfl⟩
theorem only_setCell {a w:World}{g:Nat}(h:a.grownBy w (some g)){p:Addr}(hp:p.block=g)(u:Value):a.grownBy (w.setCell p u) (some g) :=
 ⟨h.os,h.tape,h.output,by simpa [World.setCell] using h.size,fun i hi hne=>(Below.heap_setCell w p u i (by
  rintro rfl
  exact hne (by rw [hp]))).trans (h.block i hi hne)⟩
theorem only_ext {a w w':World}{row:Option Nat}(h:a.grownBy w row)(hx:Ext w w'):a.grownBy w' row :=
 ⟨hx.os.trans h.os,hx.tape.trans h.tape,hx.output.trans h.output,Nat.le_trans h.size hx.size,fun i hi hne=>(hx.block i (Nat.lt_of_lt_of_le hi h.size)).trans (h.block i hi hne)⟩
end Go.Proofs.YtipjmpdndokdlaaGreatDoor

namespace Go.Proofs.YtipjmpdndokdlaaGreatDoor
open Go.RowKit Go.Lib
theorem rInt_c (n:Int)(w:World)(he:Env w)(h0:-9223372036854775808≤n)(h1:n≤9223372036854775807) :
  Calls Tryz.prog 177 #[.int .i64 n] w fun e w'=>e=.returned (.string (I n))∧Ext w w':=by
 have hi:=itoa_c n h0 h1 w he
 generalize I n=s at *
 clear he
 have Hi:=hid hi;clear hi
 go_enter Tryz.func177,Tryz.ntmps177
 go_wp2_with fail
 refine (Hi.out).mono ?_
 rintro e w1 ⟨rfl,hx1⟩
 have Hx1:=hid hx1;clear hx1
 go_wp2
 go_ret
 exact ⟨rfl,Hx1.out⟩
/-- How many cells a slice in a block's second cell has. -/
def lenAt (w : World) (b : Nat) : Nat:=match w.cell? ⟨b,1,none⟩ with | some (.slice _ n _) => n | _ => 0
theorem rtrim_c (u:Value)(b:Bool)(ds:List Int)(w:World)(hu:Sl w u (i64s ds))(hl:ds.length≤1000) :
  Calls Tryz.prog 174 #[.agg #[.bool b,u]] w fun e w'=>∃ (u':Value)(k:Nat),e=.returned (.agg #[.bool (b && decide (0<k)),u'])∧k≤ds.length∧(∀ j,k≤j→j<ds.length→ds[j]?=some 0)∧(∀ j,k=j+1→ds[j]? ≠ some 0)∧Sl w' u' (i64s (ds.take k))∧Ext w w':=by
 have htk:∀ k,k≤ds.length→∀ a c,u=.slice a ds.length c→∀ W,Ext w W→Sl W (.slice a k c) (i64s (ds.take k)):=fun k hk a c e W hE=>by
  have hs:=hE.sl hu
  have hlen:(i64s (ds.take k)).length=k:=by rw [i64s_length,List.length_take];omega
  rcases hs with ⟨a',cap,e',hm,h0⟩ | ⟨b',off,cap,e',h1,h2,hc⟩
  ·rw [e] at e'
   injection e' with e1 e2 e3
   have:k=0:=by omega
   subst this
   exact .inl ⟨a,c,rfl,by omega,by simp [i64s]⟩
  ·rw [e] at e'
   injection e' with e1 e2 e3
   refine .inr ⟨b',off,c,by rw [hlen,e1],by rw [hlen];rw [i64s_length] at h1;omega,by omega,fun i x hx=>hc i x ?_⟩
   have hi:i<k:=by have:=(List.getElem?_eq_some_iff.1 hx).1;omega
   unfold i64s at hx ⊢
   rw [List.getElem?_map,List.getElem?_take,if_pos hi] at hx
   rw [List.getElem?_map]
   exact hx
 obtain ⟨a,c,rfl,hcm,hcl,hc⟩:=hu.parts
 rw [i64s_length] at htk hcl ⊢
 have hcell:∀ j d,ds[j]?=some d→∃ b' off,a=some ⟨b',off,none⟩∧w.cell? ⟨b',off+j,none⟩=some (.int .i64 d):=fun j d hd=>hc j _ (by unfold i64s;rw [List.getElem?_map,hd];rfl)
 have hE0:Ext w ((w.alloc (.cells #[.bool b,.slice a ds.length c] 179)).alloc (.cells #[.bool false,.slice none 0 0] 179)):=((Ext.refl _).alloc _).alloc _
 have b1:=(BoxT.new 179 w (.bool b) (.slice a ds.length c)).ext ((Ext.refl _).alloc (.cells #[.bool false,.slice none 0 0] 179))
 have b2:=BoxT.new 179 (w.alloc (.cells #[.bool b,.slice a ds.length c] 179)) (.bool false) (.slice none 0 0)
 rw [World.size_alloc] at b2
 have htk2:=fun k hk W hE=>htk k hk a c rfl W hE
 clear hu hc htk
 generalize hn:ds.length=n at *
 have Hn:=hid hn
 clear hn
 have hw0:=Nat.lt_succ_self w.heap.size
 have Hcell:=hid hcell;have HE0:=hid hE0;have Htk2:=hid htk2;have B1:=hid b1;have B2:=hid b2;clear hcell hE0 htk2 b1 b2
 go_enter Tryz.func174,Tryz.ntmps174
 go_wp2_with fail
 go_loopw [3] (fun _ wr=>∃ k:Nat,k≤n∧BoxT 179 wr w.heap.size (.bool b) (.slice a k c)∧K0 179 w wr (w.heap.size+1)∧∀ j,k≤j→j<n→ds[j]?=some 0) (fun _ wr=>lenAt wr w.heap.size)
 case atStart=>exact ⟨n,Nat.le_refl _,B1.out,⟨HE0.out,_,_,B2.out⟩,fun j h1 h2=>by omega⟩
 case round =>
  obtain ⟨k,hk,hb,hK,hz⟩:=hrel
  have q0:=hb.c0
  have q1:=hb.c1
  have f0:=hb.fz 0
  have f1:=hb.fz 1
  have hme:lenAt wr w.heap.size=k:=by unfold lenAt;rw [q1]
  have Hb:=hid hb;have HK:=hid hK;have Hz:=hid hz;have Hme:=hid hme
  clear hb hK hz hme
  by_cases hk0:0<k
  ·obtain ⟨j,hkj⟩:∃ j,k=j+1:=⟨k - 1,by omega⟩
   obtain ⟨d,hd⟩:∃ d,ds[j]?=some d:=⟨_,List.getElem?_eq_getElem (by rw [Hn.out];omega)⟩
   obtain ⟨b',off,rfl,hc1⟩:=Hcell.out j d hd
   have hc2:=HK.out.x.cell hc1
   have hwj:IntKind.i64.wrap ((k:Int) - 1)=(j:Int):=by rw [IntKind.wrap_i64];omega
   have hj0:(0:Int)≤(j:Int):=by omega
   have hj1:(j:Int)<(k:Int):=by omega
   have hj2:¬ (k:Int)<(j:Int):=by omega
   have hkz:(0:Int)<(k:Int):=by omega
   have hkd:decide ((k:Int) > 0)=true:=decide_eq_true (by omega)
   have Hd:=hid hd
   clear hd hc1
   have hjc:(j:Int)≤(c:Int):=by omega
   by_cases hd0:d=0
   ·subst hd0
    have hS:=Hb.out.put1 (.slice (some ⟨b',off,none⟩) j c)
    have hKS:=HK.out.set (b:=w.heap.size) (Nat.le_refl _) (by omega) 1 (.slice (some ⟨b',off,none⟩) j c)
    have HS:=hid hS;have HKS:=hid hKS;have Hkj:=hid hkj
    clear hS hKS hkj
    go_wp2_with fail
    go_roundw
    case rel=>exact ⟨j,by have:=Hkj.out;omega,HS.out,HKS.out,fun i h1 h2=>by
     have:=Hkj.out
     rcases (by omega:i=j∨k≤i) with e | e
     ·rw [e];exact Hd.out
     ·exact Hz.out i e h2⟩
    case measure =>
     have h1:lenAt (wr.setCell ⟨w.heap.size,1,none⟩ (.slice (some ⟨b',off,none⟩) j c)) w.heap.size=j:=by unfold lenAt;rw [HS.out.c1]
     have:=Hkj.out
     rw [h1,Hme.out]
     omega
   ·have hdn:decide (d=0)=false:=decide_eq_false hd0
    have hdd:(d == 0)=false:=by simpa using hd0
    have Hd0:=hid hd0
    have Hkj:=hid hkj
    clear hkj
    cases b with
    | true =>
     have hS:=Hb.out.put0 (.bool true)
     have hKS:=HK.out.set (b:=w.heap.size) (Nat.le_refl _) (by omega) 0 (.bool true)
     have hsl:=Htk2.out k hk _ hKS.x
     have s0:=hS.c0
     have s1:=hS.c1
     have k0:=hKS.res.c0;have k1:=hKS.res.c1;have z0:=hKS.res.fz 0;have z1:=hKS.res.fz 1
     obtain ⟨hb5,hx5⟩:=hKS.fin (by omega) (.bool true) (.slice (some ⟨b',off,none⟩) k c)
     have hsl2:=Htk2.out k hk _ hx5
     have Hb5:=hid hb5;have Hx5:=hid hx5;have Hsl2:=hid hsl2
     clear hS hKS hsl hb5 hx5 hsl2
     go_wp2_with fail
     have hd0':=Hb5.out.c0
     have hd1':=Hb5.out.c1
     exact bodyPost_ret (v:=.agg #[.bool true,.slice (some ⟨b',off,none⟩) k c]) (by simp [results,Tryz.results174,go_sem,hd0',hd1']) rfl ⟨_,k,by rw [decide_eq_true hk0],hk,fun i h1 h2=>Hz.out i h1 h2,fun i e=>by rw [show i=j by have:=Hkj.out;omega,Hd.out];exact fun e=>Hd0.out (Option.some.inj e),Hsl2.out,Hx5.out⟩
    | false =>
     have hS:=Hb.out.put0 (.bool false)
     have hKS:=HK.out.set (b:=w.heap.size) (Nat.le_refl _) (by omega) 0 (.bool false)
     have hsl:=Htk2.out k hk _ hKS.x
     have s0:=hS.c0
     have s1:=hS.c1
     have k0:=hKS.res.c0;have k1:=hKS.res.c1;have z0:=hKS.res.fz 0;have z1:=hKS.res.fz 1
     obtain ⟨hb5,hx5⟩:=hKS.fin (by omega) (.bool false) (.slice (some ⟨b',off,none⟩) k c)
     have hsl2:=Htk2.out k hk _ hx5
     have Hb5:=hid hb5;have Hx5:=hid hx5;have Hsl2:=hid hsl2
     clear hS hKS hsl hb5 hx5 hsl2
     go_wp2_with fail
     have hd0':=Hb5.out.c0
     have hd1':=Hb5.out.c1
     exact bodyPost_ret (v:=.agg #[.bool false,.slice (some ⟨b',off,none⟩) k c]) (by simp [results,Tryz.results174,go_sem,hd0',hd1']) rfl ⟨_,rfl,k,hk,fun i h1 h2=>Hz.out i h1 h2,fun i e=>by rw [show i=j by have:=Hkj.out;omega,Hd.out];exact fun e=>Hd0.out (Option.some.inj e),Hsl2.out,Hx5.out⟩
  ·obtain rfl:k=0:=by omega
   have hkd:decide (((0:Nat):Int) > 0)=false:=by decide
   cases b with
   | true =>
    have hS:=Hb.out.put0 (.bool false)
    have hKS:=HK.out.set (b:=w.heap.size) (Nat.le_refl _) (by omega) 0 (.bool false)
    have hsl:=Htk2.out 0 hk _ hKS.x
    have s0:=hS.c0
    have s1:=hS.c1
    have k0:=hKS.res.c0;have k1:=hKS.res.c1;have z0:=hKS.res.fz 0;have z1:=hKS.res.fz 1
    obtain ⟨hb5,hx5⟩:=hKS.fin (by omega) (.bool false) (.slice a 0 c)
    have hsl2:=Htk2.out 0 hk _ hx5
    have Hb5:=hid hb5;have Hx5:=hid hx5;have Hsl2:=hid hsl2
    clear hS hKS hsl hb5 hx5 hsl2
    go_wp2_with fail
    have hd0':=Hb5.out.c0
    have hd1':=Hb5.out.c1
    exact bodyPost_ret (v:=.agg #[.bool false,.slice a 0 c]) (by simp [results,Tryz.results174,go_sem,hd0',hd1']) rfl ⟨_,0,rfl,Nat.zero_le _,fun i h1 h2=>Hz.out i h1 h2,fun i e=>by omega,Hsl2.out,Hx5.out⟩
   | false =>
    have hS:=Hb.out.put0 (.bool false)
    have hKS:=HK.out.set (b:=w.heap.size) (Nat.le_refl _) (by omega) 0 (.bool false)
    have hsl:=Htk2.out 0 hk _ hKS.x
    have s0:=hS.c0
    have s1:=hS.c1
    have k0:=hKS.res.c0;have k1:=hKS.res.c1;have z0:=hKS.res.fz 0;have z1:=hKS.res.fz 1
    obtain ⟨hb5,hx5⟩:=hKS.fin (by omega) (.bool false) (.slice a 0 c)
    have hsl2:=Htk2.out 0 hk _ hx5
    have Hb5:=hid hb5;have Hx5:=hid hx5;have Hsl2:=hid hsl2
    clear hS hKS hsl hb5 hx5 hsl2
    go_wp2_with fail
    have hd0':=Hb5.out.c0
    have hd1':=Hb5.out.c1
    exact bodyPost_ret (v:=.agg #[.bool false,.slice a 0 c]) (by simp [results,Tryz.results174,go_sem,hd0',hd1']) rfl ⟨_,0,rfl,Nat.zero_le _,fun i h1 h2=>Hz.out i h1 h2,fun i e=>by omega,Hsl2.out,Hx5.out⟩
end Go.Proofs.YtipjmpdndokdlaaGreatDoor
