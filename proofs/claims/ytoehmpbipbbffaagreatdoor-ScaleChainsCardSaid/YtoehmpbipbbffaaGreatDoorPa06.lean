/- Walks: prime's IsPrime and Check; general words on rows that a call made. Walks: schismaref03's trim, Int. Walks: fraction's Add, Mul, Sub, Div, Floor, Sign. -/
import Derived.Test.YtoehmpbipbbffaaGreatDoorPa01
import Derived.Maps.AppendAt
import Derived.RangeFuncRecord
import Derived.Test.YtoehmpbipbbffaaGreatDoorPa05
set_option maxRecDepth 100000
set_option maxHeartbeats 4000000
namespace Go.Proofs.YtoehmpbipbbffaaGreatDoor
open Go.RowKit Go.Lib
def zdY (n:Int):Bool:=decide (2≤n∧n≤97) && (List.range 10).all fun d=>decide (d<2) || decide (n<(d * d:Nat)) || decide (n % (d:Int) ≠ 0)
theorem zdZ {n:Int}(h:¬ (2≤n∧n≤97)):zdY n=false:=by
 unfold zdY;rw [decide_eq_false h];rfl
theorem zea {n:Int}{d:Nat}(h2:2≤d)(h3:(d * d:Nat)≤n)(h4:d<10)(h:n % (d:Int)=0):zdY n=false:=by
 unfold zdY;rw [Bool.and_eq_false_iff];refine .inr ?_;rw [List.all_eq_false];refine ⟨d,List.mem_range.2 h4,?_⟩;rw [decide_eq_false (p:=d<2) (by omega),decide_eq_false (p:=n<(d * d:Nat)) (by omega),decide_eq_false (p:=n % (d:Int) ≠ 0) (by simpa using h)];simp
theorem zeb {n:Int}{d:Nat}(h:2≤n∧n≤97)(h3:n<(d * d:Nat))(hd:∀ e:Nat,2≤e→e<d→n % (e:Int) ≠ 0):zdY n=true:=by
 unfold zdY;rw [decide_eq_true h,Bool.true_and,List.all_eq_true];intro e _;by_cases h1:e<2
 ·rw [decide_eq_true h1];simp
 ·by_cases h2:e<d
  ·rw [decide_eq_true (p:=n % (e:Int) ≠ 0) (hd e (by omega) h2)];simp
  ·have:d * d≤e * e:=Nat.mul_le_mul (by omega) (by omega);rw [decide_eq_true (p:=n<(e * e:Nat)) (by omega)];simp
theorem zec (n:Int)(w:World) :
  Calls Tryz.prog 70 #[.int .i64 n] w fun e w'=>e=.returned (.bool (zdY n))∧w=w':=by
 by_cases h:2≤n∧n≤97
 ·obtain ⟨hA,hB⟩:=h;go_enter Tryz.func70,Tryz.ntmps70
  go_wp2
  go_loop [3] (fun v=>∃ d:Nat,v=.int .i64 d∧2≤d∧d≤10∧∀ e:Nat,2≤e→e<d→n % (e:Int) ≠ 0) (fun v=>10 - (zag v).toNat)
  case atStart=>exact ⟨2,rfl,by omega,by omega,fun e h1 h2=>by omega⟩
  case round =>
   obtain ⟨d,rfl,h2,h10,hd⟩:=hrel;have Hd:=hid hd;clear hd;have hdd:(d:Int) * d≤100:=(by rw [← Int.natCast_mul];have:=Nat.mul_le_mul h10 h10;omega);have hdd0:0≤(d:Int) * d:=(by rw [← Int.natCast_mul];omega);by_cases hle:(d:Int) * d≤n
   ·have h9:d≤9:=by
     refine Nat.le_of_not_lt fun hh=>?_;have:=Nat.mul_le_mul (show 10≤d by omega) (show 10≤d by omega);rw [← Int.natCast_mul] at hle;omega
    by_cases hz:n % (d:Int)=0
    ·have ht:(n % (d:Int) == 0)=true:=beq_iff_eq.2 hz;have hp:=zea h2 (by rw [← Int.natCast_mul] at hle;omega) (by omega) hz;have Hp:=hid hp;clear hp hz;go_wp2
     go_ret
     exact ⟨by rw [Hp.out];rfl,rfl⟩
    ·have ht:(n % (d:Int) == 0)=false:=beq_eq_false_iff_ne.2 hz;have Hz:=hid hz;clear hz;go_wp2
     go_round
     case rel=>exact ⟨d+1,by go_num,by omega,by omega,fun e h3 h4=>by
      rcases Nat.lt_or_ge e d with g | g
      ·exact Hd.out e h3 g
      ·rw [show e=d by omega];exact Hz.out⟩
     case measure=>simp [zag];omega
   ·have hp:=zeb ⟨hA,hB⟩ (d:=d) (by rw [Int.natCast_mul];omega) Hd.out;have Hp:=hid hp;clear hp;go_wp2
    go_ret
    exact ⟨by rw [Hp.out];rfl,rfl⟩
 ·rw [zdZ h];rcases (by omega:n<2∨(2≤n∧97<n)) with g | ⟨g1,g2⟩
  ·clear h;go_enter Tryz.func70,Tryz.ntmps70
   go_wp2
   go_ret
   exact ⟨rfl,rfl⟩
  ·clear h;go_enter Tryz.func70,Tryz.ntmps70
   go_wp2
   go_ret
   exact ⟨rfl,rfl⟩
def zed (p:List Int)(k:Nat):Nat→Int
 | 0=>0
 | f+1=>if !zdY (zan p k) then 25 else if 0<k∧zan p k≤zan p (k - 1) then 6 else zed p (k+1) f
def zee (p:List Int):Int:=if p.length=0 then 13 else if 6<p.length then 4 else zed p 0 p.length
theorem zef (v:Value)(p:List Int)(w:World)(hv:Sl w v (zak p))(hl:p.length≤1000000) :
  Calls Tryz.prog 46 #[v] w fun e w'=>e=.returned (.int .i64 (zee p))∧w=w':=by
 obtain ⟨a,cap,rfl,_,_,hc⟩:=hv.parts;rw [zam];have Hc:=hid hc;clear hc;unfold zee;by_cases h0:p.length=0
 ·rw [if_pos h0];have ht:((p.length:Int) == 0)=true:=by rw [h0];rfl
  clear h0;go_enter Tryz.func46,Tryz.ntmps46
  go_wp2
  go_ret
  exact ⟨rfl,rfl⟩
 ·rw [if_neg h0];have ht:((p.length:Int) == 0)=false:=beq_eq_false_iff_ne.2 (by omega);by_cases h6:6<p.length
  ·rw [if_pos h6];clear h0;go_enter Tryz.func46,Tryz.ntmps46
   go_wp2
   go_ret
   exact ⟨rfl,rfl⟩
  ·rw [if_neg h6];clear h0;obtain ⟨r,hr⟩:∃ r,r=zed p 0 p.length:=⟨_,rfl⟩;rw [← hr];have Hr:=hid hr;clear hr;go_enter Tryz.func46,Tryz.ntmps46
   go_wp2
   go_loop [15] (fun i=>∃ k:Nat,i=.int .i64 k∧k≤p.length∧r=zed p k (p.length - k)) (fun i=>p.length - (zag i).toNat)
   case atStart=>exact ⟨0,rfl,Nat.zero_le _,Hr.out⟩
   case round =>
    obtain ⟨k,rfl,hk,hr⟩:=hrel;by_cases hlt:k<p.length
    ·obtain ⟨b,off,rfl,hcell⟩:=Hc.out k _ (zap hlt);have hf:p.length - k=(p.length - (k+1))+1:=(by omega);rw [hf,zed] at hr;have hip:=zec (zan p k) w;have Hip:=hid hip;clear hip hf;by_cases hpr:zdY (zan p k)=true
     ·rw [hpr] at Hip hr;rw [if_neg (by simp)] at hr;by_cases hk0:0<k
      ·obtain ⟨b2,off2,e2,hcell2⟩:=Hc.out (k - 1) _ (zap (show k - 1<p.length by omega));simp only [Option.some.injEq,Addr.mk.injEq,and_true] at e2;obtain ⟨rfl,rfl⟩:=e2;by_cases hle:zan p k≤zan p (k - 1)
       ·rw [if_pos ⟨hk0,hle⟩] at hr;have Hr2:=hid hr;clear hr hpr;generalize zan p k=x at *;generalize zan p (k - 1)=y at *;go_wp2_with fail
        refine Hip.out.mono ?_;rintro e w1 ⟨rfl,rfl⟩;go_wp2
        go_ret
        exact ⟨zbb Hr2.out.symm,rfl⟩
       ·rw [if_neg (fun hh=>hle hh.2)] at hr;have Hr2:=hid hr;clear hr hpr;generalize zan p k=x at *;generalize zan p (k - 1)=y at *;go_wp2_with fail
        refine Hip.out.mono ?_;rintro e w1 ⟨rfl,rfl⟩;go_wp2
        go_round
        case rel=>exact ⟨k+1,by go_num,by omega,Hr2.out⟩
        case measure=>simp [zag];omega
      ·rw [if_neg (fun hh=>hk0 hh.1)] at hr;have Hr2:=hid hr;clear hr hpr;generalize zan p k=x at *;go_wp2_with fail
       refine Hip.out.mono ?_;rintro e w1 ⟨rfl,rfl⟩;go_wp2
       go_round
       case rel=>exact ⟨k+1,by go_num,by omega,Hr2.out⟩
       case measure=>simp [zag];omega
     ·have hpf:zdY (zan p k)=false:=(by simpa using hpr);rw [hpf] at Hip hr;rw [if_pos (by simp)] at hr;have Hr2:=hid hr;clear hr hpr hpf;generalize zan p k=x at *;go_wp2_with fail
      refine Hip.out.mono ?_;rintro e w1 ⟨rfl,rfl⟩;go_wp2
      go_ret
      exact ⟨zbb Hr2.out.symm,rfl⟩
    ·have hr0:r=0:=(by rw [hr,show p.length - k=0 by omega,zed]);have Hr2:=hid hr0;clear hr hr0;go_wp2
     go_ret
     exact ⟨zbb Hr2.out.symm,rfl⟩
theorem zeg (p:List Int):∀ (f k:Nat),zed p k f=0→∀ i,k≤i→i<k+f→zdY (zan p i)=true
 | 0,k,_,i,h1,h2=>by omega
 | f+1,k,h,i,h1,h2=>by
  rw [zed] at h;by_cases hp:zdY (zan p k)=true
  ·rw [if_neg (by rw [hp];simp)] at h;by_cases hk:0<k∧zan p k≤zan p (k - 1)
   ·rw [if_pos hk] at h;omega
   ·rw [if_neg hk] at h;rcases Nat.eq_or_lt_of_le h1 with e | e
    ·rw [← e];exact hp
    ·exact zeg p f (k+1) h i e (by omega)
  ·rw [if_pos (by simpa using hp)] at h;omega
theorem zeh {n:Int}(h:zdY n=true):2≤n∧n≤97:=by
 unfold zdY at h;rw [Bool.and_eq_true] at h;simpa using h.1
theorem zei {p:List Int}(h:zee p=0):0<p.length∧p.length≤6∧∀ i,i<p.length→2≤zan p i∧zan p i≤97:=by
 unfold zee at h;by_cases h0:p.length=0
 ·rw [if_pos h0] at h;omega
 ·rw [if_neg h0] at h;by_cases h6:6<p.length
  ·rw [if_pos h6] at h;omega
  ·rw [if_neg h6] at h;exact ⟨by omega,by omega,fun i hi=>zeh (zeg p _ 0 h i (by omega) (by omega))⟩
theorem zej : (Tryz.prog.info? 3).map (fun i=>(i.zero,i.size,i.bytes))=some (some (.int .i64 0),1,8):=by kernel_rfl
def zek (w:World)(B:Nat)(v:Value)(l:List Int):Prop:=w.ownsRow B 3 1 v l.length (zak l)
theorem zek.sl {w:World}{B:Nat}{v:Value}{l:List Int}(ho:zek w B v l):Sl w v (zak l):=zai ho
theorem zel {w:World}{B:Nat}{v:Value}{E s k:Nat}{xs:List Value}(h:w.ownsRow B E s v k xs):∃ a cap,v=.slice a k cap:=by
 rcases h.2 with ⟨rfl,rfl⟩ | ⟨g,cap,cur,rfl,_⟩ <;> exact ⟨_,_,rfl⟩
def Qu (w w':World):Prop:=∃ q,w'=w.drewN q
theorem Qu.refl (w:World):Qu w w:=⟨0,rfl⟩
theorem Qu.drewN {a w:World}(h:Qu a w)(n:Nat):Qu a (w.drewN n):=by
 obtain ⟨q,rfl⟩:=h;exact ⟨q+n,World.drewN_drewN ..⟩
theorem Qu.ext {w w':World}(h:Qu w w'):Ext w w':=by
 obtain ⟨q,rfl⟩:=h;exact (Ext.refl w).drewN q
theorem Qu.trans {a b c:World}(h:Qu a b)(k:Qu b c):Qu a c:=by
 obtain ⟨q,rfl⟩:=k;exact h.drewN q
theorem zem {w:World}{B B' E E' s s' n n':Nat}{v u:Value}{xs ys:List Value}(h:w.ownsRow B E s v n xs)(k:w.ownsRow B' E' s' u n' ys)(hE:E ≠ E'):v.ownBlock=none∨v.ownBlock ≠ u.ownBlock:=by
 rcases h.2 with ⟨rfl,_⟩ | ⟨g,cap,cur,rfl,_,hg,_⟩
 ·exact .inl rfl
 ·rcases k.2 with ⟨rfl,_⟩ | ⟨g',cap',cur',rfl,_,hg',_⟩
  ·exact .inr (by simp [Value.ownBlock])
  ·refine .inr fun e=>?_;obtain rfl:g=g':=by simpa [Value.ownBlock] using e
   rw [hg] at hg';simp at hg';exact hE hg'.2
theorem zen {w:World}{b k:Nat}{us:List Value}{t:TypeId}{u:Value}(h:w.heap[b]?=some (.cells us.toArray t (0,0)))(hu:us[k]?=some u):w.cell? ⟨b,k,none⟩=some u:=by
 unfold World.cell?;dsimp only;rw [h];simpa using hu
theorem zeo (a:World)(row:Option Nat):a.grownBy a row:=⟨rfl,rfl,rfl,Nat.le_refl _,fun _ _ _=>rfl⟩
theorem zep {a w:World}{g:Nat}(h:a.grownBy w (some g)){p:Addr}(hp:p.block=g)(u:Value):a.grownBy (w.setCell p u) (some g) :=
 ⟨h.os,h.tape,h.output,by simpa [World.setCell] using h.size,fun i hi hne=>(Below.heap_setCell w p u i (by
  rintro rfl;exact hne (by rw [hp]))).trans (h.block i hi hne)⟩
theorem zeq {a w w':World}{row:Option Nat}(h:a.grownBy w row)(hx:Ext w w'):a.grownBy w' row :=
 ⟨hx.os.trans h.os,hx.tape.trans h.tape,hx.output.trans h.output,Nat.le_trans h.size hx.size,fun i hi hne=>(hx.block i (Nat.lt_of_lt_of_le hi h.size)).trans (h.block i hi hne)⟩
theorem zes (n:Int)(w:World)(he:Env w)(h0:-9223372036854775808≤n)(h1:n≤9223372036854775807) :
  Calls Tryz.prog 106 #[.int .i64 n] w fun e w'=>e=.returned (.string (I n))∧Ext w w':=by
 have hi:=za9 n h0 h1 w he;generalize I n=s at *;clear he;have Hi:=hid hi;clear hi;go_enter Tryz.func106,Tryz.ntmps106
 go_wp2_with fail
 refine (Hi.out).mono ?_;rintro e w1 ⟨rfl,hx1⟩;have Hx1:=hid hx1;clear hx1;go_wp2
 go_ret
 exact ⟨rfl,Hx1.out⟩
def zet (w:World)(b:Nat):Nat:=match w.cell? ⟨b,1,none⟩ with | some (.slice _ n _)=>n | _=>0
def zeu (u u':Value)(n k:Nat):Prop:=∃ a c,u=.slice a n c∧u'=.slice a k c
theorem zev (u:Value)(b:Bool)(ds:List Int)(w:World)(hu:Sl w u (zak ds))(hl:ds.length≤1000) :
  Calls Tryz.prog 85 #[.agg #[.bool b,u]] w fun e w'=>∃ (u':Value)(k:Nat),e=.returned (.agg #[.bool (b && decide (0<k)),u'])∧k≤ds.length∧(∀ j,k≤j→j<ds.length→ds[j]?=some 0)∧(∀ j,k=j+1→ds[j]? ≠ some 0)∧Sl w' u' (zak (ds.take k))∧Ext w w'∧zeu u u' ds.length k:=by
 have htk:∀ k,k≤ds.length→∀ a c,u=.slice a ds.length c→∀ W,Ext w W→Sl W (.slice a k c) (zak (ds.take k)):=fun k hk a c e W hE=>by
  have hs:=hE.sl hu;have hlen:(zak (ds.take k)).length=k:=by rw [zam,List.length_take];omega
  rcases hs with ⟨a',cap,e',hm,h0⟩ | ⟨b',off,cap,e',h1,h2,hc⟩
  ·rw [e] at e';injection e' with e1 e2 e3;have:k=0:=(by omega);subst this;exact .inl ⟨a,c,rfl,by omega,by simp [zak]⟩
  ·rw [e] at e';injection e' with e1 e2 e3;refine .inr ⟨b',off,c,by rw [hlen,e1],by rw [hlen];rw [zam] at h1;omega,by omega,fun i x hx=>hc i x ?_⟩;have hi:i<k:=(by have:=(List.getElem?_eq_some_iff.1 hx).1;omega);unfold zak at hx ⊢;rw [List.getElem?_map,List.getElem?_take,if_pos hi] at hx;rw [List.getElem?_map];exact hx
 obtain ⟨a,c,rfl,hcm,hcl,hc⟩:=hu.parts;rw [zam] at htk hcl ⊢;have hcell:∀ j d,ds[j]?=some d→∃ b' off,a=some ⟨b',off,none⟩∧w.cell? ⟨b',off+j,none⟩=some (.int .i64 d):=fun j d hd=>hc j _ (by unfold zak;rw [List.getElem?_map,hd];rfl);have hE0:Ext w ((w.alloc (.cells #[.bool b,.slice a ds.length c] 97)).alloc (.cells #[.bool false,.slice none 0 0] 97)):=((Ext.refl _).alloc _).alloc _;have b1:=(zdV.new 97 w (.bool b) (.slice a ds.length c)).ext ((Ext.refl _).alloc (.cells #[.bool false,.slice none 0 0] 97));have b2:=zdV.new 97 (w.alloc (.cells #[.bool b,.slice a ds.length c] 97)) (.bool false) (.slice none 0 0);rw [World.size_alloc] at b2;have htk2:=fun k hk W hE=>htk k hk a c rfl W hE;clear hu hc htk;generalize hn:ds.length=n at *;have Hn:=hid hn;clear hn;have hw0:=Nat.lt_succ_self w.heap.size;have Hcell:=hid hcell;have HE0:=hid hE0;have Htk2:=hid htk2;have B1:=hid b1;have B2:=hid b2;clear hcell hE0 htk2 b1 b2;go_enter Tryz.func85,Tryz.ntmps85
 go_wp2_with fail
 go_loopw [3] (fun _ wr=>∃ k:Nat,k≤n∧zdV 97 wr w.heap.size (.bool b) (.slice a k c)∧K0 97 w wr (w.heap.size+1)∧∀ j,k≤j→j<n→ds[j]?=some 0) (fun _ wr=>zet wr w.heap.size)
 case atStart=>exact ⟨n,Nat.le_refl _,B1.out,⟨HE0.out,_,_,B2.out⟩,fun j h1 h2=>by omega⟩
 case round =>
  obtain ⟨k,hk,hb,hK,hz⟩:=hrel;have q0:=hb.c0;have q1:=hb.c1;have f0:=hb.fz 0;have f1:=hb.fz 1;have hme:zet wr w.heap.size=k:=by unfold zet;rw [q1]
  have Hb:=hid hb;have HK:=hid hK;have Hz:=hid hz;have Hme:=hid hme;clear hb hK hz hme;by_cases hk0:0<k
  ·obtain ⟨j,hkj⟩:∃ j,k=j+1:=⟨k - 1,by omega⟩;obtain ⟨d,hd⟩:∃ d,ds[j]?=some d:=⟨_,List.getElem?_eq_getElem (by rw [Hn.out];omega)⟩;obtain ⟨b',off,rfl,hc1⟩:=Hcell.out j d hd;have hc2:=HK.out.x.cell hc1;have hwj:IntKind.i64.wrap ((k:Int) - 1)=(j:Int):=(by rw [IntKind.wrap_i64];omega);have hj0:(0:Int)≤(j:Int):=(by omega);have hj1:(j:Int)<(k:Int):=(by omega);have hj2:¬ (k:Int)<(j:Int):=(by omega);have hkz:(0:Int)<(k:Int):=(by omega);have hkd:decide ((k:Int) > 0)=true:=decide_eq_true (by omega);have Hd:=hid hd;clear hd hc1;have hjc:(j:Int)≤(c:Int):=(by omega);by_cases hd0:d=0
   ·subst hd0;have hS:=Hb.out.put1 (.slice (some ⟨b',off,none⟩) j c);have hKS:=HK.out.set (b:=w.heap.size) (Nat.le_refl _) (by omega) 1 (.slice (some ⟨b',off,none⟩) j c);have HS:=hid hS;have HKS:=hid hKS;have Hkj:=hid hkj;clear hS hKS hkj;go_wp2_with fail
    go_roundw
    case rel=>exact ⟨j,by have:=Hkj.out;omega,HS.out,HKS.out,fun i h1 h2=>by
     have:=Hkj.out;rcases (by omega:i=j∨k≤i) with e | e
     ·rw [e];exact Hd.out
     ·exact Hz.out i e h2⟩
    case measure =>
     have h1:zet (wr.setCell ⟨w.heap.size,1,none⟩ (.slice (some ⟨b',off,none⟩) j c)) w.heap.size=j:=(by unfold zet;rw [HS.out.c1]);have:=Hkj.out;rw [h1,Hme.out];omega
   ·have hdn:decide (d=0)=false:=decide_eq_false hd0;have hdd:(d == 0)=false:=(by simpa using hd0);have Hd0:=hid hd0;have Hkj:=hid hkj;clear hkj
    cases b with
    | true =>
     have hS:=Hb.out.put0 (.bool true)
     have hKS:=HK.out.set (b:=w.heap.size) (Nat.le_refl _) (by omega) 0 (.bool true)
     have hsl:=Htk2.out k hk _ hKS.x
     have s0:=hS.c0
     have s1:=hS.c1
     have k0:=hKS.res.c0;have k1:=hKS.res.c1;have z0:=hKS.res.fz 0;have z1:=hKS.res.fz 1
     obtain ⟨hb5,hx5⟩:=hKS.fin (by omega) (.bool true) (.slice (some ⟨b',off,none⟩) k c)
     have hsl2:=Htk2.out k hk _ hx5
     have Hb5:=hid hb5;have Hx5:=hid hx5;have Hsl2:=hid hsl2
     clear hS hKS hsl hb5 hx5 hsl2
     go_wp2_with fail
     have hd0':=Hb5.out.c0
     have hd1':=Hb5.out.c1
     exact bodyPost_ret (v:=.agg #[.bool true,.slice (some ⟨b',off,none⟩) k c]) (by simp [results,Tryz.results85,go_sem,hd0',hd1']) rfl ⟨_,k,by rw [decide_eq_true hk0],hk,fun i h1 h2=>Hz.out i h1 h2,fun i e=>by rw [show i=j by have:=Hkj.out;omega,Hd.out];exact fun e=>Hd0.out (Option.some.inj e),Hsl2.out,Hx5.out,⟨_,_,rfl,rfl⟩⟩
    | false =>
     have hS:=Hb.out.put0 (.bool false)
     have hKS:=HK.out.set (b:=w.heap.size) (Nat.le_refl _) (by omega) 0 (.bool false)
     have hsl:=Htk2.out k hk _ hKS.x
     have s0:=hS.c0
     have s1:=hS.c1
     have k0:=hKS.res.c0;have k1:=hKS.res.c1;have z0:=hKS.res.fz 0;have z1:=hKS.res.fz 1
     obtain ⟨hb5,hx5⟩:=hKS.fin (by omega) (.bool false) (.slice (some ⟨b',off,none⟩) k c)
     have hsl2:=Htk2.out k hk _ hx5
     have Hb5:=hid hb5;have Hx5:=hid hx5;have Hsl2:=hid hsl2
     clear hS hKS hsl hb5 hx5 hsl2
     go_wp2_with fail
     have hd0':=Hb5.out.c0
     have hd1':=Hb5.out.c1
     exact bodyPost_ret (v:=.agg #[.bool false,.slice (some ⟨b',off,none⟩) k c]) (by simp [results,Tryz.results85,go_sem,hd0',hd1']) rfl ⟨_,rfl,k,hk,fun i h1 h2=>Hz.out i h1 h2,fun i e=>by rw [show i=j by have:=Hkj.out;omega,Hd.out];exact fun e=>Hd0.out (Option.some.inj e),Hsl2.out,Hx5.out,⟨_,_,rfl,rfl⟩⟩
  ·obtain rfl:k=0:=by omega
   have hkd:decide (((0:Nat):Int) > 0)=false:=by decide
   cases b with
   | true =>
    have hS:=Hb.out.put0 (.bool false)
    have hKS:=HK.out.set (b:=w.heap.size) (Nat.le_refl _) (by omega) 0 (.bool false)
    have hsl:=Htk2.out 0 hk _ hKS.x
    have s0:=hS.c0
    have s1:=hS.c1
    have k0:=hKS.res.c0;have k1:=hKS.res.c1;have z0:=hKS.res.fz 0;have z1:=hKS.res.fz 1
    obtain ⟨hb5,hx5⟩:=hKS.fin (by omega) (.bool false) (.slice a 0 c)
    have hsl2:=Htk2.out 0 hk _ hx5
    have Hb5:=hid hb5;have Hx5:=hid hx5;have Hsl2:=hid hsl2
    clear hS hKS hsl hb5 hx5 hsl2
    go_wp2_with fail
    have hd0':=Hb5.out.c0
    have hd1':=Hb5.out.c1
    exact bodyPost_ret (v:=.agg #[.bool false,.slice a 0 c]) (by simp [results,Tryz.results85,go_sem,hd0',hd1']) rfl ⟨_,0,rfl,Nat.zero_le _,fun i h1 h2=>Hz.out i h1 h2,fun i e=>by omega,Hsl2.out,Hx5.out,⟨_,_,rfl,rfl⟩⟩
   | false =>
    have hS:=Hb.out.put0 (.bool false)
    have hKS:=HK.out.set (b:=w.heap.size) (Nat.le_refl _) (by omega) 0 (.bool false)
    have hsl:=Htk2.out 0 hk _ hKS.x
    have s0:=hS.c0
    have s1:=hS.c1
    have k0:=hKS.res.c0;have k1:=hKS.res.c1;have z0:=hKS.res.fz 0;have z1:=hKS.res.fz 1
    obtain ⟨hb5,hx5⟩:=hKS.fin (by omega) (.bool false) (.slice a 0 c)
    have hsl2:=Htk2.out 0 hk _ hx5
    have Hb5:=hid hb5;have Hx5:=hid hx5;have Hsl2:=hid hsl2
    clear hS hKS hsl hb5 hx5 hsl2
    go_wp2_with fail
    have hd0':=Hb5.out.c0
    have hd1':=Hb5.out.c1
    exact bodyPost_ret (v:=.agg #[.bool false,.slice a 0 c]) (by simp [results,Tryz.results85,go_sem,hd0',hd1']) rfl ⟨_,0,rfl,Nat.zero_le _,fun i h1 h2=>Hz.out i h1 h2,fun i e=>by omega,Hsl2.out,Hx5.out,⟨_,_,rfl,rfl⟩⟩
theorem zew (u:Value)(b:Bool)(ds:List Int)(w:World)(hu:Sl w u (zak ds))(hl:ds.length≤1000) :
  Calls Tryz.prog 85 #[.agg #[.bool b,u]] w fun e w'=>∃ (u':Value)(k:Nat),e=.returned (.agg #[.bool (b && decide (0<k)),u'])∧k≤ds.length∧(∀ j,k≤j→j<ds.length→ds[j]?=some 0)∧(∀ j,k=j+1→ds[j]? ≠ some 0)∧Sl w' u' (zak (ds.take k))∧Ext w w' :=
 (zev u b ds w hu hl).mono fun _ _ ⟨u',k,h1,h2,h3,h4,h5,h6,_⟩=>⟨u',k,h1,h2,h3,h4,h5,h6⟩
theorem zex {a b:Int}{j k:Nat}(ha:nDigits a.natAbs≤j)(hb:nDigits b.natAbs≤k):nDigits (a * b).natAbs≤j+k:=by
 rw [Int.natAbs_mul];exact Nat.le_trans (zb6 _ _) (Nat.add_le_add ha hb)
theorem zey {a b:Int}{k:Nat}(ha:nDigits a.natAbs≤k)(hb:nDigits b.natAbs≤k):nDigits (a+b).natAbs≤k+1:=by
 refine Nat.le_trans (Dec.nDigits_mono (Int.natAbs_add_le a b)) ?_;exact zcF _ _ _ ha hb
theorem zez (a b:Rat):((a.den * b.den:Nat):Int)=(a.den:Int) * (b.den:Int):=Int.natCast_mul ..
theorem ze0 {x y:Int}(hx:-1000000000<x∧x<1000000000)(hy:-1000000000<y∧y<1000000000):-1000000000000000000≤x * y∧x * y≤1000000000000000000:=by
 have h1:(x * y).natAbs≤1000000000 * 1000000000:=by
  rw [Int.natAbs_mul];exact Nat.mul_le_mul (by omega) (by omega)
 omega
theorem ze1 (a b:Rat)(w:World)(he:Env w)(ha:Ft 100000 a)(hb:Ft 100000 b) :
  Calls Tryz.prog 118 #[Rv a,Rv b] w fun e w'=>e=.returned (Rv (a+b))∧Ext w w':=by
 have fa1:=ha.num (by omega);have fa2:=ha.den (by omega);have fb1:=hb.num (by omega);have fb2:=hb.den (by omega);have hda:nDigits ((a.den:Int)).natAbs≤100000:=by rw [Int.natAbs_natCast];exact ha.2
 have hdb:nDigits ((b.den:Int)).natAbs≤100000:=by rw [Int.natAbs_natCast];exact hb.2
 have g1:nDigits (a.num * (b.den:Int)).natAbs≤200000:=zex ha.1 hdb;have g2:nDigits (b.num * (a.den:Int)).natAbs≤200000:=zex hb.1 hda;have g3:nDigits ((a.den:Int) * (b.den:Int)).natAbs≤200000:=zex hda hdb;have g4:=zey g1 g2;have hba:=fun W=>zdQ a W fa1 fa2;have hbb:=fun W=>zdQ b W fb1 fb2;have hk0:=zdM w (.string (I a.num)) (.string (I (a.den:Int))) (.string (I b.num)) (.string (I (b.den:Int)));have ta:=zdT (a.den:Int);have tb:=zdT (b.den:Int);have hpa:=a.den_pos;have hpb:=b.den_pos;by_cases h1:a.den=1∧b.den=1
 ·obtain ⟨e1,e2⟩:=h1;have hadd:=fun W (h:Ext w W)=>zdh a.num b.num W (he.ext h) fa1 fb1;obtain ⟨s1,s2⟩:=zdn e1 e2;unfold Rv;rw [← s1] at hadd;have s3:I (((a+b).den:Nat):Int)=⟨#[49]⟩:=by rw [s2,zav,zbl]
  rw [s3];rw [decide_eq_true (by omega)] at ta tb;generalize I (a+b).num=st at *;generalize I a.num=sa at *;generalize I b.num=sb at *;generalize I (a.den:Int)=sc at *;generalize I (b.den:Int)=sd at *;have Hadd:=hid hadd;have Hk0:=hid hk0;clear hadd hk0;clear hba hbb g1 g2 g3 g4 fa1 fa2 fb1 fb2 hda hdb s1 s2 s3 he ha hb;go_enter Tryz.func118,Tryz.ntmps118
  go_wp2_with fail
  generalize hV:((w.alloc (.cells #[.string sa,.string sc] 57)).alloc (.cells #[.string sb,.string sd] 57)).alloc (.cells #[.string ⟨#[]⟩,.string ⟨#[]⟩] 57)=V at *;refine (Hadd.out _ Hk0.out.1).mono ?_;rintro e W4 ⟨rfl,hxa⟩;have hkk:=Hk0.out.ext hxa;have Hkk:=hid hkk;clear hkk;clear hxa;have hc0:=(Hkk.out).res.c0;have hc1:=(Hkk.out).res.c1;have hz0:=(Hkk.out).res.fz 0;have hz1:=(Hkk.out).res.fz 1;obtain ⟨hb,hfx⟩:=(Hkk.out).fin (by omega) (.string st) (.string ⟨#[49]⟩);have Hb:=hid hb;have Hfx:=hid hfx;clear hb hfx;go_wp2_with fail
  have hd0:=Hb.out.c0;have hd1:=Hb.out.c1;exact bodyPost_ret (v:=.agg #[.string st,.string ⟨#[49]⟩]) (by simp [results,Tryz.results118,go_sem,hd0,hd1]) rfl ⟨rfl,Hfx.out⟩
 ·have hno:(((I (a.den:Int)).toList == [49])=false)∨(((I (a.den:Int)).toList == [49])=true∧((I (b.den:Int)).toList == [49])=false):=by
   rw [ta,tb];by_cases e:a.den=1
   ·right;exact ⟨decide_eq_true (by omega),decide_eq_false (by omega)⟩
   ·left;exact decide_eq_false (by omega)
  clear ta tb h1;by_cases hl:((lit a.num).2 && (lit (a.den:Int)).2)=true∧((lit b.num).2 && (lit (b.den:Int)).2)=true
  ·obtain ⟨hl1,hl2⟩:=hl;rw [Bool.and_eq_true] at hl1 hl2;have la1:=zdN a.num;have la2:=zdN (a.den:Int);have lb1:=zdN b.num;have lb2:=zdN (b.den:Int);rw [zdO hl1.1] at la1;rw [zdO hl1.2] at la2;rw [zdO hl2.1] at lb1;rw [zdO hl2.2] at lb2;rw [zdO hl1.1,zdO hl1.2,hl1.1,hl1.2] at hba;rw [zdO hl2.1,zdO hl2.2,hl2.1,hl2.2] at hbb;have b1:=ze0 la1 lb2;have b2:=ze0 lb1 la2;have b3:=ze0 la2 lb2;have hdp:0<a.den * b.den:=Nat.mul_pos hpa hpb;have hof:=fun W (h:Ext w W)=>zdR (a.num * (b.den:Int)+b.num * (a.den:Int)) (a.den * b.den) W (he.ext h) (by omega) (by omega) hdp (by rw [← zez] at b3;omega);rw [← Rat.add_def',zez] at hof;unfold Rv at hba hbb hof ⊢;generalize I (a+b).num=st at *;generalize I (((a+b).den:Nat):Int)=su at *;generalize I a.num=sa at *;generalize I b.num=sb at *;generalize I (a.den:Int)=sc at *;generalize I (b.den:Int)=sd at *;have hda0:(0:Int)<(a.den:Int):=(by omega);have hdb0:(0:Int)<(b.den:Int):=(by omega);generalize a.num=na at *;generalize b.num=nb at *;generalize (a.den:Int)=da at *;generalize (b.den:Int)=db at *;have hw1:IntKind.i64.wrap (na * db)=na * db:=IntWalk.i64_in _ (by omega);have hw2:IntKind.i64.wrap (nb * da)=nb * da:=IntWalk.i64_in _ (by omega);have hw3:IntKind.i64.wrap (da * db)=da * db:=IntWalk.i64_in _ (by omega);have hw4:IntKind.i64.wrap (na * db+nb * da)=na * db+nb * da:=IntWalk.i64_in _ (by omega);have Hba:=hid hba;have Hbb:=hid hbb;have Hof:=hid hof;have Hk0:=hid hk0;clear hba hbb hof hk0;clear g1 g2 g3 g4 fa1 fa2 fb1 fb2 hda hdb he ha hb hl1 hl2;rcases hno with h | ⟨h,h'⟩
   all_goals
    go_enter Tryz.func118,Tryz.ntmps118
    go_wp2_with fail
    generalize hV:((w.alloc (.cells #[.string sa,.string sc] 57)).alloc (.cells #[.string sb,.string sd] 57)).alloc (.cells #[.string ⟨#[]⟩,.string ⟨#[]⟩] 57)=V at *;refine (Hba.out _).mono ?_;rintro e W1 ⟨rfl,hxa⟩;have hk1:=Hk0.out.ext hxa;have hc0:=hk1.2.2.1.c0;have hc1:=hk1.2.2.1.c1;have Hk1:=hid hk1;clear hk1;clear hxa;go_wp2_with fail
    refine (Hbb.out _).mono ?_;rintro e W2 ⟨rfl,hxa⟩;have hk2:=Hk1.out.ext hxa;have Hk2:=hid hk2;clear hk2;clear hxa hc0 hc1;go_wp2_with fail
    refine (Hof.out _ Hk2.out.1).mono ?_;rintro e W3 ⟨rfl,hxa⟩;have hkk:=Hk2.out.ext hxa;have Hkk:=hid hkk;clear hkk;clear hxa;have hc0:=(Hkk.out).res.c0;have hc1:=(Hkk.out).res.c1;have hz0:=(Hkk.out).res.fz 0;have hz1:=(Hkk.out).res.fz 1;obtain ⟨hb,hfx⟩:=(Hkk.out).fin (by omega) (.string st) (.string su);have Hb:=hid hb;have Hfx:=hid hfx;clear hb hfx;go_wp2_with fail
    have hd0:=Hb.out.c0;have hd1:=Hb.out.c1;exact bodyPost_ret (v:=.agg #[.string st,.string su]) (by simp [results,Tryz.results118,go_sem,hd0,hd1]) rfl ⟨rfl,Hfx.out⟩
  ·have hcs:((lit a.num).2 && (lit (a.den:Int)).2)=false∨(((lit a.num).2 && (lit (a.den:Int)).2)=true∧((lit b.num).2 && (lit (b.den:Int)).2)=false):=by
    cases e1:((lit a.num).2 && (lit (a.den:Int)).2)
    ·exact .inl rfl
    ·right;refine ⟨rfl,?_⟩
     cases e2:((lit b.num).2 && (lit (b.den:Int)).2)
     ·rfl
     ·exact absurd ⟨e1,e2⟩ hl
   have hm1:=fun W (h:Ext w W)=>zbT a.num (b.den:Int) W (he.ext h) fa1 fb2;have hm2:=fun W (h:Ext w W)=>zbT b.num (a.den:Int) W (he.ext h) fb1 fa2;have hm3:=fun W (h:Ext w W)=>zbT (a.den:Int) (b.den:Int) W (he.ext h) fa2 fb2;have had:=fun W (h:Ext w W)=>zdh (a.num * (b.den:Int)) (b.num * (a.den:Int)) W (he.ext h) (by unfold Fit;omega) (by unfold Fit;omega);have hlo:=fun W (h:Ext w W)=>zdU (a.num * (b.den:Int)+b.num * (a.den:Int)) (a.den * b.den) W (he.ext h) (by unfold Fit;omega) (by rw [zez];unfold Fit;omega) (Nat.mul_pos hpa hpb);rw [← Rat.add_def',zez] at hlo;unfold Rv at hba hbb hlo ⊢;generalize lit a.num=la at *;generalize lit b.num=lb at *;generalize lit (a.den:Int)=lc at *;generalize lit (b.den:Int)=ld at *;generalize I (a.num * (b.den:Int)+b.num * (a.den:Int))=sx at *;generalize I (a.num * (b.den:Int))=sm at *;generalize I (b.num * (a.den:Int))=sn at *;generalize I ((a.den:Int) * (b.den:Int))=so at *;generalize I (a+b).num=st at *;generalize I (((a+b).den:Nat):Int)=su at *;generalize I a.num=sa at *;generalize I b.num=sb at *;generalize I (a.den:Int)=sc at *;generalize I (b.den:Int)=sd at *;have Hba:=hid hba;have Hbb:=hid hbb;have Hk0:=hid hk0;have Hm1:=hid hm1;have Hm2:=hid hm2;have Hm3:=hid hm3;have Had:=hid had;have Hlo:=hid hlo;clear hba hbb hk0 hm1 hm2 hm3 had hlo;clear g1 g2 g3 g4 fa1 fa2 fb1 fb2 hda hdb he ha hb hl;rcases hno with h | ⟨h,h'⟩
   all_goals
    rcases hcs with q1 | ⟨q1,q2⟩
   case' inl.inl | inr.inl =>
    go_enter Tryz.func118,Tryz.ntmps118
    go_wp2_with fail
    generalize hV:((w.alloc (.cells #[.string sa,.string sc] 57)).alloc (.cells #[.string sb,.string sd] 57)).alloc (.cells #[.string ⟨#[]⟩,.string ⟨#[]⟩] 57)=V at *;refine (Hba.out _).mono ?_;rintro e W2 ⟨rfl,hxa⟩;have hK:=Hk0.out.ext hxa;have HK:=hid hK;clear hK;clear hxa
   case' inl.inr | inr.inr =>
    go_enter Tryz.func118,Tryz.ntmps118
    go_wp2_with fail
    generalize hV:((w.alloc (.cells #[.string sa,.string sc] 57)).alloc (.cells #[.string sb,.string sd] 57)).alloc (.cells #[.string ⟨#[]⟩,.string ⟨#[]⟩] 57)=V at *;refine (Hba.out _).mono ?_;rintro e W1 ⟨rfl,hxa⟩;have hk1:=Hk0.out.ext hxa;have hc0:=hk1.2.2.1.c0;have hc1:=hk1.2.2.1.c1;have Hk1:=hid hk1;clear hk1;clear hxa;go_wp2_with fail
    refine (Hbb.out _).mono ?_;rintro e W2 ⟨rfl,hxa⟩;have hK:=Hk1.out.ext hxa;have HK:=hid hK;clear hK;clear hxa hc0 hc1
   all_goals
    go_wp2_with fail
    go_region_held3 (fun w'=>Kp2 w w' w.heap.size (.string sa) (.string sc) (w.heap.size+1) (.string sb) (.string sd) (w.heap.size+1+1)∧w'.cell? ⟨w.heap.size,0,none⟩=some (.string sa)∧w'.cell? ⟨w.heap.size,1,none⟩=some (.string sc)∧w'.cell? ⟨w.heap.size+1,0,none⟩=some (.string sb)∧w'.cell? ⟨w.heap.size+1,1,none⟩=some (.string sd)∧w'.cell? ⟨w.heap.size+1+1,0,none⟩=some (zdL w' (w.heap.size+1+1) 0)∧w'.cell? ⟨w.heap.size+1+1,1,none⟩=some (zdL w' (w.heap.size+1+1) 1)∧w'.frozen? ⟨w.heap.size+1+1,0,none⟩=false∧w'.frozen? ⟨w.heap.size+1+1,1,none⟩=false)
     (first | exact (Kp2.ext HK.out ((Ext.refl _).drew)).all | exact (Kp2.ext (And.left (by assumption)) hxa).all | exact (Kp2.put (And.left (by assumption)) (by omega) (by omega) (by omega) _ _).all)
     (first
      | (go_at_call_of 109 (Value.string sa);refine (Hm1.out _ (And.left (And.left (by assumption)))).mono ?_;rintro e9 V4 ⟨rfl,hxa⟩;have hkk:=Kp2.ext (And.left (by assumption)) hxa)
      | (go_at_call_of 109 (Value.string sb);refine (Hm2.out _ (And.left (And.left (by assumption)))).mono ?_;rintro e9 V4 ⟨rfl,hxa⟩;have hkk:=Kp2.ext (And.left (by assumption)) hxa)
      | (go_at_call_of 109 (Value.string sc);refine (Hm3.out _ (And.left (And.left (by assumption)))).mono ?_;rintro e9 V4 ⟨rfl,hxa⟩;have hkk:=Kp2.ext (And.left (by assumption)) hxa)
      | (go_at_call 149;refine (Had.out _ (And.left (And.left (by assumption)))).mono ?_;rintro e9 V4 ⟨rfl,hxa⟩;have hkk:=Kp2.ext (And.left (by assumption)) hxa)
      | (go_at_call 155;refine (Hlo.out _ (And.left (And.left (by assumption)))).mono ?_;rintro e9 V4 ⟨rfl,hxa⟩;have hkk:=Kp2.ext (And.left (by assumption)) hxa))
    all_goals
     obtain ⟨hb,hfx⟩:=(hkk).fin (by omega) (.string st) (.string su);have Hfx:=hid hfx;clear hfx hxa hkk;generalize (V4.setCell ⟨w.heap.size+1+1,0,none⟩ (.string st)).setCell ⟨w.heap.size+1+1,1,none⟩ (.string su)=W5 at *;have hd0:=hb.c0;have hd1:=hb.c1;go_wp2_with fail
     exact bodyPost_ret (v:=.agg #[.string st,.string su]) (by simp [results,Tryz.results118,go_sem,hd0,hd1]) rfl ⟨rfl,Hfx.out⟩
theorem ze2 (a b:Rat)(w:World)(he:Env w)(ha:Ft 100000 a)(hb:Ft 100000 b) :
  Calls Tryz.prog 119 #[Rv a,Rv b] w fun e w'=>e=.returned (Rv (a * b))∧Ext w w':=by
 have fa1:=ha.num (by omega);have fa2:=ha.den (by omega);have fb1:=hb.num (by omega);have fb2:=hb.den (by omega);have hda:nDigits ((a.den:Int)).natAbs≤100000:=by rw [Int.natAbs_natCast];exact ha.2
 have hdb:nDigits ((b.den:Int)).natAbs≤100000:=by rw [Int.natAbs_natCast];exact hb.2
 have g1:nDigits (a.num * b.num).natAbs≤200000:=zex ha.1 hb.1;have g3:nDigits ((a.den:Int) * (b.den:Int)).natAbs≤200000:=zex hda hdb;have hba:=fun W=>zdQ a W fa1 fa2;have hbb:=fun W=>zdQ b W fb1 fb2;have hk0:=zdM w (.string (I a.num)) (.string (I (a.den:Int))) (.string (I b.num)) (.string (I (b.den:Int)));have hpa:=a.den_pos;have hpb:=b.den_pos;by_cases hl:((lit a.num).2 && (lit (a.den:Int)).2)=true∧((lit b.num).2 && (lit (b.den:Int)).2)=true
 ·obtain ⟨hl1,hl2⟩:=hl;rw [Bool.and_eq_true] at hl1 hl2;have la1:=zdN a.num;have la2:=zdN (a.den:Int);have lb1:=zdN b.num;have lb2:=zdN (b.den:Int);rw [zdO hl1.1] at la1;rw [zdO hl1.2] at la2;rw [zdO hl2.1] at lb1;rw [zdO hl2.2] at lb2;rw [zdO hl1.1,zdO hl1.2,hl1.1,hl1.2] at hba;rw [zdO hl2.1,zdO hl2.2,hl2.1,hl2.2] at hbb;have b1:=ze0 la1 lb1;have b3:=ze0 la2 lb2;have hdp:0<a.den * b.den:=Nat.mul_pos hpa hpb;have hof:=fun W (h:Ext w W)=>zdR (a.num * b.num) (a.den * b.den) W (he.ext h) (by omega) (by omega) hdp (by rw [← zez] at b3;omega);rw [← Rat.mul_def',zez] at hof;unfold Rv at hba hbb hof ⊢;generalize I (a * b).num=st at *;generalize I (((a * b).den:Nat):Int)=su at *;generalize I a.num=sa at *;generalize I b.num=sb at *;generalize I (a.den:Int)=sc at *;generalize I (b.den:Int)=sd at *;have hda0:(0:Int)<(a.den:Int):=by omega
  have hdb0:(0:Int)<(b.den:Int):=by omega
  generalize a.num=na at *;generalize b.num=nb at *;generalize (a.den:Int)=da at *;generalize (b.den:Int)=db at *;have hw1:IntKind.i64.wrap (na * nb)=na * nb:=IntWalk.i64_in _ (by omega);have hw3:IntKind.i64.wrap (da * db)=da * db:=IntWalk.i64_in _ (by omega);have Hba:=hid hba;have Hbb:=hid hbb;have Hof:=hid hof;have Hk0:=hid hk0;clear hba hbb hof hk0;clear g1 g3 fa1 fa2 fb1 fb2 hda hdb he ha hb hl1 hl2;go_enter Tryz.func119,Tryz.ntmps119
  go_wp2_with fail
  generalize hV:((w.alloc (.cells #[.string sa,.string sc] 57)).alloc (.cells #[.string sb,.string sd] 57)).alloc (.cells #[.string ⟨#[]⟩,.string ⟨#[]⟩] 57)=V at *;refine (Hba.out _).mono ?_;rintro e W1 ⟨rfl,hxa⟩;have hk1:=Hk0.out.ext hxa;have hc0:=hk1.2.2.1.c0;have hc1:=hk1.2.2.1.c1;have Hk1:=hid hk1;clear hk1;clear hxa;go_wp2_with fail
  refine (Hbb.out _).mono ?_;rintro e W2 ⟨rfl,hxa⟩;have hk2:=Hk1.out.ext hxa;have Hk2:=hid hk2;clear hk2;clear hxa hc0 hc1;go_wp2_with fail
  refine (Hof.out _ Hk2.out.1).mono ?_;rintro e W3 ⟨rfl,hxa⟩;have hkk:=Hk2.out.ext hxa;have Hkk:=hid hkk;clear hkk;clear hxa;have hc0:=(Hkk.out).res.c0;have hc1:=(Hkk.out).res.c1;have hz0:=(Hkk.out).res.fz 0;have hz1:=(Hkk.out).res.fz 1;obtain ⟨hb,hfx⟩:=(Hkk.out).fin (by omega) (.string st) (.string su);have Hb:=hid hb;have Hfx:=hid hfx;clear hb hfx;go_wp2_with fail
  have hd0:=Hb.out.c0;have hd1:=Hb.out.c1;exact bodyPost_ret (v:=.agg #[.string st,.string su]) (by simp [results,Tryz.results119,go_sem,hd0,hd1]) rfl ⟨rfl,Hfx.out⟩
 ·have hcs:((lit a.num).2 && (lit (a.den:Int)).2)=false∨(((lit a.num).2 && (lit (a.den:Int)).2)=true∧((lit b.num).2 && (lit (b.den:Int)).2)=false):=by
   cases e1:((lit a.num).2 && (lit (a.den:Int)).2)
   ·exact .inl rfl
   ·right;refine ⟨rfl,?_⟩
    cases e2:((lit b.num).2 && (lit (b.den:Int)).2)
    ·rfl
    ·exact absurd ⟨e1,e2⟩ hl
  have hm1:=fun W (h:Ext w W)=>zbT a.num b.num W (he.ext h) fa1 fb1;have hm3:=fun W (h:Ext w W)=>zbT (a.den:Int) (b.den:Int) W (he.ext h) fa2 fb2;have hlo:=fun W (h:Ext w W)=>zdU (a.num * b.num) (a.den * b.den) W (he.ext h) (by unfold Fit;omega) (by rw [zez];unfold Fit;omega) (Nat.mul_pos hpa hpb);rw [← Rat.mul_def',zez] at hlo;unfold Rv at hba hbb hlo ⊢;generalize lit a.num=la at *;generalize lit b.num=lb at *;generalize lit (a.den:Int)=lc at *;generalize lit (b.den:Int)=ld at *;generalize I (a.num * b.num)=sm at *;generalize I ((a.den:Int) * (b.den:Int))=so at *;generalize I (a * b).num=st at *;generalize I (((a * b).den:Nat):Int)=su at *;generalize I a.num=sa at *;generalize I b.num=sb at *;generalize I (a.den:Int)=sc at *;generalize I (b.den:Int)=sd at *;have Hba:=hid hba;have Hbb:=hid hbb;have Hk0:=hid hk0;have Hm1:=hid hm1;have Hm3:=hid hm3;have Hlo:=hid hlo;clear hba hbb hk0 hm1 hm3 hlo;clear g1 g3 fa1 fa2 fb1 fb2 hda hdb he ha hb hl;rcases hcs with q1 | ⟨q1,q2⟩
  case' inl =>
   go_enter Tryz.func119,Tryz.ntmps119
   go_wp2_with fail
   generalize hV:((w.alloc (.cells #[.string sa,.string sc] 57)).alloc (.cells #[.string sb,.string sd] 57)).alloc (.cells #[.string ⟨#[]⟩,.string ⟨#[]⟩] 57)=V at *;refine (Hba.out _).mono ?_;rintro e W2 ⟨rfl,hxa⟩;have hK:=Hk0.out.ext hxa;have HK:=hid hK;clear hK;clear hxa
  case' inr =>
   go_enter Tryz.func119,Tryz.ntmps119
   go_wp2_with fail
   generalize hV:((w.alloc (.cells #[.string sa,.string sc] 57)).alloc (.cells #[.string sb,.string sd] 57)).alloc (.cells #[.string ⟨#[]⟩,.string ⟨#[]⟩] 57)=V at *;refine (Hba.out _).mono ?_;rintro e W1 ⟨rfl,hxa⟩;have hk1:=Hk0.out.ext hxa;have hc0:=hk1.2.2.1.c0;have hc1:=hk1.2.2.1.c1;have Hk1:=hid hk1;clear hk1;clear hxa;go_wp2_with fail
   refine (Hbb.out _).mono ?_;rintro e W2 ⟨rfl,hxa⟩;have hK:=Hk1.out.ext hxa;have HK:=hid hK;clear hK;clear hxa hc0 hc1
  all_goals
   go_wp2_with fail
   go_region_held3 (fun w'=>Kp2 w w' w.heap.size (.string sa) (.string sc) (w.heap.size+1) (.string sb) (.string sd) (w.heap.size+1+1)∧w'.cell? ⟨w.heap.size,0,none⟩=some (.string sa)∧w'.cell? ⟨w.heap.size,1,none⟩=some (.string sc)∧w'.cell? ⟨w.heap.size+1,0,none⟩=some (.string sb)∧w'.cell? ⟨w.heap.size+1,1,none⟩=some (.string sd)∧w'.cell? ⟨w.heap.size+1+1,0,none⟩=some (zdL w' (w.heap.size+1+1) 0)∧w'.cell? ⟨w.heap.size+1+1,1,none⟩=some (zdL w' (w.heap.size+1+1) 1)∧w'.frozen? ⟨w.heap.size+1+1,0,none⟩=false∧w'.frozen? ⟨w.heap.size+1+1,1,none⟩=false)
    (first | exact (Kp2.ext HK.out ((Ext.refl _).drew)).all | exact (Kp2.ext (And.left (by assumption)) hxa).all | exact (Kp2.put (And.left (by assumption)) (by omega) (by omega) (by omega) _ _).all)
    (first
     | (go_at_call_of 109 (Value.string sa);refine (Hm1.out _ (And.left (And.left (by assumption)))).mono ?_;rintro e9 V4 ⟨rfl,hxa⟩;have hkk:=Kp2.ext (And.left (by assumption)) hxa)
     | (go_at_call_of 109 (Value.string sc);refine (Hm3.out _ (And.left (And.left (by assumption)))).mono ?_;rintro e9 V4 ⟨rfl,hxa⟩;have hkk:=Kp2.ext (And.left (by assumption)) hxa)
     | (go_at_call 155;refine (Hlo.out _ (And.left (And.left (by assumption)))).mono ?_;rintro e9 V4 ⟨rfl,hxa⟩;have hkk:=Kp2.ext (And.left (by assumption)) hxa))
   all_goals
    obtain ⟨hb,hfx⟩:=(hkk).fin (by omega) (.string st) (.string su);have Hfx:=hid hfx;clear hfx hxa hkk;generalize (V4.setCell ⟨w.heap.size+1+1,0,none⟩ (.string st)).setCell ⟨w.heap.size+1+1,1,none⟩ (.string su)=W5 at *;have hd0:=hb.c0;have hd1:=hb.c1;go_wp2_with fail
    exact bodyPost_ret (v:=.agg #[.string st,.string su]) (by simp [results,Tryz.results119,go_sem,hd0,hd1]) rfl ⟨rfl,Hfx.out⟩
theorem Ft.neg {k:Nat}{r:Rat}(h:Ft k r):Ft k (-r):=⟨by rw [Rat.neg_num,Int.natAbs_neg];exact h.1,h.2⟩
theorem ze3 (r:Rat)(w:World)(he:Env w)(h1:Fit r.num)(h2:Fit (r.den:Int)) :
  Calls Tryz.prog 126 #[Rv r] w fun e w'=>e=.returned (.string (I r.floor))∧Ext w w':=by
 have hp:=r.den_pos;have hd:=fun W (h:Ext w W)=>zdC r.num (r.den:Int) W (he.ext h) (by omega) h1 h2;have f1:fdv r.num (r.den:Int)=r.floor:=by unfold fdv;rw [if_pos (by omega),Rat.floor_def]
 rw [f1] at hd;have hE:Ext w (w.alloc (.cells #[.string (I r.num),.string (I (r.den:Int))] 57)):=(Ext.refl _).alloc _;unfold Rv;generalize fmd r.num (r.den:Int)=m at *;generalize I r.num=sa at *;generalize I (r.den:Int)=sb at *;clear he h1 h2 f1;have Hd:=hid hd;have HE:=hid hE;clear hd hE;go_enter Tryz.func126,Tryz.ntmps126
 go_wp2_with fail
 refine (Hd.out _ HE.out).mono ?_;rintro e w1 ⟨rfl,hx1⟩;have Hx1:=hid hx1;clear hx1;go_wp2
 go_ret
 exact ⟨rfl,HE.out.trans Hx1.out⟩
theorem ze4 (r:Rat)(w:World)(h1:Fit r.num) :
  Calls Tryz.prog 200 #[Rv r] w fun e w'=>e=.returned (.int .i64 (zbc r.num 0))∧Ext w w':=by
 have hs:=fun W=>zbK r.num W h1;have hE:Ext w (w.alloc (.cells #[.string (I r.num),.string (I (r.den:Int))] 57)):=(Ext.refl _).alloc _;unfold Rv;generalize zbc r.num 0=m at *;generalize I r.num=sa at *;generalize I (r.den:Int)=sb at *;clear h1;have Hs:=hid hs;have HE:=hid hE;clear hs hE;go_enter Tryz.func200,Tryz.ntmps200
 go_wp2_with fail
 refine (Hs.out _).mono ?_;rintro e W1 ⟨rfl,rfl⟩;go_wp2
 go_ret
 exact ⟨rfl,HE.out⟩
end Go.Proofs.YtoehmpbipbbffaaGreatDoor
