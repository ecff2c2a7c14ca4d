/- Walks: size's number, short, result, check, Check, CheckAll, zero, Zero. Plain: sums of sizes; how long their numbers get. Walks: size's zero, Zero, sum, Combine, Sub, Add, Scale. Plain: what table.Rank and smith.Solve compute, step by step; none where a number grows too great or the steps run out. Regions that draw their order: a load is taken first although the last operations of the region store into its cell. (The library's law of held regions asks its condition behind the last store too.) -/
import Derived.Test.YtkdgmahilfnnmaaGreatDoorPa08
import Derived.Lib.OwnBridge
import Derived.Test.YtkdgmahilfnnmaaGreatDoorPa00
import Derived.Test.YtkdgmahilfnnmaaGreatDoorPa05
import Derived.Test.YtkdgmahilfnnmaaGreatDoorPa06
import Derived.OrdersHeld
import Derived.StillTail
import Derived.Deep.RegionHeld3
set_option maxRecDepth 100000
set_option maxHeartbeats 2000000
namespace Go.Proofs.YtkdgmahilfnnmaaGreatDoor
section
open Go.RowKit Go.Lib
theorem zfz (n:Int):Rv (n:Rat)=.agg #[.string (I n),.string ⟨#[49]⟩]:=by
 unfold Rv;rw [Rat.num_intCast,Rat.den_intCast,zaL,zbD]
theorem zf0 (n:Int)(w:World)(he:Env w)(h0:-9223372036854775808≤n)(h1:n≤9223372036854775807) :
  Calls Tryz.prog 65 #[.int .i64 n] w fun e w'=>e=.returned (Rv (n:Rat))∧Ext w w':=by
 have ho:=fun W (h:Ext w W)=>zbj n h0 h1 W (he.ext h);rw [zfz];generalize I n=s at *;have b2:=zeK.new w (.string ⟨#[]⟩) (.string ⟨#[]⟩);have hE:Ext w (w.alloc (.cells #[.string ⟨#[]⟩,.string ⟨#[]⟩] 109)):=(Ext.refl _).alloc _;have hk:Kp0 w (w.alloc (.cells #[.string ⟨#[]⟩,.string ⟨#[]⟩] 109)) w.heap.size:=⟨hE,_,_,b2⟩;clear b2 he;have Ho:=hid ho;have HE:=hid hE;have Hk:=hid hk;clear ho hE hk;go_enter Tryz.func65,Tryz.ntmps65
 go_wp2_with fail
 refine (Ho.out _ HE.out).mono ?_;rintro e W4 ⟨rfl,hxa⟩;have hkk:=Hk.out.ext hxa;have Hkk:=hid hkk;clear hkk;clear hxa;have hc0:=(Hkk.out).res.c0;have hc1:=(Hkk.out).res.c1;have hz0:=(Hkk.out).res.fz 0;have hz1:=(Hkk.out).res.fz 1;obtain ⟨hb,hfx⟩:=(Hkk.out).fin (by omega) (.string s) (.string ⟨#[49]⟩);have Hb:=hid hb;have Hfx:=hid hfx;clear hb hfx;go_wp2_with fail
 have hd0:=Hb.out.c0;have hd1:=Hb.out.c1;exact bodyPost_ret (v:=.agg #[.string s,.string ⟨#[49]⟩]) (by simp [results,Tryz.results65,go_sem,hd0,hd1]) rfl ⟨rfl,Hfx.out⟩
def zf1 (r:Rat):Bool:=decide (nDigits r.num.natAbs≤30) && decide (nDigits r.den≤30)
theorem zf2 {r:Rat}(h:Ft 30 r):zf1 r=true:=by unfold zf1;rw [decide_eq_true h.1,decide_eq_true h.2];rfl
theorem zf3 (r:Rat)(w:World)(hr:Ft 100000 r) :
  Calls Tryz.prog 199 #[Rv r] w fun e w'=>e=.returned (.bool (zf1 r))∧Ext w w':=by
 have ha:=fun W=>zeb r.num W (hr.num (by omega));have s1:=zeH r.num.natAbs;have s2:=zeH r.den;have hE:Ext w (w.alloc (.cells #[.string (I r.num),.string (I (r.den:Int))] 109)):=(Ext.refl _).alloc _;have b1:=zeK.new w (.string (I r.num)) (.string (I (r.den:Int)));unfold zf1 Rv;generalize hu:nDigits r.num.natAbs=u at *;generalize hv:nDigits r.den=v at *;generalize I ((r.num.natAbs:Nat):Int)=sm at *;generalize I r.num=sa at *;generalize I (r.den:Int)=sb at *;clear hr hu hv;by_cases h1:u≤30
 ·have t1:(sm.size:Int)≤30:=by omega
  by_cases h2:v≤30
  ·have t2:(sb.size:Int)≤30:=(by omega);rw [decide_eq_true h1,decide_eq_true h2];clear h1 h2;have Ha:=hid ha;have HE:=hid hE;have B1:=hid b1;have S1:=hid s1;have S2:=hid s2;clear ha hE b1 s1 s2;go_enter Tryz.func199,Tryz.ntmps199
   go_wp2_with fail
   refine (Ha.out _).mono ?_;rintro e w1 ⟨rfl,hx1⟩;have Hx1:=hid hx1;clear hx1;have hc1:=(B1.out.ext Hx1.out).c1;go_wp2
   go_ret
   exact ⟨rfl,HE.out.trans Hx1.out⟩
  ·have t2:¬ (sb.size:Int)≤30:=(by omega);have t3:(30:Int)<(sb.size:Int):=(by omega);rw [decide_eq_true h1,decide_eq_false h2];clear h1 h2;have Ha:=hid ha;have HE:=hid hE;have B1:=hid b1;have S1:=hid s1;have S2:=hid s2;clear ha hE b1 s1 s2;go_enter Tryz.func199,Tryz.ntmps199
   go_wp2_with fail
   refine (Ha.out _).mono ?_;rintro e w1 ⟨rfl,hx1⟩;have Hx1:=hid hx1;clear hx1;have hc1:=(B1.out.ext Hx1.out).c1;go_wp2
   go_ret
   exact ⟨zfi (by rw [decide_eq_false (by omega)];rfl),HE.out.trans Hx1.out⟩
 ·have t1:¬ (sm.size:Int)≤30:=by omega
  have t3:(30:Int)<(sm.size:Int):=by omega
  rw [decide_eq_false h1];clear h1;have Ha:=hid ha;have HE:=hid hE;have B1:=hid b1;have S1:=hid s1;have S2:=hid s2;clear ha hE b1 s1 s2;go_enter Tryz.func199,Tryz.ntmps199
  go_wp2_with fail
  refine (Ha.out _).mono ?_;rintro e w1 ⟨rfl,hx1⟩;have Hx1:=hid hx1;clear hx1;go_wp2
  go_ret
  exact ⟨by simp,HE.out.trans Hx1.out⟩
theorem zf4 (vp v:Value)(p:List Int)(x:List Rat)(w:World)(he:Env w)(hp:Sl w vp (zaA p))(hv:Rd w v x)(hpl:p.length≤1000)(hlen:x.length=p.length)(hx:∀ r∈x,Ft 30 r) :
  Calls Tryz.prog 177 #[vp,v] w fun e w'=>e=.returned (.int .i64 0)∧Ext w w':=by
 obtain ⟨ap,cp,rfl,_,_,_⟩:=hp.parts;obtain ⟨a,c,rfl,_,_,hc⟩:=hv.parts;rw [zaC,← hlen];have hl:x.length≤1000:=by omega
 clear hv hp;have hck:=fun (r:Rat)(h:r∈x) W (hE:Ext w W)=>zfq r W (he.ext hE) ((hx r h).mono (by omega));have hsh:=fun (r:Rat)(h:r∈x) W=>by
  have h1:=zf3 r W ((hx r h).mono (by omega));rw [zf2 (hx r h)] at h1;exact h1
 clear hx he hlen hpl;have Hc:=hid hc;have Hck:=hid hck;have Hsh:=hid hsh;clear hc hck hsh;go_enter Tryz.func177,Tryz.ntmps177
 go_wp2_with fail
 go_loopw [6,14] (fun v6 v14 wr=>∃ k:Nat,v14=.int .i64 k∧k≤x.length∧Ext w wr) (fun _ v14 _=>x.length - (za6 v14).toNat)
 case atStart=>exact ⟨0,rfl,Nat.zero_le _,Ext.refl _⟩
 case round =>
  obtain ⟨k,rfl,hk,hE⟩:=hrel;have HE:=hid hE;clear hE;by_cases hkl:k<x.length
  ·obtain ⟨r,hr⟩:∃ r,x[k]?=some r:=⟨_,List.getElem?_eq_getElem hkl⟩;obtain ⟨b,off,rfl,hc0,hc1⟩:=Hc.out k r hr;have h0:=HE.out.cell hc0;have h1:=HE.out.cell hc1;have hr0:=Hck.out r (List.mem_of_getElem? hr);have hr1:=Hsh.out r (List.mem_of_getElem? hr);have hk0:(0:Int)≤(k:Int):=(by omega);have hk1:(k:Int)<(x.length:Int):=(by omega);unfold Rv at hr0 hr1;have hEb:Ext w (wr.alloc (.cells #[.string (I r.num),.string (I (r.den:Int))] 109)):=HE.out.alloc _;have b1:=zeK.new wr (.string (I r.num)) (.string (I (r.den:Int)));generalize I r.num=sa at *;generalize I (r.den:Int)=sb at *;clear hc0 hc1;have Hr0:=hid hr0;have Hr1:=hid hr1;have Hr:=hid hr;have HEb:=hid hEb;have B1:=hid b1;clear hr0 hr1 hr hEb b1;go_wp2_with fail
   refine (Hr0.out _ HEb.out).mono ?_;rintro e W2 ⟨rfl,hx2⟩;have hb2:=B1.out.ext hx2;have g0:=hb2.c0;have g1:=hb2.c1;have Hx2:=hid (HEb.out.trans hx2);clear hx2 hb2;go_wp2_with fail
   refine (Hr1.out _).mono ?_;rintro e W3 ⟨rfl,hx3⟩;have Hx3:=hid (Hx2.out.trans hx3);clear hx3;go_wp2_with fail
   go_roundw
   case rel=>exact ⟨k+1,by go_num,by omega,Hx3.out⟩
   case measure=>simp [za6];omega
  ·obtain rfl:k=x.length:=by omega
   go_wp2
   go_ret
   exact ⟨rfl,HE.out⟩
theorem zf5 (vp vl:Value)(p:List Int)(rs:List Qw)(w:World)(he:Env w)(hp:Sl w vp (zaA p))(hv:RdM w vl rs)(hpe:zcG p=0)(hll:rs.length≤1000)(hx:∀ r∈rs,r.x.length=p.length∧∀ q∈r.x,Ft 30 q) :
  Calls Tryz.prog 148 #[vp,vl] w fun e w'=>e=.returned (.int .i64 0)∧Ext w w':=by
 have hpl:=(zcK hpe).2.1;have h1:=zcH vp p w hp (by omega);rw [hpe] at h1;obtain ⟨hs,hr⟩:=hv;have hck:=fun (r:Qw)(h:r∈rs) W (hE:Ext w W)=>zf4 vp r.u p r.x W (he.ext hE) (hE.sl hp) (hE.rd (hr r h)) (by omega) (hx r h).1 (hx r h).2;obtain ⟨ap,cp,rfl,_,_,_⟩:=hp.parts;obtain ⟨a,c,rfl,_,_,hc⟩:=hs.parts;rw [zfx];have hone:=fun (r:Qw)(h:r∈rs)=>(hr r h).parts;clear hp hx he hs hr;have H1:=hid h1;have Hck:=hid hck;have Hc:=hid hc;have Hone:=hid hone;clear h1 hck hc hone;go_enter Tryz.func148,Tryz.ntmps148
 go_wp2_with fail
 refine H1.out.mono ?_;rintro e W ⟨rfl,rfl⟩;go_wp2_with fail
 go_loopw [7,8,16] (fun v7 v8 v16 wr=>∃ k:Nat,v16=.int .i64 k∧k≤rs.length∧Ext w wr) (fun _ _ v16 _=>rs.length - (za6 v16).toNat)
 case atStart=>exact ⟨0,rfl,Nat.zero_le _,Ext.refl _⟩
 case round =>
  obtain ⟨k,rfl,hk,hE⟩:=hrel;have HE:=hid hE;clear hE;by_cases hkl:k<rs.length
  ·obtain ⟨r,hr⟩:∃ r,rs[k]?=some r:=⟨_,List.getElem?_eq_getElem hkl⟩;obtain ⟨b,off,rfl,hc0⟩:=Hc.out k r.u (by unfold qwc;rw [List.getElem?_map,hr];rfl);have h0:=HE.out.cell hc0;have hr0:=Hck.out r (List.mem_of_getElem? hr) wr HE.out;obtain ⟨ax,cx,ex,_⟩:=Hone.out r (List.mem_of_getElem? hr);rw [ex] at h0 hr0;have hk0:(0:Int)≤(k:Int):=(by omega);have hk1:(k:Int)<(rs.length:Int):=(by omega);clear hc0 ex;have Hr0:=hid hr0;have Hr:=hid hr;clear hr0 hr;go_wp2_with fail
   refine Hr0.out.mono ?_;rintro e W2 ⟨rfl,hx2⟩;have Hx2:=hid (HE.out.trans hx2);clear hx2;go_wp2_with fail
   go_roundw
   case rel=>exact ⟨k+1,by go_num,by omega,Hx2.out⟩
   case measure=>simp [za6];omega
  ·obtain rfl:k=rs.length:=by omega
   go_wp2
   go_ret
   exact ⟨rfl,HE.out⟩
theorem zf6 {n:Int}{d k l:Nat}(hd:0<d)(hn:nDigits n.natAbs≤k)(h2:nDigits d≤l):nDigits (mkRat n d).num.natAbs≤k∧nDigits (mkRat n d).den≤l:=by
 constructor
 ·refine Nat.le_trans (Dec.nDigits_mono ?_) hn;rw [zek n d (by omega),Int.natAbs_tdiv];exact Nat.div_le_self _ _
 ·refine Nat.le_trans (Dec.nDigits_mono ?_) h2;rw [Rat.den_mkRat,if_neg (by omega)];exact Nat.div_le_self _ _
theorem zf7 {k l:Nat}{a b:Rat}(ha:Ft k a)(hb:Ft l b):Ft (k+l) (a * b):=by
 unfold Ft;rw [Rat.mul_def'];refine zf6 (Nat.mul_pos a.den_pos b.den_pos) ?_ ?_
 ·rw [Int.natAbs_mul];exact Nat.le_trans (zbW _ _) (Nat.add_le_add ha.1 hb.1)
 ·exact Nat.le_trans (zbW _ _) (Nat.add_le_add ha.2 hb.2)
theorem zf8 : Ft 1 (0:Rat):=⟨Dec.nDigits_le (by omega) (by decide),Dec.nDigits_le (by omega) (by decide)⟩
theorem zf9 {x:List Rat}{k:Nat}(hk:k<x.length)(r:Rat):((rcs x).set (k * 2) (.string (I r.num))).set (k * 2+1) (.string (I (r.den:Int)))=rcs (x.set k r):=by
 induction x generalizing k with
 | nil=>simp at hk
 | cons s x ih =>
  rw [zfr]
  cases k with
  | zero=>simp [zfr]
  | succ k =>
   have:=ih (k:=k) (by simpa using hk)
   rw [show (k+1) * 2=k * 2+1+1 by omega,List.set_cons_succ,List.set_cons_succ,List.set_cons_succ,List.set_cons_succ,List.set_cons_succ,this,zfr]
def zfA (w:World)(B g n:Nat)(x:List Rat):Prop:=∃ xs:List Value,w.ownsRow B 109 2 (.slice (some ⟨g,0,none⟩) n n) n xs∧xs.take (2 * x.length)=rcs x
theorem zfA.ext {w w':World}(h:Ext w w'){B g n:Nat}{x:List Rat}(k:zfA w B g n x):zfA w' B g n x:=by
 obtain ⟨xs,h1,h2⟩:=k;exact ⟨xs,h.own h1,h2⟩
theorem zfA.more {w:World}{B g n:Nat}{x:List Rat}(k:zfA w B g n x)(hx:x.length<n)(r:Rat):zfA ((w.setCell ⟨g,x.length * 2,none⟩ (.string (I r.num))).setCell ⟨g,x.length * 2+1,none⟩ (.string (I (r.den:Int)))) B g n (x++[r]):=by
 obtain ⟨xs,h1,h2⟩:=k;have hl:xs.length=n * 2:=h1.1;refine ⟨_,((h1.stored (x.length * 2) (.string (I r.num))).1.stored (x.length * 2+1) (.string (I (r.den:Int)))).1,?_⟩;rw [List.length_append,List.length_singleton,zft,← h2];apply List.ext_getElem?;intro i;rw [List.getElem?_take];by_cases hi:i<2 * x.length
 ·rw [if_pos (by omega),List.getElem?_append_left (by rw [List.length_take];omega),List.getElem?_set_ne (by omega),List.getElem?_set_ne (by omega),List.getElem?_take,if_pos hi]
 ·rcases (by omega:i=2 * x.length∨i=2 * x.length+1∨2 * x.length+2≤i) with rfl | rfl | h3
  ·rw [if_pos (by omega),List.getElem?_append_right (by rw [List.length_take];omega),List.getElem?_set_ne (by omega),Nat.mul_comm 2 x.length,List.getElem?_set_self (by omega)];rw [List.length_take,show x.length * 2 - min (x.length * 2) xs.length=0 by omega];rfl
  ·rw [if_pos (by omega),List.getElem?_append_right (by rw [List.length_take];omega),Nat.mul_comm 2 x.length,List.getElem?_set_self (by rw [List.length_set];omega)];rw [List.length_take,show x.length * 2+1 - min (x.length * 2) xs.length=1 by omega];rfl
  ·rw [if_neg (by omega),List.getElem?_eq_none];rw [List.length_append,List.length_take];simp;omega
theorem zfA.cell {w:World}{B g n:Nat}{x:List Rat}(k:zfA w B g n x){i:Nat}(hi:i<n):w.cell? ⟨g,i * 2,none⟩=some (zeL w g (i * 2))∧w.cell? ⟨g,i * 2+1,none⟩=some (zeL w g (i * 2+1))∧w.frozen? ⟨g,i * 2,none⟩=false∧w.frozen? ⟨g,i * 2+1,none⟩=false:=by
 obtain ⟨xs,h1,h2⟩:=k;have hl:xs.length=n * 2:=h1.1;have e1:=h1.cellAt (i * 2) (by omega);have e2:=h1.cellAt (i * 2+1) (by omega);rw [List.getElem?_eq_getElem (by omega)] at e1 e2;exact ⟨by unfold zeL;rw [e1];rfl,by unfold zeL;rw [e2];rfl,h1.frozenAt _,h1.frozenAt _⟩
theorem zfA.full {w:World}{B g n:Nat}{x:List Rat}(k:zfA w B g n x)(hx:x.length=n):zfv w B (.slice (some ⟨g,0,none⟩) n n) x:=by
 obtain ⟨xs,h1,h2⟩:=k;have hl:xs.length=n * 2:=h1.1;rw [List.take_of_length_le (by omega)] at h2;unfold zfv;rw [hx,← h2];exact h1
theorem zfB (n:Nat)(w:World)(he:Env w)(hn:n≤1000) :
  Calls Tryz.prog 64 #[.int .i64 n] w fun e w'=>e=.returned (.slice (some ⟨w.heap.size,0,none⟩) n n)∧zfv w' w.heap.size (.slice (some ⟨w.heap.size,0,none⟩) n n) (List.replicate n 0)∧Ext w w':=by
 obtain ⟨i0,hi,hz0,hz1,hz2⟩:=info_parts zfw;have hnum:=fun W (h:Ext w W)=>zf0 0 W (he.ext h) (by omega) (by omega);rw [show (((0:Int):Rat))=(0:Rat) from rfl] at hnum;unfold Rv at hnum;have Hnum:=hid hnum;clear hnum;clear he;go_enter Tryz.func64,Tryz.ntmps64
 go_wp2_with (at_make;refine wpList_make_full _ rfl _ _ 79 rfl w.heap.size 109 i0 _ 2 Tryz.underlying79 hi hz0 hz1 _ _ _ _ n rfl rfl rfl rfl (by rw [hz2];omega) (by unfold maxLen;omega) (Nat.le_refl _) ?_;intro w1 hown hgrow)
 have hx1:Ext w w1:=(Ext.refl w).grown hgrow (by simp);have hp:zfA w1 w.heap.size w.heap.size n []:=⟨_,hown,rfl⟩;clear hown hgrow;have Hx1:=hid hx1;have Hp:=hid hp;clear hx1 hp;go_wp2_with fail
 go_loopw [4,9] (fun v4 v9 wr=>∃ k:Nat,v9=.int .i64 k∧k≤n∧zfA wr w.heap.size w.heap.size n (List.replicate k 0)∧Ext w wr) (fun _ v9 _=>n - (za6 v9).toNat)
 case atStart=>exact ⟨0,rfl,Nat.zero_le _,Hp.out,Hx1.out⟩
 case round =>
  obtain ⟨k,rfl,hk,hpt,hE⟩:=hrel;have Hpt:=hid hpt;have HE:=hid hE;clear hpt hE;by_cases hkl:k<n
  ·have hk0:(0:Int)≤(k:Int):=(by omega);have hk1:(k:Int)<(n:Int):=(by omega);go_wp2_with fail
   refine (Hnum.out wr HE.out).mono ?_;rintro e W2 ⟨rfl,hx2⟩;have hpt2:=Hpt.out.ext hx2;obtain ⟨g0,g1,f0,f1⟩:=hpt2.cell hkl;have hmo:=hpt2.more (by rw [List.length_replicate];exact hkl) 0;rw [List.length_replicate] at hmo;rw [show List.replicate k (0:Rat)++[0]=List.replicate (k+1) 0 by rw [List.replicate_succ']] at hmo;have hE2:=((HE.out.trans hx2).setCell (p:=⟨w.heap.size,k * 2,none⟩) (Nat.le_refl _) (.string (I (0:Rat).num))).setCell (p:=⟨w.heap.size,k * 2+1,none⟩) (Nat.le_refl _) (.string (I (((0:Rat).den:Nat):Int)));clear hx2 hpt2;have Hmo:=hid hmo;have HE2:=hid hE2;clear hmo hE2;go_wp2_with fail
   go_roundw
   case rel=>exact ⟨k+1,by go_num,by omega,Hmo.out,HE2.out⟩
   case measure=>simp [za6];omega
  ·obtain rfl:k=n:=by omega
   have hfu:=Hpt.out.full (by rw [List.length_replicate]);have Hfu:=hid hfu;clear hfu;go_wp2
   go_ret
   exact ⟨rfl,Hfu.out,HE.out⟩
theorem zfA.put {w:World}{B g n:Nat}(k:zfA w B g n [])(i j:Nat)(u v:Value):zfA ((w.setCell ⟨g,i,none⟩ u).setCell ⟨g,j,none⟩ v) B g n []:=by
 obtain ⟨xs,h1,_⟩:=k;exact ⟨_,((h1.stored i u).1.stored j v).1,rfl⟩
theorem zfC {w:World}{B g n:Nat}{x:List Rat}(h:zfv w B (.slice (some ⟨g,0,none⟩) n n) x)(hx:x.length=n):zfA w B g n []:=by
 unfold zfv at h;rw [hx] at h;exact ⟨_,h,rfl⟩
def KS (w w':World)(g n b:Nat)(u v:Value):Prop:=Ext w w'∧zfA w' w.heap.size g n []∧zeK w' b u v
theorem KS.ext {w w' w2:World}{g n b:Nat}{u v:Value}(h:KS w w' g n b u v)(hx:Ext w' w2):KS w w2 g n b u v:=⟨h.1.trans hx,h.2.1.ext hx,h.2.2.ext hx⟩
theorem KS.put {w w':World}{g n b:Nat}{u v:Value}(h:KS w w' g n b u v)(hg:w.heap.size≤g)(hne:b ≠ g)(i j:Nat)(x y:Value):KS w ((w'.setCell ⟨g,i,none⟩ x).setCell ⟨g,j,none⟩ y) g n b u v :=
 ⟨(h.1.setCell hg _).setCell hg _,h.2.1.put i j x y,(heap_setCell_other _ ⟨g,j,none⟩ b y hne).trans ((heap_setCell_other w' ⟨g,i,none⟩ b x hne).trans h.2.2)⟩
theorem KS.all {w w':World}{g n b k:Nat}{u v f0 f1:Value}{a0 a1:Addr}(h:KS w w' g n b u v)(hk:k<n)(h0:w.cell? a0=some f0)(h1:w.cell? a1=some f1) :
  KS w w' g n b u v∧w'.cell? ⟨g,k * 2,none⟩=some (zeL w' g (k * 2))∧w'.cell? ⟨g,k * 2+1,none⟩=some (zeL w' g (k * 2+1))∧w'.frozen? ⟨g,k * 2,none⟩=false∧w'.frozen? ⟨g,k * 2+1,none⟩=false∧w'.cell? ⟨b,0,none⟩=some u∧w'.cell? ⟨b,1,none⟩=some v∧w'.cell? a0=some f0∧w'.cell? a1=some f1:=by
 obtain ⟨e1,e2,e3,e4⟩:=h.2.1.cell hk;exact ⟨h,e1,e2,e3,e4,h.2.2.c0,h.2.2.c1,h.1.cell h0,h.1.cell h1⟩
theorem zfD {w:World}{B g n:Nat}{x:List Rat}{k:Nat}(h:zfv w B (.slice (some ⟨g,0,none⟩) n n) x)(hx:x.length=n)(hk:k<n)(r:Rat):zfv ((w.setCell ⟨g,k * 2,none⟩ (.string (I r.num))).setCell ⟨g,k * 2+1,none⟩ (.string (I (r.den:Int)))) B (.slice (some ⟨g,0,none⟩) n n) (x.set k r):=by
 unfold zfv at h ⊢;rw [hx] at h;rw [List.length_set,hx,← zf9 (by omega)];exact ((h.stored (k * 2) _).1.stored (k * 2+1) _).1
end
section
def swp {α:Type}(l:List α)(i j:Nat):List α :=
 match l[i]?,l[j]? with
 | some x,some y=>(l.set i y).set j x
 | _,_=>l
theorem zfE {α:Type}{l:List α}{i j:Nat}{x y:α}(hx:l[i]?=some x)(hy:l[j]?=some y):swp l i j=(l.set i y).set j x:=by unfold swp;rw [hx,hy]
theorem zfF {α:Type}(l:List α)(i j:Nat):(swp l i j).length=l.length:=by
 unfold swp;split <;> simp
/-! Fractions: the reduced form of rows. -/
def okQ (q:Rat):Bool:=decide (q.num.natAbs<10 ^ 40) && decide (q.den<10 ^ 40)
def okM (m:List (List Rat)):Bool:=m.all fun r=>r.all okQ
def zfG (c:Nat):List (List Rat)→Nat
 | []=>0
 | r::m=>if r.getD c 0=0 then zfG c m+1 else 0
def zfH (f:Rat)(r:List Rat):List Rat:=r.map fun a=>a / f
def zfI (r t:List Rat)(f:Rat):List Rat:=List.zipWith (fun a b=>a - f * b) r t
def zfJ (m:List (List Rat))(k c n:Nat):List (List Rat):=m.mapIdx fun i r=>if i<n∧i ≠ k then zfI r (m.getD k []) (r.getD c 0) else r
structure RdS where
 m:List (List Rat)
 ld:List Nat
 det:Rat
def zfK (c:Nat)(s:RdS):Option RdS :=
 if okM s.m=true∧okQ s.det=true then
  let k:=s.ld.length
  let a:=k+zfG c (s.m.drop k)
  if a=s.m.length then some ⟨s.m,s.ld,0⟩
  else
   let m1:=swp s.m k a
   let f:=(m1.getD k []).getD c 0
   some ⟨zfJ (m1.set k (zfH f (m1.getD k []))) k c s.m.length,s.ld++[c],(if a=k then s.det else -s.det) * f⟩
 else none
def zfL : List Nat→RdS→Option RdS
 | [],s=>some s
 | c::cs,s=>match zfK c s with
  | some s'=>zfL cs s'
  | none=>none
def zfM (r:List Int):List Rat:=r.map fun z:Int=>(z:Rat)
def zfN (m:List (List Int)):Option Nat :=
 (zfL (List.range (m.getD 0 []).length) ⟨m.map zfM,[],1⟩).map fun s=>s.ld.length
/-! Whole numbers: the Hermite form of smith. -/
def okZ (z:Int):Bool:=decide (z.natAbs<10 ^ 40)
def okG (g:List (List Int)):Bool:=g.all fun r=>r.all okZ
def zfO (l o:List Int)(q:Int):List Int:=List.zipWith (fun a b=>a - q * b) l o
def zfP (l:List Int):List Int:=l.map fun z=>-z
def at2 (g:List (List Int))(i c:Nat):Int:=(g.getD i []).getD c 0
def zfQ (g:List (List Int))(c:Nat):Nat→Nat→Option Nat × Bool
 | _,0=>(none,false)
 | top,n+1 =>
  let r:=zfQ g c top n
  let i:=top+n
  if at2 g i c=0 then r
  else match r.1 with
   | none=>(some i,r.2)
   | some k=>(some (if (at2 g i c).natAbs<(at2 g k c).natAbs then i else k),true)
def zfR (g:List (List Int))(t c lo n:Nat):List (List Int):=g.mapIdx fun i r=>if lo≤i∧i<n then zfO r (g.getD t []) (fdv (r.getD c 0) (at2 g t c)) else r
def zfS (g:List (List Int))(t c:Nat):List (List Int):=if at2 g t c<0 then g.set t (zfP (g.getD t [])) else g
def zfT (g:List (List Int))(t c:Nat):List (List Int):=zfR (zfS g t c) t c 0 t
def inZ : Nat→List (List Int)→Nat→Nat→Option (List (List Int) × Nat)
 | 0,_,_,_=>none
 | n+1,g,top,c =>
  if okG g=true then
   match zfQ g c top (g.length - top) with
   | (none,_)=>some (g,top)
   | (some k,more) =>
    if okG (swp g top k)=true∧okG (zfS (swp g top k) top c)=true then
     if more=true then inZ n (zfR (swp g top k) top c (top+1) g.length) top c
     else some (zfT (swp g top k) top c,top+1)
    else none
  else none
def zfU : Nat→List (List Int)→Nat→Nat→Nat→Option (List (List Int) × Nat)
 | 0,_,_,_,_=>none
 | n+1,g,top,c,cols =>
  if c<cols∧top<g.length then
   match inZ 100 g top c with
   | some (g',top')=>zfU n g' top' (c+1) cols
   | none=>none
  else some (g,top)
def zfV (g:List (List Int))(cols:Nat):Option (List (List Int)):=(zfU 100 g 0 0 cols).map fun r=>r.1.take r.2
def zfW (n:Nat):List (List Int):=(List.range n).map fun i=>(List.replicate n (0:Int)).set i 1
def zfX (m:List (List Int)):Option (List (List Int)):=zfV (List.zipWith (fun r u=>r++u) m (zfW m.length)) ((m.getD 0 []).length+m.length)
def zfY : List Int→Nat
 | []=>0
 | z::l=>if z=0 then zfY l+1 else 0
def zfZ (f:List (List Int))(cols:Nat):List (List Int):=(f.filter fun l=>cols≤zfY l).map fun l=>l.drop cols
def zga (l r:List Int):List Int:=if zfY r<l.length then zfO l r (fdv (l.getD (zfY r) 0) (r.getD (zfY r) 0)) else l
def zgb : List (List Int)→List Int→Option (List Int)
 | [],l=>some l
 | r::f,l=>if l.all okZ=true∧r.all okZ=true then zgb f (zga l r) else none
def zgc (m:List (List Int))(b:List Int):Option (Option (List Int)) :=
 match zfX m with
 | none=>none
 | some f =>
  let cols:=(m.getD 0 []).length
  match zgb (f.filter fun l=>zfY l<cols) (b++List.replicate m.length 0) with
  | none=>none
  | some l=>if zfY l<cols then some none else
   match zgb (zfZ f cols) (zfP (l.drop cols)) with
   | none=>none
   | some x=>if x.all (fun z=>decide (z.natAbs≤1000000000)) then some (some x) else none
def zgd : List (List Int)→Nat→List (List Int)→List Int→Option (List (List Int) × List Int)
 | [],_,m,a=>some (m,a)
 | x::l,i,m,a =>
  match zfN (m++[x]) with
  | none=>none
  | some r=>if r=(m++[x]).length then zgd l (i+1) (m++[x]) (a++[((i+1:Nat):Int)]) else zgd l (i+1) m a
def zge (m:List (List Int)):List (List Int):=(List.range (m.getD 0 []).length).map fun c=>m.map fun r=>r.getD c 0
def zgf (v x:List Int):Int:=(List.zipWith (fun a b=>a * b) v x).sum
def zgg (v:List Int)(l:List (List Int)):Nat:=((List.range l.length).find? fun i=>zgf v (l.getD i []) != ((i+1:Nat):Int)).elim 0 (·+1)
def zgh (l:List (List Int)):Option (Option (List Int)) :=
 match zgd l 0 [] [] with
 | none=>none
 | some (m,a)=>match zgc (zge m) a with
  | none=>none
  | some none=>some none
  | some (some v)=>if 0<zgg v l then some none else some (some v)
def zgi : List (List Int):=[[-3,2,0],[-2,0,1],[2,-1,0],[-1,1,0],[0,-1,1],[-3,1,1],[1,0,0]]
theorem zgj : zgh zgi=some (some [7,11,16]):=by decide +kernel
theorem zgk : zgh [[-3,2,0],[-2,0,1],[-1,1,0],[1,0,0]]=some none:=by decide +kernel
theorem zgl : zgh [[-3,2,0],[-6,4,0],[-1,1,0],[-4,3,0],[1,0,0]]=some (some [5,8,0]):=by decide +kernel
section
variable {P : Program} {ops : Array Oper} {Q : Exit → Act → World → Prop} {md : Region.Mode} {S : World → Prop} {z : Nat}
def zgm (P:Program)(md:Region.Mode)(ops:Array Oper)(Q:Exit→Act→World→Prop)(S:World→Prop)(z:Nat):Nat→Array Bool→Act→World→Prop
 | 0,ls,a,w=>Region.ready md ops ls=[]∧Q .normal a w
 | f+1,ls,a,w=>(Region.ready md ops ls=[]→Q .normal a w)∧∀ i∈Region.ready md ops ls,wpOp P ops Q i (fun a' w'=>(i<z→S w')∧zgm P md ops Q S z f (ls.setIfInBounds i true) a' w') a w
theorem zgm.any : ∀ {f:Nat}{ls:Array Bool}{a:Act}{w:World},zgm P md ops Q S z f ls a w→wpAny P md ops Q f ls a w
 | 0,_,_,_,h=>h
 | _+1,_,_,_,h=>⟨h.1,fun i hi=>wpOp_mono (fun _ _ g=>zgm.any g.2) (h.2 i hi)⟩
def wB (md:Region.Mode)(ops:Array Oper):Nat→Nat→Nat→Bool
 | 0,j,i=>Region.waitsFor md ops j i
 | f+1,j,i=>Region.waitsFor md ops j i || (List.range ops.size).any fun k=>Region.waitsFor md ops j k && wB md ops f k i
def zB (md:Region.Mode)(ops:Array Oper)(z i:Nat):Bool:=(List.range ops.size).all fun j=>decide (j<z) || wB md ops 4 j i
def Clo (md:Region.Mode)(ops:Array Oper)(ls:Array Bool):Prop:=∀ j oj,ops[j]?=some oj→ls.getD j false=true→∀ e∈oj.after,Region.binds md e=true→ls.getD e.on false=true
def zgn (md:Region.Mode)(ops:Array Oper)(ls:Array Bool):Bool:=(List.range ops.size).all fun j=>match ops[j]? with | some oj=>!ls.getD j false || oj.after.all fun e=>!Region.binds md e || ls.getD e.on false | none=>true
theorem zgo {ls:Array Bool}(h:zgn md ops ls=true):Clo md ops ls:=fun j oj hj hl e he hb=>by
 have h1:=List.all_eq_true.1 h j (List.mem_range.2 (Array.getElem?_eq_some_iff.1 hj).1);rw [hj] at h1;simp only [hl,Bool.not_true,Bool.false_or] at h1;have h2:=Array.all_eq_true'.1 h1 e he;simpa [hb] using h2
theorem zgp {i:Nat}{ls:Array Bool}(h:Clo md ops ls)(hi:i∈Region.ready md ops ls):Clo md ops (ls.setIfInBounds i true):=fun j oj hj hl e he hb=>by
 obtain ⟨_,oi,hoi,hall⟩:=mem_ready.1 hi;by_cases q:i=j
 ·subst q;obtain rfl:oj=oi:=Option.some.inj (hj.symm.trans hoi);exact getD_set_true (hall e he hb)
 ·rw [getD_set_ne false q] at hl;exact getD_set_true (h j oj hj hl e he hb)
theorem zgq {i:Nat}{ls:Array Bool}(hc:Clo md ops ls)(hun:ls.getD i true=false):∀ (f j:Nat)(oj:Oper),wB md ops f j i=true→ops[j]?=some oj→(∀ e∈oj.after,Region.binds md e=true→ls.getD e.on false=true)→False
 | f,j,oj,h,hj,hall=>by
  have one:∀ k,Region.waitsFor md ops j k=true→ls.getD k false=true:=fun k hk=>by
   obtain ⟨o,ho,e,he,hb,hon⟩:=Region.waitsFor_spec hk;obtain rfl:o=oj:=Option.some.inj (ho.symm.trans hj);rw [← hon];exact hall e he hb
  have dir:Region.waitsFor md ops j i=true→False:=fun hk=>by
   have:=one i hk;rw [getD_both hun] at this
   cases this
  match f,h with
  | 0,h=>exact dir h
  | f+1,h =>
   unfold wB at h
   rw [Bool.or_eq_true] at h
   rcases h with h | h
   ·exact dir h
   ·obtain ⟨k,hk,h2⟩:=List.any_eq_true.1 h
    rw [Bool.and_eq_true] at h2
    obtain ⟨ok,hok⟩:∃ ok,ops[k]?=some ok:=⟨_,Array.getElem?_eq_getElem (List.mem_range.1 hk)⟩
    exact zgq hc hun f k ok h2.2 hok (hc k ok hok (one k h2.1))
theorem zgr {i j:Nat}{oj:Oper}{ls:Array Bool}(hz:zB md ops z i=true)(hc:Clo md ops ls)(hj:ops[j]?=some oj)(hall:∀ e∈oj.after,Region.binds md e=true→ls.getD e.on false=true)(hun:ls.getD i true=false):j<z:=by
 have h1:=List.all_eq_true.1 hz j (List.mem_range.2 (Array.getElem?_eq_some_iff.1 hj).1);rw [Bool.or_eq_true,decide_eq_true_eq] at h1;rcases h1 with h1 | h1
 ·exact h1
 ·exact (zgq hc hun 4 j oj h1 hj hall).elim
theorem zgs {i:Nat}{oi:Oper}{v:Value}(hi:ops[i]?=some oi)(hs:Region.noSelect ops=true)(hz:zB md ops z i=true)(hQ:∀ c a w,Q (.panic c) (a.put oi.dst v) w→Q (.panic c) a w) :
  ∀ (f:Nat)(ls:Array Bool)(a:Act)(w:World),(∀ j oj,ops[j]?=some oj→j ≠ i→ls.getD j true=false→(∀ e∈oj.after,Region.binds md e=true→e.on ≠ i)→oi.apart ops oj=true)→Clo md ops ls →
   i∈Region.ready md ops ls→YieldsIf P ops S oi v a→S w→zgm P md ops Q S z f (ls.setIfInBounds i true) (a.put oi.dst v) w→zgm P md ops Q S z (f+1) ls a w:=by
 have hsel:=Region.noSelect_spec hs;intro f;induction f with
 | zero =>
  intro ls a w _ _ hr hy hS h
  refine ⟨fun e=>absurd hr (by rw [e];exact fun k=>by cases k),fun j hj=>?_⟩
  by_cases e:j=i
  ·rw [e]
   exact hy.wpOp hi hS ⟨fun _=>hS,h⟩
  ·have g:=ready_mono hj e
   rw [h.1] at g
   cases g
 | succ f ih =>
  intro ls a w hap hc hr hy hS h
  refine ⟨fun e=>absurd hr (by rw [e];exact fun k=>by cases k),fun j hj=>?_⟩
  by_cases e:j=i
  ·rw [e]
   exact hy.wpOp hi hS ⟨fun _=>hS,h⟩
  ·obtain ⟨hju,oj,hoj,hall⟩:=mem_ready.1 hj
   have hiu:=(mem_ready.1 hr).1
   have hjz:=zgr hz hc hoj hall hiu
   have hno:∀ e∈oj.after,Region.binds md e=true→e.on ≠ i:=fun e he hb k=>by
    have:=hall e he hb;rw [k,getD_both hiu] at this
    cases this
   have h2:=wpOp_putIf hoj (hap j oj hoj e hju hno) (fun cs b=>hsel i oi cs b hi) (fun cs b=>hsel j oj cs b hoj) hQ hy (h.2 j (ready_mono hj e))
   refine wpOp_mono (fun a' w' g=>⟨fun _=>g.2.1 hjz,ih (ls.setIfInBounds j true) a' w' (fun k ok hk hki hku hkn=>?_) (zgp hc hj) (ready_mono hr (Ne.symm e)) g.1 (g.2.1 hjz) ?_⟩) h2
   ·refine hap k ok hk hki ?_ hkn
    by_cases q:j=k
    ·rw [← q];exact hju
    ·rw [getD_set_ne true q] at hku;exact hku
   ·rw [Array.setIfInBounds_comm _ _ e]
    exact g.2.2
theorem zgt {i:Nat}{oi:Oper}{v:Value}{f:Nat}{ls:Array Bool}{a:Act}{w:World}(hi:ops[i]?=some oi)(hs:Region.noSelect ops=true)(hf:Region.free md ops ls i=true)(hr:(Region.ready md ops ls).contains i=true)(hz:(zB md ops z i && zgn md ops ls)=true)
  (hQ:∀ c a w,Q (.panic c) (a.put oi.dst v) w→Q (.panic c) a w) (hy:YieldsIf P ops S oi v a) (hS:S w) (h:zgm P md ops Q S z f (ls.setIfInBounds i true) (a.put oi.dst v) w):zgm P md ops Q S z (f+1) ls a w :=
 zgs hi hs (Bool.and_eq_true _ _ ▸ hz).1 hQ f ls a w (Region.free_spec hi hf) (zgo (Bool.and_eq_true _ _ ▸ hz).2) (by simpa using hr) hy hS h
theorem zgu {i:Nat}{o:Oper}{f:Nat}{ls:Array Bool}{a:Act}{w:World}(hr:Region.ready md ops ls=[i])(ho:ops[i]?=some o)
  (h:∀ K:Act→World→Prop,Shut (∀ a w,S w→(S w→zgm P md ops Q S z f (ls.setIfInBounds i true) a w)→K a w)→if Region.wanted o (yielded ops a.tmps)=true then Oper.wp P o a w K Q else K (a.put o.dst undef) w):zgm P md ops Q S z (f+1) ls a w:=by
 refine ⟨fun e=>(by rw [hr] at e;cases e),fun j hj=>?_⟩;rw [hr,List.mem_singleton] at hj;subst hj;exact wpOp_step ho fun K hK=>h K fun a w hS g=>hK a w ⟨fun _=>hS,g hS⟩
theorem zgv {i:Nat}{o:Oper}{f:Nat}{ls:Array Bool}{a:Act}{w:World}(hr:Region.ready md ops ls=[i])(hz:z≤i)(ho:ops[i]?=some o)
  (h:∀ K:Act→World→Prop,Shut (∀ a w,zgm P md ops Q S z f (ls.setIfInBounds i true) a w→K a w)→if Region.wanted o (yielded ops a.tmps)=true then Oper.wp P o a w K Q else K (a.put o.dst undef) w):zgm P md ops Q S z (f+1) ls a w:=by
 refine ⟨fun e=>(by rw [hr] at e;cases e),fun j hj=>?_⟩;rw [hr,List.mem_singleton] at hj;subst hj;exact wpOp_step ho fun K hK=>h K fun a w g=>hK a w ⟨fun k=>absurd k (by omega),g⟩
theorem zgw {f:Nat}{ls:Array Bool}{a:Act}{w:World}(hr:Region.ready md ops ls=[])(h:Q .normal a w):zgm P md ops Q S z f ls a w:=by
 cases f with
 | zero=>exact ⟨hr,h⟩
 | succ f=>exact ⟨fun _=>h,fun i hi=>by rw [hr] at hi;cases hi⟩
theorem zgx {id:Nat}{a:Act}{w:World}(z:Nat)(S:World→Prop)(hm:P.follows .mixedOrders=true)(hS:S w.drew)(h:S w.drew→zgm P .any ops Q S z ops.size (Array.replicate ops.size false) a w.drew):(Code.region id ops true).wp P Q a w :=
 wp_region_any hm (zgm.any (h hS))
end
end
end Go.Proofs.YtkdgmahilfnnmaaGreatDoor
