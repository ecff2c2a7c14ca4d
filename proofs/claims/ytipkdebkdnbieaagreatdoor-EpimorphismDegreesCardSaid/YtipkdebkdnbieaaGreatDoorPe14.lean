/- Walks: monzo.result, sum, Add, Sub at right intervals with a right sum. (KEEPALL) Plain: sums of sizes; how long their numbers get. Walks: size's zero, Zero, sum, Combine, Sub, Add, Scale. Plain: what table.Rank and smith.Solve compute, step by step; none where a number grows too great (beyond 8000 digits) or the steps run out. Walk: size.Of of a right interval. (KEEPALL) -/
import Derived.Test.YtipkdebkdnbieaaGreatDoorPe13
import Derived.Deep.RegionHeld3
import Derived.Deep.AppendLies
import Derived.Test.YtipkdebkdnbieaaGreatDoorPe08
import Derived.Test.YtipkdebkdnbieaaGreatDoorPe05
import Derived.Test.YtipkdebkdnbieaaGreatDoorPe09
import Derived.Test.YtipkdebkdnbieaaGreatDoorPe06
import Derived.Test.YtipkdebkdnbieaaGreatDoorPe12
set_option maxRecDepth 100000
set_option maxHeartbeats 2000000
namespace Go.Proofs.YtipkdebkdnbieaaGreatDoor
section
open Go.RowKit Go.Lib Go.Shelf
theorem zii (w:World)(vx:Value)(x:List Int)(hx:Sl w vx (zap x)):Mat (w.alloc (.cells #[vx] 33)) (.slice (some ⟨w.heap.size,0,none⟩) 1 1) [x]:=by
 have hext:Ext w (w.alloc (.cells #[vx] 33)):=(Ext.refl w).alloc _;refine ⟨[vx],rfl,.inr ⟨w.heap.size,0,1,rfl,Nat.le_refl _,by unfold maxLen;omega,?_⟩,?_⟩
 ·intro i u hu;match i,hu with
  | 0,hu=>simp at hu;subst hu;rw [World.cell?_alloc_new];rfl
  | i+1,hu=>simp at hu
 ·intro i u hu;match i,hu with
  | 0,hu=>simp at hu;subst hu;exact hext.sl hx
  | i+1,hu=>simp at hu
theorem zij (vp vx:Value)(p x:List Int)(w:World)(hp:Sl w vp (zap p))(hx:Sl w vx (zap x))(hlp:p.length≤1000000)(hlx:x.length≤1000000)(h0:zgr p x=0) :
  Calls Tryz.prog 189 #[vp,vx] w fun e w'=>e=.returned (.tuple #[vx,.int .i64 0])∧Ext w w':=by
 have hext:Ext w (w.alloc (.cells #[vx] 33)):=(Ext.refl w).alloc _;have hc:=zgq vp (.slice (some ⟨w.heap.size,0,none⟩) 1 1) p [x] _ (hext.sl hp) (zii w vx x hx) hlp (by simp) (fun i=>by match i with | 0=>simpa using hlx | i+1=>simp)
 have he:zgj p [x]=0:=h0;rw [he] at hc;have Hc:=hid hc;clear hc he h0;have Hext:=hid hext;clear hext;obtain ⟨ap,cp,rfl,_,_,_⟩:=hp.parts;obtain ⟨ax,cx,rfl,_,_,_⟩:=hx.parts;clear hp hx;go_enter Tryz.func189,Tryz.ntmps189
 go_wp2_with fail
 refine Hc.out.mono ?_;rintro e w1 ⟨rfl,rfl⟩;go_wp2
 go_ret2
 exact ⟨rfl,Hext.out⟩
theorem zik {x:List Int}{j:Nat}(h:j<x.length):zap (x.take (j+1))=zap (x.take j)++[.int .i64 (zas x j)]:=by
 unfold zap zas;rw [List.take_succ_eq_append_getElem h,List.map_append,List.getD_eq_getElem?_getD,List.getElem?_eq_getElem h];rfl
theorem zil (vp vx vy:Value)(p x y:List Int)(k:Int)(w:World)(hp:Sl w vp (zap p))(hx:Sl w vx (zap x))(hy:Sl w vy (zap y))(hxe:zgr p x=0)(hye:zgr p y=0)(hk:k=1∨k=-1)(hse:zgr p (zhJ x k y)=0) :
  Calls Tryz.prog 144 #[vp,vx,vy,.int .i64 k] w fun e w'=>∃ v,e=.returned (.tuple #[v,.int .i64 0])∧zc2 w' w.heap.size v (zhJ x k y)∧Ext w w':=by
 obtain ⟨i0,hi,hz0,hz1,hz2⟩:=info_parts zc1;obtain ⟨hpe,hre⟩:=zg4 hxe;obtain ⟨hxl,hxb⟩:=zg3 hre;obtain ⟨hyl,hyb⟩:=zg3 (zg4 hye).2;obtain ⟨hp0,hp6,_⟩:=zc0 hpe;have hext:Ext w (w.alloc (.cells #[vx,vy] 33)):=(Ext.refl w).alloc _;have hc:=zgq vp (.slice (some ⟨w.heap.size,0,none⟩) 2 2) p [x,y] _ (hext.sl hp) (zhF w vx vy x y hx hy) (by omega) (by simp) (fun i=>by match i with | 0=>simp;omega | 1=>simp;omega | i+2=>simp)
 have he0:zgj p [x,y]=0:=zhD hxe hye;rw [he0] at hc;have hpl:=zhM (k:=k) (show x.length=y.length by omega);have hrs:=fun v W (hE:Ext w W)(hv:Sl W v (zap (zhJ x k y)))=>zij vp v p (zhJ x k y) W (hE.sl hp) hv (by omega) (by omega) hse;have hat:=fun j (hj:j<x.length)=>zhN (k:=k) (show x.length=y.length by omega) hj;have hsn:=fun j (hj:j<x.length)=>zik (x:=zhJ x k y) (j:=j) (by rw [hpl];exact hj);obtain ⟨ap,cp,rfl,_,_,_⟩:=hp.parts;obtain ⟨ax,cx,rfl,_,_,hcx⟩:=hx.parts;obtain ⟨ay,cy,rfl,_,_,hcy⟩:=hy.parts;simp only [zar] at *;have hyx:y.length=x.length:=by omega
 have hx9:x.length≤1000:=by omega
 rw [hyx] at hc hext ⊢;have Hc:=hid hc;have Hext:=hid hext;have Hpl:=hid hpl;have Hrs:=hid hrs;have Hat:=hid hat;have Hsn:=hid hsn;have Hcx:=hid hcx;have Hcy:=hid hcy;have Hxb:=hid hxb;have Hyb:=hid hyb;have Hyx:=hid hyx;clear hc hext hpl hrs hat hsn hcx hcy hxb hyb hyx;clear hp hx hy hxe hye hse hpe hre hxl hyl hp0 hp6 he0;go_enter Tryz.func144,Tryz.ntmps144
 go_wp2_with fail
 refine Hc.out.mono ?_;rintro e w1 ⟨rfl,rfl⟩;go_wp2_with fail
 generalize w.alloc (.cells #[.slice ax x.length cx,.slice ay x.length cy] 33)=w1 at *;go_loopw [11,23] (fun v11 v23 wr=>∃ j:Nat,v23=.int .i64 j∧j≤x.length∧Hid (wr.ownsRow w.heap.size 3 1 v11 j (zap ((zhJ x k y).take j)))∧Hid (Ext w wr)) (fun _ v23 _=>x.length - (zal v23).toNat)
 case atStart=>exact ⟨0,rfl,Nat.zero_le _,hid (World.ownsRow_nil _ _ _ 1),Hext⟩
 case round =>
  obtain ⟨j,rfl,hj,HO,HE⟩:=hrel;obtain ⟨a11,c11,e11⟩:=zc3 HO.out;subst e11;by_cases hjn:j<x.length
  ·obtain ⟨bx1,ox,rfl,hcx0⟩:=Hcx.out j _ (zau hjn);obtain ⟨by1,oy,rfl,hcy0⟩:=Hcy.out j _ (zau (by rw [Hyx.out];exact hjn));have hc1:=HE.out.cell hcx0;have hc2:=HE.out.cell hcy0;obtain ⟨b1,b2⟩:=Hxb.out j hjn;obtain ⟨b3,b4⟩:=Hyb.out j (by rw [Hyx.out];exact hjn);have hs:=Hsn.out j hjn;rw [Hat.out j hjn] at hs;have hj0:(0:Int)≤(j:Int):=(by omega);have hj1:(j:Int)<(x.length:Int):=(by omega);have hk1:-1000≤k * zas y j:=by rcases hk with rfl | rfl <;> omega
   have hk2:k * zas y j≤1000:=by rcases hk with rfl | rfl <;> omega
   have Hs:=hid hs;clear hs;generalize zas x j=zx at *;generalize zas y j=zy at *;have hm3:j+1≤maxLen:=(by unfold maxLen;omega);have hm4:(j+1) * 8≤140737488355328:=(by omega);have hbase:=HE.out.size;have hkz:IntKind.i64.wrap (k * zy)=k * zy:=(by rw [IntKind.wrap_i64];omega);have hzz:IntKind.i64.wrap (zx+k * zy)=zx+k * zy:=(by rw [IntKind.wrap_i64];omega);go_wp2_with fail
   refine zih 15 (fun w'=>Ext w w'∧w'.cell? ⟨bx1,ox+j,none⟩=some (.int .i64 zx)∧w'.cell? ⟨by1,oy+j,none⟩=some (.int .i64 zy)) (by kernel_rfl) (⟨HE.out.drew,HE.out.drew.cell hcx0,HE.out.drew.cell hcy0⟩) (fun hHeld=>?_);refine zid (i:=0) (v:=?v0) rfl (by kernel_rfl) (by kernel_rfl) (by kernel_rfl) (by kernel_rfl) (fun _ _ _ h=>h) (Or.inl ⟨by rfl,?y0⟩) hHeld ?r0
   case y0=>(intro w hSw;(try dsimp only at hSw);go_simp;try with_reducible rfl)
   case r0 =>
   refine zid (i:=1) (v:=?v1) rfl (by kernel_rfl) (by kernel_rfl) (by kernel_rfl) (by kernel_rfl) (fun _ _ _ h=>h) (Or.inl ⟨by rfl,?y1⟩) hHeld ?r1
   case y1=>(intro w hSw;(try dsimp only at hSw);go_simp;try with_reducible rfl)
   case r1 =>
   refine zid (i:=2) (v:=?v2) rfl (by kernel_rfl) (by kernel_rfl) (by kernel_rfl) (by kernel_rfl) (fun _ _ _ h=>h) (Or.inl ⟨by rfl,?y2⟩) hHeld ?r2
   case y2=>(intro w hSw;(try dsimp only at hSw);go_simp;try with_reducible rfl)
   case r2 =>
   refine zid (i:=3) (v:=?v3) rfl (by kernel_rfl) (by kernel_rfl) (by kernel_rfl) (by kernel_rfl) (fun _ _ _ h=>h) (Or.inl ⟨by rfl,?y3⟩) hHeld ?r3
   case y3=>(intro w hSw;(try dsimp only at hSw);go_simp;try with_reducible rfl)
   case r3 =>
   refine zid (i:=4) (v:=?v4) rfl (by kernel_rfl) (by kernel_rfl) (by kernel_rfl) (by kernel_rfl) (fun _ _ _ h=>h) (Or.inl ⟨by rfl,?y4⟩) hHeld ?r4
   case y4=>(intro w hSw;(try dsimp only at hSw);go_simp;try with_reducible rfl)
   case r4 =>
   refine zid (i:=5) (v:=?v5) rfl (by kernel_rfl) (by kernel_rfl) (by kernel_rfl) (by kernel_rfl) (fun _ _ _ h=>h) (Or.inl ⟨by rfl,?y5⟩) hHeld ?r5
   case y5=>(intro w hSw;(try dsimp only at hSw);go_simp;try with_reducible rfl)
   case r5 =>
   refine zid (i:=6) (v:=?v6) rfl (by kernel_rfl) (by kernel_rfl) (by kernel_rfl) (by kernel_rfl) (fun _ _ _ h=>h) (Or.inl ⟨by rfl,?y6⟩) hHeld ?r6
   case y6=>(intro w hSw;(try dsimp only at hSw);go_simp;try with_reducible rfl)
   case r6 =>
   refine zid (i:=7) (v:=?v7) rfl (by kernel_rfl) (by kernel_rfl) (by kernel_rfl) (by kernel_rfl) (fun _ _ _ h=>h) (Or.inl ⟨by rfl,?y7⟩) hHeld ?r7
   case y7=>(intro w hSw;(try dsimp only at hSw);go_simp;try with_reducible rfl)
   case r7 =>
   refine zid (i:=8) (v:=?v8) rfl (by kernel_rfl) (by kernel_rfl) (by kernel_rfl) (by kernel_rfl) (fun _ _ _ h=>h) (Or.inl ⟨by rfl,?y8⟩) hHeld ?r8
   case y8=>(intro w hSw;(try dsimp only at hSw);go_simp;try with_reducible rfl)
   case r8 =>
   refine zid (i:=9) (v:=?v9) rfl (by kernel_rfl) (by kernel_rfl) (by kernel_rfl) (by kernel_rfl) (fun _ _ _ h=>h) (Or.inl ⟨by rfl,?y9⟩) hHeld ?r9
   case y9=>(intro w hSw;(try dsimp only at hSw);go_simp;try with_reducible rfl)
   case r9 =>
   refine zid (i:=10) (v:=?v10) rfl (by kernel_rfl) (by kernel_rfl) (by kernel_rfl) (by kernel_rfl) (fun _ _ _ h=>h) (Or.inl ⟨by rfl,?y10⟩) hHeld ?r10
   case y10=>(intro w hSw;(try dsimp only at hSw);go_simp;try with_reducible rfl)
   case r10 =>
   refine zid (i:=11) (v:=?v11) rfl (by kernel_rfl) (by kernel_rfl) (by kernel_rfl) (by kernel_rfl) (fun _ _ _ h=>h) (Or.inl ⟨by rfl,?y11⟩) hHeld ?r11
   case y11=>(intro w hSw;(try dsimp only at hSw);go_simp;try with_reducible rfl)
   case r11 =>
   refine zie (i:=12) (by kernel_rfl) rfl (fun K hK=>?_);go_simp
   have hE5:Ext w (wr.alloc (.cells #[.int .i64 (zx+k * zy)] 3)).drew:=(HE.out.alloc _).drew;have ho5:=(HO.out.alloc (.cells #[.int .i64 (zx+k * zy)] 3)).drew;refine hK.out _ _ (⟨hE5,hE5.cell hcx0,hE5.cell hcy0⟩) (fun hHeld=>?_);clear hK K;refine zie (i:=13) (by kernel_rfl) rfl (fun K hK=>?_);refine step_append_lies _ rfl (.tmp 26) (.tmp 38) 33 rfl w.heap.size 3 i0 (.int .i64 0) 1 8 Tryz.underlying33 hi hz0 hz1 hz2 rfl (by decide) (.slice a11 j c11) j (zap ((zhJ x k y).take j)) (by rfl) ho5 ⟨wr.heap.size,0,none⟩ 1 1 [.int .i64 (zx+k * zy)] (by rfl) rfl (fun q u hu=>(Ext.refl _).drew.cell (cell_one_new wr _ _ q u hu)) (by simp [Value.oneCell']) (by decide) hm3 hm4 hE5.size _ rfl ?_;intro g1 c1 V1 hown2 hgrow2 hat2 hlt2;have HX:=hid (hE5.grown hgrow2 fun q hq=>(World.ownsRow.lt ho5 q hq).1);clear hat2 hlt2 hgrow2 hE5 ho5;refine hK.out _ _ (⟨HX.out,HX.out.cell hcx0,HX.out.cell hcy0⟩) (fun hHeld=>?_);clear hK K;refine zid (i:=14) (v:=?v14) rfl (by kernel_rfl) (by kernel_rfl) (by kernel_rfl) (by kernel_rfl) (fun _ _ _ h=>h) (Or.inl ⟨by rfl,?y14⟩) hHeld ?r14
   case y14=>(intro w hSw;(try dsimp only at hSw);go_simp;try with_reducible rfl)
   case r14 =>
   refine zig (by kernel_rfl) ?_;have Hs7:=hid (show V1.ownsRow w.heap.size 3 1 (.slice (some ⟨g1,0,none⟩) (j+1) c1) (j+1) (zap ((zhJ x k y).take (j+1))) by rw [Hs.out];exact hown2);have HE7:=HX;clear hown2 hc1 hc2 hm3 hm4 hbase hcx0 hcy0;go_wp2_with fail
   go_roundw
   case rel=>exact ⟨j+1,by go_num,hjn,Hs7,HE7⟩
   case measure=>simp [zal];omega
  ·have hjl:j=x.length:=(by omega);have hnj:¬ (j:Int)<(x.length:Int):=(by omega);have hO:=HO.out;rw [hjl,List.take_of_length_le (by rw [Hpl.out];exact Nat.le_refl _)] at hO;have hO9:zc2 wr w.heap.size (.slice a11 x.length c11) (zhJ x k y):=by
    unfold zc2;rw [Hpl.out];exact hO
   have hr9:=Hrs.out (.slice a11 x.length c11) wr HE.out hO9.sl;have HO9:=hid hO9;have Hr9:=hid hr9;clear hO9 hr9;subst hjl;clear hO;go_wp2_with fail
   refine Hr9.out.mono ?_;rintro e w9 ⟨rfl,hx9⟩;have HO10:=hid (hx9.ownI HO9.out);have HE10:=hid (HE.out.trans hx9);clear hx9;go_wp2
   go_ret2
   exact ⟨_,rfl,HO10.out,HE10.out⟩
theorem zim (vp vx vy:Value)(p x y:List Int)(w:World)(hp:Sl w vp (zap p))(hx:Sl w vx (zap x))(hy:Sl w vy (zap y))(hxe:zgr p x=0)(hye:zgr p y=0)(hse:zgr p (zhJ x 1 y)=0) :
  Calls Tryz.prog 102 #[vp,vx,vy] w fun e w'=>∃ v,e=.returned (.tuple #[v,.int .i64 0])∧zc2 w' w.heap.size v (zhJ x 1 y)∧Ext w w':=by
 have hs:=zil vp vx vy p x y 1 w hp hx hy hxe hye (.inl rfl) hse;obtain ⟨ap,cp,rfl,_,_,_⟩:=hp.parts;obtain ⟨ax,cx,rfl,_,_,_⟩:=hx.parts;obtain ⟨ay,cy,rfl,_,_,_⟩:=hy.parts;have Hs:=hid hs;clear hs;clear hp hx hy hxe hye hse;go_enter Tryz.func102,Tryz.ntmps102
 go_wp2_with fail
 refine Hs.out.mono ?_;rintro e w9 ⟨v,rfl,ho,hx9⟩;have Ho:=hid ho;have Hx9:=hid hx9;obtain ⟨av,cv,ev⟩:=zc3 ho;subst ev;clear ho hx9;go_wp2
 go_ret2
 exact ⟨_,rfl,Ho.out,Hx9.out⟩
theorem zin (vp vx vy:Value)(p x y:List Int)(w:World)(hp:Sl w vp (zap p))(hx:Sl w vx (zap x))(hy:Sl w vy (zap y))(hxe:zgr p x=0)(hye:zgr p y=0)(hse:zgr p (zhJ x (-1) y)=0) :
  Calls Tryz.prog 103 #[vp,vx,vy] w fun e w'=>∃ v,e=.returned (.tuple #[v,.int .i64 0])∧zc2 w' w.heap.size v (zhJ x (-1) y)∧Ext w w':=by
 have hs:=zil vp vx vy p x y (-1) w hp hx hy hxe hye (.inr rfl) hse;obtain ⟨ap,cp,rfl,_,_,_⟩:=hp.parts;obtain ⟨ax,cx,rfl,_,_,_⟩:=hx.parts;obtain ⟨ay,cy,rfl,_,_,_⟩:=hy.parts;have Hs:=hid hs;clear hs;clear hp hx hy hxe hye hse;go_enter Tryz.func103,Tryz.ntmps103
 go_wp2_with fail
 refine Hs.out.mono ?_;rintro e w9 ⟨v,rfl,ho,hx9⟩;have Ho:=hid ho;have Hx9:=hid hx9;obtain ⟨av,cv,ev⟩:=zc3 ho;subst ev;clear ho hx9;go_wp2
 go_ret2
 exact ⟨_,rfl,Ho.out,Hx9.out⟩
end
section
open Go.RowKit Go.Lib
theorem zio {n:Int}{d k l:Nat}(hd:0<d)(hn:nDigits n.natAbs≤k)(h2:nDigits d≤l):nDigits (mkRat n d).num.natAbs≤k∧nDigits (mkRat n d).den≤l:=by
 constructor
 ·refine Nat.le_trans (Dec.nDigits_mono ?_) hn;rw [zdF n d (by omega),Int.natAbs_tdiv];exact Nat.div_le_self _ _
 ·refine Nat.le_trans (Dec.nDigits_mono ?_) h2;rw [Rat.den_mkRat,if_neg (by omega)];exact Nat.div_le_self _ _
theorem zip {k l:Nat}{a b:Rat}(ha:Ft k a)(hb:Ft l b):Ft (k+l) (a * b):=by
 unfold Ft;rw [Rat.mul_def'];refine zio (Nat.mul_pos a.den_pos b.den_pos) ?_ ?_
 ·rw [Int.natAbs_mul];exact Nat.le_trans (zbD _ _) (Nat.add_le_add ha.1 hb.1)
 ·exact Nat.le_trans (zbD _ _) (Nat.add_le_add ha.2 hb.2)
theorem ziq {k l:Nat}{a b:Rat}(ha:Ft k a)(hb:Ft l b):Ft (k+l+1) (a+b):=by
 unfold Ft;rw [Rat.add_def'];refine zio (Nat.mul_pos a.den_pos b.den_pos) ?_ ?_
 ·refine Nat.le_trans (Dec.nDigits_mono (Int.natAbs_add_le _ _)) ?_;refine zdj _ _ _ ?_ ?_
  ·rw [Int.natAbs_mul,Int.natAbs_natCast];exact Nat.le_trans (zbD _ _) (Nat.add_le_add ha.1 hb.2)
  ·rw [Int.natAbs_mul,Int.natAbs_natCast];have:=Nat.le_trans (zbD _ _) (Nat.add_le_add hb.1 ha.2);omega
 ·have:=Nat.le_trans (zbD _ _) (Nat.add_le_add ha.2 hb.2);omega
theorem zir : Ft 1 (0:Rat):=⟨Dec.nDigits_le (by omega) (by decide),Dec.nDigits_le (by omega) (by decide)⟩
theorem zis {x:List Rat}{k:Nat}(hk:k<x.length)(r:Rat):((rcs x).set (k * 2) (.string (I r.num))).set (k * 2+1) (.string (I (r.den:Int)))=rcs (x.set k r):=by
 induction x generalizing k with
 | nil=>simp at hk
 | cons s x ih =>
  rw [zfa]
  cases k with
  | zero=>simp [zfa]
  | succ k =>
   have:=ih (k:=k) (by simpa using hk)
   rw [show (k+1) * 2=k * 2+1+1 by omega,List.set_cons_succ,List.set_cons_succ,List.set_cons_succ,List.set_cons_succ,List.set_cons_succ,this,zfa]
def zit (w:World)(B g n:Nat)(x:List Rat):Prop:=∃ xs:List Value,w.ownsRow B 102 2 (.slice (some ⟨g,0,none⟩) n n) n xs∧xs.take (2 * x.length)=rcs x
theorem zit.ext {w w':World}(h:Ext w w'){B g n:Nat}{x:List Rat}(k:zit w B g n x):zit w' B g n x:=by
 obtain ⟨xs,h1,h2⟩:=k;exact ⟨xs,h.own h1,h2⟩
theorem zit.more {w:World}{B g n:Nat}{x:List Rat}(k:zit w B g n x)(hx:x.length<n)(r:Rat):zit ((w.setCell ⟨g,x.length * 2,none⟩ (.string (I r.num))).setCell ⟨g,x.length * 2+1,none⟩ (.string (I (r.den:Int)))) B g n (x++[r]):=by
 obtain ⟨xs,h1,h2⟩:=k;have hl:xs.length=n * 2:=h1.1;refine ⟨_,((h1.stored (x.length * 2) (.string (I r.num))).1.stored (x.length * 2+1) (.string (I (r.den:Int)))).1,?_⟩;rw [List.length_append,List.length_singleton,zfc,← h2];apply List.ext_getElem?;intro i;rw [List.getElem?_take];by_cases hi:i<2 * x.length
 ·rw [if_pos (by omega),List.getElem?_append_left (by rw [List.length_take];omega),List.getElem?_set_ne (by omega),List.getElem?_set_ne (by omega),List.getElem?_take,if_pos hi]
 ·rcases (by omega:i=2 * x.length∨i=2 * x.length+1∨2 * x.length+2≤i) with rfl | rfl | h3
  ·rw [if_pos (by omega),List.getElem?_append_right (by rw [List.length_take];omega),List.getElem?_set_ne (by omega),Nat.mul_comm 2 x.length,List.getElem?_set_self (by omega)];rw [List.length_take,show x.length * 2 - min (x.length * 2) xs.length=0 by omega];rfl
  ·rw [if_pos (by omega),List.getElem?_append_right (by rw [List.length_take];omega),Nat.mul_comm 2 x.length,List.getElem?_set_self (by rw [List.length_set];omega)];rw [List.length_take,show x.length * 2+1 - min (x.length * 2) xs.length=1 by omega];rfl
  ·rw [if_neg (by omega),List.getElem?_eq_none];rw [List.length_append,List.length_take];simp;omega
theorem zit.cell {w:World}{B g n:Nat}{x:List Rat}(k:zit w B g n x){i:Nat}(hi:i<n):w.cell? ⟨g,i * 2,none⟩=some (zet w g (i * 2))∧w.cell? ⟨g,i * 2+1,none⟩=some (zet w g (i * 2+1))∧w.frozen? ⟨g,i * 2,none⟩=false∧w.frozen? ⟨g,i * 2+1,none⟩=false:=by
 obtain ⟨xs,h1,h2⟩:=k;have hl:xs.length=n * 2:=h1.1;have e1:=h1.cellAt (i * 2) (by omega);have e2:=h1.cellAt (i * 2+1) (by omega);rw [List.getElem?_eq_getElem (by omega)] at e1 e2;exact ⟨by unfold zet;rw [e1];rfl,by unfold zet;rw [e2];rfl,h1.frozenAt _,h1.frozenAt _⟩
theorem zit.full {w:World}{B g n:Nat}{x:List Rat}(k:zit w B g n x)(hx:x.length=n):zfe w B (.slice (some ⟨g,0,none⟩) n n) x:=by
 obtain ⟨xs,h1,h2⟩:=k;have hl:xs.length=n * 2:=h1.1;rw [List.take_of_length_le (by omega)] at h2;unfold zfe;rw [hx,← h2];exact h1
theorem ziu (n:Nat)(w:World)(he:Env w)(hn:n≤1000) :
  Calls Tryz.prog 56 #[.int .i64 n] w fun e w'=>e=.returned (.slice (some ⟨w.heap.size,0,none⟩) n n)∧zfe w' w.heap.size (.slice (some ⟨w.heap.size,0,none⟩) n n) (List.replicate n 0)∧Ext w w':=by
 obtain ⟨i0,hi,hz0,hz1,hz2⟩:=info_parts zff;have hnum:=fun W (h:Ext w W)=>zfj 0 W (he.ext h) (by omega) (by omega);rw [show (((0:Int):Rat))=(0:Rat) from rfl] at hnum;unfold Rv at hnum;have Hnum:=hid hnum;clear hnum;clear he;go_enter Tryz.func56,Tryz.ntmps56
 go_wp2_with (at_make;refine wpList_make_full _ rfl _ _ 65 rfl w.heap.size 102 i0 _ 2 Tryz.underlying65 hi hz0 hz1 _ _ _ _ n rfl rfl rfl rfl (by rw [hz2];omega) (by unfold maxLen;omega) (Nat.le_refl _) ?_;intro w1 hown hgrow)
 have hx1:Ext w w1:=(Ext.refl w).grown hgrow (by simp);have hp:zit w1 w.heap.size w.heap.size n []:=⟨_,hown,rfl⟩;clear hown hgrow;have Hx1:=hid hx1;have Hp:=hid hp;clear hx1 hp;go_wp2_with fail
 go_loopw [4,9] (fun v4 v9 wr=>∃ k:Nat,v9=.int .i64 k∧k≤n∧zit wr w.heap.size w.heap.size n (List.replicate k 0)∧Ext w wr) (fun _ v9 _=>n - (zal v9).toNat)
 case atStart=>exact ⟨0,rfl,Nat.zero_le _,Hp.out,Hx1.out⟩
 case round =>
  obtain ⟨k,rfl,hk,hpt,hE⟩:=hrel;have Hpt:=hid hpt;have HE:=hid hE;clear hpt hE;by_cases hkl:k<n
  ·have hk0:(0:Int)≤(k:Int):=(by omega);have hk1:(k:Int)<(n:Int):=(by omega);go_wp2_with fail
   refine (Hnum.out wr HE.out).mono ?_;rintro e W2 ⟨rfl,hx2⟩;have hpt2:=Hpt.out.ext hx2;obtain ⟨g0,g1,f0,f1⟩:=hpt2.cell hkl;have hmo:=hpt2.more (by rw [List.length_replicate];exact hkl) 0;rw [List.length_replicate] at hmo;rw [show List.replicate k (0:Rat)++[0]=List.replicate (k+1) 0 by rw [List.replicate_succ']] at hmo;have hE2:=((HE.out.trans hx2).setCell (p:=⟨w.heap.size,k * 2,none⟩) (Nat.le_refl _) (.string (I (0:Rat).num))).setCell (p:=⟨w.heap.size,k * 2+1,none⟩) (Nat.le_refl _) (.string (I (((0:Rat).den:Nat):Int)));clear hx2 hpt2;have Hmo:=hid hmo;have HE2:=hid hE2;clear hmo hE2;go_wp2_with fail
   go_roundw
   case rel=>exact ⟨k+1,by go_num,by omega,Hmo.out,HE2.out⟩
   case measure=>simp [zal];omega
  ·obtain rfl:k=n:=by omega
   have hfu:=Hpt.out.full (by rw [List.length_replicate]);have Hfu:=hid hfu;clear hfu;go_wp2
   go_ret
   exact ⟨rfl,Hfu.out,HE.out⟩
theorem zit.put {w:World}{B g n:Nat}(k:zit w B g n [])(i j:Nat)(u v:Value):zit ((w.setCell ⟨g,i,none⟩ u).setCell ⟨g,j,none⟩ v) B g n []:=by
 obtain ⟨xs,h1,_⟩:=k;exact ⟨_,((h1.stored i u).1.stored j v).1,rfl⟩
theorem ziv {w:World}{B g n:Nat}{x:List Rat}(h:zfe w B (.slice (some ⟨g,0,none⟩) n n) x)(hx:x.length=n):zit w B g n []:=by
 unfold zfe at h;rw [hx] at h;exact ⟨_,h,rfl⟩
def KS (w w':World)(g n b:Nat)(u v:Value):Prop:=Ext w w'∧zit w' w.heap.size g n []∧zes w' b u v
theorem KS.ext {w w' w2:World}{g n b:Nat}{u v:Value}(h:KS w w' g n b u v)(hx:Ext w' w2):KS w w2 g n b u v:=⟨h.1.trans hx,h.2.1.ext hx,h.2.2.ext hx⟩
theorem KS.put {w w':World}{g n b:Nat}{u v:Value}(h:KS w w' g n b u v)(hg:w.heap.size≤g)(hne:b ≠ g)(i j:Nat)(x y:Value):KS w ((w'.setCell ⟨g,i,none⟩ x).setCell ⟨g,j,none⟩ y) g n b u v :=
 ⟨(h.1.setCell hg _).setCell hg _,h.2.1.put i j x y,(heap_setCell_other _ ⟨g,j,none⟩ b y hne).trans ((heap_setCell_other w' ⟨g,i,none⟩ b x hne).trans h.2.2)⟩
theorem KS.all {w w':World}{g n b k:Nat}{u v f0 f1:Value}{a0 a1:Addr}(h:KS w w' g n b u v)(hk:k<n)(h0:w.cell? a0=some f0)(h1:w.cell? a1=some f1) :
  KS w w' g n b u v∧w'.cell? ⟨g,k * 2,none⟩=some (zet w' g (k * 2))∧w'.cell? ⟨g,k * 2+1,none⟩=some (zet w' g (k * 2+1))∧w'.frozen? ⟨g,k * 2,none⟩=false∧w'.frozen? ⟨g,k * 2+1,none⟩=false∧w'.cell? ⟨b,0,none⟩=some u∧w'.cell? ⟨b,1,none⟩=some v∧w'.cell? a0=some f0∧w'.cell? a1=some f1:=by
 obtain ⟨e1,e2,e3,e4⟩:=h.2.1.cell hk;exact ⟨h,e1,e2,e3,e4,h.2.2.c0,h.2.2.c1,h.1.cell h0,h.1.cell h1⟩
theorem ziw {w:World}{B g n:Nat}{x:List Rat}{k:Nat}(h:zfe w B (.slice (some ⟨g,0,none⟩) n n) x)(hx:x.length=n)(hk:k<n)(r:Rat):zfe ((w.setCell ⟨g,k * 2,none⟩ (.string (I r.num))).setCell ⟨g,k * 2+1,none⟩ (.string (I (r.den:Int)))) B (.slice (some ⟨g,0,none⟩) n n) (x.set k r):=by
 unfold zfe at h ⊢;rw [hx] at h;rw [List.length_set,hx,← zis (by omega)];exact ((h.stored (k * 2) _).1.stored (k * 2+1) _).1
end
section
def swp {α:Type}(l:List α)(i j:Nat):List α :=
 match l[i]?,l[j]? with
 | some x,some y=>(l.set i y).set j x
 | _,_=>l
theorem zix {α:Type}{l:List α}{i j:Nat}{x y:α}(hx:l[i]?=some x)(hy:l[j]?=some y):swp l i j=(l.set i y).set j x:=by unfold swp;rw [hx,hy]
theorem ziy {α:Type}(l:List α)(i j:Nat):(swp l i j).length=l.length:=by
 unfold swp;split <;> simp
/-! Fractions: the reduced form of rows. -/
@[irreducible] def ziz : Nat:=1000
@[irreducible] def zi0 : Nat:=10 ^ ziz
@[irreducible] def zi1 : Nat:=8000
@[irreducible] def zi2 : Nat:=10 ^ zi1
@[irreducible] def zi3 : Nat:=10 * zi2
def okQ (q:Rat):Bool:=decide (q.num.natAbs<zi0) && decide (q.den<zi0)
def okM (m:List (List Rat)):Bool:=m.all fun r=>r.all okQ
def zi4 (c:Nat):List (List Rat)→Nat
 | []=>0
 | r::m=>if r.getD c 0=0 then zi4 c m+1 else 0
def zi5 (f:Rat)(r:List Rat):List Rat:=r.map fun a=>a / f
def zi6 (r t:List Rat)(f:Rat):List Rat:=List.zipWith (fun a b=>a - f * b) r t
def zi7 (m:List (List Rat))(k c n:Nat):List (List Rat):=m.mapIdx fun i r=>if i<n∧i ≠ k then zi6 r (m.getD k []) (r.getD c 0) else r
structure RdS where
 m:List (List Rat)
 ld:List Nat
 det:Rat
def zi8 (c:Nat)(s:RdS):Option RdS :=
 if okM s.m=true∧okQ s.det=true then
  let k:=s.ld.length
  let a:=k+zi4 c (s.m.drop k)
  if a=s.m.length then some ⟨s.m,s.ld,0⟩
  else
   let m1:=swp s.m k a
   let f:=(m1.getD k []).getD c 0
   some ⟨zi7 (m1.set k (zi5 f (m1.getD k []))) k c s.m.length,s.ld++[c],(if a=k then s.det else -s.det) * f⟩
 else none
def zi9 : List Nat→RdS→Option RdS
 | [],s=>some s
 | c::cs,s=>match zi8 c s with
  | some s'=>zi9 cs s'
  | none=>none
def ziA (r:List Int):List Rat:=r.map fun z:Int=>(z:Rat)
def ziB (m:List (List Int)):Option Nat :=
 (zi9 (List.range (m.getD 0 []).length) ⟨m.map ziA,[],1⟩).map fun s=>s.ld.length
/-! Whole numbers: the Hermite form of smith. -/
def okZ (z:Int):Bool:=decide (z.natAbs<zi2)
def okG (g:List (List Int)):Bool:=g.all fun r=>r.all okZ
def ziC (l o:List Int)(q:Int):List Int:=List.zipWith (fun a b=>a - q * b) l o
def ziD (l:List Int):List Int:=l.map fun z=>-z
def at2 (g:List (List Int))(i c:Nat):Int:=(g.getD i []).getD c 0
def ziE (g:List (List Int))(c:Nat):Nat→Nat→Option Nat × Bool
 | _,0=>(none,false)
 | top,n+1 =>
  let r:=ziE g c top n
  let i:=top+n
  if at2 g i c=0 then r
  else match r.1 with
   | none=>(some i,r.2)
   | some k=>(some (if (at2 g i c).natAbs<(at2 g k c).natAbs then i else k),true)
def ziF (g:List (List Int))(t c lo n:Nat):List (List Int):=g.mapIdx fun i r=>if lo≤i∧i<n then ziC r (g.getD t []) (fdv (r.getD c 0) (at2 g t c)) else r
def ziG (g:List (List Int))(t c:Nat):List (List Int):=if at2 g t c<0 then g.set t (ziD (g.getD t [])) else g
def ziH (g:List (List Int))(t c:Nat):List (List Int):=ziF (ziG g t c) t c 0 t
def inZ : Nat→List (List Int)→Nat→Nat→Option (List (List Int) × Nat)
 | 0,_,_,_=>none
 | n+1,g,top,c =>
  if okG g=true then
   match ziE g c top (g.length - top) with
   | (none,_)=>some (g,top)
   | (some k,more) =>
    if okG (swp g top k)=true∧okG (ziG (swp g top k) top c)=true then
     if more=true then inZ n (ziF (swp g top k) top c (top+1) g.length) top c
     else some (ziH (swp g top k) top c,top+1)
    else none
  else none
def ziI : Nat→List (List Int)→Nat→Nat→Nat→Option (List (List Int) × Nat)
 | 0,_,_,_,_=>none
 | n+1,g,top,c,cols =>
  if c<cols∧top<g.length then
   match inZ zi3 g top c with
   | some (g',top')=>ziI n g' top' (c+1) cols
   | none=>none
  else some (g,top)
def ziJ (g:List (List Int))(cols:Nat):Option (List (List Int)):=(ziI 100 g 0 0 cols).map fun r=>r.1.take r.2
def ziK (n:Nat):List (List Int):=(List.range n).map fun i=>(List.replicate n (0:Int)).set i 1
def ziL (m:List (List Int)):Option (List (List Int)):=ziJ (List.zipWith (fun r u=>r++u) m (ziK m.length)) ((m.getD 0 []).length+m.length)
def ziM : List Int→Nat
 | []=>0
 | z::l=>if z=0 then ziM l+1 else 0
def ziN (f:List (List Int))(cols:Nat):List (List Int):=(f.filter fun l=>cols≤ziM l).map fun l=>l.drop cols
def ziO (l r:List Int):List Int:=if ziM r<l.length then ziC l r (fdv (l.getD (ziM r) 0) (r.getD (ziM r) 0)) else l
def ziP : List (List Int)→List Int→Option (List Int)
 | [],l=>some l
 | r::f,l=>if l.all okZ=true∧r.all okZ=true then ziP f (ziO l r) else none
def ziQ (m:List (List Int))(b:List Int):Option (Option (List Int)) :=
 match ziL m with
 | none=>none
 | some f =>
  let cols:=(m.getD 0 []).length
  match ziP (f.filter fun l=>ziM l<cols) (b++List.replicate m.length 0) with
  | none=>none
  | some l=>if ziM l<cols then some none else
   match ziP (ziN f cols) (ziD (l.drop cols)) with
   | none=>none
   | some x=>if x.all (fun z=>decide (z.natAbs≤1000000000)) then some (some x) else none
def ziR : List (List Int)→Nat→List (List Int)→List Int→Option (List (List Int) × List Int)
 | [],_,m,a=>some (m,a)
 | x::l,i,m,a =>
  match ziB (m++[x]) with
  | none=>none
  | some r=>if r=(m++[x]).length then ziR l (i+1) (m++[x]) (a++[((i+1:Nat):Int)]) else ziR l (i+1) m a
def ziS (m:List (List Int)):List (List Int):=(List.range (m.getD 0 []).length).map fun c=>m.map fun r=>r.getD c 0
def ziT (v x:List Int):Int:=(List.zipWith (fun a b=>a * b) v x).sum
def ziU (v:List Int)(l:List (List Int)):Nat:=((List.range l.length).find? fun i=>ziT v (l.getD i []) != ((i+1:Nat):Int)).elim 0 (·+1)
def ziV (l:List (List Int)):Option (Option (List Int)) :=
 match ziR l 0 [] [] with
 | none=>none
 | some (m,a)=>match ziQ (ziS m) a with
  | none=>none
  | some none=>some none
  | some (some v)=>if 0<ziU v l then some none else some (some v)
def ziW : List (List Int):=[[-3,2,0],[-2,0,1],[2,-1,0],[-1,1,0],[0,-1,1],[-3,1,1],[1,0,0]]
theorem ziX : ziV ziW=some (some [7,11,16]):=by decide +kernel
theorem ziY : ziV [[-3,2,0],[-2,0,1],[-1,1,0],[1,0,0]]=some none:=by decide +kernel
theorem ziZ : ziV [[-3,2,0],[-6,4,0],[-1,1,0],[-4,3,0],[1,0,0]]=some (some [5,8,0]):=by decide +kernel
end
section
open Go.RowKit Go.Lib
def zja (x:List Int)(k:Nat):List Rat:=(ziA x).take k++List.replicate (x.length - k) 0
theorem zjb (x:List Int):(ziA x).length=x.length:=by unfold ziA;rw [List.length_map]
theorem zjc {x:List Int}{k:Nat}(h:k≤x.length):(zja x k).length=x.length:=by
 unfold zja;rw [List.length_append,List.length_take,List.length_replicate,zjb];omega
theorem zjd (x:List Int):zja x 0=List.replicate x.length 0:=by simp [zja]
theorem zje (x:List Int):zja x x.length=ziA x:=by
 unfold zja;rw [List.take_of_length_le (by rw [zjb];exact Nat.le_refl _),Nat.sub_self];simp
theorem zjf {x:List Int}{k:Nat}(h:k<x.length):(zja x k).set k ((zas x k:Int):Rat)=zja x (k+1):=by
 have hl:=zjb x;have hq:(ziA x)[k]?=some ((zas x k:Int):Rat):=by
  unfold ziA zas;rw [List.getElem?_map,List.getD_eq_getElem?_getD,List.getElem?_eq_getElem h];rfl
 apply List.ext_getElem?;intro i;rw [List.getElem?_set,zjc (by omega)];unfold zja;by_cases e:k=i
 ·subst e;rw [if_pos rfl,if_pos h,List.getElem?_append_left (by rw [List.length_take];omega),List.getElem?_take_of_lt (by omega),hq]
 ·rw [if_neg e];by_cases g:i<k
  ·rw [List.getElem?_append_left (by rw [List.length_take];omega),List.getElem?_append_left (by rw [List.length_take];omega),List.getElem?_take_of_lt g,List.getElem?_take_of_lt (by omega)]
  ·rw [List.getElem?_append_right (by rw [List.length_take];omega),List.getElem?_append_right (by rw [List.length_take];omega),List.getElem?_replicate,List.getElem?_replicate,List.length_take,List.length_take];congr 1;simp only [eq_iff_iff];omega
theorem zjg (vp vx:Value)(p x:List Int)(w:World)(he:Env w)(hp:Sl w vp (zap p))(hx:Sl w vx (zap x))(h0:zgr p x=0) :
  Calls Tryz.prog 23 #[vp,vx] w fun e w'=>∃ v,e=.returned (.tuple #[v,.int .i64 0])∧zfe w' w.heap.size v (ziA x)∧Ext w w':=by
 obtain ⟨hpe,hre⟩:=zg4 h0;obtain ⟨hxl,hxb⟩:=zg3 hre;obtain ⟨hp0,hp6,_⟩:=zc0 hpe;have hck:=zgs vp vx p x w hp hx (by omega) (by omega);rw [h0] at hck;have hz:=fun W (hE:Ext w W)=>ziu p.length W (he.ext hE) (by omega);have hnu:=fun i (hi:i<x.length) W (hE:Ext w W)=>zfj (zas x i) W (he.ext hE) (by have:=hxb i hi;omega) (by have:=hxb i hi;omega);unfold Rv at hnu;rw [← hxl] at hz;obtain ⟨ap,cp,rfl,_,_,_⟩:=hp.parts;obtain ⟨ax,cx,rfl,_,_,hcx⟩:=hx.parts;rw [zar,← hxl] at hck ⊢;rw [zar] at hck ⊢;have hst:=fun k (h:k<x.length)=>zjf (x:=x) h;have hln:=fun k (h:k≤x.length)=>zjc (x:=x) h;have hz0:=zjd x;have hfu:=zje x;have hx1000:x.length≤1000:=by omega
 have Hck:=hid hck;have Hz:=hid hz;have Hnu:=hid hnu;have Hcx:=hid hcx;have Hst:=hid hst;have Hln:=hid hln;have Hz0:=hid hz0;have Hfu:=hid hfu;clear hck hz hnu hcx hst hln hz0 hfu;clear hp hx h0 hpe hre hxb hp0 hp6 hxl he;go_enter Tryz.func23,Tryz.ntmps23
 go_wp2_with fail
 refine Hck.out.mono ?_;rintro e w1 ⟨rfl,hx1⟩;have Hx1:=hid hx1;clear hx1;go_wp2_with fail
 refine (Hz.out w1 Hx1.out).mono ?_;rintro e w2 ⟨rfl,ho2,hx2⟩;rw [← Hz0.out] at ho2;have Hx2:=hid (Hx1.out.trans hx2);have HO:=hid ho2;have hg:w.heap.size≤w1.heap.size:=Hx1.out.size;clear ho2 hx2;generalize w1.heap.size=g at *;go_wp2_with fail
 go_loopw [21] (fun v21 wr=>∃ k:Nat,v21=.int .i64 k∧k≤x.length∧Hid (zfe wr g (.slice (some ⟨g,0,none⟩) x.length x.length) (zja x k))∧Hid (Ext w wr)) (fun v21 _=>x.length - (zal v21).toNat)
 case atStart=>exact ⟨0,rfl,Nat.zero_le _,HO,Hx2⟩
 case round =>
  clear HO;obtain ⟨k,rfl,hk,HO,HE⟩:=hrel;by_cases hkn:k<x.length
  ·obtain ⟨b,off,rfl,hc0⟩:=Hcx.out k _ (zau hkn);have hcw:=HE.out.cell hc0;have hn:=Hnu.out k hkn wr HE.out;have hs:=Hst.out k hkn;generalize zas x k=z at *;have hk0:(0:Int)≤(k:Int):=(by omega);have hk1:(k:Int)<(x.length:Int):=(by omega);have hll:=Hln.out k hk;have Hn:=hid hn;have Hs:=hid hs;have Hll:=hid hll;clear hn hs hll;clear hc0;go_wp2_with fail
   refine Hn.out.mono ?_;rintro e w3 ⟨rfl,hx3⟩;have ho3:=hx3.ownQ HO.out;have hp3:=ziw ho3 Hll.out hkn ((z:Int):Rat);rw [Hs.out] at hp3;obtain ⟨c0,c1,z0,z1⟩:=(ziv ho3 Hll.out).cell hkn;have hE4:=((HE.out.trans hx3).setCell (p:=⟨g,k * 2,none⟩) hg (.string (I ((z:Int):Rat).num))).setCell (p:=⟨g,k * 2+1,none⟩) hg (.string (I ((((z:Int):Rat).den:Nat):Int)));have Hp3:=hid hp3;have HE4:=hid hE4;clear hp3 hE4;clear hx3 ho3;go_wp2_with fail
   go_roundw
   case rel=>exact ⟨k+1,by go_num,hkn,Hp3,HE4⟩
   case measure=>simp [zal];omega
  ·have hkl:k=x.length:=(by omega);have hnk:¬ (k:Int)<(x.length:Int):=(by omega);have ho:=HO.out;rw [hkl,Hfu.out] at ho;have Ho9:=hid (ho.mono hg);clear ho hkl;go_wp2
   go_ret2
   exact ⟨_,rfl,Ho9.out,HE.out⟩
end
end Go.Proofs.YtipkdebkdnbieaaGreatDoor
