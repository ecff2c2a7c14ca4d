/- Walk: law 31's Major. Plain: the major scale is the collection of seven fifths; what reduces there. Walks: slices.Equal at primes, slices.EqualFunc at sizes; law 31's same, scale.same. Walk: law 31's known. Walk: law 31's known, by chainB_c. (Printed by wip/brdg.py.) Walk: law 31's multiples, by lTimesS_c. (Printed by wip/brdg.py.) -/
import Derived.Test.YtoehmpbipbbffaaGreatDoorPa18
import Derived.Test.YtoehmpbipbbffaaGreatDoorPa27
import Derived.Test.YtoehmpbipbbffaaGreatDoorPa17
import Derived.Test.YtoehmpbipbbffaaGreatDoorPa16
import Derived.Test.YtoehmpbipbbffaaGreatDoorPa05
import Derived.Test.YtoehmpbipbbffaaGreatDoorPa35
set_option maxRecDepth 100000
set_option maxHeartbeats 1600000
namespace Go.Proofs.YtoehmpbipbbffaaGreatDoor
section
open Go.RowKit Go.Lib Go.Shelf
attribute [local go_sem] Oper.semAt_some
theorem zpT {W:World}{g off n cp:Nat}{us:List Value}{c:Nat}(h:Sl W (.slice (some ⟨g,off,none⟩) n cp) us)(hne:g ≠ c)(k:Nat)(x:Value):Sl (W.setCell ⟨c,k,none⟩ x) (.slice (some ⟨g,off,none⟩) n cp) us:=by
 rcases h with ⟨a,cap,e,hm,h0⟩ | ⟨b,off',cap,e,h1,h2,hc⟩
 ·exact .inl ⟨a,cap,e,hm,h0⟩
 ·refine .inr ⟨b,off',cap,e,h1,h2,fun i q hq=>?_⟩;injection e with e1 _ _;injection e1 with e1;injection e1 with e1 e2;subst e1;subst e2;rw [World.cell?_setCell_other _ _ _ _ (by intro e';simp only [Addr.mk.injEq] at e';exact hne e'.1.symm)];exact hc i q hq
theorem zpU {T:TypeId}{W:World}{c:Nat}{u v s:Value}{xs:List Rat}(hs:Rd W s xs)(hb:zdV T W c u v)(hu:∀ z,u ≠ .string z)(hv:∀ z,v ≠ .string z)(x y:Value):Rd ((W.setCell ⟨c,0,none⟩ x).setCell ⟨c,1,none⟩ y) s xs:=by
 rcases hs with hn | ⟨b,off,cap,e,h1,h2,hc⟩
 ·exact .inl hn
 ·have hno:∀ k z,W.cell? ⟨b,k,none⟩=some (.string z)→b ≠ c:=by
   rintro k z h rfl;unfold World.cell? at h;dsimp only at h;rw [hb] at h;rcases (by omega:k=0∨k=1∨2≤k) with g | g | g
   ·rw [g] at h;exact hu z (Option.some.inj h)
   ·rw [g] at h;exact hv z (Option.some.inj h)
   ·have:(#[u,v]:Array Value)[k]?=none:=Array.getElem?_eq_none (by simpa using g);simp [this] at h
  have hk:∀ k z,W.cell? ⟨b,k,none⟩=some (.string z)→((W.setCell ⟨c,0,none⟩ x).setCell ⟨c,1,none⟩ y).cell? ⟨b,k,none⟩=some (.string z):=fun k z h=>by
   have hbc:=hno k z h;rw [World.cell?_setCell_other _ _ _ _ (by intro e';simp only [Addr.mk.injEq] at e';exact hbc e'.1.symm),World.cell?_setCell_other _ _ _ _ (by intro e';simp only [Addr.mk.injEq] at e';exact hbc e'.1.symm)];exact h
  exact .inr ⟨b,off,cap,e,h1,h2,fun i r hr=>⟨hk _ _ (hc i r hr).1,hk _ _ (hc i r hr).2⟩⟩
def zpV : List (List Int):=[[-3,2],[-6,4],[2,-1],[-1,1],[-4,3],[-7,5],[1,0]]
def zpW : List (List Rat):=zpV.map zjQ
theorem zpX (w:World)(he:Env w) :
  Calls Tryz.prog 16 #[] w fun e w'=>∃ v rs,e=.returned v∧ScV w' v [2,3] rs∧rs.map Qw.x=zpW∧Ext w w':=by
 have hwh:=fun W v (l:List Int)(hE:Ext w W)(hv:Sl W v (zak l))(h9:l.length≤1000)(hl:∀ z∈l,z.natAbs<1000000000)=>zjT v l W (he.ext hE) hv h9 hl;have hw2:=fun W (a b:Int)(hE:Ext w W)(ha:a.natAbs<1000000000)(hb:b.natAbs<1000000000)=>hwh (W.alloc (.cells #[.int .i64 a,.int .i64 b] 3)) (.slice (some ⟨W.heap.size,0,none⟩) 2 2) [a,b] (hE.alloc _) (zhR (us:=[.int .i64 a,.int .i64 b]) (World.alloc_heap_new W _) (by unfold maxLen;simp)) (by simp) (fun z hz=>by
  simp only [List.mem_cons,List.not_mem_nil,or_false] at hz;rcases hz with rfl | rfl <;> assumption)
 have hb0:=zdV.new 36 w (.slice none 0 0) (.slice none 0 0);have hE0:Ext w (w.alloc (.cells #[.slice none 0 0,.slice none 0 0] 36)):=(Ext.refl w).alloc _;have Hw2:=hid hw2;have HB0:=hid hb0;have HE0:=hid hE0;clear hwh hw2 hb0 hE0 he;go_enter Tryz.func16,Tryz.ntmps16
 obtain ⟨W0,hW0⟩:∃ W0,W0=(w.alloc (.cells #[.slice none 0 0,.slice none 0 0] 36)).alloc (.cells #[.int .i64 2,.int .i64 3] 3):=⟨_,rfl⟩;have hpr:Sl W0 (.slice (some ⟨w.heap.size+1,0,none⟩) 2 2) (zak [2,3]):=by
  have:=zhR (us:=[.int .i64 2,.int .i64 3]) (World.alloc_heap_new (w.alloc (.cells #[.slice none 0 0,.slice none 0 0] 36)) (.cells #[.int .i64 2,.int .i64 3] 3)) (by unfold maxLen;simp);rw [World.size_alloc] at this;rw [hW0];exact this
 have hxw:Ext (w.alloc (.cells #[.slice none 0 0,.slice none 0 0] 36)) W0:=by rw [hW0];exact (Ext.refl _).alloc _
 have hsz0:W0.heap.size=w.heap.size+1+1:=by rw [hW0,World.size_alloc,World.size_alloc]
 have hc1:=Hw2.out W0 (-3) (2) (HE0.out.trans hxw) (by decide) (by decide);rw [hsz0] at hc1;have Hc1:=hid hc1;clear hc1 hsz0;have Hpr:=hid hpr;have Hx0:=hid hxw;clear hpr hxw;go_wp2_with fail
 rw [← hW0];clear hW0;refine Hc1.out.mono ?_;rintro e w1 ⟨u1,rfl,ho1,hx1⟩;obtain ⟨a1,c1,rfl,_,_,_⟩:=ho1.rd.parts;rw [show (zjQ [-3,2]).length=2 from rfl] at *;have hy1:=((Ext.refl W0).alloc (.cells #[.int .i64 (-3),.int .i64 (2)] 3)).trans hx1;have Hx1:=hid (Hx0.out.trans hy1);have Hr1:=hid ho1.rd;have Hpr:=hid (hy1.sl Hpr.out);clear ho1 hx1 hy1;go_wp2_with fail
 refine (Hw2.out w1 (-6) (4) (HE0.out.trans Hx1.out) (by decide) (by decide)).mono ?_;rintro e w2 ⟨u2,rfl,ho2,hx2⟩;obtain ⟨a2,c2,rfl,_,_,_⟩:=ho2.rd.parts;rw [show (zjQ [-6,4]).length=2 from rfl] at *;have hy2:=((Ext.refl w1).alloc (.cells #[.int .i64 (-6),.int .i64 (4)] 3)).trans hx2;have Hx2:=hid (Hx1.out.trans hy2);have Hr2:=hid ho2.rd;have Hr1:=hid (hy2.rd Hr1.out);have Hpr:=hid (hy2.sl Hpr.out);clear ho2 hx2 hy2;go_wp2_with fail
 refine (Hw2.out w2 (2) (-1) (HE0.out.trans Hx2.out) (by decide) (by decide)).mono ?_;rintro e w3 ⟨u3,rfl,ho3,hx3⟩;obtain ⟨a3,c3,rfl,_,_,_⟩:=ho3.rd.parts;rw [show (zjQ [2,-1]).length=2 from rfl] at *;have hy3:=((Ext.refl w2).alloc (.cells #[.int .i64 (2),.int .i64 (-1)] 3)).trans hx3;have Hx3:=hid (Hx2.out.trans hy3);have Hr3:=hid ho3.rd;have Hr1:=hid (hy3.rd Hr1.out);have Hr2:=hid (hy3.rd Hr2.out);have Hpr:=hid (hy3.sl Hpr.out);clear ho3 hx3 hy3;go_wp2_with fail
 refine (Hw2.out w3 (-1) (1) (HE0.out.trans Hx3.out) (by decide) (by decide)).mono ?_;rintro e w4 ⟨u4,rfl,ho4,hx4⟩;obtain ⟨a4,c4,rfl,_,_,_⟩:=ho4.rd.parts;rw [show (zjQ [-1,1]).length=2 from rfl] at *;have hy4:=((Ext.refl w3).alloc (.cells #[.int .i64 (-1),.int .i64 (1)] 3)).trans hx4;have Hx4:=hid (Hx3.out.trans hy4);have Hr4:=hid ho4.rd;have Hr1:=hid (hy4.rd Hr1.out);have Hr2:=hid (hy4.rd Hr2.out);have Hr3:=hid (hy4.rd Hr3.out);have Hpr:=hid (hy4.sl Hpr.out);clear ho4 hx4 hy4;go_wp2_with fail
 refine (Hw2.out w4 (-4) (3) (HE0.out.trans Hx4.out) (by decide) (by decide)).mono ?_;rintro e w5 ⟨u5,rfl,ho5,hx5⟩;obtain ⟨a5,c5,rfl,_,_,_⟩:=ho5.rd.parts;rw [show (zjQ [-4,3]).length=2 from rfl] at *;have hy5:=((Ext.refl w4).alloc (.cells #[.int .i64 (-4),.int .i64 (3)] 3)).trans hx5;have Hx5:=hid (Hx4.out.trans hy5);have Hr5:=hid ho5.rd;have Hr1:=hid (hy5.rd Hr1.out);have Hr2:=hid (hy5.rd Hr2.out);have Hr3:=hid (hy5.rd Hr3.out);have Hr4:=hid (hy5.rd Hr4.out);have Hpr:=hid (hy5.sl Hpr.out);clear ho5 hx5 hy5;go_wp2_with fail
 refine (Hw2.out w5 (-7) (5) (HE0.out.trans Hx5.out) (by decide) (by decide)).mono ?_;rintro e w6 ⟨u6,rfl,ho6,hx6⟩;obtain ⟨a6,c6,rfl,_,_,_⟩:=ho6.rd.parts;rw [show (zjQ [-7,5]).length=2 from rfl] at *;have hy6:=((Ext.refl w5).alloc (.cells #[.int .i64 (-7),.int .i64 (5)] 3)).trans hx6;have Hx6:=hid (Hx5.out.trans hy6);have Hr6:=hid ho6.rd;have Hr1:=hid (hy6.rd Hr1.out);have Hr2:=hid (hy6.rd Hr2.out);have Hr3:=hid (hy6.rd Hr3.out);have Hr4:=hid (hy6.rd Hr4.out);have Hr5:=hid (hy6.rd Hr5.out);have Hpr:=hid (hy6.sl Hpr.out);clear ho6 hx6 hy6;go_wp2_with fail
 refine (Hw2.out w6 (1) (0) (HE0.out.trans Hx6.out) (by decide) (by decide)).mono ?_;rintro e w7 ⟨u7,rfl,ho7,hx7⟩;obtain ⟨a7,c7,rfl,_,_,_⟩:=ho7.rd.parts;rw [show (zjQ [1,0]).length=2 from rfl] at *;have hy7:=((Ext.refl w6).alloc (.cells #[.int .i64 (1),.int .i64 (0)] 3)).trans hx7;have Hx7:=hid (Hx6.out.trans hy7);have Hr7:=hid ho7.rd;have Hr1:=hid (hy7.rd Hr1.out);have Hr2:=hid (hy7.rd Hr2.out);have Hr3:=hid (hy7.rd Hr3.out);have Hr4:=hid (hy7.rd Hr4.out);have Hr5:=hid (hy7.rd Hr5.out);have Hr6:=hid (hy7.rd Hr6.out);have Hpr:=hid (hy7.sl Hpr.out);clear ho7 hx7 hy7;have hE9:Ext w7 (w7.alloc (.cells #[.slice a1 2 c1,.slice a2 2 c2,.slice a3 2 c3,.slice a4 2 c4,.slice a5 2 c5,.slice a6 2 c6,.slice a7 2 c7] 32)):=(Ext.refl w7).alloc _;have hn9:Sl (w7.alloc (.cells #[.slice a1 2 c1,.slice a2 2 c2,.slice a3 2 c3,.slice a4 2 c4,.slice a5 2 c5,.slice a6 2 c6,.slice a7 2 c7] 32)) (.slice (some ⟨w7.heap.size,0,none⟩) 7 7) [.slice a1 2 c1,.slice a2 2 c2,.slice a3 2 c3,.slice a4 2 c4,.slice a5 2 c5,.slice a6 2 c6,.slice a7 2 c7]:=zhR (us:=[.slice a1 2 c1,.slice a2 2 c2,.slice a3 2 c3,.slice a4 2 c4,.slice a5 2 c5,.slice a6 2 c6,.slice a7 2 c7]) (World.alloc_heap_new w7 _) (by unfold maxLen;simp);have hk9:K0 36 w (w7.alloc (.cells #[.slice a1 2 c1,.slice a2 2 c2,.slice a3 2 c3,.slice a4 2 c4,.slice a5 2 c5,.slice a6 2 c6,.slice a7 2 c7] 32)) w.heap.size:=⟨(HE0.out.trans Hx7.out).trans hE9,_,_,HB0.out.ext (Hx7.out.trans hE9)⟩;have hb9:=HB0.out.ext (Hx7.out.trans hE9);have k0:=hk9.res.c0;have k1:=hk9.res.c1;have z0:=hk9.res.fz 0;have z1:=hk9.res.fz 1;obtain ⟨hb5,hx5⟩:=hk9.fin (Nat.le_refl _) (.slice (some ⟨w.heap.size+1,0,none⟩) 2 2) (.slice (some ⟨w7.heap.size,0,none⟩) 7 7);have Hb5:=hid hb5;have Hx5:=hid hx5;have HE9:=hid hE9;have Hn9:=hid hn9;have Hb9:=hid hb9;clear hb5 hx5 hk9 hE9 hn9 hb9;go_wp2_with fail
 have hd0:=Hb5.out.c0;have hd1:=Hb5.out.c1;have hne:w7.heap.size ≠ w.heap.size:=by
  have:=(HE0.out.trans Hx7.out).size;have:=HB0.out.lt;have:=Hx7.out.size;omega
 have hp5:=zgu (HE9.out.sl Hpr.out) Hb9.out (by simp) (by simp) (.slice (some ⟨w.heap.size+1,0,none⟩) 2 2) (.slice (some ⟨w7.heap.size,0,none⟩) 7 7);have hn5:=zpT (zpT Hn9.out hne 0 (.slice (some ⟨w.heap.size+1,0,none⟩) 2 2)) hne 1 (.slice (some ⟨w7.heap.size,0,none⟩) 7 7);have hrp:=fun s xs (h:Rd w7 s xs)=>zpU (HE9.out.rd h) Hb9.out (by simp) (by simp) (.slice (some ⟨w.heap.size+1,0,none⟩) 2 2) (.slice (some ⟨w7.heap.size,0,none⟩) 7 7);exact bodyPost_ret (v:=.agg #[.slice (some ⟨w.heap.size+1,0,none⟩) 2 2,.slice (some ⟨w7.heap.size,0,none⟩) 7 7]) (by simp [results,Tryz.results16,go_sem,hd0,hd1]) rfl ⟨_,[⟨zjQ [-3,2],.slice a1 2 c1,rfl⟩,⟨zjQ [-6,4],.slice a2 2 c2,rfl⟩,⟨zjQ [2,-1],.slice a3 2 c3,rfl⟩,⟨zjQ [-1,1],.slice a4 2 c4,rfl⟩,⟨zjQ [-4,3],.slice a5 2 c5,rfl⟩,⟨zjQ [-7,5],.slice a6 2 c6,rfl⟩,⟨zjQ [1,0],.slice a7 2 c7,rfl⟩],rfl,⟨_,_,rfl,hp5,hn5,by
  intro r hr;simp only [List.mem_cons,List.not_mem_nil,or_false] at hr;rcases hr with rfl | rfl | rfl | rfl | rfl | rfl | rfl
  ·exact hrp _ _ Hr1.out
  ·exact hrp _ _ Hr2.out
  ·exact hrp _ _ Hr3.out
  ·exact hrp _ _ Hr4.out
  ·exact hrp _ _ Hr5.out
  ·exact hrp _ _ Hr6.out
  ·exact hrp _ _ Hr7.out⟩,rfl,Hx5.out⟩
end
section
open Go.RowKit Go.Lib
def zpY (k:Int):List Rat:=[((-k:Int):Rat),(k:Rat)]
theorem zpZ : zjN (zjQ [-1,1]) (-1) 7=[zpY (-1),zpY 0,zpY 1,zpY 2,zpY 3,zpY 4,zpY 5]:=by decide +kernel
theorem zqa (k:Int):sF [2,3] (zpY k)=((k * 39256168:Int):Rat):=by
 unfold zpY;simp only [sF,lgs.1,lgs.2.1];rw [Rat.intCast_mul,Rat.intCast_neg];have h1:((106365032:Int):Rat)=((67108864:Int):Rat)+((39256168:Int):Rat):=by rw [← Rat.intCast_add];rfl
 rw [h1];grind
theorem zqb (k l:Int):zeT (zpY k) (zpY l)=zpY (k - l):=by
 unfold zpY zeT;simp only [List.zipWith_cons_cons,List.zipWith_nil_left];rw [← Rat.intCast_sub,← Rat.intCast_sub,show -k - -l=-(k - l) by omega]
theorem zqc {k:Int}(h0:-100≤k)(h1:k≤100):Bx 256 (zpY k) :=
 ⟨-k,2 * k,rfl,by rw [Rat.intCast_mul,show ((2:Int):Rat)=2 from rfl];grind,by omega,by omega⟩
theorem zqd (l:List (List Rat))(h:∀ x∈l,∃ k:Int,-10≤k∧k≤10∧x=zpY k):Lw [2,3] 10 l:=by
 have hz:zer [(2:Int),3].length=zpY 0:=by decide +kernel
 have h2:∀ x∈zer [(2:Int),3].length::l,∃ k:Int,-10≤k∧k≤10∧x=zpY k:=fun x hx=>by
  rcases List.mem_cons.1 hx with e | e
  ·exact ⟨0,by omega,by omega,by rw [e,hz]⟩
  ·exact h x e
 refine ⟨.inl ⟨rfl,rfl⟩,fun x hx=>?_,by omega,by omega,fun x hx=>?_,0,fun x hx y hy=>?_⟩
 ·obtain ⟨k,_,_,rfl⟩:=h x hx;rfl
 ·obtain ⟨k,k0,k1,rfl⟩:=h x hx;rw [zqa,← Rat.intCast_neg];exact ⟨Rat.intCast_le_intCast.2 (by omega),Rat.intCast_le_intCast.2 (by omega)⟩
 ·obtain ⟨k,k0,k1,rfl⟩:=h2 x hx;obtain ⟨j,j0,j1,rfl⟩:=h2 y hy;rw [zqb];exact .inl ⟨rfl,zqc (by omega) (by omega)⟩
theorem zqe : Lw [2,3] 10 (zjN (zjQ [-1,1]) (-1) 7):=by
 rw [zpZ];refine zqd _ fun x hx=>?_;simp only [List.mem_cons,List.not_mem_nil,or_false] at hx;rcases hx with rfl | rfl | rfl | rfl | rfl | rfl | rfl
 ·exact ⟨-1,by omega,by omega,rfl⟩
 ·exact ⟨0,by omega,by omega,rfl⟩
 ·exact ⟨1,by omega,by omega,rfl⟩
 ·exact ⟨2,by omega,by omega,rfl⟩
 ·exact ⟨3,by omega,by omega,rfl⟩
 ·exact ⟨4,by omega,by omega,rfl⟩
 ·exact ⟨5,by omega,by omega,rfl⟩
theorem zqf : zjq [2,3] [] (zjN (zjQ [-1,1]) (-1) 7)=[zjQ [2,-1],zjQ [-1,1],zjQ [-3,2],zjQ [-4,3],zjQ [-6,4],zjQ [-7,5]]:=by decide +kernel
theorem zqg : zjz [2,3] (zjN (zjQ [-1,1]) (-1) 7) zpW:=by
 have h:=zj5 (N:=[zjQ [-3,2],zjQ [-6,4],zjQ [2,-1],zjQ [-1,1],zjQ [-4,3],zjQ [-7,5]]) zqe (by rw [zqf];decide +kernel) (by decide +kernel);have e:zpW=[zjQ [-3,2],zjQ [-6,4],zjQ [2,-1],zjQ [-1,1],zjQ [-4,3],zjQ [-7,5]]++[ov ([(2:Int),3].length - 1)]:=by decide +kernel
 rw [e];exact h
theorem zqh : Wd [2,3] zpW:=zj4 zqe zqg (by rw [zjP];omega)
theorem zqi : flP [2,3] (zjQ [0,-1])=-2:=by decide +kernel
theorem zqj : rst [2,3] (zjQ [0,-1])=zjQ [2,-1]:=by decide +kernel
theorem zqk : zeT (zjQ [2,-1]) (zjQ [-6,4])=zjQ [8,-5]:=by decide +kernel
theorem zql : Lw [2,3] 10 [zjQ [0,-1]]:=by
 have e:zjQ [0,-1]=[((0:Int):Rat),((-1:Int):Rat)]:=rfl;refine ⟨.inl ⟨rfl,rfl⟩,fun x hx=>?_,by omega,by omega,fun x hx=>?_,0,fun x hx y hy=>?_⟩
 ·rw [List.mem_singleton] at hx;subst hx;rfl
 ·rw [List.mem_singleton] at hx;subst hx;decide +kernel
 ·have hb:∀ z∈zer [(2:Int),3].length::[zjQ [0,-1]],∃ k:Int,-1≤k∧k≤0∧z=[((0:Int):Rat),(k:Rat)]:=fun z hz=>by
   rcases List.mem_cons.1 hz with e | e
   ·exact ⟨0,by omega,by omega,by rw [e];rfl⟩
   ·rw [List.mem_singleton] at e;exact ⟨-1,by omega,by omega,by rw [e];rfl⟩
  obtain ⟨k,k0,k1,rfl⟩:=hb x hx;obtain ⟨j,j0,j1,rfl⟩:=hb y hy;refine .inl ⟨rfl,0,2 * (k - j),?_,?_,by omega,by omega⟩
  ·show ((0:Int):Rat) - ((0:Int):Rat)=_;grind
  ·show ((k:Rat) - (j:Rat)) * 2=_;rw [Rat.intCast_mul,Rat.intCast_sub,show ((2:Int):Rat)=2 from rfl];grind
theorem Wd.step_ft {p:List Int}{rs:List Qw}(h:Wd p (rs.map Qw.x)):∀ k,k<rs.length→∀ q∈stQ p.length rs k,Ft 30 q:=by
 intro k hk;have hl:(rs.map Qw.x).length=rs.length:=List.length_map ..;have hf:=h.few;have e:stQ p.length rs k=zeT (nt p (rs.map Qw.x) ((k+1:Nat):Int)) (nt p (rs.map Qw.x) (k:Int)):=by
  rw [h.nt_low (by omega),h.nt_low (by omega)];unfold stQ zat ziI;rw [List.getElem?_cons_succ,List.getElem?_map]
  cases k with
  | zero=>rfl
  | succ j=>rw [if_neg (by omega),List.getElem?_cons_succ,List.getElem?_map,Nat.add_sub_cancel]
 rw [e];exact (h.nt_sub_quick _ _ (by omega) (by omega) (by omega) (by omega)).1
end
section
open Go.RowKit Go.Lib Go.Shelf
attribute [local go_sem] Oper.semAt_some
theorem zqm {w:World}{v:Value}{p:List Int}{rs:List Qw}(h:ScV w v p rs):∃ a c b d,v=.agg #[.slice a p.length c,.slice b rs.length d]∧ScV w (.agg #[.slice a p.length c,.slice b rs.length d]) p rs:=by
 obtain ⟨vp,vn,rfl,hp,hn⟩:=h;obtain ⟨a,c,rfl,_,_,_⟩:=hp.parts;obtain ⟨b,d,rfl,_,_,_⟩:=hn.1.parts;rw [zam] at *;rw [zf7] at *;exact ⟨a,c,b,d,rfl,_,_,rfl,hp,hn⟩
theorem zqn (va vb:Value)(p q:List Int)(w:World)(ha:Sl w va (zak p))(hb:Sl w vb (zak q))(hp:p.length≤1000)(hq:q.length≤1000) :
  Calls Tryz.prog 35 #[va,vb] w fun e w'=>e=.returned (.bool (decide (p=q)))∧Ext w w':=by
 obtain ⟨aa,ca,rfl,_,_,hca⟩:=ha.parts;obtain ⟨ab,cb,rfl,_,_,hcb⟩:=hb.parts;rw [zam] at *;rw [zam] at *;have h1:∀ k x,p[k]?=some x→∃ b off,aa=some ⟨b,off,none⟩∧w.cell? ⟨b,off+k,none⟩=some (.int .i64 x):=fun k x h=>hca k _ (by unfold zak;rw [List.getElem?_map,h];rfl);have h2:∀ k x,q[k]?=some x→∃ b off,ab=some ⟨b,off,none⟩∧w.cell? ⟨b,off+k,none⟩=some (.int .i64 x):=fun k x h=>hcb k _ (by unfold zak;rw [List.getElem?_map,h];rfl);clear hca hcb ha hb;by_cases hl:p.length=q.length
 ·have Hl:=hid hl;rw [← hl];have hfin:(∀ i,i<p.length→p[i]?=q[i]?)→decide (p=q)=true:=fun h=>by
   rw [decide_eq_true_eq];apply List.ext_getElem?;intro i;rcases Nat.lt_or_ge i p.length with g | g
   ·exact h i g
   ·rw [List.getElem?_eq_none g,List.getElem?_eq_none (by omega)]
  have hbad:∀ (i:Nat)(x y:Int),p[i]?=some x→q[i]?=some y→x ≠ y→decide (p=q)=false:=fun i x y h1 h2 h3=>by
   rw [decide_eq_false_iff_not];rintro rfl;rw [h1] at h2;exact h3 (Option.some.inj h2)
  generalize hn:p.length=n at *;clear hl hq;have H1:=hid h1;have H2:=hid h2;have Hfin:=hid hfin;have Hbad:=hid hbad;have Hn:=hid hn;clear h1 h2 hfin hbad hn;go_enter Tryz.func35,Tryz.ntmps35
  go_wp2_with fail
  go_loopw [5,13] (fun v5 v13 wr=>∃ k:Nat,v13=.int .i64 k∧k≤n∧Hid (∀ i,i<k→p[i]?=q[i]?)∧Hid (Ext w wr)) (fun _ v13 _=>n - (zag v13).toNat)
  case atStart=>exact ⟨0,rfl,Nat.zero_le _,hid (fun i h=>by omega),hid (Ext.refl _)⟩
  case round =>
   obtain ⟨k,rfl,hk,Hall,HE⟩:=hrel;by_cases hkn:k<n
   ·obtain ⟨x,hx⟩:∃ x,p[k]?=some x:=⟨_,List.getElem?_eq_getElem (by rw [Hn.out];exact hkn)⟩;obtain ⟨y,hy⟩:∃ y,q[k]?=some y:=⟨_,List.getElem?_eq_getElem (by rw [← Hl.out];exact hkn)⟩;obtain ⟨ba,oa,rfl,c0⟩:=H1.out k x hx;obtain ⟨bb,ob,rfl,c1⟩:=H2.out k y hy;have c0:=HE.out.cell c0;have c1:=HE.out.cell c1;have hk0:(0:Int)≤(k:Int):=(by omega);have hk1:(k:Int)<(n:Int):=(by omega);by_cases hxy:x=y
    ·subst hxy;have Hnx:Hid (∀ i,i<k+1→p[i]?=q[i]?):=hid (fun i hi=>by
      rcases Nat.lt_or_ge i k with g | g
      ·exact Hall.out i g
      ·rw [show i=k by omega,hx,hy])
     clear hx hy;go_wp2_with fail
     go_quiet (fail)
     go_wp2_with fail
     go_roundw
     case rel=>exact ⟨k+1,by go_num,by omega,Hnx,hid (HE.out.drewN _)⟩
     case measure=>simp [zag];omega
    ·have hb1:=Hbad.out k x y hx hy hxy;have hxb:(x == y)=false:=beq_eq_false_iff_ne.2 hxy;have Hb1:=hid hb1;clear hb1 hx hy;go_wp2_with fail
     go_quiet (fail)
     go_wp2
     go_ret
     exact ⟨by rw [Hb1.out];rfl,HE.out.drewN _⟩
   ·obtain rfl:n=k:=by omega
    have Hf:=hid (Hfin.out Hall.out);go_wp2
    go_ret
    exact ⟨by rw [Hf.out];rfl,HE.out⟩
 ·have hne:decide (p=q)=false:=by
   rw [decide_eq_false_iff_not];rintro rfl;exact hl rfl
  rw [hne];have hl2:¬ (p.length:Int)=(q.length:Int):=by omega
  clear h1 h2 hne;generalize p.length=n at *;generalize q.length=m at *;go_enter Tryz.func35,Tryz.ntmps35
  go_wp2
  go_ret
  exact ⟨rfl,Ext.refl _⟩
theorem zqo (va vb:Value)(rs ts:List Qw)(w:World)(ha:RdM w va rs)(hb:RdM w vb ts)(hr:rs.length≤1000)(_ht:ts.length≤1000)(hr2:∀ r∈rs,r.x.length≤1000)(ht2:∀ r∈ts,r.x.length≤1000) :
  Calls Tryz.prog 36 #[va,vb,.func (.func 17) #[] #[]] w fun e w'=>e=.returned (.bool (decide (rs.map Qw.x=ts.map Qw.x)))∧Ext w w':=by
 have heq:=fun (r s:Qw)(h:r∈rs)(k:s∈ts) W (hE:Ext w W)=>zj8 r.u s.u r.x s.x W (hE.rd (ha.2 r h)) (hE.rd (hb.2 s k)) (hr2 r h) (ht2 s k);obtain ⟨aa,ca,rfl,_,_,hca⟩:=ha.1.parts;obtain ⟨ab,cb,rfl,_,_,hcb⟩:=hb.1.parts;rw [zf7] at *;rw [zf7] at *;have h1:∀ k r,rs[k]?=some r→∃ b off,aa=some ⟨b,off,none⟩∧w.cell? ⟨b,off+k,none⟩=some r.u:=fun k x h=>hca k _ (by unfold qwc;rw [List.getElem?_map,h];rfl);have h2:∀ k r,ts[k]?=some r→∃ b off,ab=some ⟨b,off,none⟩∧w.cell? ⟨b,off+k,none⟩=some r.u:=fun k x h=>hcb k _ (by unfold qwc;rw [List.getElem?_map,h];rfl);clear hca hcb ha hb hr2 ht2;by_cases hl:rs.length=ts.length
 ·have Hl:=hid hl;rw [← hl];have hfin:(∀ i,i<rs.length→(rs.map Qw.x)[i]?=(ts.map Qw.x)[i]?)→decide (rs.map Qw.x=ts.map Qw.x)=true:=fun h=>by
   rw [decide_eq_true_eq];apply List.ext_getElem?;intro i;rcases Nat.lt_or_ge i rs.length with g | g
   ·exact h i g
   ·rw [List.getElem?_eq_none (by rw [List.length_map];exact g),List.getElem?_eq_none (by rw [List.length_map];omega)]
  have hbad:∀ (i:Nat)(r s:Qw),rs[i]?=some r→ts[i]?=some s→r.x ≠ s.x→decide (rs.map Qw.x=ts.map Qw.x)=false:=fun i r s h1 h2 h3=>by
   rw [decide_eq_false_iff_not];intro e;have:=congrArg (fun l=>l[i]?) e;simp only [List.getElem?_map,h1,h2,Option.map_some,Option.some.injEq] at this;exact h3 this
  generalize hn:rs.length=n at *;clear hl _ht;have H1:=hid h1;have H2:=hid h2;have Hfin:=hid hfin;have Hbad:=hid hbad;have Hn:=hid hn;have Heq:=hid heq;clear h1 h2 hfin hbad hn heq;go_enter Tryz.func36,Tryz.ntmps36
  go_wp2_with fail
  go_loopw [7,8,9,17] (fun v7 v8 v9 v17 wr=>∃ k:Nat,v17=.int .i64 k∧k≤n∧Hid (∀ i,i<k→(rs.map Qw.x)[i]?=(ts.map Qw.x)[i]?)∧Hid (Ext w wr)) (fun _ _ _ v17 _=>n - (zag v17).toNat)
  case atStart=>exact ⟨0,rfl,Nat.zero_le _,hid (fun i h=>by omega),hid (Ext.refl _)⟩
  case round =>
   obtain ⟨k,rfl,hk,Hall,HE⟩:=hrel;by_cases hkn:k<n
   ·obtain ⟨r,hx⟩:∃ x,rs[k]?=some x:=⟨_,List.getElem?_eq_getElem (by rw [Hn.out];exact hkn)⟩;obtain ⟨s,hy⟩:∃ y,ts[k]?=some y:=⟨_,List.getElem?_eq_getElem (by rw [← Hl.out];exact hkn)⟩;obtain ⟨ba,oa,rfl,c0⟩:=H1.out k r hx;obtain ⟨bb,ob,rfl,c1⟩:=H2.out k s hy;have c0:=HE.out.cell c0;have c1:=HE.out.cell c1;have hk0:(0:Int)≤(k:Int):=(by omega);have hk1:(k:Int)<(n:Int):=(by omega);have hq:=Heq.out r s (List.mem_of_getElem? hx) (List.mem_of_getElem? hy) wr HE.out;by_cases hxy:r.x=s.x
    ·have Hnx:Hid (∀ i,i<k+1→(rs.map Qw.x)[i]?=(ts.map Qw.x)[i]?):=hid (fun i hi=>by
      rcases Nat.lt_or_ge i k with g | g
      ·exact Hall.out i g
      ·rw [show i=k by omega,List.getElem?_map,List.getElem?_map,hx,hy,Option.map_some,Option.map_some,hxy])
     rw [decide_eq_true hxy] at hq;have Hq:=hid hq;clear hx hy hq hxy;generalize r.u=ur at *;generalize s.u=us at *;go_wp2_with fail
     refine Hq.out.mono ?_;rintro e w2 ⟨rfl,hx2⟩;have HE2:=hid (HE.out.trans hx2);clear hx2;go_wp2_with fail
     go_roundw
     case rel=>exact ⟨k+1,by go_num,by omega,Hnx,HE2⟩
     case measure=>simp [zag];omega
    ·have hb1:=Hbad.out k r s hx hy hxy;rw [decide_eq_false hxy] at hq;have Hb1:=hid hb1;have Hq:=hid hq;clear hb1 hx hy hq hxy;generalize r.u=ur at *;generalize s.u=us at *;go_wp2_with fail
     refine Hq.out.mono ?_;rintro e w2 ⟨rfl,hx2⟩;have HE2:=hid (HE.out.trans hx2);clear hx2;go_wp2
     go_ret
     exact ⟨by rw [Hb1.out];rfl,HE2.out⟩
   ·obtain rfl:n=k:=by omega
    have Hf:=hid (Hfin.out Hall.out);go_wp2
    go_ret
    exact ⟨by rw [Hf.out];rfl,HE.out⟩
 ·have hne:decide (rs.map Qw.x=ts.map Qw.x)=false:=by
   rw [decide_eq_false_iff_not];intro e;have:=congrArg List.length e;rw [List.length_map,List.length_map] at this;exact hl this
  rw [hne];have hl2:¬ (rs.length:Int)=(ts.length:Int):=by omega
  clear h1 h2 hne heq;generalize rs.length=n at *;generalize ts.length=m at *;go_enter Tryz.func36,Tryz.ntmps36
  go_wp2
  go_ret
  exact ⟨rfl,Ext.refl _⟩
theorem zqp (v1 v2:Value)(p q:List Int)(rs ts:List Qw)(w:World)(h1:ScV w v1 p rs)(h2:ScV w v2 q ts)(hp:p.length≤1000)(hq:q.length≤1000)(hr:rs.length≤1000)(ht:ts.length≤1000)(hr2:∀ r∈rs,r.x.length≤1000)(ht2:∀ r∈ts,r.x.length≤1000) :
  Calls Tryz.prog 12 #[v1,v2] w fun e w'=>e=.returned (.bool (decide (p=q) && decide (rs.map Qw.x=ts.map Qw.x)))∧Ext w w':=by
 obtain ⟨vp,vn,rfl,hp1,hn1⟩:=h1;obtain ⟨vq,vm,rfl,hq1,hm1⟩:=h2;have he1:=fun W (hE:Ext w W)=>zqn vp vq p q W (hE.sl hp1) (hE.sl hq1) hp hq;have he2:=fun W (hE:Ext w W)=>zqo vn vm rs ts W (hE.rdM hn1) (hE.rdM hm1) hr ht hr2 ht2;obtain ⟨ap,cp,rfl,_,_,_⟩:=hp1.parts;obtain ⟨aq,cq,rfl,_,_,_⟩:=hq1.parts;obtain ⟨an,cn,rfl,_,_,_⟩:=hn1.1.parts;obtain ⟨am,cm,rfl,_,_,_⟩:=hm1.1.parts;generalize (zak p).length=lp at *;generalize (zak q).length=lq at *;generalize (qwc rs).length=ln at *;generalize (qwc ts).length=lm at *;generalize decide (p=q)=b1 at *;generalize decide (rs.map Qw.x=ts.map Qw.x)=b2 at *;have hE0:Ext w ((w.alloc (.cells #[.slice ap lp cp,.slice an ln cn] 36)).alloc (.cells #[.slice aq lq cq,.slice am lm cm] 36)):=((Ext.refl w).alloc _).alloc _;have k1:=(zdV.new 36 w (.slice ap lp cp) (.slice an ln cn)).ext ((Ext.refl _).alloc (.cells #[.slice aq lq cq,.slice am lm cm] 36));have k2:=zdV.new 36 (w.alloc (.cells #[.slice ap lp cp,.slice an ln cn] 36)) (.slice aq lq cq) (.slice am lm cm);rw [World.size_alloc] at k2;have q0:=k1.c0;have q2:=k2.c0;have He1:=hid he1;have He2:=hid he2;have HE0:=hid hE0;have K1:=hid k1;have K2':=hid k2;clear hp1 hq1 hn1 hm1 he1 he2 hE0 k1 k2 hr2 ht2
 cases b1
 ·go_enter Tryz.func12,Tryz.ntmps12
  go_wp2_with fail
  refine (He1.out _ HE0.out).mono ?_;rintro e w1 ⟨rfl,hx1⟩;have Hx1:=hid (HE0.out.trans hx1);clear hx1;go_wp2
  go_ret
  exact ⟨rfl,Hx1.out⟩
 ·go_enter Tryz.func12,Tryz.ntmps12
  go_wp2_with fail
  refine (He1.out _ HE0.out).mono ?_;rintro e w1 ⟨rfl,hx1⟩;have q1:=(K1.out.ext hx1).c1;have q3:=(K2'.out.ext hx1).c1;have Hx1:=hid (HE0.out.trans hx1);clear hx1 q0 q2;go_wp2_with fail
  refine (He2.out _ Hx1.out).mono ?_;rintro e w2 ⟨rfl,hx2⟩;have Hx2:=hid (Hx1.out.trans hx2);clear hx2 q1 q3;go_wp2
  go_ret
  exact ⟨rfl,Hx2.out⟩
theorem zqq {w:World}{v:Value}{x:List Rat}{n:Nat}(h:Rd w v x)(hn:x.length=n):∃ a c,v=.slice a n c∧Rd w (.slice a n c) x:=by
 obtain ⟨a,c,rfl,_,_,_⟩:=h.parts;rw [hn] at *;exact ⟨a,c,rfl,h⟩
theorem zqr (w:World)(hrv:zgJ w)(he:Env w) :
  Calls Tryz.prog 4 #[] w fun e w'=>e=.returned (.bool true)∧Ext w w':=by
 have hwh:=fun W v (l:List Int)(hE:Ext w W)(hv:Sl W v (zak l))(h9:l.length≤1000)(hl:∀ z∈l,z.natAbs<1000000000)=>zjT v l W (he.ext hE) hv h9 hl;have hw2:=fun W (a b:Int)(hE:Ext w W)(ha:a.natAbs<1000000000)(hb:b.natAbs<1000000000)=>hwh (W.alloc (.cells #[.int .i64 a,.int .i64 b] 3)) (.slice (some ⟨W.heap.size,0,none⟩) 2 2) [a,b] (hE.alloc _) (zhR (us:=[.int .i64 a,.int .i64 b]) (World.alloc_heap_new W _) (by unfold maxLen;simp)) (by simp) (fun z hz=>by
  simp only [List.mem_cons,List.not_mem_nil,or_false] at hz;rcases hz with rfl | rfl <;> assumption)
 have hch:=fun W vp vb vg (hE:Ext w W)(hp:Sl W vp (zak [2,3]))(hb:Rd W vb (zjQ [1,0]))(hg:Rd W vg (zjQ [-1,1]))=>zpS vp vb vg [2,3] 10 (zjQ [-1,1]) (-1) 6 W (hrv.ext hE) (he.ext hE) hp hb hg rfl (fun q hq=>(zqe.quick (zjQ [-1,1]) (by rw [zpZ];decide +kernel)).1 q hq) (by omega) (by omega) (by omega) (by omega) zqe;have hst:=fun W v rs (hE:Ext w W)(hv:ScV W v [2,3] rs)(hx:rs.map Qw.x=zpW)=>znN v [2,3] rs W (he.ext hE) hv (Wd.right (by rw [hx];exact zqh)) (by decide) (Wd.step_ft (by rw [hx];exact zqh));have hmj:=fun W (hE:Ext w W)=>zpX W (he.ext hE);have hre:=fun W v rs va (hE:Ext w W)(hv:ScV W v [2,3] rs)(hx:rs.map Qw.x=zpW)(ha:Rd W va (zjQ [0,-1]))=>(show Calls Tryz.prog 15 #[v,va] W fun e w'=>∃ g,e=.returned (.tuple #[.slice (some ⟨g,0,none⟩) 2 2,.string ⟨#[45,50]⟩,.int .i64 0])∧Rd w' (.slice (some ⟨g,0,none⟩) 2 2) (zjQ [2,-1])∧Ext W w' from by
  have hlen:rs.length=6+1:=by have:=congrArg List.length hx;rw [List.length_map] at this;exact this
  obtain ⟨r,hr⟩:∃ r,rs[6]?=some r:=⟨_,List.getElem?_eq_getElem (by omega)⟩;have hro:r.x=ov 1:=by
   have:=congrArg (fun l=>l[6]?) hx;simp only [List.getElem?_map,hr,Option.map_some] at this;exact (Option.some.inj this).trans (by decide +kernel)
  have hred:=zql.red (x:=zjQ [0,-1]) (by simp);obtain ⟨a,tl,e,hk⟩:=hred;have e2:a=((0:Int):Rat)∧tl=[((-1:Int):Rat)]:=by
   have:zjQ [0,-1]=((0:Int):Rat)::[((-1:Int):Rat)]:=rfl;rw [this] at e;injection e with e3 e4;exact ⟨e3.symm,e4.symm⟩
  obtain ⟨rfl,rfl⟩:=e2;have:=ziM v va [2,3] rs 6 r ((0:Int):Rat) [((-1:Int):Rat)] W (he.ext hE) hv (Wd.right (by rw [hx];exact zqh)) hlen hr hro ha hk.pr hk.ft hk.qf hk.fk hk.fit (by rw [hk.eq];exact hk.res);rw [hk.eq,show flP [2,3] (((0:Int):Rat)::[((-1:Int):Rat)])=-2 from zqi,show rst [2,3] (((0:Int):Rat)::[((-1:Int):Rat)])=zjQ [2,-1] from zqj] at this;refine this.mono ?_;rintro e w' ⟨g,rfl,ho,hx⟩;exact ⟨g,by rw [show I (-2)=⟨#[45,50]⟩ from by decide +kernel];rfl,ho.rd,hx⟩)
 have Hw2:=hid hw2;have Hch:=hid hch;have Hst:=hid hst;have Hmj:=hid hmj;have Hre:=hid hre;clear hw2 hch hst hmj hre he;obtain ⟨W0,hW0⟩:∃ W0,W0=w.alloc (.cells #[.int .i64 2,.int .i64 3] 3):=⟨_,rfl⟩;have hpr:Sl W0 (.slice (some ⟨w.heap.size,0,none⟩) 2 2) (zak [2,3]):=by
  rw [hW0];exact zhR (us:=[.int .i64 2,.int .i64 3]) (World.alloc_heap_new w _) (by unfold maxLen;simp)
 have hx0:Ext w W0:=by rw [hW0];exact (Ext.refl w).alloc _
 have hsz0:W0.heap.size=w.heap.size+1:=by rw [hW0,World.size_alloc]
 have hc1:=Hw2.out W0 1 0 hx0 (by decide) (by decide);rw [hsz0] at hc1;have Hc1:=hid hc1;have Hpr:=hid hpr;have Hx0:=hid hx0;clear hc1 hpr hx0 hsz0;go_enter Tryz.func4,Tryz.ntmps4
 go_wp2_with fail
 rw [← hW0];clear hW0;refine Hc1.out.mono ?_;rintro e w1 ⟨u1,rfl,ho1,hx1⟩;obtain ⟨a1,c1,rfl,_,_,_⟩:=ho1.rd.parts;rw [show (zjQ [1,0]).length=2 from rfl] at *;have Hx1:=hid (Hx0.out.trans (((Ext.refl W0).alloc _).trans hx1));have Hr1:=hid ho1.rd;have Hpr:=hid ((((Ext.refl W0).alloc (.cells #[.int .i64 1,.int .i64 0] 3)).trans hx1).sl Hpr.out);clear ho1 hx1;go_wp2_with fail
 refine (Hw2.out w1 (-1) 1 Hx1.out (by decide) (by decide)).mono ?_;rintro e w2 ⟨u2,rfl,ho2,hx2⟩;obtain ⟨a2,c2,rfl,_,_,_⟩:=ho2.rd.parts;rw [show (zjQ [-1,1]).length=2 from rfl] at *;have hy2:=((Ext.refl w1).alloc (.cells #[.int .i64 (-1),.int .i64 1] 3)).trans hx2;have hch2:=Hch.out w2 (.slice (some ⟨w.heap.size,0,none⟩) 2 2) (.slice a1 2 c1) (.slice a2 2 c2) (Hx1.out.trans hy2) (hy2.sl Hpr.out) (hy2.rd Hr1.out) ho2.rd;rw [show (-1:Int)+((6:Nat):Int)=5 from rfl] at hch2;have Hx2:=hid (Hx1.out.trans hy2);have Hch2:=hid hch2;clear ho2 hx2 hy2 hch2;go_wp2_with fail
 refine Hch2.out.mono ?_;rintro e w3 ⟨v3,out3,rfl,hs3,hc3,hx3⟩;have hm3:=zj0 hc3 zqg;obtain ⟨vp3,vn3,rfl,hop3,hqn3⟩:=hs3;obtain ⟨a3,c3,rfl⟩:=zel hop3;obtain ⟨a4,c4,rfl⟩:=zel hqn3.1;have hl3:out3.length=7:=by have:=congrArg List.length hm3;rw [List.length_map] at this;exact this
 have hsv3:ScV w3 (.agg #[.slice a3 2 c3,.slice a4 7 c4]) [2,3] out3:=by
  refine ⟨_,_,rfl,zai hop3,?_⟩;have:=hqn3.rd;rw [hl3] at this;exact this
 rw [hl3] at hqn3 ⊢;have hb3:=zdV.new 36 w3 (.slice a3 2 c3) (.slice a4 7 c4);have hE3:Ext w3 (w3.alloc (.cells #[.slice a3 2 c3,.slice a4 7 c4] 36)):=(Ext.refl w3).alloc _;have hst3:=Hst.out _ _ out3 ((Hx2.out.trans hx3).trans hE3) (hsv3.ext hE3) hm3;rw [hl3] at hst3;have Hx3:=hid ((Hx2.out.trans hx3).trans hE3);have Hsv3:=hid (hsv3.ext hE3);have Hm3:=hid hm3;have Hb3:=hid hb3;have Hst3:=hid hst3;clear hx3 hsv3 hm3 hb3 hE3 hst3 hc3 hop3 hqn3 hl3;go_wp2_with fail
 refine Hst3.out.mono ?_;rintro e w5 ⟨u5,rfl,⟨out5,hq5,hm5,hl5,hx5⟩⟩;obtain ⟨a5,c5,rfl⟩:=zel hq5.1;have hr5:=hq5.rd;rw [hl5] at hr5 ⊢;have hb5:=Hb3.out.ext hx5;have Hx5:=hid (Hx3.out.trans hx5);have Hsv5:=hid (Hsv3.out.ext hx5);have Hb5:=hid hb5;have Hr5:=hid hr5;have Hm5:=hid hm5;have Hl5:=hid hl5;clear hq5 hm5 hl5 hx5 hr5 hb5;go_wp2_with fail
 refine (Hmj.out w5 Hx5.out).mono ?_;rintro e w6 ⟨v6,rs6,rfl,hs6,hm6,hx6⟩;obtain ⟨vp6,vn6,rfl,hp6,hn6⟩:=hs6;obtain ⟨a6,c6,rfl,_,_,_⟩:=hp6.parts;obtain ⟨a7,c7,rfl,_,_,_⟩:=hn6.1.parts;have hl6:rs6.length=7:=by have:=congrArg List.length hm6;rw [List.length_map] at this;exact this
 have hq6:(qwc rs6).length=7:=by rw [zf7];exact hl6
 rw [hq6] at hn6 ⊢;rw [show (zak [2,3]).length=2 from rfl] at hp6 ⊢;clear hq6;have hsv6:ScV w6 (.agg #[.slice a6 2 c6,.slice a7 7 c7]) [2,3] rs6:=⟨_,_,rfl,hp6,hn6⟩;have Hx6:=hid (Hx5.out.trans hx6);have Hsv6:=hid hsv6;have Hm6:=hid hm6;have Hy6:=hid hx6;clear hp6 hn6 hl6 hsv6 hm6 hx6;go_wp2_with fail
 refine (Hw2.out w6 0 (-1) Hx6.out (by decide) (by decide)).mono ?_;rintro e w7 ⟨u7,rfl,ho7,hx7⟩;obtain ⟨a8,c8,rfl,_,_,_⟩:=ho7.rd.parts;rw [show (zjQ [0,-1]).length=2 from rfl] at *;have hy7:=((Ext.refl w6).alloc (.cells #[.int .i64 0,.int .i64 (-1)] 3)).trans hx7;have hre7:=Hre.out w7 _ rs6 (.slice a8 2 c8) (Hx6.out.trans hy7) (Hsv6.out.ext hy7) Hm6.out ho7.rd;have Hx7:=hid (Hx6.out.trans hy7);have Hre7:=hid hre7;have Hy7:=hid (Hy6.out.trans hy7);clear ho7 hx7 hy7 hre7;go_wp2_with fail
 refine Hre7.out.mono ?_;rintro e w9 ⟨g9,rfl,hr9,hx9⟩;have hy9:=Hy7.out.trans hx9;have hb9:=Hb5.out.ext hy9;have hrm9:=hy9.rdM Hr5.out;obtain ⟨s,hs⟩:∃ s,out5[2]?=some s:=⟨_,List.getElem?_eq_getElem (by rw [Hl5.out];omega)⟩;have hsx:s.x=zjQ [8,-5]:=by
  have h1:=congrArg (fun l=>l[2]?) Hm5.out;simp only [List.getElem?_map,hs,Option.map_some] at h1;have h2:(znK 2 out3 7)[2]?=some (stQ 2 out3 2):=rfl;have h3:stQ 2 out3 2=zjQ [8,-5]:=by
   have e2:=congrArg (fun l=>l[2]?) Hm3.out;have e1:=congrArg (fun l=>l[1]?) Hm3.out;simp only [List.getElem?_map] at e1 e2;unfold stQ ziI;rw [if_neg (by omega),e2];show zeT _ ((Option.map Qw.x out3[1]?).getD [])=_;rw [e1];exact zqk
  rw [← h3];exact Option.some.inj (h1.trans h2)
 have hrs:=hrm9.2 s (List.mem_of_getElem? hs);rw [hsx] at hrs;obtain ⟨ae,ce,hsu,_,_,_⟩:=hrs.parts;rw [show (zjQ [8,-5]).length=2 from rfl] at hsu;obtain ⟨_,_,e1,_,_,hcl⟩:=hrm9.1.parts;injection e1 with e1 e2 e3;subst e1;clear e2 e3;obtain ⟨be,oe,rfl,hce⟩:=hcl 2 s.u (by unfold qwc;rw [List.getElem?_map,hs];rfl);rw [hsu] at hrs hce;have q0:=hb9.c0;have q1:=hb9.c1;have hsv9:=Hsv5.out.ext hy9;have hsame:=fun W v rs (hE:Ext w9 W)(hv:ScV W v [2,3] rs)(hm:rs.map Qw.x=zpW)=>(show Calls Tryz.prog 12 #[.agg #[.slice a3 2 c3,.slice a4 7 c4],v] W fun e w'=>e=.returned (.bool true)∧Ext W w' from by
  have hlm:∀ ts:List Qw,ts.map Qw.x=zpW→ts.length=7∧∀ r∈ts,r.x.length≤1000:=fun ts h=>by
   refine ⟨by have:=congrArg List.length h;rw [List.length_map] at this;exact this,fun r hr=>?_⟩;have:=List.mem_map_of_mem (f:=Qw.x) hr;rw [h] at this;have:=zqh.len _ this;rw [this];decide
  have h1:=hlm out3 Hm3.out;have h2:=hlm rs hm;have:=zqp (.agg #[.slice a3 2 c3,.slice a4 7 c4]) v [2,3] [2,3] out3 rs W (hsv9.ext hE) hv (by decide) (by decide) (by omega) (by omega) h1.2 h2.2;rw [decide_eq_true rfl,decide_eq_true (Hm3.out.trans hm.symm)] at this;exact this)
 have heq1:=fun W vb (hE:Ext w9 W)(hb:Rd W vb (zjQ [8,-5]))=>(show Calls Tryz.prog 17 #[.slice ae 2 ce,vb] W fun e w'=>e=.returned (.bool true)∧Ext W w' from by
  have:=zj8 (.slice ae 2 ce) vb (zjQ [8,-5]) (zjQ [8,-5]) W (hE.rd hrs) hb (by decide) (by decide);rwa [decide_eq_true rfl] at this)
 have heq2:=fun W vb (hE:Ext w9 W)(hb:Rd W vb (zjQ [2,-1]))=>(show Calls Tryz.prog 17 #[.slice (some ⟨g9,0,none⟩) 2 2,vb] W fun e w'=>e=.returned (.bool true)∧Ext W w' from by
  have:=zj8 (.slice (some ⟨g9,0,none⟩) 2 2) vb (zjQ [2,-1]) (zjQ [2,-1]) W (hE.rd hr9) hb (by decide) (by decide);rwa [decide_eq_true rfl] at this)
 have hS:=fun W (h:Ext w9 W)=>(⟨h,h.cell q0,h.cell q1,h.cell hce⟩:Ext w9 W∧W.cell? _=_∧W.cell? _=_∧W.cell? _=_);have Hx9:=hid (Hx7.out.trans hx9);have Hsame:=hid hsame;have Heq1:=hid heq1;have Heq2:=hid heq2;have HS:=hid hS;have Hwh:=hid hwh;clear hx9 hy9 hb9 hrm9 hs hsx hrs hsu hcl hsv9 hsame heq1 heq2 hS hr9 hwh;go_wp2_with fail
 have H0:Hid (Ext w9 w9):=hid (Ext.refl w9);go_region_held3 (fun w'=>Ext w9 w'∧w'.cell? ⟨w3.heap.size,0,none⟩=some (.slice a3 2 c3)∧w'.cell? ⟨w3.heap.size,1,none⟩=some (.slice a4 7 c4)∧w'.cell? ⟨be,oe+2,none⟩=some (.slice ae 2 ce))
  (first | with_reducible exact HS.out _ HF.out | with_reducible exact HS.out _ HE'.out | with_reducible exact HS.out _ (HD.out.alloc _) | with_reducible exact HS.out _ HD.out | with_reducible exact HS.out _ HC.out | with_reducible exact HS.out _ (HB.out.alloc _) | with_reducible exact HS.out _ HB.out | with_reducible exact HS.out _ HA.out | with_reducible exact HS.out _ (H0.out.drew))
  (first
   | (have hpv:=HE';clear hpv;go_at_call 17;refine (Heq2.out _ _ HE'.out HrE.out).mono ?_;rintro e9 VF ⟨rfl,hxf⟩;have HF:=hid (HE'.out.trans hxf);clear hxf)
   | (have hpv:=HD;clear hpv;go_at_call 13;refine (Hw2.out VD 2 (-1) (Hx9.out.trans HD.out) (by decide) (by decide)).mono ?_;rintro e9 VE ⟨uE,rfl,hoE,hxe⟩;obtain ⟨aE,cE,rfl,hrE⟩:=zqq hoE.rd rfl;have HE':=hid ((HD.out.alloc _).trans hxe);have HrE:=hid hrE;clear hxe hoE hrE)
   | (have hpv:=HC;clear hpv;go_at_call 17;refine (Heq1.out _ _ HC.out HrC.out).mono ?_;rintro e9 VD ⟨rfl,hxd⟩;have HD:=hid (HC.out.trans hxd);clear hxd)
   | (have hpv:=HB;clear hpv;go_at_call 13;refine (Hw2.out VB 8 (-5) (Hx9.out.trans HB.out) (by decide) (by decide)).mono ?_;rintro e9 VC ⟨uC,rfl,hoC,hxc⟩;obtain ⟨aC,cC,rfl,hrC⟩:=zqq hoC.rd rfl;have HC:=hid ((HB.out.alloc _).trans hxc);have HrC:=hid hrC;clear hxc hoC hrC)
   | (have hpv:=HA;clear hpv;go_at_call 12;refine (Hsame.out _ _ rsA HA.out HsA.out HmA.out).mono ?_;rintro e9 VB ⟨rfl,hxb⟩;have HB:=hid (HA.out.trans hxb);clear hxb)
   | (go_at_call 16;refine (Hmj.out _ Hx9.out.drew).mono ?_;rintro e9 VA ⟨vA,rsA,rfl,hsA,hmA,hxa⟩;obtain ⟨b7,b8,b9,b10,rfl,hsA⟩:=zqm hsA;have HA:=hid (H0.out.drew.trans hxa);have HsA:=hid hsA;have HmA:=hid hmA;clear hxa hsA hmA))
 all_goals
  go_wp2
  go_ret
  exact ⟨rfl,Hx9.out.trans HF.out⟩
theorem zqs (vg:Value)(g:List Rat)(a:Int)(n:Nat)(w:World)(he:Env w)(hg:Rd w vg g)(hgl:g.length≤1000)(hgs:∀ q∈g,Sn q)(ha0:-1000≤a)(ha1:a+(n:Int)≤1001) :
  Calls Tryz.prog 11 #[vg,.int .i64 a,.int .i64 (a+(n:Int) - 1)] w fun e w'=>∃ u rs,e=.returned u∧QwM w' w.heap.size w.heap.size u rs∧rs.map Qw.x=zjN g a n∧Ext w w':=by
 obtain ⟨j0,hj,hy0,hy1,hy2⟩:=info_parts zf6;have hof:=fun (z:Int)(h0:-1000≤z)(h1:z≤1000) W (hE:Ext w W)=>zgC z 1 W (he.ext hE) (by omega) (by decide) (by decide);have hti:=fun (z:Int)(h0:-1000≤z)(h1:z≤1000) W (hE:Ext w W)=>zpP vg g (z:Rat) W (he.ext hE) (hE.rd hg) hgl hgs (zjX (by omega));have hnl:=zjP g a;obtain ⟨ag,cg,rfl,_,_,_⟩:=hg.parts;generalize htz:a+(n:Int) - 1=tz at *;have Hof:=hid hof;have Hti:=hid hti;have Hnl:=hid hnl;have Htz:=hid htz;clear hg he hof hti hgs hnl htz;go_enter Tryz.func11,Tryz.ntmps11
 go_wp2_with fail
 go_loopw [7,8] (fun v7 v8 wr=>∃ (k:Nat)(z:Int),v8=.int .i64 z∧z=a+(k:Int)∧k≤n∧QsR w (zjN g a k) v7 wr) (fun _ v8 _=>(tz+1 - zag v8).toNat)
 case atStart=>exact ⟨0,a,rfl,by omega,Nat.zero_le _,[],QwM.nil _ _ _,rfl,Ext.refl _⟩
 case round =>
  obtain ⟨k,z,rfl,hz,hk,⟨out,hq,hm,hE⟩⟩:=hrel;have htz:=Htz.out;have hol:out.length=k:=by
   have:=congrArg List.length hm;rwa [List.length_map,Hnl.out] at this
  obtain ⟨a6,c6,rfl⟩:=zel hq.1;by_cases hkn:k<n
  ·have hzt:z≤tz:=(by omega);have hofk:=Hof.out z (by omega) (by omega) wr hE;rw [show mkRat z 1=(z:Rat) from Rat.mkRat_one z] at hofk;have htik:=fun W (hx:Ext wr W)=>Hti.out z (by omega) (by omega) W (hE.trans hx);unfold Rv at hofk htik;generalize I ((z:Rat)).num=s1 at *;generalize I ((((z:Rat)).den:Nat):Int)=s2 at *;have Hofk:=hid hofk;have Htik:=hid htik;have Hq:=hid hq;have Hm:=hid hm;have HE:=hid hE;have Hol:=hid hol;have Hz:=hid hz;have hqo:=hq.1;rw [hol] at hqo ⊢;have Hqo:=hid hqo;have hzb:-1000≤z∧z≤1000:=(by omega);have hm3:k+1≤maxLen:=(by unfold maxLen;omega);have hm4:(k+1) * 24≤140737488355328:=(by omega);clear hofk htik hq hm hE hz hol hqo htz;go_wp2_with fail
   refine Hofk.out.mono ?_;rintro e VA ⟨rfl,hxa⟩;have Hxa:=hid hxa;clear hxa;go_wp2_with fail
   refine (Htik.out VA Hxa.out).mono ?_;rintro e VB ⟨u,rfl,ho2,hxb⟩;have hxab:=Hxa.out.trans hxb;have Ho2:=hid (ho2.mono (HE.out.trans Hxa.out).size);obtain ⟨au,cu,rfl⟩:=zel ho2;have hq3:=hxab.qwM Hq.out;have hqo:=hxab.own Hqo.out;have hE3:=HE.out.trans hxab;have hbase:=hE3.size;generalize hml:(zeU g (z:Rat)).length=ml at *;have Hq3:=hid hq3;have HE3:=hid hE3;have Hml:=hid hml;clear hq3 hE3 hxb hxab ho2 hml;go_wp2_with (at_builtin;refine wpList_append_own _ rfl _ _ 34 rfl w.heap.size 32 j0 (.slice none 0 0) 1 24 Tryz.underlying34 hj hy0 hy1 hy2 rfl (by decide) _ _ _ rfl (hqo.alloc _) ⟨VB.heap.size,0,none⟩ 1 1 [.slice au ml cu] rfl rfl (cell_one_new _ _ _) (by simp [Value.oneCell']) hm3 hm4 (by rw [World.size_alloc];omega) ?_;intro v7 V7 hown7 hgrow7 _)
   go_roundw
   case rel=>exact ⟨k+1,z+1,by go_num,by have:=Hz.out;omega,by omega,by rw [zjO];exact QsR.more HE3.out Hq3.out Hm.out (by rw [← Hz.out];exact Ho2.out) (by rw [Hol.out];exact hown7) (by rw [Hol.out];exact hgrow7)⟩
   case measure=>simp [zag];omega
  ·have hkn2:k=n:=(by omega);have hzt:¬ z≤tz:=(by omega);subst hkn2;have Hm:=hid hm;have Hq:=hid hq;have HE:=hid hE;clear hq hm hE hz hol htz;go_wp2
   go_ret
   exact ⟨_,rfl,out,Hq.out,Hm.out,HE.out⟩
end
end Go.Proofs.YtoehmpbipbbffaaGreatDoor
