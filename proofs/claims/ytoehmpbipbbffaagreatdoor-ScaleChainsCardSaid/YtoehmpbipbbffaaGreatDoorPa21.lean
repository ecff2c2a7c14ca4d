/- Walks: size's ends: whole numbers between which a size lies, at many bits. (Printed by wip/endw.py.) -/
import Derived.Test.YtoehmpbipbbffaaGreatDoorPa20
import Derived.Test.YtoehmpbipbbffaaGreatDoorPa12
set_option maxRecDepth 100000
set_option maxHeartbeats 4000000
namespace Go.Proofs.YtoehmpbipbbffaaGreatDoor
open Go.RowKit Go.Lib
attribute [local go_sem] Oper.semAt_some
def GB : Nat:=2 ^ 2051
theorem zlw (p:Int){n:Nat}(hn:n≤2048):LG p n+1≤GB:=by
 have h5:L5+1≤GB:=by decide +kernel
 have h3:L3+1≤GB:=by decide +kernel
 unfold LG;split
 ·unfold GB;exact @Nat.pow_lt_pow_right 2 n 2051 (by decide) (by omega)
 ·split
  ·have:=Nat.div_le_self L3 (2 ^ (2048 - n));omega
  ·have:=Nat.div_le_self L5 (2 ^ (2048 - n));omega
def okN (e:Int × Int):Prop:=zkH e.1∧e.2.natAbs≤HH
theorem zlx {l:List (Int × Int)}(h:∀ e∈l,okN e)(k:Nat):okN (zgZ l k):=by
 unfold zgZ;rw [List.getD_eq_getElem?_getD];rcases Nat.lt_or_ge k l.length with g | g
 ·rw [List.getElem?_eq_getElem g];exact h _ (List.getElem_mem g)
 ·rw [List.getElem?_eq_none g];exact ⟨.inl rfl,Nat.zero_le _⟩
theorem zly {f:Int}{a:Nat}(hf:f.natAbs≤HH)(ha:a≤GB):(f * (a:Int)).natAbs≤HH * GB:=by
 rw [Int.natAbs_mul,Int.natAbs_natCast];exact Nat.mul_le_mul hf ha
theorem zlz {n:Nat}(hn:n≤2048){p f:Int}(hf:f.natAbs≤HH):(loN n p f).natAbs≤HH * GB∧(hiN n p f).natAbs≤HH * GB:=by
 have h1:=zlw p hn;have h2:2 ^ n≤GB:=by
  have:=zlw 2 hn;unfold LG at this;rw [if_pos rfl] at this;omega
 have a1:=zly hf h1;have a2:=zly hf (show LG p n≤GB by omega);have a3:=zly hf h2;rw [Int.natCast_add] at a1;unfold loN hiN;constructor <;> split
 ·exact a3
 ·split
  ·exact a1
  ·exact a2
 ·exact a3
 ·split
  ·exact a2
  ·exact a1
theorem zl0 {n:Nat}(hn:n≤2048){l:List (Int × Int)}(h:∀ e∈l,okN e):(zkC n l).natAbs≤l.length * (HH * GB)∧(zkD n l).natAbs≤l.length * (HH * GB):=by
 induction l with
 | nil=>simp [zkC,zkD]
 | cons e l ih =>
  have ih:=ih fun x hx=>h x (List.mem_cons_of_mem _ hx)
  have hb:=zlz hn (p:=e.1) (h e (List.mem_cons_self ..)).2
  simp only [zkC,zkD,List.length_cons,Nat.add_mul,Nat.one_mul]
  omega
theorem zl1 {a b:Nat}{z e:Nat}(he:a+b+4<e)(h:z≤1000 * (10 ^ a * 2 ^ b)):z<10 ^ e:=by
 have h1:(2:Nat) ^ b≤10 ^ b:=Nat.pow_le_pow_left (by omega) _;have h2:=Nat.mul_le_mul_left (10 ^ a) h1;rw [← Nat.pow_add] at h2;have h3:(10:Nat) ^ 3 * 10 ^ (a+b)<10 ^ e:=by
  rw [← Nat.pow_add];exact Nat.pow_lt_pow_right (by omega) (by omega)
 generalize (10:Nat) ^ a * 2 ^ b=x at *;generalize (10:Nat) ^ (a+b)=y at *;generalize (10:Nat) ^ e=q at *;omega
theorem zl2 {z:Int}(h:z.natAbs≤1000 * (HH * GB)):Fit z:=by
 unfold HH GB at h;have h2:=zl1 (a:=120) (b:=2051) (e:=3000) (by decide) h;exact Nat.le_trans (Dec.nDigits_le (k:=3000) (by decide) h2) (by decide)
theorem zl3 : 0<HH:=by unfold HH;exact Nat.pow_pos (by decide)
theorem zl4 : 0<GB:=by unfold GB;exact Nat.two_pow_pos 2051
theorem zl5 : GB≤HH * GB:=Nat.le_mul_of_pos_left _ zl3
theorem zl6 : HH≤HH * GB:=Nat.le_mul_of_pos_right _ zl4
theorem zl7 {n:Nat}(hn:n≤2048){l:List (Int × Int)}(hl:l.length≤200)(h:∀ e∈l,okN e):(zkC n l).natAbs≤200 * (HH * GB)∧(zkD n l).natAbs≤200 * (HH * GB):=by
 have:=zl0 hn h;have h2:=Nat.mul_le_mul_right (HH * GB) hl;omega
theorem zl8 : I (0:Int)=⟨#[48]⟩:=by
 show I ((0:Nat):Int)=_;rw [zav];exact zbk
theorem zl9 {w W W1:World}{B:Nat}{n lo hi u v x:Value}(HB:Below w.heap.size w W)(hx:Ext W W1)
  (h1:Boxed W (w.heap.size+1) 3 n) (h2:Boxed W (w.heap.size+1+1) 51 lo) (h3:Boxed W (w.heap.size+1+1+1) 51 hi) (h5:zge W (w.heap.size+1+1+1+1) u v x) (a b:Value) :
  KeepsFrom B W ((W1.setCell ⟨w.heap.size+1+1,0,none⟩ a).setCell ⟨w.heap.size+1+1+1,0,none⟩ b) ∧
  zgY w.heap.size (w.heap.size+1+1+1+1) W ((W1.setCell ⟨w.heap.size+1+1,0,none⟩ a).setCell ⟨w.heap.size+1+1+1,0,none⟩ b) ∧
  Boxed ((W1.setCell ⟨w.heap.size+1+1,0,none⟩ a).setCell ⟨w.heap.size+1+1+1,0,none⟩ b) (w.heap.size+1) 3 n ∧
  Boxed ((W1.setCell ⟨w.heap.size+1+1,0,none⟩ a).setCell ⟨w.heap.size+1+1+1,0,none⟩ b) (w.heap.size+1+1) 51 a ∧
  Boxed ((W1.setCell ⟨w.heap.size+1+1,0,none⟩ a).setCell ⟨w.heap.size+1+1+1,0,none⟩ b) (w.heap.size+1+1+1) 51 b ∧
  zge ((W1.setCell ⟨w.heap.size+1+1,0,none⟩ a).setCell ⟨w.heap.size+1+1+1,0,none⟩ b) (w.heap.size+1+1+1+1) u v x ∧
  Below w.heap.size w ((W1.setCell ⟨w.heap.size+1+1,0,none⟩ a).setCell ⟨w.heap.size+1+1+1,0,none⟩ b):=by
 have hs:w.heap.size≤W.heap.size:=HB.size;have g1:Boxed W1 (w.heap.size+1) 3 n:=hx.heap h1;have g2:Boxed W1 (w.heap.size+1+1) 51 lo:=hx.heap h2;have g3:Boxed W1 (w.heap.size+1+1+1) 51 hi:=hx.heap h3;have other:∀ k:Nat,k ≠ w.heap.size+1+1→k ≠ w.heap.size+1+1+1→((W1.setCell ⟨w.heap.size+1+1,0,none⟩ a).setCell ⟨w.heap.size+1+1+1,0,none⟩ b).heap[k]?=W1.heap[k]?:=fun k h1 h2 =>
  (Below.heap_setCell _ ⟨w.heap.size+1+1+1,0,none⟩ _ k h2).trans (Below.heap_setCell _ ⟨w.heap.size+1+1,0,none⟩ _ k h1)
 have hWb:Below w.heap.size W ((W1.setCell ⟨w.heap.size+1+1,0,none⟩ a).setCell ⟨w.heap.size+1+1+1,0,none⟩ b) :=
  (((Below.mono hx hs).setCell (p:=⟨w.heap.size+1+1,0,none⟩) (by dsimp only;omega) _).setCell (p:=⟨w.heap.size+1+1+1,0,none⟩) (by dsimp only;omega) _)
 have b5:zge ((W1.setCell ⟨w.heap.size+1+1,0,none⟩ a).setCell ⟨w.heap.size+1+1+1,0,none⟩ b) (w.heap.size+1+1+1+1) u v x:=(other _ (by omega) (by omega)).trans (hx.heap h5);refine ⟨⟨hWb.size,fun k o _ hk ho=>?_⟩,⟨hWb,b5.trans h5.symm⟩,(other _ (by omega) (by omega)).trans g1,?_,?_,b5,HB.trans hWb⟩
 ·have hk1:=hx.heap hk;refine (other k ?_ ?_).trans hk1
  ·rintro rfl;rw [show W1.heap[w.heap.size+1+1]?=_ from g2] at hk1;cases hk1;cases ho
  ·rintro rfl;rw [show W1.heap[w.heap.size+1+1+1]?=_ from g3] at hk1;cases hk1;cases ho
 ·exact (Below.heap_setCell _ ⟨w.heap.size+1+1+1,0,none⟩ _ _ (by dsimp only;omega)).trans (Boxed.set _ g2)
 ·exact Boxed.set _ (show Boxed _ (w.heap.size+1+1+1) 51 hi from (Below.heap_setCell _ ⟨w.heap.size+1+1,0,none⟩ _ _ (by dsimp only;omega)).trans g3)
theorem zlA (tv:Value)(l:List (Int × Int))(d n:Nat)(w:World)(he:Env w)(ht:TmV w tv l d)(hl:l.length≤100)(hn:Lad n)(hok:∀ e∈l,okN e) :
  Calls Tryz.prog 111 #[tv,.int .i64 n] w fun e w'=>e=.returned (.tuple #[.string (I (zkC n l)),.string (I (zkD n l))])∧Ext w w':=by
 have hn48:=zkI hn;obtain ⟨vp,vf,rfl,hp,hf⟩:=ht;obtain ⟨aa,ca,rfl,_,_,hcx⟩:=hp.parts;obtain ⟨ab,cb,rfl,_,_,hcy⟩:=hf.parts;rw [zam,List.length_map] at *;rw [zhc,List.length_map] at *;have Hcx:=hid hcx;clear hcx hp;have Hcy:=hid hcy;clear hcy hf;have hokn:=fun k=>zlx hok k;have hlog:=fun (p:Int)(hp:zkH p) W (hE:Ext w W)=>zlr p n W (he.ext hE) hp hn;have He:=hid he;have Hok:=hid hokn;have Hlog:=hid hlog;have Hn:=hid hn48;clear hokn hok hlog he hn hn48;refine (callsIn_wide (n:=3)).1 ?_;refine callsIn_of_wp_marks Tryz.func111 rfl trivial ?_ rfl;simp only [Tryz.ntmps111,List.size_toArray,List.length_cons,List.length_nil,Nat.reduceAdd,Nat.reduceSub,Array.replicate_succ,Array.replicate_zero,List.push_toArray,List.append_toArray,List.nil_append,List.cons_append];gi_wp2_with fail;refine ⟨trivial,?_⟩;refine (zhe Fence.wide _ trivial rfl _ _ _ _).mono ?_;rintro e w' ⟨rfl,rfl⟩;have b1:=(((Boxed.new (w.alloc (.cells #[.slice aa l.length ca,.slice ab l.length cb,.string (I ((d:Nat):Int))] 110)) 3 (.int .i64 (n:Int))).alloc (.cells #[.string ⟨#[48]⟩] 51)).alloc (.cells #[.string ⟨#[48]⟩] 51)).alloc (.cells #[.slice aa l.length ca,.slice ab l.length cb,.string (I ((d:Nat):Int))] 110);have b2:=((Boxed.new ((w.alloc (.cells #[.slice aa l.length ca,.slice ab l.length cb,.string (I ((d:Nat):Int))] 110)).alloc (.cells #[.int .i64 (n:Int)] 3)) 51 (.string ⟨#[48]⟩)).alloc (.cells #[.string ⟨#[48]⟩] 51)).alloc (.cells #[.slice aa l.length ca,.slice ab l.length cb,.string (I ((d:Nat):Int))] 110);have b3:=(Boxed.new (((w.alloc (.cells #[.slice aa l.length ca,.slice ab l.length cb,.string (I ((d:Nat):Int))] 110)).alloc (.cells #[.int .i64 (n:Int)] 3)).alloc (.cells #[.string ⟨#[48]⟩] 51)) 51 (.string ⟨#[48]⟩)).alloc (.cells #[.slice aa l.length ca,.slice ab l.length cb,.string (I ((d:Nat):Int))] 110);have b5:=zge.new ((((w.alloc (.cells #[.slice aa l.length ca,.slice ab l.length cb,.string (I ((d:Nat):Int))] 110)).alloc (.cells #[.int .i64 (n:Int)] 3)).alloc (.cells #[.string ⟨#[48]⟩] 51)).alloc (.cells #[.string ⟨#[48]⟩] 51)) (.slice aa l.length ca) (.slice ab l.length cb) (.string (I ((d:Nat):Int)));have hE:=((((Ext.refl w).alloc (.cells #[.slice aa l.length ca,.slice ab l.length cb,.string (I ((d:Nat):Int))] 110)).alloc (.cells #[.int .i64 (n:Int)] 3)).alloc (.cells #[.string ⟨#[48]⟩] 51)).alloc (.cells #[.string ⟨#[48]⟩] 51) |>.alloc (.cells #[.slice aa l.length ca,.slice ab l.length cb,.string (I ((d:Nat):Int))] 110);simp only [World.size_alloc] at b1 b2 b3 b5;have HE:=hid hE;clear hE;generalize hV:(((((w.alloc (.cells #[.slice aa l.length ca,.slice ab l.length cb,.string (I ((d:Nat):Int))] 110)).alloc (.cells #[.int .i64 (n:Int)] 3)).alloc (.cells #[.string ⟨#[48]⟩] 51)).alloc (.cells #[.string ⟨#[48]⟩] 51)).alloc (.cells #[.slice aa l.length ca,.slice ab l.length cb,.string (I ((d:Nat):Int))] 110))=V at *;have hVs:V.heap.size=w.heap.size+5:=by rw [← hV];simp
 clear hV;simp only [World.size_alloc];gi_wp2_with fail;refine wpIn_rangeFunc_ownG (n:=3) rfl (by omega) (gf:=187) (lb:=#[.pointer (some ⟨w.heap.size+1+1+1+1,0,none⟩)]) rfl trivial (enters_of Tryz.func187 (by kernel_rfl) rfl)
  (zhf Fence.wide (3 - 1) trivial rfl (by omega) (w.heap.size+1+1+1+1) w.heap.size aa ab ca cb _ l (by omega) V b5
   (fun i hi=>by obtain ⟨b,off,e,hc⟩:=Hcx.out i _ (zhb l i hi);exact ⟨b,off,e,World.block_lt_of_cell? _ _ hc,HE.out.cell hc⟩)
   (fun i hi=>by obtain ⟨b,off,e,hc⟩:=Hcy.out i _ (zha l i hi);exact ⟨b,off,e,World.block_lt_of_cell? _ _ hc,HE.out.cell hc⟩))
  (fun h k=>⟨h.1.trans k.1,k.2.trans h.2⟩) (fun W l o o' hl h hc hw=>⟨belowK_b HE.out.size W l o o' hl h hc hw,World.putObj_heap_other (by omega)⟩) (Below.refl _ _) (fun _=>rfl)
  (fun pre W=>Boxed W (w.heap.size+1) 3 (.int .i64 (n:Int))∧Boxed W (w.heap.size+1+1) 51 (.string (I (zkC n (pre.map (zgZ l)))))∧Boxed W (w.heap.size+1+1+1) 51 (.string (I (zkD n (pre.map (zgZ l)))))∧zge W (w.heap.size+1+1+1+1) (.slice aa l.length ca) (.slice ab l.length cb) (.string (I ((d:Nat):Int)))∧Below w.heap.size w W)
  (fun _ _ _=>False)
  (OwnFrom.and (Go.Own.from zhx _) (OwnFrom.and (Go.Own.from zhx _) (OwnFrom.and (Go.Own.from zhx _) (OwnFrom.and (Go.Own.from zhy _) (ownFrom_below (Nat.le_refl _) HE.out.size)))))
  (fun _ _ _ _ _ hs _ _=>hs)
  ⟨b1,by rw [show I (zkC n (([]:List Nat).map (zgZ l)))=⟨#[48]⟩ from zl8];exact b2,by rw [show I (zkD n (([]:List Nat).map (zgZ l)))=⟨#[48]⟩ from zl8];exact b3,b5,HE.out⟩
  (fun p=>{ tmps:=#[.agg #[.slice aa l.length ca,.slice ab l.length cb,.string (I ((d:Nat):Int))],.int .i64 (n:Int),.pointer (some ⟨w.heap.size,0,none⟩),.pointer (some ⟨w.heap.size+1,0,none⟩),.pointer (some ⟨w.heap.size+1+1,0,none⟩),.pointer (some ⟨w.heap.size+1+1+1,0,none⟩),
     .int .i64 (zgZ l p).1,.string (I (zgZ l p).2),undef,undef,
     .agg #[.slice aa l.length ca,.slice ab l.length cb,.string (I ((d:Nat):Int))],.func (.func 187) #[] #[.pointer (some ⟨w.heap.size+1+1+1+1,0,none⟩)],
     .int .i64 (zgZ l p).1,.string (I (zgZ l p).2),undef,undef,undef,undef,undef,undef,undef,undef,undef,undef,undef,undef,undef,undef,undef,undef,undef,undef,undef,undef,undef,undef,undef,undef,undef,undef,undef],defers:=[] }) ?assign ?body ?done ?stop
 case assign =>
  intro l p W K hK;gi_wp2;exact hK
 case body =>
  rintro lp pre p W ⟨hb1,hb2,hb3,hb5,hB⟩ hlt;have hq:=Hok.out p;have hlen:(pre.map (zgZ l)).length≤200:=by rw [List.length_map];omega
  have hsb:=zl7 Hn.out hlen (fun e he=>by obtain ⟨k,_,rfl⟩:=List.mem_map.1 he;exact Hok.out k);have e1:zkC n ((pre++[p]).map (zgZ l))=zkC n (pre.map (zgZ l))+loN n (zgZ l p).1 (zgZ l p).2:=by rw [List.map_append,zkF];simp [zkC]
  have e2:zkD n ((pre++[p]).map (zgZ l))=zkD n (pre.map (zgZ l))+hiN n (zgZ l p).1 (zgZ l p).2:=by rw [List.map_append,zkG];simp [zkD]
  have hend:=zlz Hn.out (p:=(zgZ l p).1) hq.2;have hlgb:=zlw (zgZ l p).1 Hn.out;have hG:=zl5;have hH:=zl6;have hfk:Fit (zgZ l p).2:=zl2 (by have:=hq.2;omega);have hfa:Fit (LG (zgZ l p).1 n:Int):=zl2 (by omega);have hfb:Fit ((LG (zgZ l p).1 n:Int)+1):=zl2 (by omega);have hlog:=Hlog.out (zgZ l p).1 hq.1;have hal:=fun W' (hE:Ext w W')=>zdh (zkC n (pre.map (zgZ l))) (loN n (zgZ l p).1 (zgZ l p).2) W' (He.out.ext hE) (zl2 (by omega)) (zl2 (by omega));have hah:=fun W' (hE:Ext w W')=>zdh (zkD n (pre.map (zgZ l))) (hiN n (zgZ l p).1 (zgZ l p).2) W' (He.out.ext hE) (zl2 (by omega)) (zl2 (by omega));have ha1:=fun W' (hE:Ext w W')=>zdh (LG (zgZ l p).1 n:Int) 1 W' (He.out.ext hE) hfa (zl2 (by omega));rw [zlg] at ha1;have hm1:=fun W' (hE:Ext w W')=>zbT (LG (zgZ l p).1 n:Int) (zgZ l p).2 W' (He.out.ext hE) hfa hfk;have hm2:=fun W' (hE:Ext w W')=>zbT ((LG (zgZ l p).1 n:Int)+1) (zgZ l p).2 W' (He.out.ext hE) hfb hfk;have hsg:=fun W'=>zbK (zgZ l p).2 W' hfk;rw [← e1] at hal;rw [← e2] at hah;have elo:loN n (zgZ l p).1 (zgZ l p).2=if (zgZ l p).1=2 then (zgZ l p).2 * ((2 ^ n:Nat):Int) else if (zgZ l p).2<0 then (zgZ l p).2 * ((LG (zgZ l p).1 n:Int)+1) else (zgZ l p).2 * (LG (zgZ l p).1 n:Int):=rfl;have ehi:hiN n (zgZ l p).1 (zgZ l p).2=if (zgZ l p).1=2 then (zgZ l p).2 * ((2 ^ n:Nat):Int) else if (zgZ l p).2<0 then (zgZ l p).2 * (LG (zgZ l p).1 n:Int) else (zgZ l p).2 * ((LG (zgZ l p).1 n:Int)+1):=rfl;have elg:(zgZ l p).1=2→((2 ^ n:Nat):Int)=(LG (zgZ l p).1 n:Int):=fun h=>by unfold LG;rw [if_pos h]
  clear hsb hend hlgb hG hH hfk hfa hfb hq e1 e2 hlen;generalize I (zkC n (pre.map (zgZ l)))=slo at *;generalize I (zkD n (pre.map (zgZ l)))=shi at *;generalize loN n (zgZ l p).1 (zgZ l p).2=zlo at *;generalize hiN n (zgZ l p).1 (zgZ l p).2=zhi at *;generalize (LG (zgZ l p).1 n:Int)=g at *;generalize (zgZ l p).1=p0 at *;generalize (zgZ l p).2=k0 at *;have HB:=hid hB;have H1:=hid hb1;have H2:=hid hb2;have H3:=hid hb3;have H5:=hid hb5;have hc1:=hb1.cell;clear hb1 hb2 hb3 hb5 hB;by_cases h2:p0=2
  ·subst h2;by_cases hk:k0<0
   ·skip;obtain rfl:zlo=k0 * g:=by rw [elo,if_pos rfl,elg rfl]
    obtain rfl:zhi=k0 * g:=by rw [ehi,if_pos rfl,elg rfl]
    rw [Int.mul_comm g k0] at hm1;generalize I (k0 * g)=sl at *;clear elo ehi elg hm2 ha1;have hsg0:zbc k0 0<0:=(by rw [zbd hk];decide);generalize zbc k0 0=c at *;generalize I k0=sk at *;generalize I g=sg at *;generalize hnl:I (zkC n ((pre++[p]).map (zgZ l)))=snl at *;generalize hnh:I (zkD n ((pre++[p]).map (zgZ l)))=snh at *;have E1:=hid hnl;have E2:=hid hnh;clear hnl hnh hk;have Hlog:=hid hlog;have Hal:=hid hal;have Hah:=hid hah;have Hm1:=hid hm1;have Hsg:=hid hsg;clear hlog hal hah hm1 hsg;have HX:Hid (Ext W W):=hid (Ext.refl W);gi_wp2_with fail;refine ⟨trivial,?_⟩;refine (callsIn_wide.2 (Hlog.out _ (Below.trans HB.out (Below.mono HX.out HB.out.size)))).mono ?_;rintro e W1 ⟨rfl,hx⟩;replace HX:=hid (HX.out.trans hx);clear hx;gi_wp2_with fail;refine ⟨trivial,?_⟩;refine (callsIn_wide.2 (Hm1.out _ (Below.trans HB.out (Below.mono HX.out HB.out.size)))).mono ?_;rintro e W2 ⟨rfl,hx⟩;replace HX:=hid (HX.out.trans hx);clear hx;gi_wp2_with fail;refine ⟨trivial,?_⟩;refine (callsIn_wide.2 (Hm1.out _ (Below.trans HB.out (Below.mono HX.out HB.out.size)))).mono ?_;rintro e W3 ⟨rfl,hx⟩;replace HX:=hid (HX.out.trans hx);clear hx;gi_wp2_with fail;refine ⟨trivial,?_⟩;refine (callsIn_wide.2 (Hsg.out _)).mono ?_;rintro e W9 ⟨rfl,rfl⟩;have g2:Boxed W3 (w.heap.size+1+1) 51 (.string slo):=HX.out.heap H2.out;have g3:Boxed W3 (w.heap.size+1+1+1) 51 (.string shi):=HX.out.heap H3.out;have hC:=And.intro ((Ext.refl _).drew.cell g2.cell) ((Ext.refl _).drew.cell g3.cell);have hF:=HB.out.trans (Below.mono HX.out HB.out.size);have G2:=hid g2;have G3:=hid g3;have HC:=hid hC;have HF:=hid hF;clear g2 g3 hC hF;gi_wp2_with fail;refine zlv 6 (fun w'=>Ext w w'∧w'.cell? ⟨w.heap.size+1+1,0,none⟩=some (.string slo)∧w'.cell? ⟨w.heap.size+1+1+1,0,none⟩=some (.string shi)) (by kernel_rfl) (by kernel_rfl) ?hLa ⟨HF.out.drew,HC.out.1,HC.out.2⟩ (fun hHeld=>?hRa)
    case hLa=>(rintro ⟨a,w,h⟩;exact h)
    case hRa =>
    refine zfX (i:=0) (v:=?va0) rfl (by kernel_rfl) (by kernel_rfl) (by kernel_rfl) (by kernel_rfl) (fun _ _ _ h=>h) (Or.inl ⟨by rfl,?ya0⟩) hHeld ?ra0
    case ya0=>(intro w hSw;(try dsimp only at hSw);go_simp;try with_reducible rfl)
    case ra0 =>
    refine zfX (i:=1) (v:=?va1) rfl (by kernel_rfl) (by kernel_rfl) (by kernel_rfl) (by kernel_rfl) (fun _ _ _ h=>h) (Or.inl ⟨by rfl,?ya1⟩) hHeld ?ra1
    case ya1=>(intro w hSw;(try dsimp only at hSw);go_simp;try with_reducible rfl)
    case ra1 =>
    refine zfX (i:=3) (v:=?va3) rfl (by kernel_rfl) (by kernel_rfl) (by kernel_rfl) (by kernel_rfl) (fun _ _ _ h=>h) (Or.inl ⟨by rfl,?ya3⟩) hHeld ?ra3
    case ya3=>(intro w hSw;(try dsimp only at hSw);go_simp;try with_reducible rfl)
    case ra3 =>
    refine zfX (i:=4) (v:=?va4) rfl (by kernel_rfl) (by kernel_rfl) (by kernel_rfl) (by kernel_rfl) (fun _ _ _ h=>h) (Or.inl ⟨by rfl,?ya4⟩) hHeld ?ra4
    case ya4=>(intro w hSw;(try dsimp only at hSw);go_simp;try with_reducible rfl)
    case ra4 =>
    refine zfY (i:=2) (by kernel_rfl) rfl (fun K hK=>?_);go_simp
    refine (Hal.out _ hHeld.1).mono ?_;rintro e9 V4 ⟨rfl,hxa⟩;have hH4:=And.intro (hHeld.1.trans hxa) (And.intro (hxa.cell hHeld.2.1) (hxa.cell hHeld.2.2));have HX4:=hid hxa;clear hxa;refine hK.out _ _ hH4 (fun hHeld=>?_);clear hK K hH4;refine zfY (i:=5) (by kernel_rfl) rfl (fun K hK=>?_);go_simp
    refine (Hah.out _ hHeld.1).mono ?_;rintro e9 V5 ⟨rfl,hxa⟩;have hH5:=And.intro (hHeld.1.trans hxa) (And.intro (hxa.cell hHeld.2.1) (hxa.cell hHeld.2.2));have HX5:=hid (HX4.out.trans hxa);clear hxa;refine hK.out _ _ hH5 (fun hHeld=>?_);clear hK K;have HH5:=hid hH5;clear hH5;have hg2:Boxed V5 (w.heap.size+1+1) 51 (.string slo):=HX5.out.heap ((Ext.refl _).drew.heap G2.out);have hg3:Boxed V5 (w.heap.size+1+1+1) 51 (.string shi):=HX5.out.heap ((Ext.refl _).drew.heap G3.out);have hz2:=hg2.frozen;have hz3:=hg3.frozen;have hc2:=hg2.cell;have hc3:=hg3.cell;clear hHeld hg2 hg3;refine zfZ (i:=6) (by kernel_rfl) (by decide) rfl (fun K hK=>?_);go_simp
    refine hK.out _ _ ?_;clear hK K;refine zfZ (i:=7) (by kernel_rfl) (by decide) rfl (fun K hK=>?_);go_simp
    refine hK.out _ _ ?_;clear hK K;refine zga (by kernel_rfl) ?_;refine NoPanic.normal ?_;gi_wp2_with fail;obtain ⟨q1,q2,q3,q4,q5,q6,q7⟩:=zl9 (B:=V.heap.size) HB.out (HX.out.trans ((Ext.refl _).drew.trans HX5.out)) H1.out H2.out H3.out H5.out (.string snl) (.string snh);exact ⟨q1,q2,q3,by rw [E1.out];exact q4,by rw [E2.out];exact q5,q6,q7⟩
   ·skip;obtain rfl:zlo=k0 * g:=by rw [elo,if_pos rfl,elg rfl]
    obtain rfl:zhi=k0 * g:=by rw [ehi,if_pos rfl,elg rfl]
    rw [Int.mul_comm g k0] at hm1;generalize I (k0 * g)=sl at *;clear elo ehi elg hm2 ha1;have hsg0:¬ zbc k0 0<0:=by rcases Int.lt_or_eq_of_le (Int.not_lt.1 hk) with h | h;(rw [zbf h];decide);(rw [zbe h.symm];decide)
    generalize zbc k0 0=c at *;generalize I k0=sk at *;generalize I g=sg at *;generalize hnl:I (zkC n ((pre++[p]).map (zgZ l)))=snl at *;generalize hnh:I (zkD n ((pre++[p]).map (zgZ l)))=snh at *;have E1:=hid hnl;have E2:=hid hnh;clear hnl hnh hk;have Hlog:=hid hlog;have Hal:=hid hal;have Hah:=hid hah;have Hm1:=hid hm1;have Hsg:=hid hsg;clear hlog hal hah hm1 hsg;have HX:Hid (Ext W W):=hid (Ext.refl W);gi_wp2_with fail;refine ⟨trivial,?_⟩;refine (callsIn_wide.2 (Hlog.out _ (Below.trans HB.out (Below.mono HX.out HB.out.size)))).mono ?_;rintro e W1 ⟨rfl,hx⟩;replace HX:=hid (HX.out.trans hx);clear hx;gi_wp2_with fail;refine ⟨trivial,?_⟩;refine (callsIn_wide.2 (Hm1.out _ (Below.trans HB.out (Below.mono HX.out HB.out.size)))).mono ?_;rintro e W2 ⟨rfl,hx⟩;replace HX:=hid (HX.out.trans hx);clear hx;gi_wp2_with fail;refine ⟨trivial,?_⟩;refine (callsIn_wide.2 (Hm1.out _ (Below.trans HB.out (Below.mono HX.out HB.out.size)))).mono ?_;rintro e W3 ⟨rfl,hx⟩;replace HX:=hid (HX.out.trans hx);clear hx;gi_wp2_with fail;refine ⟨trivial,?_⟩;refine (callsIn_wide.2 (Hsg.out _)).mono ?_;rintro e W9 ⟨rfl,rfl⟩;have g2:Boxed W3 (w.heap.size+1+1) 51 (.string slo):=HX.out.heap H2.out;have g3:Boxed W3 (w.heap.size+1+1+1) 51 (.string shi):=HX.out.heap H3.out;have hC:=And.intro ((Ext.refl _).drew.cell g2.cell) ((Ext.refl _).drew.cell g3.cell);have hF:=HB.out.trans (Below.mono HX.out HB.out.size);have G2:=hid g2;have G3:=hid g3;have HC:=hid hC;have HF:=hid hF;clear g2 g3 hC hF;gi_wp2_with fail;refine zlv 6 (fun w'=>Ext w w'∧w'.cell? ⟨w.heap.size+1+1,0,none⟩=some (.string slo)∧w'.cell? ⟨w.heap.size+1+1+1,0,none⟩=some (.string shi)) (by kernel_rfl) (by kernel_rfl) ?hLb ⟨HF.out.drew,HC.out.1,HC.out.2⟩ (fun hHeld=>?hRb)
    case hLb=>(rintro ⟨a,w,h⟩;exact h)
    case hRb =>
    refine zfX (i:=0) (v:=?vb0) rfl (by kernel_rfl) (by kernel_rfl) (by kernel_rfl) (by kernel_rfl) (fun _ _ _ h=>h) (Or.inl ⟨by rfl,?yb0⟩) hHeld ?rb0
    case yb0=>(intro w hSw;(try dsimp only at hSw);go_simp;try with_reducible rfl)
    case rb0 =>
    refine zfX (i:=1) (v:=?vb1) rfl (by kernel_rfl) (by kernel_rfl) (by kernel_rfl) (by kernel_rfl) (fun _ _ _ h=>h) (Or.inl ⟨by rfl,?yb1⟩) hHeld ?rb1
    case yb1=>(intro w hSw;(try dsimp only at hSw);go_simp;try with_reducible rfl)
    case rb1 =>
    refine zfX (i:=3) (v:=?vb3) rfl (by kernel_rfl) (by kernel_rfl) (by kernel_rfl) (by kernel_rfl) (fun _ _ _ h=>h) (Or.inl ⟨by rfl,?yb3⟩) hHeld ?rb3
    case yb3=>(intro w hSw;(try dsimp only at hSw);go_simp;try with_reducible rfl)
    case rb3 =>
    refine zfX (i:=4) (v:=?vb4) rfl (by kernel_rfl) (by kernel_rfl) (by kernel_rfl) (by kernel_rfl) (fun _ _ _ h=>h) (Or.inl ⟨by rfl,?yb4⟩) hHeld ?rb4
    case yb4=>(intro w hSw;(try dsimp only at hSw);go_simp;try with_reducible rfl)
    case rb4 =>
    refine zfY (i:=2) (by kernel_rfl) rfl (fun K hK=>?_);go_simp
    refine (Hal.out _ hHeld.1).mono ?_;rintro e9 V4 ⟨rfl,hxa⟩;have hH4:=And.intro (hHeld.1.trans hxa) (And.intro (hxa.cell hHeld.2.1) (hxa.cell hHeld.2.2));have HX4:=hid hxa;clear hxa;refine hK.out _ _ hH4 (fun hHeld=>?_);clear hK K hH4;refine zfY (i:=5) (by kernel_rfl) rfl (fun K hK=>?_);go_simp
    refine (Hah.out _ hHeld.1).mono ?_;rintro e9 V5 ⟨rfl,hxa⟩;have hH5:=And.intro (hHeld.1.trans hxa) (And.intro (hxa.cell hHeld.2.1) (hxa.cell hHeld.2.2));have HX5:=hid (HX4.out.trans hxa);clear hxa;refine hK.out _ _ hH5 (fun hHeld=>?_);clear hK K;have HH5:=hid hH5;clear hH5;have hg2:Boxed V5 (w.heap.size+1+1) 51 (.string slo):=HX5.out.heap ((Ext.refl _).drew.heap G2.out);have hg3:Boxed V5 (w.heap.size+1+1+1) 51 (.string shi):=HX5.out.heap ((Ext.refl _).drew.heap G3.out);have hz2:=hg2.frozen;have hz3:=hg3.frozen;have hc2:=hg2.cell;have hc3:=hg3.cell;clear hHeld hg2 hg3;refine zfZ (i:=6) (by kernel_rfl) (by decide) rfl (fun K hK=>?_);go_simp
    refine hK.out _ _ ?_;clear hK K;refine zfZ (i:=7) (by kernel_rfl) (by decide) rfl (fun K hK=>?_);go_simp
    refine hK.out _ _ ?_;clear hK K;refine zga (by kernel_rfl) ?_;refine NoPanic.normal ?_;gi_wp2_with fail;obtain ⟨q1,q2,q3,q4,q5,q6,q7⟩:=zl9 (B:=V.heap.size) HB.out (HX.out.trans ((Ext.refl _).drew.trans HX5.out)) H1.out H2.out H3.out H5.out (.string snl) (.string snh);exact ⟨q1,q2,q3,by rw [E1.out];exact q4,by rw [E2.out];exact q5,q6,q7⟩
  ·by_cases hk:k0<0
   ·skip;rw [if_neg h2,if_pos hk] at elo ehi;rw [Int.mul_comm g k0,← ehi] at hm1;rw [Int.mul_comm (g+1) k0,← elo] at hm2;clear elo ehi elg;generalize I zlo=sl at *;generalize I zhi=sh at *;have hsg0:zbc k0 0<0:=(by rw [zbd hk];decide);generalize zbc k0 0=c at *;generalize I k0=sk at *;generalize I g=sg at *;generalize I (g+1)=sg1 at *;generalize hnl:I (zkC n ((pre++[p]).map (zgZ l)))=snl at *;generalize hnh:I (zkD n ((pre++[p]).map (zgZ l)))=snh at *;have E1:=hid hnl;have E2:=hid hnh;clear hnl hnh hk;have Hlog:=hid hlog;have Hal:=hid hal;have Hah:=hid hah;have Hm1:=hid hm1;have Hsg:=hid hsg;have Ha1:=hid ha1;have Hm2:=hid hm2;clear hlog hal hah hm1 hsg ha1 hm2;have HX:Hid (Ext W W):=hid (Ext.refl W);gi_wp2_with fail;refine ⟨trivial,?_⟩;refine (callsIn_wide.2 (Hlog.out _ (Below.trans HB.out (Below.mono HX.out HB.out.size)))).mono ?_;rintro e W1 ⟨rfl,hx⟩;replace HX:=hid (HX.out.trans hx);clear hx;gi_wp2_with fail;refine ⟨trivial,?_⟩;refine (callsIn_wide.2 (Ha1.out _ (Below.trans HB.out (Below.mono HX.out HB.out.size)))).mono ?_;rintro e W2 ⟨rfl,hx⟩;replace HX:=hid (HX.out.trans hx);clear hx;gi_wp2_with fail;refine ⟨trivial,?_⟩;refine (callsIn_wide.2 (Hm1.out _ (Below.trans HB.out (Below.mono HX.out HB.out.size)))).mono ?_;rintro e W3 ⟨rfl,hx⟩;replace HX:=hid (HX.out.trans hx);clear hx;gi_wp2_with fail;refine ⟨trivial,?_⟩;refine (callsIn_wide.2 (Hm2.out _ (Below.trans HB.out (Below.mono HX.out HB.out.size)))).mono ?_;rintro e W4 ⟨rfl,hx⟩;replace HX:=hid (HX.out.trans hx);clear hx;gi_wp2_with fail;refine ⟨trivial,?_⟩;refine (callsIn_wide.2 (Hsg.out _)).mono ?_;rintro e W9 ⟨rfl,rfl⟩;have g2:Boxed W4 (w.heap.size+1+1) 51 (.string slo):=HX.out.heap H2.out;have g3:Boxed W4 (w.heap.size+1+1+1) 51 (.string shi):=HX.out.heap H3.out;have hC:=And.intro ((Ext.refl _).drew.cell g2.cell) ((Ext.refl _).drew.cell g3.cell);have hF:=HB.out.trans (Below.mono HX.out HB.out.size);have G2:=hid g2;have G3:=hid g3;have HC:=hid hC;have HF:=hid hF;clear g2 g3 hC hF;gi_wp2_with fail;refine zlv 6 (fun w'=>Ext w w'∧w'.cell? ⟨w.heap.size+1+1,0,none⟩=some (.string slo)∧w'.cell? ⟨w.heap.size+1+1+1,0,none⟩=some (.string shi)) (by kernel_rfl) (by kernel_rfl) ?hLc ⟨HF.out.drew,HC.out.1,HC.out.2⟩ (fun hHeld=>?hRc)
    case hLc=>(rintro ⟨a,w,h⟩;exact h)
    case hRc =>
    refine zfX (i:=0) (v:=?vc0) rfl (by kernel_rfl) (by kernel_rfl) (by kernel_rfl) (by kernel_rfl) (fun _ _ _ h=>h) (Or.inl ⟨by rfl,?yc0⟩) hHeld ?rc0
    case yc0=>(intro w hSw;(try dsimp only at hSw);go_simp;try with_reducible rfl)
    case rc0 =>
    refine zfX (i:=1) (v:=?vc1) rfl (by kernel_rfl) (by kernel_rfl) (by kernel_rfl) (by kernel_rfl) (fun _ _ _ h=>h) (Or.inl ⟨by rfl,?yc1⟩) hHeld ?rc1
    case yc1=>(intro w hSw;(try dsimp only at hSw);go_simp;try with_reducible rfl)
    case rc1 =>
    refine zfX (i:=3) (v:=?vc3) rfl (by kernel_rfl) (by kernel_rfl) (by kernel_rfl) (by kernel_rfl) (fun _ _ _ h=>h) (Or.inl ⟨by rfl,?yc3⟩) hHeld ?rc3
    case yc3=>(intro w hSw;(try dsimp only at hSw);go_simp;try with_reducible rfl)
    case rc3 =>
    refine zfX (i:=4) (v:=?vc4) rfl (by kernel_rfl) (by kernel_rfl) (by kernel_rfl) (by kernel_rfl) (fun _ _ _ h=>h) (Or.inl ⟨by rfl,?yc4⟩) hHeld ?rc4
    case yc4=>(intro w hSw;(try dsimp only at hSw);go_simp;try with_reducible rfl)
    case rc4 =>
    refine zfY (i:=2) (by kernel_rfl) rfl (fun K hK=>?_);go_simp
    refine (Hal.out _ hHeld.1).mono ?_;rintro e9 V4 ⟨rfl,hxa⟩;have hH4:=And.intro (hHeld.1.trans hxa) (And.intro (hxa.cell hHeld.2.1) (hxa.cell hHeld.2.2));have HX4:=hid hxa;clear hxa;refine hK.out _ _ hH4 (fun hHeld=>?_);clear hK K hH4;refine zfY (i:=5) (by kernel_rfl) rfl (fun K hK=>?_);go_simp
    refine (Hah.out _ hHeld.1).mono ?_;rintro e9 V5 ⟨rfl,hxa⟩;have hH5:=And.intro (hHeld.1.trans hxa) (And.intro (hxa.cell hHeld.2.1) (hxa.cell hHeld.2.2));have HX5:=hid (HX4.out.trans hxa);clear hxa;refine hK.out _ _ hH5 (fun hHeld=>?_);clear hK K;have HH5:=hid hH5;clear hH5;have hg2:Boxed V5 (w.heap.size+1+1) 51 (.string slo):=HX5.out.heap ((Ext.refl _).drew.heap G2.out);have hg3:Boxed V5 (w.heap.size+1+1+1) 51 (.string shi):=HX5.out.heap ((Ext.refl _).drew.heap G3.out);have hz2:=hg2.frozen;have hz3:=hg3.frozen;have hc2:=hg2.cell;have hc3:=hg3.cell;clear hHeld hg2 hg3;refine zfZ (i:=6) (by kernel_rfl) (by decide) rfl (fun K hK=>?_);go_simp
    refine hK.out _ _ ?_;clear hK K;refine zfZ (i:=7) (by kernel_rfl) (by decide) rfl (fun K hK=>?_);go_simp
    refine hK.out _ _ ?_;clear hK K;refine zga (by kernel_rfl) ?_;refine NoPanic.normal ?_;gi_wp2_with fail;obtain ⟨q1,q2,q3,q4,q5,q6,q7⟩:=zl9 (B:=V.heap.size) HB.out (HX.out.trans ((Ext.refl _).drew.trans HX5.out)) H1.out H2.out H3.out H5.out (.string snl) (.string snh);exact ⟨q1,q2,q3,by rw [E1.out];exact q4,by rw [E2.out];exact q5,q6,q7⟩
   ·skip;rw [if_neg h2,if_neg hk] at elo ehi;rw [Int.mul_comm g k0,← elo] at hm1;rw [Int.mul_comm (g+1) k0,← ehi] at hm2;clear elo ehi elg;generalize I zlo=sl at *;generalize I zhi=sh at *;have hsg0:¬ zbc k0 0<0:=by rcases Int.lt_or_eq_of_le (Int.not_lt.1 hk) with h | h;(rw [zbf h];decide);(rw [zbe h.symm];decide)
    generalize zbc k0 0=c at *;generalize I k0=sk at *;generalize I g=sg at *;generalize I (g+1)=sg1 at *;generalize hnl:I (zkC n ((pre++[p]).map (zgZ l)))=snl at *;generalize hnh:I (zkD n ((pre++[p]).map (zgZ l)))=snh at *;have E1:=hid hnl;have E2:=hid hnh;clear hnl hnh hk;have Hlog:=hid hlog;have Hal:=hid hal;have Hah:=hid hah;have Hm1:=hid hm1;have Hsg:=hid hsg;have Ha1:=hid ha1;have Hm2:=hid hm2;clear hlog hal hah hm1 hsg ha1 hm2;have HX:Hid (Ext W W):=hid (Ext.refl W);gi_wp2_with fail;refine ⟨trivial,?_⟩;refine (callsIn_wide.2 (Hlog.out _ (Below.trans HB.out (Below.mono HX.out HB.out.size)))).mono ?_;rintro e W1 ⟨rfl,hx⟩;replace HX:=hid (HX.out.trans hx);clear hx;gi_wp2_with fail;refine ⟨trivial,?_⟩;refine (callsIn_wide.2 (Ha1.out _ (Below.trans HB.out (Below.mono HX.out HB.out.size)))).mono ?_;rintro e W2 ⟨rfl,hx⟩;replace HX:=hid (HX.out.trans hx);clear hx;gi_wp2_with fail;refine ⟨trivial,?_⟩;refine (callsIn_wide.2 (Hm1.out _ (Below.trans HB.out (Below.mono HX.out HB.out.size)))).mono ?_;rintro e W3 ⟨rfl,hx⟩;replace HX:=hid (HX.out.trans hx);clear hx;gi_wp2_with fail;refine ⟨trivial,?_⟩;refine (callsIn_wide.2 (Hm2.out _ (Below.trans HB.out (Below.mono HX.out HB.out.size)))).mono ?_;rintro e W4 ⟨rfl,hx⟩;replace HX:=hid (HX.out.trans hx);clear hx;gi_wp2_with fail;refine ⟨trivial,?_⟩;refine (callsIn_wide.2 (Hsg.out _)).mono ?_;rintro e W9 ⟨rfl,rfl⟩;have g2:Boxed W4 (w.heap.size+1+1) 51 (.string slo):=HX.out.heap H2.out;have g3:Boxed W4 (w.heap.size+1+1+1) 51 (.string shi):=HX.out.heap H3.out;have hC:=And.intro ((Ext.refl _).drew.cell g2.cell) ((Ext.refl _).drew.cell g3.cell);have hF:=HB.out.trans (Below.mono HX.out HB.out.size);have G2:=hid g2;have G3:=hid g3;have HC:=hid hC;have HF:=hid hF;clear g2 g3 hC hF;gi_wp2_with fail;refine zlv 6 (fun w'=>Ext w w'∧w'.cell? ⟨w.heap.size+1+1,0,none⟩=some (.string slo)∧w'.cell? ⟨w.heap.size+1+1+1,0,none⟩=some (.string shi)) (by kernel_rfl) (by kernel_rfl) ?hLd ⟨HF.out.drew,HC.out.1,HC.out.2⟩ (fun hHeld=>?hRd)
    case hLd=>(rintro ⟨a,w,h⟩;exact h)
    case hRd =>
    refine zfX (i:=0) (v:=?vd0) rfl (by kernel_rfl) (by kernel_rfl) (by kernel_rfl) (by kernel_rfl) (fun _ _ _ h=>h) (Or.inl ⟨by rfl,?yd0⟩) hHeld ?rd0
    case yd0=>(intro w hSw;(try dsimp only at hSw);go_simp;try with_reducible rfl)
    case rd0 =>
    refine zfX (i:=1) (v:=?vd1) rfl (by kernel_rfl) (by kernel_rfl) (by kernel_rfl) (by kernel_rfl) (fun _ _ _ h=>h) (Or.inl ⟨by rfl,?yd1⟩) hHeld ?rd1
    case yd1=>(intro w hSw;(try dsimp only at hSw);go_simp;try with_reducible rfl)
    case rd1 =>
    refine zfX (i:=3) (v:=?vd3) rfl (by kernel_rfl) (by kernel_rfl) (by kernel_rfl) (by kernel_rfl) (fun _ _ _ h=>h) (Or.inl ⟨by rfl,?yd3⟩) hHeld ?rd3
    case yd3=>(intro w hSw;(try dsimp only at hSw);go_simp;try with_reducible rfl)
    case rd3 =>
    refine zfX (i:=4) (v:=?vd4) rfl (by kernel_rfl) (by kernel_rfl) (by kernel_rfl) (by kernel_rfl) (fun _ _ _ h=>h) (Or.inl ⟨by rfl,?yd4⟩) hHeld ?rd4
    case yd4=>(intro w hSw;(try dsimp only at hSw);go_simp;try with_reducible rfl)
    case rd4 =>
    refine zfY (i:=2) (by kernel_rfl) rfl (fun K hK=>?_);go_simp
    refine (Hal.out _ hHeld.1).mono ?_;rintro e9 V4 ⟨rfl,hxa⟩;have hH4:=And.intro (hHeld.1.trans hxa) (And.intro (hxa.cell hHeld.2.1) (hxa.cell hHeld.2.2));have HX4:=hid hxa;clear hxa;refine hK.out _ _ hH4 (fun hHeld=>?_);clear hK K hH4;refine zfY (i:=5) (by kernel_rfl) rfl (fun K hK=>?_);go_simp
    refine (Hah.out _ hHeld.1).mono ?_;rintro e9 V5 ⟨rfl,hxa⟩;have hH5:=And.intro (hHeld.1.trans hxa) (And.intro (hxa.cell hHeld.2.1) (hxa.cell hHeld.2.2));have HX5:=hid (HX4.out.trans hxa);clear hxa;refine hK.out _ _ hH5 (fun hHeld=>?_);clear hK K;have HH5:=hid hH5;clear hH5;have hg2:Boxed V5 (w.heap.size+1+1) 51 (.string slo):=HX5.out.heap ((Ext.refl _).drew.heap G2.out);have hg3:Boxed V5 (w.heap.size+1+1+1) 51 (.string shi):=HX5.out.heap ((Ext.refl _).drew.heap G3.out);have hz2:=hg2.frozen;have hz3:=hg3.frozen;have hc2:=hg2.cell;have hc3:=hg3.cell;clear hHeld hg2 hg3;refine zfZ (i:=6) (by kernel_rfl) (by decide) rfl (fun K hK=>?_);go_simp
    refine hK.out _ _ ?_;clear hK K;refine zfZ (i:=7) (by kernel_rfl) (by decide) rfl (fun K hK=>?_);go_simp
    refine hK.out _ _ ?_;clear hK K;refine zga (by kernel_rfl) ?_;refine NoPanic.normal ?_;gi_wp2_with fail;obtain ⟨q1,q2,q3,q4,q5,q6,q7⟩:=zl9 (B:=V.heap.size) HB.out (HX.out.trans ((Ext.refl _).drew.trans HX5.out)) H1.out H2.out H3.out H5.out (.string snl) (.string snh);exact ⟨q1,q2,q3,by rw [E1.out];exact q4,by rw [E2.out];exact q5,q6,q7⟩
 case done =>
  rintro D ys W hD rfl ⟨hb1,hb2,hb3,hb5,hB⟩ hK;rw [zhs] at hb2 hb3;have hc2:=hb2.cell;have hc3:=hb3.cell;have hz2:=hb2.frozen;have hz3:=hb3.frozen;have HB:=hid hB;clear hB;have H2:=hid hb2;have H3:=hid hb3;clear hb1 hb2 hb3 hb5;gi_wp2_with fail;gi_region;have hd:w.heap.size≤D:=by omega
  have hK2:(((W.setCell ⟨w.heap.size+1+1,0,none⟩ (.string (I (zkC n l)))).setCell ⟨w.heap.size+1+1+1,0,none⟩ (.string (I (zkD n l)))).drew).heap[D]?=some (.deferred (some [])) :=
   (Below.heap_setCell _ ⟨w.heap.size+1+1+1,0,none⟩ _ D (by dsimp only;omega)).trans ((Below.heap_setCell _ ⟨w.heap.size+1+1,0,none⟩ _ D (by dsimp only;omega)).trans hK)
  have x2:Boxed ((W.setCell ⟨w.heap.size+1+1,0,none⟩ (.string (I (zkC n l)))).setCell ⟨w.heap.size+1+1+1,0,none⟩ (.string (I (zkD n l)))).drew (w.heap.size+1+1) 51 (.string (I (zkC n l))) :=
   (Below.heap_setCell _ ⟨w.heap.size+1+1+1,0,none⟩ _ _ (by dsimp only;omega)).trans (Boxed.set _ H2.out)
  have x3:Boxed ((W.setCell ⟨w.heap.size+1+1,0,none⟩ (.string (I (zkC n l)))).setCell ⟨w.heap.size+1+1+1,0,none⟩ (.string (I (zkD n l)))).drew (w.heap.size+1+1+1) 51 (.string (I (zkD n l))) :=
   Boxed.set (v:=.string (I (zkD n l))) _ ((Below.heap_setCell _ ⟨w.heap.size+1+1,0,none⟩ _ _ (by dsimp only;omega)).trans H3.out)
  have hB2:Below w.heap.size w ((W.setCell ⟨w.heap.size+1+1,0,none⟩ (.string (I (zkC n l)))).setCell ⟨w.heap.size+1+1+1,0,none⟩ (.string (I (zkD n l)))).drew :=
   ((HB.out.setCell (p:=⟨w.heap.size+1+1,0,none⟩) (by dsimp only;omega) _).setCell (p:=⟨w.heap.size+1+1+1,0,none⟩) (by dsimp only;omega) _).drew
  generalize ((W.setCell ⟨w.heap.size+1+1,0,none⟩ (.string (I (zkC n l)))).setCell ⟨w.heap.size+1+1+1,0,none⟩ (.string (I (zkD n l)))).drew=X at *;have hB3:=hid hB2;clear hB2;gi_wp2_with fail;refine ⟨by simp,.inl ⟨_,_,rfl,run_takeDeferred hK2,?_⟩⟩;have d2:=(show Boxed (X.putObj D (.deferred none)) (w.heap.size+1+1) 51 (.string (I (zkC n l))) from (World.putObj_heap_other (by omega)).trans x2).cell;have d3:=(show Boxed (X.putObj D (.deferred none)) (w.heap.size+1+1+1) 51 (.string (I (zkD n l))) from (World.putObj_heap_other (by omega)).trans x3).cell;have hE2:Ext w (X.putObj D (.deferred none)):=Below.trans hB3.out (belowK_b (w:=w) (Nat.le_refl _) X D _ _ hd hK2 rfl rfl);exact ⟨.tuple #[.string (I (zkC n l)),.string (I (zkD n l))],by simp [results,Tryz.results111,go_sem,d2,d3],rfl,hE2⟩
 case stop =>
  rintro D c pre W _ _ h _;exact h.elim
end Go.Proofs.YtoehmpbipbbffaaGreatDoor
