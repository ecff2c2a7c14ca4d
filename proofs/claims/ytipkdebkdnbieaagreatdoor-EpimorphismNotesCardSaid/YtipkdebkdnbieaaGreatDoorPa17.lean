/- Walks: size's Zero, Combine, Sub, Add, Scale. Walks: quick, sign, compare of sizes. Walks: comparing sizes. Walks: downward, quotient: the floor of a quotient by the octave from a few bits. Walk: dividing fractions (by a positive one). Walk: size.ratio where the second size is the octave. -/
import Derived.Test.YtipkdebkdnbieaaGreatDoorPa14
import Derived.Test.YtipkdebkdnbieaaGreatDoorPa16
import Derived.Test.YtipkdebkdnbieaaGreatDoorPa08
import Derived.Deep.RegionHeld3
set_option maxRecDepth 100000
set_option maxHeartbeats 4000000
namespace Go.Proofs.YtipkdebkdnbieaaGreatDoor
section
open Go.RowKit Go.Lib
theorem zjR {w:World}{b:Nat}{us:List Value}{t:TypeId}(h:w.heap[b]?=some (.cells us.toArray t (0,0)))(hm:us.length≤maxLen):Sl w (.slice (some ⟨b,0,none⟩) us.length us.length) us :=
 .inr ⟨b,0,us.length,rfl,Nat.le_refl _,hm,fun i u hu=>by rw [Nat.zero_add];exact zc7 h hu⟩
theorem zjS {w:World}{b:Nat}{x:List Rat}{t:TypeId}(h:w.heap[b]?=some (.cells (rcs x).toArray t (0,0)))(hm:x.length≤maxLen):Rd w (.slice (some ⟨b,0,none⟩) x.length x.length) x :=
 .inr ⟨b,0,x.length,rfl,Nat.le_refl _,hm,fun i r hr=>by
  obtain ⟨q1,q2⟩:=zfd hr;exact ⟨by rw [Nat.zero_add];exact zc7 h q1,by rw [Nat.zero_add];exact zc7 h q2⟩⟩
theorem zjT (vp:Value)(p:List Int)(w:World)(he:Env w)(hp:Sl w vp (zap p))(hpe:zcw p=0) :
  Calls Tryz.prog 49 #[vp] w fun e w'=>e=.returned (.tuple #[.slice (some ⟨w.heap.size,0,none⟩) p.length p.length,.int .i64 0])∧zfe w' w.heap.size (.slice (some ⟨w.heap.size,0,none⟩) p.length p.length) (List.replicate p.length 0)∧Ext w w':=by
 have hpl:=(zc0 hpe).2.1;have h1:=zcx vp p w hp (by omega);rw [hpe] at h1;have h2:=ziA p.length w he (by omega);obtain ⟨ap,cp,rfl,_,_,_⟩:=hp.parts;rw [zar] at h1 ⊢;clear hp he hpe;have H1:=hid h1;have H2:=hid h2;clear h1 h2;go_enter Tryz.func49,Tryz.ntmps49
 go_wp2_with fail
 refine H1.out.mono ?_;rintro e W ⟨rfl,rfl⟩;go_wp2_with fail
 refine H2.out.mono ?_;rintro e w2 ⟨rfl,ho,hx⟩;have Ho:=hid ho;have Hx:=hid hx;clear ho hx;go_wp2
 go_ret2
 exact ⟨rfl,Ho.out,Hx.out⟩
theorem zjU : Ft 1 (1:Rat):=⟨Dec.nDigits_le (by omega) (by decide),Dec.nDigits_le (by omega) (by decide)⟩
theorem zjV : Ft 400 (1:Rat):=zjU.mono (by omega)
theorem zjW : Ft 400 (-1:Rat):=zjV.neg
end
section
open Go.RowKit Go.Lib
attribute [local go_sem] Oper.semAt_some
theorem zjX (tv:Value)(l:List (Int × Int))(d:Nat)(w:World)(ht:TmV w tv l d)(hl:l.length≤100)(hok:∀ e∈l,okE 10000000 e)(hne:l ≠ [])(hf:zeZ l) :
  Calls Tryz.prog 171 #[tv] w fun e w'=>e=.returned (.int .i64 (zeY l))∧Ext w w':=by
 -- called by function 123 alone
 have hn:=fun W (hE:Ext w W)=>zjQ tv l d 10000000 W (ht.ext hE) hl (by omega) (Int.le_refl _) hok
 have Hn:=hid hn;clear hn
 have hs:(0≤zeM l→zeY l=1)∧(zeM l<0→zeY l=-1∧zeN l≤0):=by
  unfold zeY;rw [if_neg hne];refine ⟨fun h=>by rw [if_pos h],fun h=>⟨by rw [if_neg (by omega)],?_⟩⟩;rcases hf.cases with h1 | h1 | h1
  ·exact absurd h1 hne
  ·omega
  ·omega
 have Hs:=hid hs;clear hs hf hok
 obtain ⟨vp,vf,rfl,hp,hfa⟩:=ht
 obtain ⟨aa,ca,rfl,_,_,_⟩:=hp.parts
 obtain ⟨ab,cb,rfl,_,_,_⟩:=hfa.parts
 clear hp hfa
 generalize (zap (l.map Prod.fst)).length=la at *
 generalize (zf3 (l.map Prod.snd)).length=lb at *
 generalize zeY l=sg at *
 generalize zeM l=lo at *
 generalize zeN l=hi at *
 have hE0:Ext w (w.alloc (.cells #[.slice aa la ca,.slice ab lb cb,.string (I ((d:Nat):Int))] 174)):=(Ext.refl w).alloc _
 have HE0:=hid hE0;clear hE0
 go_enter Tryz.func171,Tryz.ntmps171
 go_wp2_with fail
 refine (Hn.out _ HE0.out).mono ?_
 rintro e w1 ⟨rfl,hx1⟩
 have Hx1:=hid (HE0.out.trans hx1);clear hx1
 by_cases h0:0≤lo
 ·obtain rfl:=Hs.out.1 h0
  go_wp2
  go_ret
  exact ⟨rfl,Hx1.out⟩
 ·obtain ⟨h1,h2⟩:=Hs.out.2 (by omega)
  subst h1
  go_wp2
  go_ret
  exact ⟨rfl,Hx1.out⟩
theorem zjY (tv:Value)(l:List (Int × Int))(d:Nat)(w:World)(ht:TmV w tv l d)(hl:l.length≤100)(hok:∀ e∈l,okE 10000000 e)(hf:zeZ l) :
  Calls Tryz.prog 123 #[tv] w fun e w'=>e=.returned (.int .i64 (zeY l))∧Ext w w':=by
 have hq:=fun W (hE:Ext w W)(hne:l ≠ [])=>zjX tv l d W (ht.ext hE) hl hok hne hf;have Hq:=hid hq;clear hq;have hs:(l.length=0→zeY l=0∧l=[])∧(l.length ≠ 0→zeY l ≠ 0∧l ≠ []):=by
  unfold zeY;constructor
  ·intro h;have:l=[]:=List.length_eq_zero_iff.1 h;exact ⟨by rw [if_pos this],this⟩
  ·intro h;have:l ≠ []:=fun e=>h (by rw [e];rfl);refine ⟨?_,this⟩;rw [if_neg this];split <;> decide
 have Hs:=hid hs;clear hs hf hok;obtain ⟨vp,vf,rfl,hp,hfa⟩:=ht;obtain ⟨aa,ca,rfl,_,_,_⟩:=hp.parts;obtain ⟨ab,cb,rfl,_,_,_⟩:=hfa.parts;clear hp hfa;rw [zar,List.length_map] at *;generalize (zf3 (l.map Prod.snd)).length=lb at *;generalize zeY l=sg at *;have hE0:Ext w (w.alloc (.cells #[.slice aa l.length ca,.slice ab lb cb,.string (I ((d:Nat):Int))] 174)):=(Ext.refl w).alloc _;have HE0:=hid hE0;clear hE0;go_enter Tryz.func123,Tryz.ntmps123
 go_wp2_with fail
 go_step3
 by_cases h0:l.length=0
 ·obtain ⟨rfl,rfl⟩:=Hs.out.1 h0;go_wp2
  try rw [Exit.noGoto_ret]
  go_ret
  exact ⟨rfl,HE0.out⟩
 ·obtain ⟨h1,h2⟩:=Hs.out.2 h0;have Hq2:=hid fun W hE=>Hq.out W hE h2;clear Hq h2;go_wp2_with fail
  refine (Hq2.out _ HE0.out).mono ?_;rintro e w1 ⟨rfl,hx1⟩;have Hx1:=hid (HE0.out.trans hx1);clear hx1;go_wp2
  try rw [Exit.noGoto_ret]
  go_ret
  exact ⟨rfl,Hx1.out⟩
def zjZ (p:List Int)(x:List Rat):Prop:=(∀ r∈x,Ft 30 r)∧(∀ e∈tms p (dn x) x,okE 10000000 e)∧zeZ (tms p (dn x) x)
theorem zka (vp va vb:Value)(p:List Int)(x y:List Rat)(w:World)(he:Env w)(hp:Sl w vp (zap p))(ha:Rd w va x)(hb:Rd w vb y)(hpl:p.length≤100)(hx:x.length=p.length)(hy:y.length=p.length)(hxf:∀ q∈x,Ft 400 q)(hyf:∀ q∈y,Ft 400 q)(hq:zjZ p (zeX x y)) :
  Calls Tryz.prog 90 #[vp,va,vb] w fun e w'=>e=.returned (.int .i64 (zeY (tms p (dn (zeX x y)) (zeX x y))))∧Ext w w':=by
 have hua:=zfi ha;have hub:=zfi hb;have hsum:ziv p.length [x,y] [1,-1] 2=zeX x y:=zi7 hx hy;have hsl:(zeX x y).length=p.length:=by unfold zeX;rw [List.length_zipWith];omega
 have hco:∀ W vl vf,Ext w W→RdM W vl [⟨x,va,hua⟩,⟨y,vb,hub⟩]→Rd W vf [1,-1]→Calls Tryz.prog 122 #[.int .i64 (p.length:Int),vl,vf] W fun e w'=>∃ g,e=.returned (.slice (some ⟨g,0,none⟩) p.length p.length)∧zfe w' W.heap.size (.slice (some ⟨g,0,none⟩) p.length p.length) (zeX x y)∧Ext W w':=by
  intro W vl vf hE hl hf;have:=ziE p.length vl vf [⟨x,va,hua⟩,⟨y,vb,hub⟩] [1,-1] W (he.ext hE) hl hf (by omega) (by simp) (by simp) (by
   intro r hr;rcases List.mem_cons.1 hr with rfl | hr
   ·exact ⟨hx,hxf⟩
   ·rw [List.mem_singleton] at hr;subst hr;exact ⟨hy,hyf⟩) (by
   intro f hf;simp only [List.mem_cons,List.not_mem_nil,or_false] at hf;rcases hf with rfl | rfl
   ·exact zjV
   ·exact zjW)
  change Calls _ _ _ _ fun e w'=>e=.returned (.slice (some ⟨W.heap.size,0,none⟩) p.length p.length)∧zfe w' W.heap.size (.slice (some ⟨W.heap.size,0,none⟩) p.length p.length) (ziv p.length [x,y] [1,-1] 2)∧Ext W w' at this;rw [hsum] at this;exact this.mono fun e w' h=>⟨_,h⟩
 have hn1:=fun W (h:Ext w W)=>zfk 1 W (he.ext h) (by omega) (by omega);have hn2:=fun W (h:Ext w W)=>zfk (-1) W (he.ext h) (by omega) (by omega);rw [zfj] at hn1 hn2;have hlt:=zfH (p:=p) (d:=dn (zeX x y)) (x:=zeX x y);rw [hsl] at hlt;have htm:=fun W v (hE:Ext w W)(hv:Rd W v (zeX x y))=>zfL vp v p (zeX x y) W (he.ext hE) (hE.sl hp) hv hpl hsl hq.1;have hts:=fun W tv (ht:TmV W tv (tms p (dn (zeX x y)) (zeX x y)) (dn (zeX x y)))=>zjY tv _ _ W ht (by have:=hlt;omega) hq.2.1 hq.2.2;generalize zeY (tms p (dn (zeX x y)) (zeX x y))=sg at *;have hra:=fun W (h:Ext w W)=>h.rd ha;have hrb:=fun W (h:Ext w W)=>h.rd hb;have hbl:Ext w (w.alloc (.cells #[va,vb] 65)):=(Ext.refl w).alloc _;have hbc:(w.alloc (.cells #[va,vb] 65)).heap[w.heap.size]?=some (.cells ([va,vb]:List Value).toArray 65 (0,0)):=World.alloc_heap_new w _;have hone:rcs [1,-1]=[.string (I 1),.string ⟨#[49]⟩,.string (I (-1)),.string ⟨#[49]⟩]:=by
  show [Value.string (I 1),.string (I ((1:Nat):Int)),.string (I (-1)),.string (I ((1:Nat):Int))]=_;rw [za2,zbs]
 obtain ⟨ap,cp,rfl,_,_,_⟩:=hp.parts;obtain ⟨aa,ca,rfl,_,_,_⟩:=ha.parts;obtain ⟨ab,cb,rfl,_,_,_⟩:=hb.parts;rw [zar] at htm ⊢;generalize I 1=s1 at *;generalize I (-1)=s2 at *;clear hp ha hb he hxf hyf hq hsum hsl hlt;clear hpl;have Hxl:=hid hx;have Hyl:=hid hy;clear hx hy;have Hco:=hid hco;have Hn1:=hid hn1;have Hn2:=hid hn2;have Hra:=hid hra;have Hrb:=hid hrb;have Hbl:=hid hbl;have Hbc:=hid hbc;have Hone:=hid hone;have Htm:=hid htm;have Hts:=hid hts;clear hco hn1 hn2 hra hrb hbl hbc hone htm hts;go_enter Tryz.func90,Tryz.ntmps90
 go_wp2_with fail
 refine (Hn1.out _ Hbl.out).mono ?_;rintro e w1 ⟨rfl,hx1⟩;have Hx1:=hid (Hbl.out.trans hx1);have Hb1:=hid (hx1.heap Hbc.out);clear hx1;go_wp2_with fail
 refine (Hn2.out w1 Hx1.out).mono ?_;rintro e w2 ⟨rfl,hx2⟩;have hx3:Ext w2 (w2.alloc (.cells #[.string s1,.string ⟨#[49]⟩,.string s2,.string ⟨#[49]⟩] 102)):=(Ext.refl w2).alloc _;have hE3:Ext w (w2.alloc (.cells #[.string s1,.string ⟨#[49]⟩,.string s2,.string ⟨#[49]⟩] 102)):=(Hx1.out.trans hx2).trans hx3;have hl3:RdM (w2.alloc (.cells #[.string s1,.string ⟨#[49]⟩,.string s2,.string ⟨#[49]⟩] 102)) (.slice (some ⟨w.heap.size,0,none⟩) 2 2) [⟨x,.slice aa x.length ca,hua⟩,⟨y,.slice ab y.length cb,hub⟩] :=
  ⟨zjR ((hx2.trans hx3).heap Hb1.out) (by unfold maxLen;simp),by
   intro r hr;rcases List.mem_cons.1 hr with rfl | hr
   ·exact Hra.out _ hE3
   ·rw [List.mem_singleton] at hr;subst hr;exact Hrb.out _ hE3⟩
 have hf3:Rd (w2.alloc (.cells #[.string s1,.string ⟨#[49]⟩,.string s2,.string ⟨#[49]⟩] 102)) (.slice (some ⟨w2.heap.size,0,none⟩) 2 2) [1,-1] :=
  zjS (x:=[1,-1]) (by rw [Hone.out];exact World.alloc_heap_new w2 _) (by unfold maxLen;simp)
 have hcc:=Hco.out _ _ _ hE3 hl3 hf3;have Hcc:=hid hcc;have HE3:=hid hE3;clear hx2 hx3 hl3 hf3 hcc hE3;go_wp2_with fail
 refine Hcc.out.mono ?_;rintro e w4 ⟨g,rfl,ho4,hx4⟩;have Ho4:=hid ho4.rd;have Hx4:=hid (HE3.out.trans hx4);clear ho4 hx4;go_wp2_with fail
 refine (Htm.out w4 _ Hx4.out Ho4.out).mono ?_;rintro e w5 ⟨tv,rfl,ht,hx5⟩;have Hx5:=hid (Hx4.out.trans hx5);have H6:=hid (Hts.out w5 tv ht);obtain ⟨_,_,rfl,_,_⟩:=ht;clear hx5;go_wp2_with fail
 refine (H6.out).mono ?_;rintro e w6 ⟨rfl,hx6⟩;have Hx6:=hid (Hx5.out.trans hx6);clear hx6;go_wp2
 go_ret
 exact ⟨rfl,Hx6.out⟩
theorem zkb (vp va vb:Value)(p:List Int)(x y:List Rat)(w:World)(he:Env w)(hp:Sl w vp (zap p))(ha:Rd w va x)(hb:Rd w vb y)(hpe:zcw p=0)(hpl:p.length≤100)(hx:x.length=p.length)(hy:y.length=p.length)(hxf:∀ q∈x,Ft 30 q)(hyf:∀ q∈y,Ft 30 q)(hq:zjZ p (zeX x y)) :
  Calls Tryz.prog 51 #[vp,va,vb] w fun e w'=>e=.returned (.tuple #[.int .i64 (zeY (tms p (dn (zeX x y)) (zeX x y))),.int .i64 0])∧Ext w w':=by
 have hua:=zfi ha;have hub:=zfi hb;have h1:=fun W vl (hE:Ext w W)(hl:RdM W vl [⟨x,va,hua⟩,⟨y,vb,hub⟩])=>zfq vp vl p [⟨x,va,hua⟩,⟨y,vb,hub⟩] W (he.ext hE) (hE.sl hp) hl hpe (by simp) (by
   intro r hr;rcases List.mem_cons.1 hr with rfl | hr
   ·exact ⟨hx,hxf⟩
   ·rw [List.mem_singleton] at hr;subst hr;exact ⟨hy,hyf⟩)
 have h2:=fun W (hE:Ext w W)=>zka vp va vb p x y W (he.ext hE) (hE.sl hp) (hE.rd ha) (hE.rd hb) hpl hx hy (fun q h=>(hxf q h).mono (by omega)) (fun q h=>(hyf q h).mono (by omega)) hq;generalize zeY (tms p (dn (zeX x y)) (zeX x y))=sg at *;have hl3:RdM (w.alloc (.cells #[va,vb] 65)) (.slice (some ⟨w.heap.size,0,none⟩) 2 2) [⟨x,va,hua⟩,⟨y,vb,hub⟩] :=
  ⟨zjR (us:=[va,vb]) (World.alloc_heap_new w _) (by unfold maxLen;simp),by
   intro r hr;rcases List.mem_cons.1 hr with rfl | hr
   ·exact ((Ext.refl w).alloc _).rd ha
   ·rw [List.mem_singleton] at hr;subst hr;exact ((Ext.refl w).alloc _).rd hb⟩
 have hbl:Ext w (w.alloc (.cells #[va,vb] 65)):=(Ext.refl w).alloc _;have h3:=h1 _ _ hbl hl3;clear h1 hl3;obtain ⟨ap,cp,rfl,_,_,_⟩:=hp.parts;obtain ⟨aa,ca,rfl,_,_,_⟩:=ha.parts;obtain ⟨ab,cb,rfl,_,_,_⟩:=hb.parts;clear hp ha hb he hxf hyf hq hpe;have Hxl:=hid hx;have Hyl:=hid hy;clear hx hy;have H2:=hid h2;have H3:=hid h3;have Hbl:=hid hbl;clear h2 h3 hbl;go_enter Tryz.func51,Tryz.ntmps51
 go_wp2_with fail
 refine H3.out.mono ?_;rintro e w1 ⟨rfl,hx1⟩;have Hx1:=hid (Hbl.out.trans hx1);clear hx1;go_wp2_with fail
 refine (H2.out w1 Hx1.out).mono ?_;rintro e w2 ⟨rfl,hx2⟩;have Hx2:=hid (Hx1.out.trans hx2);clear hx2;go_wp2
 go_ret2
 exact ⟨rfl,Hx2.out⟩
theorem zkc (a b:Int)(hb:0<b):(-a+b - 1) / b=-(a / b):=by
 have h1:=Int.mul_ediv_add_emod a b;have h2:=Int.emod_nonneg a (show b ≠ 0 by omega);have h3:=Int.emod_lt_of_pos a hb;have e:-a+b - 1=(b - 1 - a % b)+b * (-(a / b)):=by rw [Int.mul_neg];omega
 rw [e,Int.add_mul_ediv_left _ _ (by omega),Int.ediv_eq_zero_of_lt (by omega) (by omega)];omega
theorem zkd {a b:Int}{m:Int}(hb:0<b)(h0:-m≤a)(h1:a≤m)(hm:0≤m):-m≤a / b∧a / b≤m:=by
 constructor
 ·rw [Int.le_ediv_iff_mul_le hb];have:=Int.mul_le_mul_of_nonneg_left (show (1:Int)≤b by omega) hm;rw [Int.neg_mul];omega
 ·have:a / b≤m / b:=Int.ediv_le_ediv hb h1;have h2:m / b≤m:=Int.ediv_le_self _ hm;omega
theorem zke (a b:Int)(w:World)(h0:-1000000000000000000≤a)(h1:a≤1000000000000000000)(h2:0<b)(h3:b≤1000000000000000000) :
  Calls Tryz.prog 209 #[.int .i64 a,.int .i64 b] w fun e w'=>e=.returned (.int .i64 (a / b))∧w=w':=by
 have hbd:=zkd h2 h0 h1 (by omega);by_cases ha:a<0
 ·have hq:(-a+b - 1).tdiv b=-(a / b):=by rw [Int.tdiv_eq_ediv_of_nonneg (by omega),zkc a b h2]
  generalize a / b=q at *;go_enter Tryz.func209,Tryz.ntmps209
  go_wp2
  go_ret
  exact ⟨by simp,rfl⟩
 ·have hq:a.tdiv b=a / b:=Int.tdiv_eq_ediv_of_nonneg (by omega);generalize a / b=q at *;go_enter Tryz.func209,Tryz.ntmps209
  go_wp2
  go_ret
  exact ⟨rfl,rfl⟩
theorem zkf (tx ty:Value)(l:List (Int × Int))(d:Nat)(w:World)(hx:TmV w tx l d)(hy:TmV w ty [(2,1)] 1)(hl:l.length≤100)(hok:∀ e∈l,okE 100000 e)(hd0:0<d)(hd:d≤10000)
  (hfl:zeM l / (67108864 * (d:Int))=zeN l / (67108864 * (d:Int))) :
  Calls Tryz.prog 178 #[tx,ty] w fun e w'=>e=.returned (.tuple #[.int .i64 (zeM l / (67108864 * (d:Int))),.bool true])∧Ext w w':=by
 have hn1:=fun W (hE:Ext w W)=>zjQ tx l d 100000 W (hx.ext hE) hl (by omega) (by omega) hok;have hn2:=fun W (hE:Ext w W)=>zjQ ty [(2,1)] 1 100000 W (hy.ext hE) (by decide) (by omega) (by omega) (by intro e he;rw [List.mem_singleton] at he;subst he;exact ⟨.inl rfl,by decide,by decide⟩);rw [show zeM [(2,1)]=67108864 by decide,show zeN [(2,1)]=67108864 by decide] at hn2;have hs1:=fun W=>zfP (d:Int) W (by omega) (by omega);have hs2:=fun W=>zfP ((1:Nat):Int) W (by decide) (by decide);have hbd:=zjE (fun e he=>zjF (hok e he) (show (100000:Int)≤10000000 by omega));have hll:(l.length:Int)≤100:=by omega
 have b1:-248332306000000000≤zeM l∧zeM l≤248332306000000000:=by omega
 have b2:-248332306000000000≤zeN l∧zeN l≤248332306000000000:=by omega
 have hq1:=fun W=>zke (zeM l) (67108864 * (d:Int)) W (by omega) (by omega) (by omega) (by omega);have hq2:=fun W=>zke (zeN l) (67108864 * (d:Int)) W (by omega) (by omega) (by omega) (by omega);rw [← hfl] at hq2;obtain ⟨va,vb,rfl,hp1,hf1⟩:=hx;obtain ⟨vc,vd,rfl,hp2,hf2⟩:=hy;obtain ⟨aa,ca,rfl,_,_,_⟩:=hp1.parts;obtain ⟨ab,cb,rfl,_,_,_⟩:=hf1.parts;obtain ⟨ac,cc,rfl,_,_,_⟩:=hp2.parts;obtain ⟨ad,cd,rfl,_,_,_⟩:=hf2.parts;clear hp1 hf1 hp2 hf2 hok hfl hbd hll;generalize (zap (l.map Prod.fst)).length=n1 at *;generalize (zf3 (l.map Prod.snd)).length=n2 at *;generalize (zap (([(2,1)]:List (Int × Int)).map Prod.fst)).length=n3 at *;generalize (zf3 (([(2,1)]:List (Int × Int)).map Prod.snd)).length=n4 at *;generalize zeM l / (67108864 * (d:Int))=q at *;generalize zeM l=lo at *;generalize zeN l=hi at *;generalize hsd:I ((d:Nat):Int)=sd at *;generalize hs1':I ((1:Nat):Int)=se at *;have bx1:=zf6.new w (.slice aa n1 ca) (.slice ab n2 cb) (.string sd);have bx2:=zf6.new (w.alloc (.cells #[.slice aa n1 ca,.slice ab n2 cb,.string sd] 174)) (.slice ac n3 cc) (.slice ad n4 cd) (.string se);have hE0:Ext w ((w.alloc (.cells #[.slice aa n1 ca,.slice ab n2 cb,.string sd] 174)).alloc (.cells #[.slice ac n3 cc,.slice ad n4 cd,.string se] 174)):=((Ext.refl w).alloc _).alloc _;have bx1':=bx1.ext ((Ext.refl _).alloc (.cells #[.slice ac n3 cc,.slice ad n4 cd,.string se] 174));rw [World.size_alloc] at bx2;clear bx1 hsd hs1';have Hn1:=hid hn1;have Hn2:=hid hn2;have Hs1:=hid hs1;have Hs2:=hid hs2;have Hq1:=hid hq1;have Hq2:=hid hq2;have HE0:=hid hE0;have Bx1':=hid bx1';have Bx2:=hid bx2;clear hn1 hn2 hs1 hs2 hq1 hq2 hE0 bx1' bx2;clear hl;go_enter Tryz.func178,Tryz.ntmps178
 go_wp2_with fail
 refine (Hn1.out _ HE0.out).mono ?_;rintro e w1 ⟨rfl,hx1⟩;have Hx1:=hid (HE0.out.trans hx1);have h2b:=(Bx2.out.ext hx1);obtain ⟨c0,c1,c2,_⟩:=h2b.c;have H1b:=hid (Bx1'.out.ext hx1);have H2b:=hid h2b;clear hx1 h2b;go_wp2_with fail
 refine (Hn2.out _ Hx1.out).mono ?_;rintro e w2 ⟨rfl,hx2⟩;have Hx2:=hid (Hx1.out.trans hx2);have h1c:=H1b.out.ext hx2;obtain ⟨d0,d1,d2,_⟩:=h1c.c;have H2c:=hid (H2b.out.ext hx2);clear hx2 h1c c0 c1 c2;go_wp2_with fail
 refine (Hs1.out _).mono ?_;rintro e w3 ⟨rfl,hx3⟩;have Hx3:=hid (Hx2.out.trans hx3);have h2d:=H2c.out.ext hx3;obtain ⟨f0,f1,f2,_⟩:=h2d.c;clear hx3 h2d d0 d1 d2;go_wp2_with fail
 refine (Hs2.out _).mono ?_;rintro e w4 ⟨rfl,hx4⟩;have Hx4:=hid (Hx3.out.trans hx4);clear hx4 f0 f1 f2;go_wp2_with fail
 all_goals
  refine (Hq1.out _).mono ?_;rintro e w' ⟨rfl,rfl⟩;go_wp2_with fail
 all_goals
  refine (Hq2.out _).mono ?_;rintro e w' ⟨rfl,rfl⟩;go_wp2
 all_goals
  go_ret2
  exact ⟨by simp,Hx4.out⟩
end
section
open Go.RowKit Go.Lib
theorem zkg {n:Nat}(h:0<n):((n:Nat):Rat) ≠ 0:=by
 intro e;have:=Rat.natCast_inj.1 (show ((n:Nat):Rat)=((0:Nat):Rat) from e);omega
theorem zkh (a:Rat):a * (a.den:Rat)=(a.num:Rat):=by
 have h:=Rat.mkRat_eq_div a.num a.den;rw [Rat.mkRat_self] at h;have:=Rat.div_mul_cancel (a:=(a.num:Rat)) (zkg a.den_pos);rw [← h] at this;exact this
theorem zki (a b:Rat)(n:Nat)(hb:b.num=(n:Int))(hn:0<n):mkRat (a.num * (b.den:Int)) (a.den * n)=a / b:=by
 rw [Rat.mkRat_eq_div];have e1:=zkh a;have e2:=zkh b;rw [hb,Rat.intCast_natCast] at e2;have h1:=zkg a.den_pos;have h2:=zkg b.den_pos;have h3:=zkg hn;have hb0:b ≠ 0:=by
  intro h;rw [h,Rat.zero_mul] at e2;exact h3 e2.symm
 rw [Rat.intCast_mul,Rat.natCast_mul,Rat.intCast_natCast,← e1,← e2];grind
theorem zkj (a b:Rat)(w:World)(he:Env w)(ha:Ft 100000 a)(hb:Ft 100000 b)(hp:0<b.num) :
  Calls Tryz.prog 151 #[Rv a,Rv b] w fun e w'=>e=.returned (.tuple #[Rv (a / b),.int .i64 0])∧Ext w w':=by
 obtain ⟨n,hn⟩:∃ n:Nat,b.num=(n:Int):=⟨b.num.toNat,by omega⟩;have hn0:0<n:=by omega
 have fa1:=ha.num (by omega);have fa2:=ha.den (by omega);have fb1:=hb.num (by omega);have fb2:=hb.den (by omega);have hda:nDigits ((a.den:Int)).natAbs≤100000:=by rw [Int.natAbs_natCast];exact ha.2
 have hdb:nDigits ((b.den:Int)).natAbs≤100000:=by rw [Int.natAbs_natCast];exact hb.2
 have g1:nDigits (a.num * (b.den:Int)).natAbs≤200000:=ze1 ha.1 hdb;have g3:nDigits ((a.den:Int) * b.num).natAbs≤200000:=ze1 hda hb.1;have hk0:=zes w (.string (I a.num)) (.string (I (a.den:Int))) (.string (I b.num)) (.string (I (b.den:Int)));have hsg:=fun W=>ze9 b W fb1;have hc1:zbj b.num 0=1:=by unfold zbj;(repeat' split) <;> omega
 rw [hc1] at hsg;have hm1:=fun W (h:Ext w W)=>zca a.num (b.den:Int) W (he.ext h) fa1 fb2;have hm3:=fun W (h:Ext w W)=>zca (a.den:Int) b.num W (he.ext h) fa2 fb1;have hlo:=fun W (h:Ext w W)=>ze0 (a.num * (b.den:Int)) (a.den * n) W (he.ext h) (by unfold Fit;omega) (by rw [Int.natCast_mul,← hn];unfold Fit;omega) (Nat.mul_pos a.den_pos hn0);rw [zki a b n hn hn0,Int.natCast_mul,← hn] at hlo;unfold Rv at hsg hlo ⊢;generalize I (a.num * (b.den:Int))=sm at *;generalize I ((a.den:Int) * b.num)=so at *;generalize I (a / b).num=st at *;generalize I (((a / b).den:Nat):Int)=su at *;generalize I a.num=sa at *;generalize I b.num=sb at *;generalize I (a.den:Int)=sc at *;generalize I (b.den:Int)=sd at *;clear g1 g3 fa1 fa2 fb1 fb2 hda hdb he ha hb hn hn0 hp hc1;have Hk0:=hid hk0;have Hsg:=hid hsg;have Hm1:=hid hm1;have Hm3:=hid hm3;have Hlo:=hid hlo;clear hk0 hsg hm1 hm3 hlo;go_enter Tryz.func151,Tryz.ntmps151
 go_wp2_with fail
 generalize hV:((w.alloc (.cells #[.string sa,.string sc] 102)).alloc (.cells #[.string sb,.string sd] 102)).alloc (.cells #[.string ⟨#[]⟩,.string ⟨#[]⟩] 102)=V at *;refine (Hsg.out _).mono ?_;rintro e W2 ⟨rfl,hxa⟩;have hK:=Hk0.out.ext hxa;have HK:=hid hK;clear hK;clear hxa;go_wp2_with fail
 go_region_held3 (fun w'=>Kp2 w w' w.heap.size (.string sa) (.string sc) (w.heap.size+1) (.string sb) (.string sd) (w.heap.size+1+1)∧w'.cell? ⟨w.heap.size,0,none⟩=some (.string sa)∧w'.cell? ⟨w.heap.size,1,none⟩=some (.string sc)∧w'.cell? ⟨w.heap.size+1,0,none⟩=some (.string sb)∧w'.cell? ⟨w.heap.size+1,1,none⟩=some (.string sd)∧w'.cell? ⟨w.heap.size+1+1,0,none⟩=some (zeq w' (w.heap.size+1+1) 0)∧w'.cell? ⟨w.heap.size+1+1,1,none⟩=some (zeq w' (w.heap.size+1+1) 1)∧w'.frozen? ⟨w.heap.size+1+1,0,none⟩=false∧w'.frozen? ⟨w.heap.size+1+1,1,none⟩=false)
  (first | exact (Kp2.ext HK.out ((Ext.refl _).drew)).all | exact (Kp2.ext (And.left (by assumption)) hxa).all | exact (Kp2.put (And.left (by assumption)) (by omega) (by omega) (by omega) _ _).all)
  (first
   | (go_at_call_of 165 (Value.string sa);refine (Hm1.out _ (And.left (And.left (by assumption)))).mono ?_;rintro e9 V4 ⟨rfl,hxa⟩;have hkk:=Kp2.ext (And.left (by assumption)) hxa)
   | (go_at_call_of 165 (Value.string sc);refine (Hm3.out _ (And.left (And.left (by assumption)))).mono ?_;rintro e9 V4 ⟨rfl,hxa⟩;have hkk:=Kp2.ext (And.left (by assumption)) hxa)
   | (go_at_call 192;refine (Hlo.out _ (And.left (And.left (by assumption)))).mono ?_;rintro e9 V4 ⟨rfl,hxa⟩;have hkk:=Kp2.ext (And.left (by assumption)) hxa))
 all_goals
  obtain ⟨hb,hfx⟩:=(hkk).fin (by omega) (.string st) (.string su);have Hfx:=hid hfx;clear hfx hxa hkk;generalize (V4.setCell ⟨w.heap.size+1+1,0,none⟩ (.string st)).setCell ⟨w.heap.size+1+1,1,none⟩ (.string su)=W5 at *;have hd0:=hb.c0;have hd1:=hb.c1;go_wp2_with fail
  exact bodyPost_ret (v:=.tuple #[.agg #[.string st,.string su],.int .i64 0]) (by simp [results,Tryz.results151,go_sem,hd0,hd1]) rfl ⟨rfl,Hfx.out⟩
theorem Kp2.allA {w w':World}{b1 b2 c:Nat}{u1 v1 u2 v2 x y:Value}{p q:Addr}(h:Kp2 w w' b1 u1 v1 b2 u2 v2 c)(hp:w.cell? p=some x)(hq:w.cell? q=some y) :
  Kp2 w w' b1 u1 v1 b2 u2 v2 c∧w'.cell? p=some x∧w'.cell? q=some y∧w'.cell? ⟨b1,0,none⟩=some u1∧w'.cell? ⟨b1,1,none⟩=some v1∧w'.cell? ⟨b2,0,none⟩=some u2∧w'.cell? ⟨b2,1,none⟩=some v2∧w'.cell? ⟨c,0,none⟩=some (zeq w' c 0)∧w'.cell? ⟨c,1,none⟩=some (zeq w' c 1)∧w'.frozen? ⟨c,0,none⟩=false∧w'.frozen? ⟨c,1,none⟩=false :=
 ⟨h,h.1.cell hp,h.1.cell hq,h.2.1.c0,h.2.1.c1,h.2.2.1.c0,h.2.2.1.c1,h.res.c0,h.res.c1,h.res.fz 0,h.res.fz 1⟩
def ov (n:Nat):List Rat:=1::List.replicate n 0
theorem zkk {n i:Nat}{r:Rat}(h:(ov n)[i]?=some r):(i=0∧r=1)∨(0<i∧r=0):=by
 unfold ov at h
 cases i with
 | zero=>left;simp at h;exact ⟨rfl,h.symm⟩
 | succ i=>right;rw [List.getElem?_cons_succ,List.getElem?_replicate] at h;split at h <;> simp at h;exact ⟨by omega,h.symm⟩
theorem zkl (va vb:Value)(a0:Rat)(tl:List Rat)(w:World)(he:Env w)(ha:Rd w va (a0::tl))(hb:Rd w vb (ov tl.length))(hn:tl.length≤99)(hf:∀ q∈a0::tl,Ft 1000 q) :
  Calls Tryz.prog 176 #[va,vb] w fun e w'=>e=.returned (.tuple #[Rv a0,.bool (tl.all (· == 0))])∧Ext w w':=by
 have hnum:=fun W (h:Ext w W)=>zfk 0 W (he.ext h) (by omega) (by omega);obtain ⟨aa,ca,rfl,_,_,hca⟩:=ha.parts;obtain ⟨ab,cb,rfl,_,_,hcb⟩:=hb.parts;have hbl:(ov tl.length).length=tl.length+1:=by unfold ov;simp
 rw [hbl];have hal:(a0::tl).length=tl.length+1:=by simp
 rw [hal];have hdv:=fun (x y:Rat) W (h:Ext w W)(hx:Ft 1000 x)(hy:Ft 1000 y)(hp:0<y.num)=>zkj x y W (he.ext h) (hx.mono (by omega)) (hy.mono (by omega)) hp;have hmu:=fun (x y:Rat) W (h:Ext w W)(hx:Ft 1000 x)(hy:Ft 1000 y)=>ze6 x y W (he.ext h) (hx.mono (by omega)) (hy.mono (by omega));generalize hn1:tl.length+1=n at hbl hal ⊢;have hnb:n≤100:=by omega
 clear ha hb;have b4:=zep.new w (.string ⟨#[]⟩) (.string ⟨#[]⟩);have hE0:Ext w (w.alloc (.cells #[.string ⟨#[]⟩,.string ⟨#[]⟩] 102)):=(Ext.refl w).alloc _;rw [zfj] at hnum;have e0:I 0=⟨#[48]⟩:=by kernel_rfl
 have e1:I 1=⟨#[49]⟩:=by kernel_rfl
 rw [e0] at hnum;have Hnum:=hid hnum;have Hca:=hid hca;have Hcb:=hid hcb;have Hdv:=hid hdv;have Hmu:=hid hmu;have B4:=hid b4;have HE0:=hid hE0;have Hf:=hid hf;have Hbl:=hid hbl;have Hal:=hid hal;have Hn1:=hid hn1;have Hn:=hid hn;clear hnum hca hcb hdv hmu b4 hE0 hf hbl hal hn1 hn;go_enter Tryz.func176,Tryz.ntmps176
 go_wp2_with fail
 refine (Hnum.out _ HE0.out).mono ?_;rintro e w1 ⟨rfl,hx1⟩;have hh:zep w1 w.heap.size (.string ⟨#[]⟩) (.string ⟨#[]⟩):=B4.out.ext hx1;have hlt:=hh.lt;have b6:zep (w1.alloc (.cells #[.string ⟨#[48]⟩,.string ⟨#[49]⟩] 102)) w1.heap.size (.string ⟨#[48]⟩) (.string ⟨#[49]⟩):=zep.new _ _ _;have hE1:Ext w (w1.alloc (.cells #[.string ⟨#[48]⟩,.string ⟨#[49]⟩] 102)):=(HE0.out.trans hx1).alloc _;have hh1:zep (w1.alloc (.cells #[.string ⟨#[48]⟩,.string ⟨#[49]⟩] 102)) w.heap.size (.string ⟨#[]⟩) (.string ⟨#[]⟩):=hh.ext ((Ext.refl w1).alloc _);clear hh hx1;have B6:=hid b6;have HE1:=hid hE1;have Hh1:=hid hh1;clear b6 hE1 hh1;go_wp2_with fail
 go_loopw [7,8,14] (fun v7 v8 v14 wr=>∃ i:Nat,v14=.int .i64 i∧i≤n∧zep wr w1.heap.size (.string (I (if i=0 then (0:Rat) else a0).num)) (.string (I (((if i=0 then (0:Rat) else a0).den:Nat):Int)))∧zep wr w.heap.size (.string ⟨#[]⟩) (.string ⟨#[]⟩)∧Ext w wr) (fun _ _ v14 _=>n - (zal v14).toNat)
 case atStart=>exact ⟨0,rfl,Nat.zero_le _,by rw [if_pos rfl];show zep _ _ (.string (I 0)) (.string (I 1));rw [e0,e1];exact B6.out,Hh1.out,HE1.out⟩
 case round =>
  obtain ⟨i,rfl,hi,hb6,hh,hE⟩:=hrel;by_cases hin:i<n
  ·obtain ⟨r,hr⟩:∃ r,(ov tl.length)[i]?=some r:=⟨_,List.getElem?_eq_getElem (by rw [Hbl.out];exact hin)⟩;obtain ⟨q,hq⟩:∃ q,(a0::tl)[i]?=some q:=⟨_,List.getElem?_eq_getElem (by rw [Hal.out];exact hin)⟩;obtain ⟨bb,ob,rfl,hx0,hx1⟩:=Hcb.out i r hr;obtain ⟨ba,oa,rfl,hy0,hy1⟩:=Hca.out i q hq;have hor:=zkk hr;have hx0':=hE.cell hx0;have hx1':=hE.cell hx1;have hi0:(0:Int)≤(i:Int):=(by omega);have hi1:(i:Int)<(n:Int):=(by omega);have hb8:zep (wr.alloc (.cells #[.string (I r.num),.string (I (r.den:Int))] 102)) wr.heap.size (.string (I r.num)) (.string (I (r.den:Int))):=zep.new _ _ _;have hE2:Ext w (wr.alloc (.cells #[.string (I r.num),.string (I (r.den:Int))] 102)):=hE.alloc _;have hb62:=hb6.ext ((Ext.refl wr).alloc (.cells #[.string (I r.num),.string (I (r.den:Int))] 102));have hh2:=hh.ext ((Ext.refl wr).alloc (.cells #[.string (I r.num),.string (I (r.den:Int))] 102));have hl6:=hb6.lt;have hlh:=hh.lt;have hk:Kp2 w (wr.alloc (.cells #[.string (I r.num),.string (I (r.den:Int))] 102)) w.heap.size (.string ⟨#[]⟩) (.string ⟨#[]⟩) wr.heap.size (.string (I r.num)) (.string (I (r.den:Int))) w1.heap.size:=⟨hE2,hh2,hb8,_,_,hb62⟩;rcases hor with ⟨h0,h1⟩ | ⟨h0,h1⟩
   ·subst h1;obtain rfl:a0=q:=by rw [h0] at hq;simpa using hq
    have hd:=fun W (h:Ext w W)=>Hdv.out a0 1 W h (Hf.out a0 (List.mem_cons_self ..)) (zjV.mono (by omega)) (by decide);rw [show a0 / 1=a0 by rw [Rat.div_def];grind] at hd;unfold Rv at hd;rw [show I (1:Rat).num=⟨#[49]⟩ from e1] at *;rw [show I (((1:Rat).den:Nat):Int)=⟨#[49]⟩ from e1] at *;generalize hs1:I a0.num=s1 at *;generalize hs2:I (a0.den:Int)=s2 at *;clear hb6 hh hE2 hb62 hh2 hx0 hx1 hr hq;have Hd:=hid hd;have Hk:=hid hk;have Hb8:=hid hb8;have HE:=hid hE;have Hs1:=hid hs1;have Hs2:=hid hs2;have H0:=hid h0;clear hd hk hb8 hE hs1 hs2 h0;go_wp2_with fail
    generalize hV:wr.alloc (.cells #[.string ⟨#[49]⟩,.string ⟨#[49]⟩] 102)=V at *;have hy00:=hy0;have hy11:=hy1;have Hy00:=hid hy00;have Hy11:=hid hy11;clear hy00 hy11;go_region_held3 (fun w'=>Kp2 w w' w.heap.size (.string ⟨#[]⟩) (.string ⟨#[]⟩) wr.heap.size (.string ⟨#[49]⟩) (.string ⟨#[49]⟩) w1.heap.size∧w'.cell? ⟨ba,oa+i * 2,none⟩=some (.string s1)∧w'.cell? ⟨ba,oa+i * 2+1,none⟩=some (.string s2)∧w'.cell? ⟨w.heap.size,0,none⟩=some (.string ⟨#[]⟩)∧w'.cell? ⟨w.heap.size,1,none⟩=some (.string ⟨#[]⟩)∧w'.cell? ⟨wr.heap.size,0,none⟩=some (.string ⟨#[49]⟩)∧w'.cell? ⟨wr.heap.size,1,none⟩=some (.string ⟨#[49]⟩)∧w'.cell? ⟨w1.heap.size,0,none⟩=some (zeq w' w1.heap.size 0)∧w'.cell? ⟨w1.heap.size,1,none⟩=some (zeq w' w1.heap.size 1)∧w'.frozen? ⟨w1.heap.size,0,none⟩=false∧w'.frozen? ⟨w1.heap.size,1,none⟩=false)
     (first | exact (Kp2.ext Hk.out ((Ext.refl _).drew)).allA Hy00.out Hy11.out | exact (Kp2.ext (And.left (by assumption)) hxa).allA Hy00.out Hy11.out | exact (Kp2.put (And.left (by assumption)) (by omega) (by omega) (by omega) _ _).allA Hy00.out Hy11.out)
     (first
      | (go_at_call 151;refine (Hd.out _ (And.left (And.left (by assumption)))).mono ?_;rintro e9 V4 ⟨rfl,hxa⟩;have hkk:=Kp2.ext (And.left (by assumption)) hxa))
    all_goals
     have hpu:=hkk.put (by omega) (by omega) (by omega) (.string s1) (.string s2);obtain ⟨hb,hfx⟩:=(hkk).fin (by omega) (.string s1) (.string s2);clear hxa hkk;generalize (V4.setCell ⟨w1.heap.size,0,none⟩ (.string s1)).setCell ⟨w1.heap.size,1,none⟩ (.string s2)=W5 at *;have Hb:=hid hb;have Hfx:=hid hfx;have Hpu:=hid hpu;clear hb hfx hpu;go_wp2_with fail
     go_roundw
     case rel=>exact ⟨i+1,by go_num,by omega,by rw [if_neg (by omega),Hs1.out,Hs2.out];exact Hb.out,Hpu.out.2.1,Hfx.out⟩
     case measure=>simp [zal];omega
   ·subst h1;rw [show I (0:Rat).num=⟨#[48]⟩ from e0] at *;rw [show I (((0:Rat).den:Nat):Int)=⟨#[49]⟩ from e1] at *;have hi1':(if i=0 then (0:Rat) else a0)=(if i+1=0 then (0:Rat) else a0):=(by rw [if_neg (by omega),if_neg (by omega)]);rw [hi1'] at hb62;clear hb6 hh hx0 hx1 hr hq hy0 hy1 hi1';have Hk:=hid hk;have Hb8:=hid hb8;have HE:=hid hE;have HE2:=hid hE2;have Hb62:=hid hb62;have Hh2:=hid hh2;clear hk hb8 hE hE2 hb62 hh2;go_wp2_with fail
    go_roundw
    case rel=>exact ⟨i+1,by go_num,by omega,Hb62.out,Hh2.out,HE2.out⟩
    case measure=>simp [zal];omega
  ·obtain rfl:n=i:=by omega
   rw [if_neg (by have:=Hn1.out;omega)] at hb6;have hall:∀ k q,k<0→(a0::tl)[k]?=some q→k=0∨q=0:=fun k q h _=>by omega
   obtain ⟨wa,hwa⟩:∃ wa,wa=wr:=⟨_,rfl⟩;subst hwa;have Hb6:=hid hb6;have Hh:=hid hh;have HE:=hid hE;have Hall:=hid hall;clear hb6 hh hE hall;go_wp2_with fail
   go_loopw [9,10,34] (fun v9 v10 v34 wr=>∃ j:Nat,v34=.int .i64 j∧j≤n∧(∀ k q,k<j→(a0::tl)[k]?=some q→k=0∨q=0)∧zep wr w1.heap.size (.string (I a0.num)) (.string (I (a0.den:Int)))∧Res wr w.heap.size∧Ext w wr) (fun _ _ v34 _=>n - (zal v34).toNat)
   case atStart=>exact ⟨0,rfl,Nat.zero_le _,Hall.out,Hb6.out,⟨_,_,Hh.out⟩,HE.out⟩
   case round =>
    clear Hb6 Hh HE Hall;obtain ⟨j,rfl,hj,hall,hb6,hh,hE⟩:=hrel;by_cases hjn:j<n
    ·obtain ⟨r,hr⟩:∃ r,(ov tl.length)[j]?=some r:=⟨_,List.getElem?_eq_getElem (by rw [Hbl.out];exact hjn)⟩;obtain ⟨q,hq⟩:∃ q,(a0::tl)[j]?=some q:=⟨_,List.getElem?_eq_getElem (by rw [Hal.out];exact hjn)⟩;obtain ⟨bb,ob,rfl,hx0,hx1⟩:=Hcb.out j r hr;obtain ⟨ba,oa,rfl,hy0,hy1⟩:=Hca.out j q hq;have hor:=zkk hr;have hx0':=hE.cell hx0;have hx1':=hE.cell hx1;have hj0:(0:Int)≤(j:Int):=(by omega);have hj1:(j:Int)<(n:Int):=(by omega);have hb8:zep (wr.alloc (.cells #[.string (I r.num),.string (I (r.den:Int))] 102)) wr.heap.size (.string (I r.num)) (.string (I (r.den:Int))):=zep.new _ _ _;have hE2:Ext w (wr.alloc (.cells #[.string (I r.num),.string (I (r.den:Int))] 102)):=hE.alloc _;have hb62:=hb6.ext ((Ext.refl wr).alloc (.cells #[.string (I r.num),.string (I (r.den:Int))] 102));have hh2:=hh.ext ((Ext.refl wr).alloc (.cells #[.string (I r.num),.string (I (r.den:Int))] 102));have hl6:=hb6.lt;have hlh:w.heap.size<wr.heap.size:=(by obtain ⟨_,_,h⟩:=hh;exact h.lt);have hk:Kp2 w (wr.alloc (.cells #[.string (I r.num),.string (I (r.den:Int))] 102)) w1.heap.size (.string (I a0.num)) (.string (I (a0.den:Int))) wr.heap.size (.string (I r.num)) (.string (I (r.den:Int))) w.heap.size:=⟨hE2,hb62,hb8,hh2⟩;have hrf:Ft 1000 r:=by
      rcases hor with ⟨_,rfl⟩ | ⟨_,rfl⟩
      ·exact zjV.mono (by omega)
      ·exact ziy.mono (by omega)
     have hm:=fun W (h:Ext w W)=>Hmu.out a0 r W h (Hf.out a0 (List.mem_cons_self ..)) hrf;clear hb6 hh hE2 hb62 hh2 hx0 hx1 hrf;by_cases hqe:j=0∨q=0
     ·have hnx:∀ k q,k<j+1→(a0::tl)[k]?=some q→k=0∨q=0:=fun k q' hk h=>by
       rcases Nat.lt_or_ge k j with g | g
       ·exact hall k q' g h
       ·obtain rfl:k=j:=by omega
        rw [hq] at h;obtain rfl:=Option.some.inj h;exact hqe
      have hmq:a0 * r=q:=by
       rcases hor with ⟨h0,rfl⟩ | ⟨h0,rfl⟩
       ·rw [h0] at hq;have:a0=q:=(by simpa using hq);rw [← this,Rat.mul_one]
       ·rcases hqe with h | h
        ·omega
        ·rw [h,Rat.mul_zero]
      rw [hmq] at hm;unfold Rv at hm;generalize I q.num=s3 at *;generalize I (q.den:Int)=s4 at *;generalize I a0.num=s1 at *;generalize I (a0.den:Int)=s2 at *;generalize I r.num=s5 at *;generalize I (r.den:Int)=s6 at *;clear hall hqe hmq hor hr hq;have Hm:=hid hm;have Hk:=hid hk;have Hb8:=hid hb8;have HE:=hid hE;have Hnx:=hid hnx;have Hy0:=hid hy0;have Hy1:=hid hy1;clear hm hk hb8 hE hnx hy0 hy1;go_wp2_with fail
      generalize hV:wr.alloc (.cells #[.string s5,.string s6] 102)=V at *;go_region_held3 (fun w'=>Kp2 w w' w1.heap.size (.string s1) (.string s2) wr.heap.size (.string s5) (.string s6) w.heap.size∧w'.cell? ⟨ba,oa+j * 2,none⟩=some (.string s3)∧w'.cell? ⟨ba,oa+j * 2+1,none⟩=some (.string s4)∧w'.cell? ⟨w1.heap.size,0,none⟩=some (.string s1)∧w'.cell? ⟨w1.heap.size,1,none⟩=some (.string s2)∧w'.cell? ⟨wr.heap.size,0,none⟩=some (.string s5)∧w'.cell? ⟨wr.heap.size,1,none⟩=some (.string s6)∧w'.cell? ⟨w.heap.size,0,none⟩=some (zeq w' w.heap.size 0)∧w'.cell? ⟨w.heap.size,1,none⟩=some (zeq w' w.heap.size 1)∧w'.frozen? ⟨w.heap.size,0,none⟩=false∧w'.frozen? ⟨w.heap.size,1,none⟩=false)
       (first | exact (Kp2.ext Hk.out ((Ext.refl _).drew)).allA Hy0.out Hy1.out | exact (Kp2.ext (And.left (by assumption)) hxa).allA Hy0.out Hy1.out)
       (first
        | (go_at_call 150;refine (Hm.out _ (And.left (And.left (by assumption)))).mono ?_;rintro e9 V4 ⟨rfl,hxa⟩;have hkk:=Kp2.ext (And.left (by assumption)) hxa))
      all_goals
       clear hxa;have Hkk:=hid hkk;clear hkk;go_wp2_with fail
       go_roundw
       case rel=>exact ⟨j+1,by go_num,by omega,Hnx.out,Hkk.out.2.1,Hkk.out.res,Hkk.out.1⟩
       case measure=>simp [zal];omega
     ·have hr0:r=0:=by
       rcases hor with ⟨h0,_⟩ | ⟨_,h⟩
       ·exact absurd (Or.inl h0) hqe
       ·exact h
      have hq0:q ≠ 0:=fun h=>hqe (Or.inr h);have hne:¬ ((⟨#[48]⟩:ByteArray)=I q.num∧(⟨#[49]⟩:ByteArray)=I (q.den:Int)):=by
       rintro ⟨h1,h2⟩;refine hq0 (zdJ ?_);unfold Rv;rw [← h1,← h2,show I (0:Rat).num=⟨#[48]⟩ from e0,show I (((0:Rat).den:Nat):Int)=⟨#[49]⟩ from e1]
      have hbad:tl.all (· == 0)=false:=by
       rw [Bool.eq_false_iff];intro h;obtain ⟨j',rfl⟩:∃ j',j=j'+1:=⟨j - 1,by have:j ≠ 0:=fun h=>hqe (Or.inl h);omega⟩;rw [List.getElem?_cons_succ] at hq;have:=List.all_eq_true.1 h q (List.mem_of_getElem? hq);exact hq0 (by simpa using this)
      subst hr0;rw [Rat.mul_zero] at hm;unfold Rv at hm;rw [show I (0:Rat).num=⟨#[48]⟩ from e0] at *;rw [show I (((0:Rat).den:Nat):Int)=⟨#[49]⟩ from e1] at *;generalize I q.num=s3 at *;generalize I (q.den:Int)=s4 at *;generalize hs1:I a0.num=s1 at *;generalize hs2:I (a0.den:Int)=s2 at *;clear hall hqe hor hr hq hq0;have Hm:=hid hm;have Hk:=hid hk;have Hb8:=hid hb8;have HE:=hid hE;have Hy0:=hid hy0;have Hy1:=hid hy1;have Hbad:=hid hbad;have Hs1:=hid hs1;have Hs2:=hid hs2;clear hm hk hb8 hE hy0 hy1 hbad hs1 hs2;have hneT:[(48:UInt8)]=s3.toList→¬ [(49:UInt8)]=s4.toList:=fun h1 h2=>hne ⟨by rw [Lib.toList_data] at h1;exact ByteArray.ext (Array.toList_inj.1 h1),by rw [Lib.toList_data] at h2;exact ByteArray.ext (Array.toList_inj.1 h2)⟩;clear hne;have hpart:¬ [(48:UInt8)]=s3.toList∨(s3.toList=[48]∧¬ [(49:UInt8)]=s4.toList):=by
       by_cases g:[(48:UInt8)]=s3.toList
       ·exact Or.inr ⟨g.symm,hneT g⟩
       ·exact Or.inl g
      clear hneT;rcases hpart with g | ⟨g,g2⟩
      all_goals
       go_wp2_with fail
       generalize hV:wr.alloc (.cells #[.string ⟨#[48]⟩,.string ⟨#[49]⟩] 102)=V at *;go_region_held3 (fun w'=>Kp2 w w' w1.heap.size (.string s1) (.string s2) wr.heap.size (.string ⟨#[48]⟩) (.string ⟨#[49]⟩) w.heap.size∧w'.cell? ⟨ba,oa+j * 2,none⟩=some (.string s3)∧w'.cell? ⟨ba,oa+j * 2+1,none⟩=some (.string s4)∧w'.cell? ⟨w1.heap.size,0,none⟩=some (.string s1)∧w'.cell? ⟨w1.heap.size,1,none⟩=some (.string s2)∧w'.cell? ⟨wr.heap.size,0,none⟩=some (.string ⟨#[48]⟩)∧w'.cell? ⟨wr.heap.size,1,none⟩=some (.string ⟨#[49]⟩)∧w'.cell? ⟨w.heap.size,0,none⟩=some (zeq w' w.heap.size 0)∧w'.cell? ⟨w.heap.size,1,none⟩=some (zeq w' w.heap.size 1)∧w'.frozen? ⟨w.heap.size,0,none⟩=false∧w'.frozen? ⟨w.heap.size,1,none⟩=false)
        (first | exact (Kp2.ext Hk.out ((Ext.refl _).drew)).allA Hy0.out Hy1.out | exact (Kp2.ext (And.left (by assumption)) hxa).allA Hy0.out Hy1.out)
        (first
         | (go_at_call 150;refine (Hm.out _ (And.left (And.left (by assumption)))).mono ?_;rintro e9 V4 ⟨rfl,hxa⟩;have hkk:=Kp2.ext (And.left (by assumption)) hxa))
       all_goals
        clear hxa;have Hkk:=hid hkk;clear hkk;have hc6:=Hkk.out.2.1.c0;have hc7:=Hkk.out.2.1.c1;have hz0:=Hkk.out.res.fz 0;have hz1:=Hkk.out.res.fz 1;have hr0:=Hkk.out.res.c0;have hr1:=Hkk.out.res.c1;obtain ⟨hb,hfx⟩:=(Hkk.out).fin (Nat.le_refl _) (.string s1) (.string s2);have Hb:=hid hb;have Hfx:=hid hfx;clear hb hfx;go_wp2_with fail
        have hd0:=Hb.out.c0;have hd1:=Hb.out.c1;exact bodyPost_ret (v:=.tuple #[.agg #[.string s1,.string s2],.bool false]) (by simp [results,Tryz.results176,go_sem,hd0,hd1]) rfl ⟨by unfold Rv;rw [Hs1.out,Hs2.out,Hbad.out],Hfx.out⟩
    ·obtain rfl:n=j:=by omega
     have hgood:tl.all (· == 0)=true:=by
      rw [List.all_eq_true];intro q hq;obtain ⟨k,hk⟩:=List.getElem?_of_mem hq;have hkl:k<tl.length:=(List.getElem?_eq_some_iff.1 hk).1;have:=hall (k+1) q (by have:=Hn1.out;omega) (by rw [List.getElem?_cons_succ];exact hk);rcases this with h | h
      ·omega
      ·simp [h]
     generalize hs1:I a0.num=s1 at *;generalize hs2:I (a0.den:Int)=s2 at *;have hk:Kp1 w wr w1.heap.size (.string s1) (.string s2) w.heap.size:=⟨hE,hb6,hh⟩;clear hall hb6 hh hE;have hc6:=hk.2.1.c0;have hc7:=hk.2.1.c1;have hz0:=hk.res.fz 0;have hz1:=hk.res.fz 1;have hr0:=hk.res.c0;have hr1:=hk.res.c1;obtain ⟨hb,hfx⟩:=(hk).fin (Nat.le_refl _) (.string s1) (.string s2);have Hb:=hid hb;have Hfx:=hid hfx;have Hgood:=hid hgood;have Hk:=hid hk;have Hs1:=hid hs1;have Hs2:=hid hs2;clear hb hfx hgood hk hs1 hs2;go_wp2_with fail
     have hd0:=Hb.out.c0;have hd1:=Hb.out.c1;exact bodyPost_ret (v:=.tuple #[.agg #[.string s1,.string s2],.bool true]) (by simp [results,Tryz.results176,go_sem,hd0,hd1]) rfl ⟨by unfold Rv;rw [Hs1.out,Hs2.out,Hgood.out],Hfx.out⟩
end
end Go.Proofs.YtipkdebkdnbieaaGreatDoor
