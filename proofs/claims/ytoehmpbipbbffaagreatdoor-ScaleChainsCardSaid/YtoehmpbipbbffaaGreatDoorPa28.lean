/- Plain: near sizes by the form of 2048 bits are as by the form of 26 bits; their collections are the same. Walks: terms.sign, size.Sign and size.Compare at any sizes over 2.3 and 2.3.5 with numbers of 30 digits. (Printed by wip/cmpg.py; its head is XSgnG.head.) Plain: rotations and merges in place (slices.symMergeCmpFunc and below). Walks: slices.swapRangeCmpFunc and slices.rotateCmpFunc at ints. -/
import Derived.Test.YtoehmpbipbbffaaGreatDoorPa23
import Derived.Test.YtoehmpbipbbffaaGreatDoorPa18
import Derived.Test.YtoehmpbipbbffaaGreatDoorPa27
import Derived.Test.YtoehmpbipbbffaaGreatDoorPa14
import Derived.Test.YtoehmpbipbbffaaGreatDoorPa21
import Derived.Test.YtoehmpbipbbffaaGreatDoorPa17
import Derived.Shelf.RegionOpenPlain
import Derived.Shelf.Abstract
import Derived.Shelf.SlicesE.Kit
import Derived.Deep.RegionHeld3
set_option maxRecDepth 100000
set_option maxHeartbeats 2000000
namespace Go.Proofs.YtoehmpbipbbffaaGreatDoor
section
def K22 : Nat:=2 ^ 2022
theorem znP {a G K f:Int}(h1:a * K≤G)(h2:G≤(a+1) * K)(hK:0≤K):K * min (f * a) (f * (a+1))≤f * G∧f * G≤K * max (f * a) (f * (a+1)):=by
 have m1:=Int.mul_le_mul_of_nonneg_left (Int.min_le_left (f * a) (f * (a+1))) hK;have m2:=Int.mul_le_mul_of_nonneg_left (Int.min_le_right (f * a) (f * (a+1))) hK;have m3:=Int.mul_le_mul_of_nonneg_left (Int.le_max_left (f * a) (f * (a+1))) hK;have m4:=Int.mul_le_mul_of_nonneg_left (Int.le_max_right (f * a) (f * (a+1))) hK;have e1:f * (a * K)=K * (f * a):=by grind
 have e2:f * ((a+1) * K)=K * (f * (a+1)):=by grind
 rcases Int.le_total 0 f with g | g
 ·have n1:=Int.mul_le_mul_of_nonneg_left h1 g;have n2:=Int.mul_le_mul_of_nonneg_left h2 g;omega
 ·have n1:=Int.mul_le_mul_of_nonpos_left g h1;have n2:=Int.mul_le_mul_of_nonpos_left g h2;omega
theorem znQ {p:Int}(h:p=2∨p=3∨p=5):lg p * ((K22:Nat):Int)≤(LG p 2048:Int)∧(LG p 2048:Int)≤(lg p+1) * ((K22:Nat):Int)∧(p=2→(LG p 2048:Int)=lg p * ((K22:Nat):Int)):=by
 rcases h with rfl | rfl | rfl <;> decide +kernel
theorem znR : ∀ (l:List (Int × Int)),(∀ e∈l,e.1=2∨e.1=3∨e.1=5)→((K22:Nat):Int) * lowT l≤zkE l∧zkE l≤((K22:Nat):Int) * higT l
 | [],_=>by simp [lowT,higT,zkE]
 | e::l,h=>by
  have ih:=znR l fun s hs=>h s (List.mem_cons_of_mem _ hs);obtain ⟨g1,g2,g3⟩:=znQ (h e (List.mem_cons_self ..));have hb:=znP (f:=e.2) g1 g2 (Int.natCast_nonneg _);simp only [lowT,higT,zkE,loP,hiP];generalize ((K22:Nat):Int)=K at *;generalize (LG e.1 2048:Int)=G at *;by_cases h2:e.1=2
  ·rw [if_pos h2,if_pos h2];have:=g3 h2;have e1:K * (e.2 * lg e.1)=e.2 * G:=(by rw [this];grind);refine ⟨?_,?_⟩ <;> rw [Int.mul_add K] <;> omega
  ·rw [if_neg h2,if_neg h2];refine ⟨?_,?_⟩ <;> rw [Int.mul_add K] <;> omega
theorem znS {l:List (Int × Int)}(h:∀ e∈l,e.1=2∨e.1=3∨e.1=5)(hf:zfd l):zfc l=sgM l:=by
 obtain ⟨b1,b2⟩:=znR l h;have hK:(0:Int)<((K22:Nat):Int):=by decide +kernel
 unfold zfc sgM;rcases hf.cases with g | ⟨g,k⟩ | ⟨g,g2,k⟩
 ·rw [if_pos g,if_pos g]
 ·have hne:l ≠ []:=fun e=>by rw [e] at g;simp [lowT] at g
  have:=Int.mul_pos hK g;rw [if_neg hne,if_neg hne,if_pos (by omega),if_pos (by omega)]
 ·have hne:l ≠ []:=fun e=>by rw [e] at g;simp [lowT] at g
  have:=Int.mul_neg_of_pos_of_neg hK g2;rw [if_neg hne,if_neg hne,if_neg (by omega),if_neg (by omega)]
theorem znT {r:Rat}:sgQ r<0 ↔ r<0:=by
 unfold sgQ;constructor
 ·intro h;by_cases g:r<0
  ·exact g
  ·rw [if_neg g] at h;split at h <;> omega
 ·intro h;rw [if_pos h];decide
theorem znU {p:List Int}{x y:List Rat}(hp:Pr p x.length)(hl:x.length=y.length)(hq:zid p (zeT x y)):sF p x<sF p y ↔ mF p x<mF p y:=by
 have hzl:=ziW hl;have hz:Pr p (zeT x y).length:=by rw [hzl];exact hp
 have h1:=zff hq.2.2 fun e=>zfs p _ (zfr hz e);have h2:=znS (fun e he=>(hq.2.1 e he).1) hq.2.2;have h3:=(zmb hz hq.1).1;rw [← h2,h1,znT,zeV p x y hl,zlU p x y hl] at h3;constructor
 ·intro h;have:=h3.1 (by grind);grind
 ·intro h;have:=h3.2 (by grind);grind
theorem Lw.rs {p:List Int}{c:Int}{l:List (List Rat)}(h:Lw p c l){x:List Rat}(hx:x∈l):rsN p x=rst p x∧flN p x=flP p x:=by
 obtain ⟨n,hn⟩:=h.nic;have hp:Pr p x.length:=by rw [h.len x hx];exact h.pr
 obtain ⟨a,tl,rfl,_,hb⟩:=zjw hp (hn x hx);have e:flN p (a::tl)=flP p (a::tl):=by rw [znO hp hb,zi1 hp hb]
 exact ⟨by unfold rsN rst;rw [e],e⟩
theorem Lw.pl {p:List Int}{c:Int}{l:List (List Rat)}(h:Lw p c l){x:List Rat}(hx:PlN p l x):x=zer p.length∨x=ov (p.length - 1)∨∃ z∈l,x=rst p z:=by
 rcases hx with e | e | ⟨z,hz,e⟩
 ·exact .inl e
 ·exact .inr (.inl e)
 ·exact .inr (.inr ⟨z,hz,by rw [e,(h.rs hz).1]⟩)
theorem Lw.low {p:List Int}{c:Int}{l:List (List Rat)}(h:Lw p c l){x:List Rat}(hx:x=zer p.length∨x=ov (p.length - 1)∨∃ z∈l,x=rst p z):0≤sF p x∧sF p x≤67108864:=by
 rcases hx with rfl | rfl | ⟨z,hz,rfl⟩
 ·rw [zjl];decide
 ·rw [sov h.pr];decide
 ·have:=h.range hz;exact ⟨this.1,Rat.le_of_lt this.2⟩
theorem Lw.two {p:List Int}{c:Int}{l:List (List Rat)}(h:Lw p c l){x y:List Rat}(hx:PlN p l x)(hy:PlN p l y):x.length=p.length∧y.length=p.length∧zid p (zeT x y):=by
 obtain ⟨n,hn⟩:=h.play;have hx2:=h.pl hx;have hy2:=h.pl hy;obtain ⟨l1,n1⟩:=hn x y hx2 hy2;obtain ⟨l2,_⟩:=hn y y hy2 hy2;have b1:=h.low hx2;have b2:=h.low hy2;have hl:x.length=y.length:=l1.trans l2.symm;have hs:=zeV p x y hl;exact ⟨l1,l2,ziU (c:=1) (by rw [ziW hl,l1];exact h.pr) n1 (by omega) (by omega) (by
  rw [show ((1 * 67108864:Int):Rat)=67108864 from rfl];grind) (by
  rw [show ((1 * 67108864:Int):Rat)=67108864 from rfl];grind)⟩
theorem Lw.le {p:List Int}{c:Int}{l:List (List Rat)}(h:Lw p c l):Le p l :=
 ⟨h.pr,h.len,fun x hx=>(h.quick x hx).1,fun x hx=>by
  obtain ⟨a,tl,rfl,hr⟩:=h.red hx;rw [(h.rs hx).1];exact hr.res,fun x y hx hy=>(h.two hx hy).2.2.1⟩
theorem Lw.coll {p:List Int}{c:Int}{l N:List (List Rat)}(h:Lw p c l)(hC:zmq p l N):zjz p l N:=by
 have hpl:∀ x∈N,PlN p l x:=fun x hx=>by
  rcases (hC.2 x).1 hx with e | ⟨_,y,hy,e⟩
  ·exact .inr (.inl e)
  ·exact .inr (.inr ⟨y,hy,e⟩)
 refine ⟨List.Pairwise.imp_of_mem (fun {x y} hx hy hlt=>?_) hC.1,fun x=>?_⟩
 ·obtain ⟨l1,l2,hq⟩:=h.two (hpl x hx) (hpl y hy);exact (znU (by rw [l1];exact h.pr) (l1.trans l2.symm) hq).2 hlt
 ·rw [hC.2];constructor
  ·rintro (e | ⟨h1,y,hy,e⟩)
   ·exact .inl e
   ·exact .inr ⟨h1,y,hy,by rw [e,(h.rs hy).1]⟩
  ·rintro (e | ⟨h1,y,hy,e⟩)
   ·exact .inl e
   ·exact .inr ⟨h1,y,hy,by rw [e,(h.rs hy).1]⟩
end
section
open Go.RowKit Go.Lib
attribute [local go_sem] Oper.semAt_some
theorem znV {l:List (Int × Int)}(h:∀ e∈l,okN e):∀ e∈l,zht e:=fun e he=>⟨(h e he).1,by
 have h1:=(h e he).2;have h2:HH<10 ^ 121:=by decide +kernel
 exact Nat.le_trans (Dec.nDigits_le (k:=121) (by decide) (Nat.lt_of_le_of_lt h1 h2)) (by decide)⟩
theorem znW (tv:Value)(l:List (Int × Int))(d:Nat)(w:World)(ht:TmV w tv l d)(hS:Sgn l)(hne:l ≠ [])(hrv:zgJ w) :
  Calls Tryz.prog 110 #[tv] w fun e w'=>(∃ z:Int,e=.returned (.int .i64 z)∧(z=0∨z=sgM l))∧Ext w w':=by
 have hn:=fun W (hE:Ext w W)=>zh1 tv l d 10000000 W (ht.ext hE) hS.few (by omega) (Int.le_refl _) (znV hS.ok) (.inr (hrv.ext hE));have h1:=fun h=>hS.lowT hne h;have h2:=fun h=>hS.higT hne h;obtain ⟨vp,vf,rfl,hp,hfa⟩:=ht;obtain ⟨aa,ca,rfl,_,_,_⟩:=hp.parts;obtain ⟨ab,cb,rfl,_,_,_⟩:=hfa.parts;clear hp hfa hS hrv;have hall:(∀ e∈l,okE 10000000 e)∨¬ ∀ e∈l,okE 10000000 e:=Classical.em _;generalize (∀ e∈l,okE 10000000 e)=A at *;generalize (zak (l.map Prod.fst)).length=la at *;generalize (zgc (l.map Prod.snd)).length=lb at *;generalize sgM l=sg at *;generalize lowT l=lo at *;generalize higT l=hi at *;have hE0:Ext w (w.alloc (.cells #[.slice aa la ca,.slice ab lb cb,.string (I ((d:Nat):Int))] 110)):=(Ext.refl w).alloc _;have HE0:=hid hE0;clear hE0;have Hn:=hid hn;have H1:=hid h1;have H2:=hid h2;clear hn h1 h2;rcases hall with hA | hA
 ·have HA:=hid hA;clear hA;go_enter Tryz.func110,Tryz.ntmps110
  go_wp2_with fail
  refine (Hn.out _ HE0.out).mono ?_;rintro e w1 ⟨hy,_,hx1⟩;obtain rfl:=hy HA.out;have Hx1:=hid (HE0.out.trans hx1);clear hx1 hy;by_cases h0:0≤lo
  ·obtain rfl:=H1.out h0;go_wp2
   go_ret
   exact ⟨⟨1,rfl,.inr rfl⟩,Hx1.out⟩
  ·by_cases h3:hi≤0
   ·obtain rfl:=H2.out h3;go_wp2
    go_ret
    exact ⟨⟨-1,rfl,.inr rfl⟩,Hx1.out⟩
   ·go_wp2
    go_ret
    exact ⟨⟨0,rfl,.inl rfl⟩,Hx1.out⟩
 ·have HA:=hid hA;clear hA;go_enter Tryz.func110,Tryz.ntmps110
  go_wp2_with fail
  refine (Hn.out _ HE0.out).mono ?_;rintro e w1 ⟨_,hy,hx1⟩;obtain rfl:=hy HA.out;have Hx1:=hid (HE0.out.trans hx1);clear hx1 hy;go_wp2
  go_ret
  exact ⟨⟨0,rfl,.inl rfl⟩,Hx1.out⟩
theorem znX {l:List (Int × Int)}(h:l ≠ []):sgM l ≠ 0:=by
 unfold sgM;rw [if_neg h];split <;> decide
theorem znY {n:Nat}(h:Lad n)(h2:n ≠ 2048):Lad (n * 2)∧(64≤n∧n≤1024):=by
 unfold Lad at *;omega
theorem znZ (tv:Value)(l:List (Int × Int))(d:Nat)(w:World)(he:Env w)(ht:TmV w tv l d)(hS:Sgn l)(hrv:zgJ w) :
  Calls Tryz.prog 69 #[tv] w fun e w'=>e=.returned (.int .i64 (sgM l))∧Ext w w':=by
 have hq:=fun W (hE:Ext w W)(hne:l ≠ [])=>znW tv l d W (ht.ext hE) hS hne (hrv.ext hE);have he1:=fun W n (hE:Ext w W)(hn:Lad n)=>zlA tv l d n W (he.ext hE) (ht.ext hE) hS.few hn hS.ok;have hf:=fun n (hn:Lad n)=>zl7 (zkI hn) (l:=l) (by have:=hS.few;omega) hS.ok;have hs1:=fun n (hn:Lad n) W=>zbK (zkC n l) W (zl2 (by have:=(hf n hn).1;omega));have hs2:=fun n (hn:Lad n) W=>zbK (zkD n l) W (zl2 (by have:=(hf n hn).2;omega));have h1:=fun n (hn:Lad n)(hne:l ≠ [])(h:0≤zkC n l)=>hS.low (zkI hn) hne h;have h2:=fun n (hn:Lad n)(hne:l ≠ [])(h:zkD n l≤0)=>hS.hig (zkI hn) hne h;have h3:=fun (hne:l ≠ [])=>hS.top hne;have hs:(l.length=0→sgM l=0∧l=[])∧(l.length ≠ 0→sgM l ≠ 0∧l ≠ []):=by
  constructor
  ·intro h;have:l=[]:=List.length_eq_zero_iff.1 h;exact ⟨by unfold sgM;rw [if_pos this],this⟩
  ·intro h;have:l ≠ []:=fun e=>h (by rw [e];rfl);exact ⟨znX this,this⟩
 have hlf:=hS.few;obtain ⟨vp,vf,rfl,hp,hfa⟩:=ht;obtain ⟨aa,ca,rfl,_,_,_⟩:=hp.parts;obtain ⟨ab,cb,rfl,_,_,_⟩:=hfa.parts;clear hp hfa he hS hrv hf;rw [zam,List.length_map] at *;generalize (zgc (l.map Prod.snd)).length=lb at *;generalize hsg:sgM l=sg at *;clear hsg;have hE0:Ext w (w.alloc (.cells #[.slice aa l.length ca,.slice ab lb cb,.string (I ((d:Nat):Int))] 110)):=(Ext.refl w).alloc _;have bx:=zge.new w (.slice aa l.length ca) (.slice ab lb cb) (.string (I ((d:Nat):Int)));generalize I ((d:Nat):Int)=sd at *;have Hq:=hid hq;have He1:=hid he1;have Hs1:=hid hs1;have Hs2:=hid hs2;have H1:=hid h1;have H2:=hid h2;have H3:=hid h3;have Hs:=hid hs;have HE0:=hid hE0;have BX:=hid bx;clear hq he1 hs1 hs2 h1 h2 h3 hs hE0 bx;go_enter Tryz.func69,Tryz.ntmps69
 go_wp2_with fail
 go_step3
 by_cases h0:l.length=0
 ·obtain ⟨rfl,rfl⟩:=Hs.out.1 h0;go_wp2
  try rw [Exit.noGoto_ret]
  go_ret
  exact ⟨rfl,HE0.out⟩
 ·obtain ⟨hsn,hne⟩:=Hs.out.2 h0;have Hq2:=hid fun W hE=>Hq.out W hE hne;have Hne:=hid hne;have Hsn:=hid hsn;clear Hq hne hsn;go_wp2_with fail
  refine (Hq2.out _ HE0.out).mono ?_;rintro e w1 ⟨⟨z,rfl,hz⟩,hx1⟩;have Hx1:=hid (HE0.out.trans hx1);have HB1:=hid (BX.out.ext hx1);clear hx1;by_cases hz0:z=0
  case neg =>
   have hzs:z=sg:=hz.resolve_left hz0;have hsn:=Hsn.out;subst hzs;clear hz;have hzb:(z == 0)=false:=beq_eq_false_iff_ne.2 hz0;go_wp2
   try rw [Exit.noGoto_ret]
   go_ret
   exact ⟨rfl,Hx1.out⟩
  case pos =>
   subst hz0;clear hz;go_wp2_with fail
   go_step3
   go_wp2_with fail
   go_loopw [4] (fun v wr=>∃ n:Nat,v=.int .i64 n∧Lad n∧Ext w1 wr) (fun v _=>2048 - (zag v).toNat)
   case atStart=>exact ⟨64,rfl,.inl rfl,Ext.refl _⟩
   case round =>
    obtain ⟨n,rfl,hn,hE⟩:=hrel;have Hn:=hid hn;have HE6:=hid hE;clear hn hE;obtain ⟨b0,b1,b2,_⟩:=(HB1.out.ext HE6.out).c;go_wp2_with fail
    refine (He1.out wr n (Hx1.out.trans HE6.out) Hn.out).mono ?_;rintro e v1 ⟨rfl,hx⟩;have HE7:=hid (HE6.out.trans hx);clear hx b0 b1 b2;have hs1:=Hs1.out n Hn.out;have hs2:=Hs2.out n Hn.out;have h1:=H1.out n Hn.out Hne.out;have h2:=H2.out n Hn.out Hne.out;have htop:n=2048→0≤zkC n l∨zkD n l≤0:=fun e=>by rw [e];exact H3.out Hne.out
    generalize zkC n l=lo at *;generalize zkD n l=hi at *;have hc1:0≤lo ↔ ¬ zbc lo 0<0:=by
     rcases Int.lt_trichotomy lo 0 with g | g | g
     ·rw [zbd g];omega
     ·rw [zbe g];omega
     ·rw [zbf g];omega
    have hc2:hi≤0 ↔ ¬ 0<zbc hi 0:=by
     rcases Int.lt_trichotomy hi 0 with g | g | g
     ·rw [zbd g];omega
     ·rw [zbe g];omega
     ·rw [zbf g];omega
    generalize zbc lo 0=c1 at *;generalize zbc hi 0=c2 at *;generalize I lo=slo at *;generalize I hi=shi at *;have HS1:=hid hs1;have HS2:=hid hs2;have HL:=hid h1;have HH2:=hid h2;have Htop:=hid htop;have HC1:=hid hc1;have HC2:=hid hc2;clear hs1 hs2 h1 h2 htop hc1 hc2;by_cases g1:0≤c1
    ·obtain rfl:=HL.out (HC1.out.2 (by omega));go_wp2_with fail
     refine (HS1.out _).mono ?_;rintro e v3 ⟨rfl,rfl⟩;go_wp2
     try rw [Exit.noGoto_ret]
     go_ret
     exact ⟨rfl,Hx1.out.trans HE7.out⟩
    ·by_cases g2:c2≤0
     ·obtain rfl:=HH2.out (HC2.out.2 (by omega));go_wp2_with fail
      refine (HS1.out _).mono ?_;rintro e v3 ⟨rfl,rfl⟩;go_wp2_with fail
      refine (HS2.out _).mono ?_;rintro e v3 ⟨rfl,rfl⟩;go_wp2
      try rw [Exit.noGoto_ret]
      go_ret
      exact ⟨rfl,Hx1.out.trans HE7.out⟩
     ·have hn2:n ≠ 2048:=fun e=>by
       rcases Htop.out e with h | h
       ·exact g1 (by have:=HC1.out.1 h;omega)
       ·exact g2 (by have:=HC2.out.1 h;omega)
      obtain ⟨hl2,hnb⟩:=znY Hn.out hn2;have Hl2:=hid hl2;clear hl2 hn2;go_wp2_with fail
      refine (HS1.out _).mono ?_;rintro e v3 ⟨rfl,rfl⟩;go_wp2_with fail
      refine (HS2.out _).mono ?_;rintro e v3 ⟨rfl,rfl⟩;go_wp2_with fail
      refine ⟨⟨n * 2,?_,Hl2.out,HE7.out⟩,?_⟩
      ·rw [Int.natCast_mul];rfl
      ·simp only [zag];omega
theorem zoa (vp va vb:Value)(p:List Int)(x y:List Rat)(w:World)(he:Env w)(hp:Sl w vp (zak p))(ha:Rd w va x)(hb:Rd w vb y)(hpl:p.length≤100)(hx:x.length=p.length)(hy:y.length=p.length)(hxf:∀ q∈x,Ft 400 q)(hyf:∀ q∈y,Ft 400 q)(hpr:Pr p p.length)(hdf:∀ q∈zeT x y,Ft 30 q)(hrv:zgJ w) :
  Calls Tryz.prog 82 #[vp,va,vb] w fun e w'=>e=.returned (.int .i64 (sgM (tms p (dn (zeT x y)) (zeT x y))))∧Ext w w':=by
 have hua:=zf8 ha;have hub:=zf8 hb;have hsum:zh7 p.length [x,y] [1,-1] 2=zeT x y:=zhI hx hy;have hsl:(zeT x y).length=p.length:=by unfold zeT;rw [List.length_zipWith];omega
 have hco:∀ W vl vf,Ext w W→RdM W vl [⟨x,va,hua⟩,⟨y,vb,hub⟩]→Rd W vf [1,-1]→Calls Tryz.prog 77 #[.int .i64 (p.length:Int),vl,vf] W fun e w'=>∃ g,e=.returned (.slice (some ⟨g,0,none⟩) p.length p.length)∧zf4 w' W.heap.size (.slice (some ⟨g,0,none⟩) p.length p.length) (zeT x y)∧Ext W w':=by
  intro W vl vf hE hl hf;have:=zhQ p.length vl vf [⟨x,va,hua⟩,⟨y,vb,hub⟩] [1,-1] W (he.ext hE) hl hf (by omega) (by simp) (by simp) (by
   intro r hr;rcases List.mem_cons.1 hr with rfl | hr
   ·exact ⟨hx,hxf⟩
   ·rw [List.mem_singleton] at hr;subst hr;exact ⟨hy,hyf⟩) (by
   intro f hf;simp only [List.mem_cons,List.not_mem_nil,or_false] at hf;rcases hf with rfl | rfl
   ·exact zhW
   ·exact zhX)
  change Calls _ _ _ _ fun e w'=>e=.returned (.slice (some ⟨W.heap.size,0,none⟩) p.length p.length)∧zf4 w' W.heap.size (.slice (some ⟨W.heap.size,0,none⟩) p.length p.length) (zh7 p.length [x,y] [1,-1] 2)∧Ext W w' at this;rw [hsum] at this;exact this.mono fun e w' h=>⟨_,h⟩
 have hn1:=fun W (h:Ext w W)=>zfA 1 W (he.ext h) (by omega) (by omega);have hn2:=fun W (h:Ext w W)=>zfA (-1) W (he.ext h) (by omega) (by omega);rw [zf9] at hn1 hn2;have hlt:=zgp (p:=p) (d:=dn (zeT x y)) (x:=zeT x y);rw [hsl] at hlt;have htm:=fun W v (hE:Ext w W)(hv:Rd W v (zeT x y))=>zgt vp v p (zeT x y) W (he.ext hE) (hE.sl hp) hv hpl hsl hdf;have hts:=fun W tv (hE:Ext w W)(ht:TmV W tv (tms p (dn (zeT x y)) (zeT x y)) (dn (zeT x y)))=>znZ tv _ _ W (he.ext hE) ht (zma (by rw [hsl];exact hpr) hdf) (hrv.ext hE);generalize sgM (tms p (dn (zeT x y)) (zeT x y))=sg at *;have hra:=fun W (h:Ext w W)=>h.rd ha;have hrb:=fun W (h:Ext w W)=>h.rd hb;have hbl:Ext w (w.alloc (.cells #[va,vb] 32)):=(Ext.refl w).alloc _;have hbc:(w.alloc (.cells #[va,vb] 32)).heap[w.heap.size]?=some (.cells ([va,vb]:List Value).toArray 32 (0,0)):=World.alloc_heap_new w _;have hone:rcs [1,-1]=[.string (I 1),.string ⟨#[49]⟩,.string (I (-1)),.string ⟨#[49]⟩]:=by
  show [Value.string (I 1),.string (I ((1:Nat):Int)),.string (I (-1)),.string (I ((1:Nat):Int))]=_;rw [zav,zbl]
 obtain ⟨ap,cp,rfl,_,_,_⟩:=hp.parts;obtain ⟨aa,ca,rfl,_,_,_⟩:=ha.parts;obtain ⟨ab,cb,rfl,_,_,_⟩:=hb.parts;rw [zam] at htm ⊢;generalize I 1=s1 at *;generalize I (-1)=s2 at *;clear hp ha hb he hxf hyf hpr hdf hrv hsum hsl hlt;clear hpl;have Hxl:=hid hx;have Hyl:=hid hy;clear hx hy;have Hco:=hid hco;have Hn1:=hid hn1;have Hn2:=hid hn2;have Hra:=hid hra;have Hrb:=hid hrb;have Hbl:=hid hbl;have Hbc:=hid hbc;have Hone:=hid hone;have Htm:=hid htm;have Hts:=hid hts;clear hco hn1 hn2 hra hrb hbl hbc hone htm hts;go_enter Tryz.func82,Tryz.ntmps82
 go_wp2_with fail
 refine (Hn1.out _ Hbl.out).mono ?_;rintro e w1 ⟨rfl,hx1⟩;have Hx1:=hid (Hbl.out.trans hx1);have Hb1:=hid (hx1.heap Hbc.out);clear hx1;go_wp2_with fail
 refine (Hn2.out w1 Hx1.out).mono ?_;rintro e w2 ⟨rfl,hx2⟩;have hx3:Ext w2 (w2.alloc (.cells #[.string s1,.string ⟨#[49]⟩,.string s2,.string ⟨#[49]⟩] 57)):=(Ext.refl w2).alloc _;have hE3:Ext w (w2.alloc (.cells #[.string s1,.string ⟨#[49]⟩,.string s2,.string ⟨#[49]⟩] 57)):=(Hx1.out.trans hx2).trans hx3;have hl3:RdM (w2.alloc (.cells #[.string s1,.string ⟨#[49]⟩,.string s2,.string ⟨#[49]⟩] 57)) (.slice (some ⟨w.heap.size,0,none⟩) 2 2) [⟨x,.slice aa x.length ca,hua⟩,⟨y,.slice ab y.length cb,hub⟩] :=
  ⟨zhR ((hx2.trans hx3).heap Hb1.out) (by unfold maxLen;simp),by
   intro r hr;rcases List.mem_cons.1 hr with rfl | hr
   ·exact Hra.out _ hE3
   ·rw [List.mem_singleton] at hr;subst hr;exact Hrb.out _ hE3⟩
 have hf3:Rd (w2.alloc (.cells #[.string s1,.string ⟨#[49]⟩,.string s2,.string ⟨#[49]⟩] 57)) (.slice (some ⟨w2.heap.size,0,none⟩) 2 2) [1,-1] :=
  zhS (x:=[1,-1]) (by rw [Hone.out];exact World.alloc_heap_new w2 _) (by unfold maxLen;simp)
 have hcc:=Hco.out _ _ _ hE3 hl3 hf3;have Hcc:=hid hcc;have HE3:=hid hE3;clear hx2 hx3 hl3 hf3 hcc hE3;go_wp2_with fail
 refine Hcc.out.mono ?_;rintro e w4 ⟨g,rfl,ho4,hx4⟩;have Ho4:=hid ho4.rd;have Hx4:=hid (HE3.out.trans hx4);clear ho4 hx4;go_wp2_with fail
 refine (Htm.out w4 _ Hx4.out Ho4.out).mono ?_;rintro e w5 ⟨tv,rfl,ht,hx5⟩;have Hx5:=hid (Hx4.out.trans hx5);have H6:=hid (Hts.out w5 tv Hx5.out ht);obtain ⟨_,_,rfl,_,_⟩:=ht;clear hx5;go_wp2_with fail
 refine (H6.out).mono ?_;rintro e w6 ⟨rfl,hx6⟩;have Hx6:=hid (Hx5.out.trans hx6);clear hx6;go_wp2
 go_ret
 exact ⟨rfl,Hx6.out⟩
theorem zob (vp va vb:Value)(p:List Int)(x y:List Rat)(w:World)(he:Env w)(hp:Sl w vp (zak p))(ha:Rd w va x)(hb:Rd w vb y)(hpe:zee p=0)(hpl:p.length≤100)(hx:x.length=p.length)(hy:y.length=p.length)(hxf:∀ q∈x,Ft 30 q)(hyf:∀ q∈y,Ft 30 q)(hpr:Pr p p.length)(hdf:∀ q∈zeT x y,Ft 30 q)(hrv:zgJ w) :
  Calls Tryz.prog 62 #[vp,va,vb] w fun e w'=>e=.returned (.tuple #[.int .i64 (sgM (tms p (dn (zeT x y)) (zeT x y))),.int .i64 0])∧Ext w w':=by
 have hua:=zf8 ha;have hub:=zf8 hb;have h1:=fun W vl (hE:Ext w W)(hl:RdM W vl [⟨x,va,hua⟩,⟨y,vb,hub⟩])=>zfP vp vl p [⟨x,va,hua⟩,⟨y,vb,hub⟩] W (he.ext hE) (hE.sl hp) hl hpe (by simp) (by
   intro r hr;rcases List.mem_cons.1 hr with rfl | hr
   ·exact ⟨hx,hxf⟩
   ·rw [List.mem_singleton] at hr;subst hr;exact ⟨hy,hyf⟩)
 have h2:=fun W (hE:Ext w W)=>zoa vp va vb p x y W (he.ext hE) (hE.sl hp) (hE.rd ha) (hE.rd hb) hpl hx hy (fun q h=>(hxf q h).mono (by omega)) (fun q h=>(hyf q h).mono (by omega)) hpr hdf (hrv.ext hE);generalize sgM (tms p (dn (zeT x y)) (zeT x y))=sg at *;have hl3:RdM (w.alloc (.cells #[va,vb] 32)) (.slice (some ⟨w.heap.size,0,none⟩) 2 2) [⟨x,va,hua⟩,⟨y,vb,hub⟩] :=
  ⟨zhR (us:=[va,vb]) (World.alloc_heap_new w _) (by unfold maxLen;simp),by
   intro r hr;rcases List.mem_cons.1 hr with rfl | hr
   ·exact ((Ext.refl w).alloc _).rd ha
   ·rw [List.mem_singleton] at hr;subst hr;exact ((Ext.refl w).alloc _).rd hb⟩
 have hbl:Ext w (w.alloc (.cells #[va,vb] 32)):=(Ext.refl w).alloc _;have h3:=h1 _ _ hbl hl3;clear h1 hl3;obtain ⟨ap,cp,rfl,_,_,_⟩:=hp.parts;obtain ⟨aa,ca,rfl,_,_,_⟩:=ha.parts;obtain ⟨ab,cb,rfl,_,_,_⟩:=hb.parts;clear hp ha hb he hxf hyf hpr hdf hrv hpe;have Hxl:=hid hx;have Hyl:=hid hy;clear hx hy;have H2:=hid h2;have H3:=hid h3;have Hbl:=hid hbl;clear h2 h3 hbl;go_enter Tryz.func62,Tryz.ntmps62
 go_wp2_with fail
 refine H3.out.mono ?_;rintro e w1 ⟨rfl,hx1⟩;have Hx1:=hid (Hbl.out.trans hx1);clear hx1;go_wp2_with fail
 refine (H2.out w1 Hx1.out).mono ?_;rintro e w2 ⟨rfl,hx2⟩;have Hx2:=hid (Hx1.out.trans hx2);clear hx2;go_wp2
 go_ret2
 exact ⟨rfl,Hx2.out⟩
end
section
section
variable {α : Type}
structure zoc (f g:Nat→Option α)(a m b:Nat):Prop where
 lo:∀ k,a≤k→k<a+(b - m)→g k=f (m+(k - a))
 hi:∀ k,a+(b - m)≤k→k<b→g k=f (k - (b - m))
 out:∀ k,k<a∨b≤k→g k=f k
structure SwF (f g:Nat→Option α)(x y n:Nat):Prop where
 lo:∀ k,x≤k→k<x+n→g k=f (y+(k - x))
 hi:∀ k,y≤k→k<y+n→g k=f (x+(k - y))
 out:∀ k,(k<x∨x+n≤k)→(k<y∨y+n≤k)→g k=f k
theorem SwF.refl (f:Nat→Option α)(x y:Nat):SwF f f x y 0:=⟨fun k h1 h2=>by omega,fun k h1 h2=>by omega,fun k _ _=>rfl⟩
theorem SwF.more {f g h:Nat→Option α}{x y n:Nat}(s:SwF f g x y n)(hxy:x+n<y)(h1:h (x+n)=g (y+n))(h2:h (y+n)=g (x+n))(h3:∀ k,k ≠ x+n→k ≠ y+n→h k=g k):SwF f h x y (n+1):=by
 refine ⟨fun k a b=>?_,fun k a b=>?_,fun k a b=>?_⟩
 ·by_cases e:k=x+n
  ·subst e;rw [h1,s.out _ (by omega) (by omega)];congr 1;omega
  ·rw [h3 k e (by omega)];exact s.lo k a (by omega)
 ·by_cases e:k=y+n
  ·subst e;rw [h2,s.out _ (by omega) (by omega)];congr 1;omega
  ·rw [h3 k (by omega) e];exact s.hi k a (by omega)
 ·rw [h3 k (by omega) (by omega)];exact s.out k (by omega) (by omega)
theorem zoc.left {f c g:Nat→Option α}{m i j:Nat}(hj:0<j)(hij:j<i)(him:i≤m)(s:SwF f c (m - i) m j)(r:zoc c g (m - (i - j)) m (m+j)):zoc f g (m - i) m (m+j):=by
 refine ⟨fun k a b=>?_,fun k a b=>?_,fun k a=>?_⟩
 ·rw [r.out k (by omega),s.lo k a (by omega)]
 ·rcases Nat.lt_or_ge k (m - (i - j)) with e | e
  ·omega
  ·rcases Nat.lt_or_ge k (m - (i - j)+(m+j - m)) with e2 | e2
   ·rw [r.lo k e e2,s.hi _ (by omega) (by omega)];congr 1;omega
   ·rw [r.hi k e2 (by omega),s.out _ (by omega) (by omega)]
 ·rw [r.out k (by omega),s.out k (by omega) (by omega)]
theorem zoc.right {f c g:Nat→Option α}{m i j:Nat}(hi:0<i)(hij:i<j)(him:i≤m)(s:SwF f c (m - i) (m+j - i) i)(r:zoc c g (m - i) m (m+(j - i))):zoc f g (m - i) m (m+j):=by
 refine ⟨fun k a b=>?_,fun k a b=>?_,fun k a=>?_⟩
 ·rcases Nat.lt_or_ge k (m - i+(m+(j - i) - m)) with e | e
  ·rw [r.lo k a e,s.out _ (by omega) (by omega)]
  ·rcases Nat.lt_or_ge k (m+(j - i)) with e2 | e2
   ·rw [r.hi k e e2,s.lo _ (by omega) (by omega)];congr 1;omega
   ·omega
 ·rw [r.out k (by omega),s.hi k (by omega) (by omega)];congr 1;omega
 ·rw [r.out k (by omega),s.out k (by omega) (by omega)]
theorem zoc.last {f g:Nat→Option α}{m i:Nat}(him:i≤m)(s:SwF f g (m - i) m i):zoc f g (m - i) m (m+i):=by
 refine ⟨fun k a b=>?_,fun k a b=>?_,fun k a=>?_⟩
 ·rw [s.lo k a (by omega)]
 ·rw [s.hi k (by omega) (by omega)];congr 1;omega
 ·rw [s.out k (by omega) (by omega)]
theorem zoc.up0 (f:Nat→Option α)(a:Nat):zoc f f a (a+1) (a+1):=⟨fun k h1 h2=>by omega,fun k h1 h2=>by congr 1;omega,fun k _=>rfl⟩
theorem zoc.up {f g h:Nat→Option α}{a k:Nat}(s:zoc f g a (a+1) (k+1))(hk:a≤k)(h1:h k=g (k+1))(h2:h (k+1)=g k)(h3:∀ i,i ≠ k→i ≠ k+1→h i=g i):zoc f h a (a+1) (k+2):=by
 refine ⟨fun i x y=>?_,fun i x y=>?_,fun i x=>?_⟩
 ·by_cases e:i=k
  ·subst e;rw [h1,s.out _ (by omega)];congr 1;omega
  ·rw [h3 i e (by omega)];exact s.lo i x (by omega)
 ·obtain rfl:i=k+1:=by omega
  rw [h2,s.hi k (by omega) (by omega)];congr 1;omega
 ·rw [h3 i (by omega) (by omega)];exact s.out i (by omega)
theorem zoc.down0 (f:Nat→Option α)(m:Nat):zoc f f m m (m+1):=⟨fun k h1 h2=>by congr 1;omega,fun k h1 h2=>by omega,fun k _=>rfl⟩
theorem zoc.down {f g h:Nat→Option α}{k m:Nat}(s:zoc f g (k+1) m (m+1))(hk:k+1≤m)(h1:h k=g (k+1))(h2:h (k+1)=g k)(h3:∀ i,i ≠ k→i ≠ k+1→h i=g i):zoc f h k m (m+1):=by
 refine ⟨fun i x y=>?_,fun i x y=>?_,fun i x=>?_⟩
 ·obtain rfl:i=k:=by omega
  rw [h1,s.lo _ (by omega) (by omega)];congr 1;omega
 ·by_cases e:i=k+1
  ·subst e;rw [h2,s.out k (by omega)];congr 1;omega
  ·rw [h3 i (by omega) e];exact s.hi i (by omega) (by omega)
 ·rw [h3 i (by omega) (by omega)];exact s.out i (by omega)
def SrF (key:α→Rat)(f:Nat→Option α)(a b:Nat):Prop:=∀ i j x y,a≤i→i<j→j<b→f i=some x→f j=some y→key x≤key y
structure MvF (f g:Nat→Option α)(a b:Nat):Prop where
 out:∀ k,k<a∨b≤k→g k=f k
 sub:∀ k,a≤k→k<b→∃ i,a≤i∧i<b∧g k=f i
theorem MvF.refl (f:Nat→Option α)(a b:Nat):MvF f f a b:=⟨fun _ _=>rfl,fun k h1 h2=>⟨k,h1,h2,rfl⟩⟩
theorem MvF.trans {f g h:Nat→Option α}{a b:Nat}(p:MvF f g a b)(q:MvF g h a b):MvF f h a b :=
 ⟨fun k hk=>(q.out k hk).trans (p.out k hk),fun k h1 h2=>by
  obtain ⟨i,i1,i2,e⟩:=q.sub k h1 h2;obtain ⟨j,j1,j2,e2⟩:=p.sub i i1 i2;exact ⟨j,j1,j2,e.trans e2⟩⟩
theorem MvF.wide {f g:Nat→Option α}{a b a' b':Nat}(p:MvF f g a b)(ha:a'≤a)(hb:b≤b'):MvF f g a' b' :=
 ⟨fun k hk=>p.out k (by omega),fun k h1 h2=>by
  by_cases h:a≤k∧k<b
  ·obtain ⟨i,i1,i2,e⟩:=p.sub k h.1 h.2;exact ⟨i,by omega,by omega,e⟩
  ·exact ⟨k,h1,h2,p.out k (by omega)⟩⟩
theorem zoc.mv {f g:Nat→Option α}{a m b:Nat}(r:zoc f g a m b)(ham:a≤m)(hmb:m≤b):MvF f g a b :=
 ⟨r.out,fun k h1 h2=>by
  rcases Nat.lt_or_ge k (a+(b - m)) with e | e
  ·exact ⟨_,by omega,by omega,r.lo k h1 e⟩
  ·exact ⟨_,by omega,by omega,r.hi k e h2⟩⟩
theorem SrF.mono {key:α→Rat}{f:Nat→Option α}{a b a' b':Nat}(h:SrF key f a b)(ha:a≤a')(hb:b'≤b):SrF key f a' b':=fun i j x y h1 h2 h3=>h i j x y (by omega) h2 (by omega)
theorem SrF.keep {key:α→Rat}{f g:Nat→Option α}{a b:Nat}(h:SrF key f a b)(e:∀ k,a≤k→k<b→g k=f k):SrF key g a b:=fun i j x y h1 h2 h3 hx hy=>h i j x y h1 h2 h3 ((e i (by omega) (by omega)).symm.trans hx) ((e j (by omega) (by omega)).symm.trans hy)
def LeF (key:α→Rat)(f:Nat→Option α)(a m b:Nat):Prop:=∀ i j x y,a≤i→i<m→m≤j→j<b→f i=some x→f j=some y→key x≤key y
theorem LeF.lmv {key:α→Rat}{f g:Nat→Option α}{a m b:Nat}(h:LeF key f a m b)(p:MvF f g a m):LeF key g a m b:=fun i j x y h1 h2 h3 h4 hx hy=>by
 obtain ⟨i',i1,i2,e⟩:=p.sub i h1 h2;exact h i' j x y i1 i2 h3 h4 (e ▸ hx) (by rw [← p.out j (by omega)];exact hy)
theorem LeF.rmv {key:α→Rat}{f g:Nat→Option α}{a m b:Nat}(h:LeF key f a m b)(p:MvF f g m b):LeF key g a m b:=fun i j x y h1 h2 h3 h4 hx hy=>by
 obtain ⟨j',j1,j2,e⟩:=p.sub j h3 h4;exact h i j' x y h1 h2 j1 j2 (by rw [← p.out i (by omega)];exact hx) (e ▸ hy)
theorem SrF.join {key:α→Rat}{f:Nat→Option α}{a m b:Nat}(h1:SrF key f a m)(h2:SrF key f m b)(h:LeF key f a m b):SrF key f a b:=fun i j x y g1 g2 g3 hx hy=>by
 rcases Nat.lt_or_ge j m with e | e
 ·exact h1 i j x y g1 g2 e hx hy
 ·rcases Nat.lt_or_ge i m with e2 | e2
  ·exact h i j x y g1 e2 e g3 hx hy
  ·exact h2 i j x y e2 g2 g3 hx hy
theorem zod {key:α→Rat}{f g:Nat→Option α}{a m b s e mid:Nat}(h1:SrF key f a m)(h2:SrF key f m b)(has:a≤s)(hsm:s≤m)(hme:m≤e)(heb:e≤b)(hmid:mid=s+(e - m))(r:zoc f g s m e)
  (k1:s=a∨e=b∨∀ x y,f (s - 1)=some x→f e=some y→key x≤key y) (k2:s=m∨e=m∨∀ x y,f (e - 1)=some x→f s=some y→key x≤key y)
  (tot:∀ k,a≤k→k<b→∃ x,f k=some x):SrF key g a s∧SrF key g s mid∧SrF key g mid e∧SrF key g e b∧LeF key g a mid b:=by
 have g1:∀ k,a≤k→k<s→g k=f k:=fun k _ hk=>r.out k (by omega);have g2:∀ k,s≤k→k<mid→g k=f (m+(k - s)):=fun k x y=>r.lo k x (by omega);have g3:∀ k,mid≤k→k<e→g k=f (k - (e - m)):=fun k x y=>r.hi k (by omega) y;have g4:∀ k,e≤k→k<b→g k=f k:=fun k hk _=>r.out k (by omega)
 -- the four runs of f
 have c1:∀ i j x y,a≤i→i<s→e≤j→j<b→f i=some x→f j=some y→key x≤key y:=fun i j x y i1 i2 j1 j2 hx hy=>by
  rcases k1 with k | k | k
  ·omega
  ·omega
  ·obtain ⟨u,hu⟩:=tot (s - 1) (by omega) (by omega);obtain ⟨v,hv⟩:=tot e (by omega) (by omega);have n1:key x≤key u:=by
    by_cases q:i=s - 1
    ·rw [q,hu] at hx;rw [Option.some.inj hx];exact Rat.le_refl
    ·exact h1 i (s - 1) x u i1 (by omega) (by omega) hx hu
   have n2:key v≤key y:=by
    by_cases q:j=e
    ·rw [q,hv] at hy;rw [Option.some.inj hy];exact Rat.le_refl
    ·exact h2 e j v y (by omega) (by omega) j2 hv hy
   exact Rat.le_trans n1 (Rat.le_trans (k u v hu hv) n2)
 have c2:∀ i j x y,m≤i→i<e→s≤j→j<m→f i=some x→f j=some y→key x≤key y:=fun i j x y i1 i2 j1 j2 hx hy=>by
  rcases k2 with k | k | k
  ·omega
  ·omega
  ·obtain ⟨u,hu⟩:=tot (e - 1) (by omega) (by omega);obtain ⟨v,hv⟩:=tot s (by omega) (by omega);have n1:key x≤key u:=by
    by_cases q:i=e - 1
    ·rw [q,hu] at hx;rw [Option.some.inj hx];exact Rat.le_refl
    ·exact h2 i (e - 1) x u i1 (by omega) (by omega) hx hu
   have n2:key v≤key y:=by
    by_cases q:j=s
    ·rw [q,hv] at hy;rw [Option.some.inj hy];exact Rat.le_refl
    ·exact h1 s j v y (by omega) (by omega) j2 hv hy
   exact Rat.le_trans n1 (Rat.le_trans (k u v hu hv) n2)
 refine ⟨fun i j x y i1 i2 i3 hx hy=>?_,fun i j x y i1 i2 i3 hx hy=>?_,fun i j x y i1 i2 i3 hx hy=>?_,fun i j x y i1 i2 i3 hx hy=>?_,fun i j x y i1 i2 i3 i4 hx hy=>?_⟩
 ·rw [g1 i i1 (by omega)] at hx
  rw [g1 j (by omega) i3] at hy
  exact h1 i j x y i1 i2 (by omega) hx hy
 ·rw [g2 i i1 (by omega)] at hx
  rw [g2 j (by omega) i3] at hy
  exact h2 _ _ x y (by omega) (by omega) (by omega) hx hy
 ·rw [g3 i i1 (by omega)] at hx
  rw [g3 j (by omega) i3] at hy
  exact h1 _ _ x y (by omega) (by omega) (by omega) hx hy
 ·rw [g4 i i1 (by omega)] at hx
  rw [g4 j (by omega) i3] at hy
  exact h2 i j x y (by omega) i2 i3 hx hy
 ·rcases Nat.lt_or_ge i s with p | p
  ·rw [g1 i i1 p] at hx
   rcases Nat.lt_or_ge j e with q | q
   ·rw [g3 j i3 q] at hy
    exact h1 i _ x y i1 (by omega) (by omega) hx hy
   ·rw [g4 j q i4] at hy
    exact c1 i j x y i1 p q i4 hx hy
  ·rw [g2 i p i2] at hx
   rcases Nat.lt_or_ge j e with q | q
   ·rw [g3 j i3 q] at hy
    exact c2 _ _ x y (by omega) (by omega) (by omega) (by omega) hx hy
   ·rw [g4 j q i4] at hy
    exact h2 _ j x y (by omega) (by omega) i4 hx hy
theorem SrF.one (key:α→Rat)(f:Nat→Option α)(a:Nat):SrF key f a (a+1):=fun i j x y h1 h2 h3=>by omega
theorem zoe {key:α→Rat}{f g:Nat→Option α}{a b i:Nat}(h2:SrF key f (a+1) b)(hi1:a+1≤i)(hib:i≤b)(r:zoc f g a (a+1) i)
  (k1:i=b∨∀ x y,f a=some x→f i=some y→key x≤key y) (k2:i=a+1∨∀ x y,f (i - 1)=some x→f a=some y→key x≤key y) (tot:∀ k,a≤k→k<b→∃ x,f k=some x):SrF key g a b:=by
 obtain ⟨_,s2,s3,s4,hl⟩:=zod (mid:=i - 1) (SrF.one key f a) h2 (Nat.le_refl _) (Nat.le_succ _) hi1 hib (by omega) r (.inl rfl) (k2.imp (fun e=>by omega) id |>.elim (fun e=>.inr (.inl (by omega))) (fun h=>.inr (.inr h))) tot;refine s2.join (s3.join s4 fun p q x y p1 p2 q1 q2 hx hy=>?_) hl;obtain rfl:p=i - 1:=by omega
 rw [r.hi _ (by omega) (by omega),show i - 1 - (i - (a+1))=a by omega] at hx;rw [r.out q (by omega)] at hy;rcases k1 with k | k
 ·omega
 ·obtain ⟨v,hv⟩:=tot i (by omega) (by omega);by_cases e:q=i
  ·rw [e] at hy;exact k x y hx hy
  ·exact Rat.le_trans (k x v hx hv) (h2 i q v y (by omega) (by omega) q2 hv hy)
theorem zof {key:α→Rat}{f g:Nat→Option α}{a m i:Nat}(h1:SrF key f a m)(hai:a≤i)(him:i≤m)(r:zoc f g i m (m+1))
  (k1:i=a∨∀ x y,f (i - 1)=some x→f m=some y→key x≤key y) (k2:i=m∨∀ x y,f m=some x→f i=some y→key x≤key y) (tot:∀ k,a≤k→k<m+1→∃ x,f k=some x):SrF key g a (m+1):=by
 obtain ⟨s1,s2,s3,_,hl⟩:=zod (mid:=i+1) h1 (SrF.one key f m) hai him (Nat.le_succ _) (Nat.le_refl _) (by omega) r (.inr (.inl rfl)) (k2.elim .inl fun h=>.inr (.inr (by simpa using h))) tot;refine (s1.join s2 fun p q x y p1 p2 q1 q2 hx hy=>?_).join s3 hl;obtain rfl:q=i:=by omega
 rw [r.lo _ (by omega) (by omega),show m+(q - q)=m by omega] at hy;rw [r.out p (by omega)] at hx;rcases k1 with k | k
 ·omega
 ·obtain ⟨v,hv⟩:=tot (q - 1) (by omega) (by omega);by_cases e:p=q - 1
  ·rw [e] at hx;exact k x y hx hy
  ·exact Rat.le_trans (h1 p (q - 1) x v p1 (by omega) (by omega) hx hv) (k v y hv hy)
end
end
section
open Go.RowKit Go.Lib Go.Shelf
section
variable {α : Type} {T : TypeId} {W0 wr : World} {B blk cap : Nat} {enc : α → Value} {d0 dk : List α}
theorem zog {dk:List α}{i j:Nat}{x y:α}(hx:dk[i]?=some x)(hy:dk[j]?=some y):((dk.set i y).set j x).Perm dk:=by
 obtain ⟨hi,rfl⟩:=List.getElem?_eq_some_iff.1 hx;obtain ⟨hj,rfl⟩:=List.getElem?_eq_some_iff.1 hy;have h:=Array.swap_perm (xs:=dk.toArray) (i:=i) (j:=j) (by simpa using hi) (by simpa using hj);have h2:=Array.perm_iff_toList_perm.1 h;simpa [Array.swap_def] using h2
theorem InR.swp (h:InR T W0 B blk cap enc d0 wr dk){i j:Nat}{x y:α}(hx:dk[i]?=some x)(hy:dk[j]?=some y) :
  InR T W0 B blk cap enc d0 ((wr.setCell ⟨blk,i,none⟩ (enc y)).setCell ⟨blk,j,none⟩ (enc x)) ((dk.set i y).set j x):=by
 have h1:=World.ownsRow.stored h.own i (enc y);have h2:=World.ownsRow.stored h1.1 j (enc x);refine ⟨(zog hx hy).trans h.perm,?_,zep (zep h.only rfl _) rfl _⟩;rw [List.map_set,List.map_set];exact h2.1
theorem zoh {dk:List α}{i j k:Nat}{x y:α}(hij:i ≠ j)(hx:dk[i]?=some x)(hy:dk[j]?=some y):(k=i→((dk.set i y).set j x)[k]?=dk[j]?)∧(k=j→((dk.set i y).set j x)[k]?=dk[i]?)∧(k ≠ i→k ≠ j→((dk.set i y).set j x)[k]?=dk[k]?):=by
 have hi:=(List.getElem?_eq_some_iff.1 hx).1;have hj:=(List.getElem?_eq_some_iff.1 hy).1;refine ⟨fun e=>?_,fun e=>?_,fun e1 e2=>?_⟩
 ·rw [e,List.getElem?_set_ne (Ne.symm hij),List.getElem?_set_self hi,hy]
 ·rw [e,List.getElem?_set_self (by rw [List.length_set];exact hj),hx]
 ·rw [List.getElem?_set_ne (Ne.symm e2),List.getElem?_set_ne (Ne.symm e1)]
end
theorem zoi {α:Type}(enc:α→Value)(fv:Value)(B blk cap x y m:Nat)(d0 d:List α)(W0 w:World)(hR:InR 3 W0 B blk cap enc d0 w d)(hl:d0.length≤1000)(h1:OneCell enc)(hxy:x+m≤y)(hyn:y+m≤d0.length) :
  Calls Tryz.prog 216 #[.slice (some ⟨blk,0,none⟩) d0.length cap,.int .i64 x,.int .i64 y,.int .i64 m,fv] w fun e w'=>e=.returned (.tuple #[])∧∃ d',InR 3 W0 B blk cap enc d0 w' d'∧SwF (fun k=>d[k]?) (fun k=>d'[k]?) x y m:=by
 have mixed:Tryz.prog.follows .mixedOrders=true:=by kernel_rfl
 have hcl0:=h1.cells;simp only [Value.cells] at hcl0;have hst:=h1.store Tryz.prog;generalize hn:d0.length=n at *;have HR:=hid hR;have Hn:=hid hn;clear hR hn;go_enter Tryz.func216,Tryz.ntmps216
 go_wp2_with fail
 go_loopw [10] (fun vi wr=>∃ (i:Nat)(dk:List α),vi=.int .i64 i∧i≤m∧Hid (SwF (fun k=>d[k]?) (fun k=>dk[k]?) x y i)∧Hid (InR 3 W0 B blk cap enc d0 wr dk)) (fun vi _=>m - (zag vi).toNat)
 case atStart=>exact ⟨0,d,rfl,Nat.zero_le _,hid (SwF.refl _ _ _),HR⟩
 case round =>
  clear HR;obtain ⟨i,dk,rfl,him,HS,HR⟩:=hrel;by_cases hlt:i<m
  ·have hltz:(i:Int)<(m:Int):=(by omega);have hjl:dk.length=n:=HR.out.len.trans Hn.out;obtain ⟨iN,hiN⟩:∃ q,q=x+i:=⟨_,rfl⟩;obtain ⟨jN,hjN⟩:∃ q,q=y+i:=⟨_,rfl⟩;obtain ⟨u,hu⟩:∃ u,dk[iN]?=some u:=⟨_,List.getElem?_eq_getElem (by omega)⟩;obtain ⟨v,hv⟩:∃ v,dk[jN]?=some v:=⟨_,List.getElem?_eq_getElem (by omega)⟩;have c1:=HR.out.cell hu;have c2:=HR.out.cell hv;have f1:=HR.out.frozen iN;have f2:=HR.out.frozen jN;have hij:iN ≠ jN:=(by omega);have S3:=hid (HR.out.swp hu hv);have hg:=fun k=>zoh (k:=k) hij hu hv;have hmore:=HS.out.more (h:=fun k=>((dk.set iN v).set jN u)[k]?) (by omega) (by show _=dk[y+i]?;rw [← hjN];exact (hg _).1 hiN.symm) (by show _=dk[x+i]?;rw [← hiN];exact (hg _).2.1 hjN.symm) (fun k e1 e2=>(hg k).2.2 (by omega) (by omega));have c3:∃ z,(wr.setCell ⟨blk,iN,none⟩ (enc v)).cell? ⟨blk,jN,none⟩=some z:=by
    rw [World.cell?_setCell_other _ _ _ _ (by intro e';simp only [Addr.mk.injEq] at e';omega)];exact ⟨_,c2⟩
   obtain ⟨u3,c3⟩:=c3;have f3:(wr.setCell ⟨blk,iN,none⟩ (enc v)).frozen? ⟨blk,jN,none⟩=false:=(by rw [World.frozen?_setCell];exact f2);have ea:((x:Int)+(i:Int)).toNat=iN:=(by omega);have pa:(0:Int)≤(x:Int)+(i:Int):=(by omega);have ba:(x:Int)+(i:Int)<(n:Int):=(by omega);have ra:IntKind.i64.wrap ((x:Int)+(i:Int))=(x:Int)+(i:Int):=(by rw [IntKind.wrap_i64];omega);have ec:((y:Int)+(i:Int)).toNat=jN:=(by omega);have pc:(0:Int)≤(y:Int)+(i:Int):=(by omega);have bc:(y:Int)+(i:Int)<(n:Int):=(by omega);have rc:IntKind.i64.wrap ((y:Int)+(i:Int))=(y:Int)+(i:Int):=(by rw [IntKind.wrap_i64];omega);have Hmore:=hid hmore;have HiN:=hid hiN;have HjN:=hid hjN;clear hu hv hg hmore hjl HR HS hiN hjN;go_wp2_with fail
   go_big_region_o
   have S4:=hid (S3.out.ext ((Ext.refl _).drew));clear c1 c2 c3 f1 f2 f3 S3 ea ec;generalize ((wr.setCell ⟨blk,iN,none⟩ (enc v)).setCell ⟨blk,jN,none⟩ (enc u)).drew=w3 at S4 ⊢;go_wp2_with fail
   go_roundw
   case rel=>exact ⟨i+1,_,by go_num,by omega,Hmore,S4⟩
   case measure=>simp [zag];omega
  ·obtain rfl:i=m:=by omega
   go_wp2
   go_end0
   exact ⟨rfl,dk,HR.out,HS.out⟩
theorem zoj {α:Type}(enc:α→Value)(fv:Value)(B blk cap a m b:Nat)(d0 d:List α)(W0 w:World)(hR:InR 3 W0 B blk cap enc d0 w d)(hl:d0.length≤1000)(h1:OneCell enc)(ham:a<m)(hmb:m<b)(hbn:b≤d0.length) :
  Calls Tryz.prog 196 #[.slice (some ⟨blk,0,none⟩) d0.length cap,.int .i64 a,.int .i64 m,.int .i64 b,fv] w fun e w'=>e=.returned (.tuple #[])∧∃ d',InR 3 W0 B blk cap enc d0 w' d'∧zoc (fun k=>d[k]?) (fun k=>d'[k]?) a m b:=by
 have hsw:=fun (x y n:Nat)(dk:List α) W (h:InR 3 W0 B blk cap enc d0 W dk)=>zoi enc fv B blk cap x y n d0 dk W0 W h hl h1;generalize hn:d0.length=n at *;have HR:=hid hR;have Hsw:=hid hsw;clear hR hsw hn h1;have zi:(m:Int) - (a:Int)=((m - a:Nat):Int):=by omega
 have zj:(b:Int) - (m:Int)=((b - m:Nat):Int):=by omega
 go_enter Tryz.func196,Tryz.ntmps196
 go_wp2_with fail
 go_loopw [10,11] (fun vi vj wr=>∃ (i j:Nat)(dk:List α),vi=.int .i64 i∧vj=.int .i64 j∧0<i∧0<j∧i≤m - a∧m+j≤b∧Hid (InR 3 W0 B blk cap enc d0 wr dk)∧Hid (∀ g,zoc (fun k=>dk[k]?) g (m - i) m (m+j)→zoc (fun k=>d[k]?) g a m b)) (fun vi vj _=>(zag vi).toNat+(zag vj).toNat)
 case atStart=>exact ⟨m - a,b - m,d,by first | rfl | rw [zi],by first | rfl | rw [zj],by omega,by omega,by omega,by omega,HR,hid (fun g h=>by rw [show m - (m - a)=a by omega,show m+(b - m)=b by omega] at h;exact h)⟩
 case round =>
  clear HR;obtain ⟨i,j,dk,rfl,rfl,hi0,hj0,him,hjb,HR,HT⟩:=hrel;have e1:(m:Int) - (i:Int)=((m - i:Nat):Int):=by omega
  rcases Nat.lt_trichotomy i j with hij | hij | hij
  ·have t1:¬ (i:Int)=(j:Int):=(by omega);have t1b:((i:Int) == (j:Int))=false:=beq_eq_false_iff_ne.2 t1;have t2:¬ (j:Int)<(i:Int):=(by omega);have e2:(m:Int)+(j:Int) - (i:Int)=((m+j - i:Nat):Int):=(by omega);have e3:(j:Int) - (i:Int)=((j - i:Nat):Int):=(by omega);have hs:=Hsw.out (m - i) (m+j - i) i dk wr HR.out (by omega) (by omega);have Hs:=hid hs;clear hs;go_wp2_with fail
   refine Hs.out.mono ?_;rintro e w2 ⟨rfl,d2,h2,s2⟩;have H2:=hid h2;have HT2:=hid (fun g r=>HT.out g (zoc.right hi0 hij (by omega) s2 r));clear h2 s2 HR HT Hs;go_wp2_with fail
   go_roundw
   case rel=>exact ⟨i,j - i,d2,rfl,by first | rfl | rw [e3] | go_num,hi0,by omega,him,by omega,H2,HT2⟩
   case measure=>simp [zag];omega
  ·subst hij;have hs:=Hsw.out (m - i) m i dk wr HR.out (by omega) (by omega);have Hs:=hid hs;clear hs;go_wp2_with fail
   refine Hs.out.mono ?_;rintro e w2 ⟨rfl,d2,h2,s2⟩;have H2:=hid h2;have HT2:=hid (HT.out _ (zoc.last (by omega) s2));clear h2 s2 HR HT Hs;go_wp2
   go_end0
   exact ⟨rfl,d2,H2.out,HT2.out⟩
  ·have t1:¬ (i:Int)=(j:Int):=(by omega);have t1b:((i:Int) == (j:Int))=false:=beq_eq_false_iff_ne.2 t1;have t2:(j:Int)<(i:Int):=(by omega);have e3:(i:Int) - (j:Int)=((i - j:Nat):Int):=(by omega);have hs:=Hsw.out (m - i) m j dk wr HR.out (by omega) (by omega);have Hs:=hid hs;clear hs;go_wp2_with fail
   refine Hs.out.mono ?_;rintro e w2 ⟨rfl,d2,h2,s2⟩;have H2:=hid h2;have HT2:=hid (fun g r=>HT.out g (zoc.left hj0 hij (by omega) s2 r));clear h2 s2 HR HT Hs;go_wp2_with fail
   go_roundw
   case rel=>exact ⟨i - j,j,d2,by first | rfl | rw [e3] | go_num,rfl,by omega,hj0,by omega,hjb,H2,HT2⟩
   case measure=>simp [zag];omega
end
end Go.Proofs.YtoehmpbipbbffaaGreatDoor
