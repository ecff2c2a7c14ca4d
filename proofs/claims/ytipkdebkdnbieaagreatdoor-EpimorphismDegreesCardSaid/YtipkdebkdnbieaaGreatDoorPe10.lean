/- Walk: size.termsOf. whole.Small: strconv.ParseInt at numerals, with the error of the range. Walk: hermite's small. -/
import Derived.Test.YtipkdebkdnbieaaGreatDoorPe09
import Derived.Deep.AppendLies
import Derived.Deep.RegionLaw
import Derived.Test.YtipkdebkdnbieaaGreatDoorShelfD
import Derived.Test.YtipkdebkdnbieaaGreatDoorPe01
set_option maxRecDepth 100000
set_option maxHeartbeats 4000000
namespace Go.Proofs.YtipkdebkdnbieaaGreatDoor
section
open Go.RowKit Go.Lib
def zf1 (l:List Int):List Value:=l.map fun z=>.string (I z)
theorem zf2 (l:List Int):(zf1 l).length=l.length:=by simp [zf1]
theorem zf3 : (Tryz.prog.info? 100).map (fun i=>(i.zero,i.size,i.bytes))=some (some (.string ByteArray.empty),1,16):=by kernel_rfl
def zf4 (w:World)(b:Nat)(u v x:Value):Prop:=w.heap[b]?=some (.cells #[u,v,x] 174 (0,0))
theorem zf4.ext {w w':World}(hx:Ext w w'){b:Nat}{u v x:Value}(h:zf4 w b u v x):zf4 w' b u v x:=hx.heap h
theorem zf4.c {w:World}{b:Nat}{u v x:Value}(h:zf4 w b u v x):w.cell? ⟨b,0,none⟩=some u∧w.cell? ⟨b,1,none⟩=some v∧w.cell? ⟨b,2,none⟩=some x∧w.frozen? ⟨b,0,none⟩=false∧w.frozen? ⟨b,1,none⟩=false∧w.frozen? ⟨b,2,none⟩=false:=by
 refine ⟨?_,?_,?_,frozen_of_row _ _ _ _ _ h,frozen_of_row _ _ _ _ _ h,frozen_of_row _ _ _ _ _ h⟩ <;> (unfold World.cell?;dsimp only;rw [h];rfl)
theorem zf4.put2 {w:World}{b:Nat}{u v x:Value}(h:zf4 w b u v x)(y:Value):zf4 (w.setCell ⟨b,2,none⟩ y) b u v y:=heap_setCell_same w b 2 _ _ y h
theorem zf4.put01 {w:World}{b:Nat}{u v x:Value}(h:zf4 w b u v x)(y z:Value):zf4 ((w.setCell ⟨b,0,none⟩ y).setCell ⟨b,1,none⟩ z) b y z x :=
 heap_setCell_same _ b 1 _ _ z (heap_setCell_same w b 0 _ _ y h)
theorem zf4.lt {w:World}{b:Nat}{u v x:Value}(h:zf4 w b u v x):b<w.heap.size:=(Array.getElem?_eq_some_iff.1 h).1
theorem zf5 {w w':World}{b B E s n:Nat}{cs:Array Value}{t:TypeId}{v:Value}{xs:List Value}(h:w.heap[b]?=some (.cells cs t (0,0)))(hr:w.ownsRow B E s v n xs)(hne:t ≠ E)(hg:w.grownBy w' v.ownBlock):w'.heap[b]?=some (.cells cs t (0,0)):=by
 refine (hg.block b (Array.getElem?_eq_some_iff.1 h).1 ?_).trans h;intro e;rcases hr.2 with ⟨hv,hn⟩ | ⟨g,cap,cur,hv,hb,hg2,_⟩
 ·rw [hv] at e;cases e
 ·rw [hv] at e;simp only [Value.ownBlock,Option.some.injEq] at e;subst e;rw [h] at hg2;injection hg2 with hg2;injection hg2 with _ h2 _;exact hne h2
theorem zf6 {w:World}{b B E s n:Nat}{cs:Array Value}{t:TypeId}{v:Value}{xs:List Value}(h:w.heap[b]?=some (.cells cs t (0,0)))(hr:w.ownsRow B E s v n xs)(hne:t ≠ E):v.ownBlock=none∨v.ownBlock ≠ some b:=by
 rcases hr.2 with ⟨hv,hn⟩ | ⟨g,cap,cur,hv,hb,hg2,_⟩
 ·left;rw [hv];rfl
 ·right;intro e;rw [hv] at e;simp only [Value.ownBlock,Option.some.injEq] at e;subst e;rw [h] at hg2;injection hg2 with hg2;injection hg2 with _ h2 _;exact hne h2
theorem zf7 (w:World)(p:Addr)(u:Value):w.grownBy (w.setCell p u) (some p.block):=⟨rfl,rfl,rfl,by simp,fun i _ hne=>heap_setCell_other w p i u (fun e=>hne (by rw [e]))⟩
theorem zf8 {w:World}{b B E s n:Nat}{cs:Array Value}{t:TypeId}{v:Value}{xs:List Value}(h:w.heap[b]?=some (.cells cs t (0,0)))(hr:w.ownsRow B E s v n xs)(hne:t ≠ E)(j:Nat)(u:Value):(w.setCell ⟨b,j,none⟩ u).ownsRow B E s v n xs :=
 World.ownsRow.kept hr (zf7 w ⟨b,j,none⟩ u) ((zf6 h hr hne).imp id id)
theorem zf4.put012 {w:World}{b:Nat}{u v x:Value}(h:zf4 w b u v x)(y z q:Value):zf4 (((w.setCell ⟨b,0,none⟩ y).setCell ⟨b,1,none⟩ z).setCell ⟨b,2,none⟩ q) b y z q :=
 heap_setCell_same _ b 2 _ _ q (heap_setCell_same _ b 1 _ _ z (heap_setCell_same w b 0 _ _ y h))
theorem zf9 {w:World}{b:Nat}{u v x:Value}{B E s n:Nat}{vv:Value}{xs:List Value}(h:zf4 w b u v x)(hr:w.ownsRow B E s vv n xs)(hne:174 ≠ E)(y z:Value):((w.setCell ⟨b,0,none⟩ y).setCell ⟨b,1,none⟩ z).ownsRow B E s vv n xs :=
 zf8 (heap_setCell_same w b 0 _ _ y h) (zf8 h hr hne 0 y) hne 1 z
theorem zfA {w:World}{b:Nat}{u v x:Value}{B E s n:Nat}{vv:Value}{xs:List Value}(h:zf4 w b u v x)(hr:w.ownsRow B E s vv n xs)(hne:174 ≠ E)(y z q:Value):(((w.setCell ⟨b,0,none⟩ y).setCell ⟨b,1,none⟩ z).setCell ⟨b,2,none⟩ q).ownsRow B E s vv n xs :=
 zf8 (h.put01 y z) (zf9 h hr hne y z) hne 2 q
def KT (w w':World)(b:Nat)(u v:Value):Prop:=Ext w w'∧zes w' b u v
theorem KT.ext {w w' w2:World}{b:Nat}{u v:Value}(h:KT w w' b u v)(hx:Ext w' w2):KT w w2 b u v:=⟨h.1.trans hx,h.2.ext hx⟩
theorem KT.set {w w':World}{b c j:Nat}{u v:Value}(h:KT w w' b u v)(hc:w.heap.size≤c)(hne:b ≠ c)(x:Value):KT w (w'.setCell ⟨c,j,none⟩ x) b u v:=⟨h.1.setCell hc _,(heap_setCell_other w' ⟨c,j,none⟩ b x hne).trans h.2⟩
theorem KT.all {w w':World}{b:Nat}{u v q:Value}{a0:Addr}(h:KT w w' b u v)(h0:w.cell? a0=some q):KT w w' b u v∧w'.cell? ⟨b,0,none⟩=some u∧w'.cell? a0=some q:=⟨h,h.2.c0,h.1.cell h0⟩
theorem zfB {w W V:World}{tb xb n m:Nat}{t0 t1 t2 x0 x1:Value}{E F:TypeId}{vp vf:Value}{xs ys:List Value}(hE:Ext w W)(hT:zf4 W tb t0 t1 t2)(hX:zes W xb x0 x1)(hp:W.ownsRow w.heap.size E 1 vp n xs)(hf:W.ownsRow w.heap.size F 1 vf m ys)
  (n1:174 ≠ E) (n2:102 ≠ E) (n3:E ≠ F) (hg:W.grownBy V vp.ownBlock):Ext w V∧zf4 V tb t0 t1 t2∧zes V xb x0 x1∧V.ownsRow w.heap.size F 1 vf m ys :=
 ⟨hE.grown hg (fun k hk=>(World.ownsRow.lt hp k hk).1),zf5 hT hp n1 hg,zf5 hX hp n2 hg,World.ownsRow.kept hf hg (zc5 hf hp (Ne.symm n3))⟩
theorem zfC (d:Nat)(x:List Rat)(k:Nat):fcd d (x.take k)=(fcd d x).take k:=by unfold fcd;rw [List.map_take]
theorem zfD {α β:Type}:∀ (p:List α)(y:List β)(m:Nat),p.zip (y.take m)=(p.zip y).take m
 | [],y,m=>by simp
 | _::_,[],m=>by simp
 | a::p,b::y,0=>by simp
 | a::p,b::y,m+1=>by rw [List.take_succ_cons,List.zip_cons_cons,List.zip_cons_cons,List.take_succ_cons,zfD p y m]
theorem zfE {p:List Int}{d:Nat}{x:List Rat}{k:Nat}{q:Int}{r:Rat}(hq:p[k]?=some q)(hr:x[k]?=some r) :
  tms p d (x.take (k+1))=tms p d (x.take k)++(if r.num * ((d / r.den:Nat):Int) != 0 then [(q,r.num * ((d / r.den:Nat):Int))] else []):=by
 obtain ⟨hk,rfl⟩:=List.getElem?_eq_some_iff.1 hr;obtain ⟨hk2,rfl⟩:=List.getElem?_eq_some_iff.1 hq;have e:p.zip (fcd d (x.take (k+1)))=p.zip (fcd d (x.take k))++[(p[k],x[k].num * ((d / x[k].den:Nat):Int))]:=by
  have hz:∀ m,p.zip (fcd d (x.take m))=(p.zip (fcd d x)).take m:=fun m=>by
   rw [zfC,zfD]
  rw [hz,hz,List.take_succ_eq_append_getElem (by rw [List.length_zip];unfold fcd;simp;omega)];congr 2;rw [List.getElem_zip];congr 1;unfold fcd;simp
 unfold tms;rw [e,List.filter_append,List.filter_cons,List.filter_nil]
theorem zfF {p:List Int}{d:Nat}{x:List Rat}:(tms p d x).length≤x.length:=by
 unfold tms;refine Nat.le_trans (List.length_filter_le _ _) ?_;rw [List.length_zip];unfold fcd;simp;omega
theorem zfG {x:List Rat}{k:Nat}{r:Rat}(hr:x[k]?=some r):dn (x.take (k+1))=Nat.lcm (dn (x.take k)) r.den:=by
 obtain ⟨hk,rfl⟩:=List.getElem?_eq_some_iff.1 hr;unfold dn;rw [List.take_succ_eq_append_getElem hk,List.foldl_append];rfl
theorem zfH {a b k l:Nat}(ha:nDigits a≤k)(hb:nDigits b≤l)(h0:0<a * b):nDigits (Nat.lcm a b)≤k+l:=by
 refine Nat.le_trans (Dec.nDigits_mono ?_) (Nat.le_trans (zbD a b) (Nat.add_le_add ha hb));exact Nat.le_of_dvd h0 (Nat.lcm_dvd_mul a b)
theorem zfI {x:List Rat}(h:∀ r∈x,nDigits r.den≤30):∀ k,k≤x.length→nDigits (dn (x.take k))≤30 * k+1
 | 0,_=>by
  show nDigits (dn [])≤1;exact Dec.nDigits_le (by omega) (by decide)
 | k+1,hk=>by
  have ih:=zfI h k (by omega);obtain ⟨r,hr⟩:∃ r,x[k]?=some r:=⟨_,List.getElem?_eq_getElem (by omega)⟩;rw [zfG hr];have:=zfH ih (h r (List.mem_of_getElem? hr)) (Nat.mul_pos (zeY _) r.den_pos);omega
def TmV (w:World)(v:Value)(l:List (Int × Int))(d:Nat):Prop:=∃ vp vf,v=.agg #[vp,vf,.string (I (d:Int))]∧Sl w vp (zap (l.map Prod.fst))∧Sl w vf (zf1 (l.map Prod.snd))
theorem TmV.ext {w w':World}(hx:Ext w w'){v:Value}{l:List (Int × Int)}{d:Nat}(h:TmV w v l d):TmV w' v l d:=by
 obtain ⟨vp,vf,e,h1,h2⟩:=h;exact ⟨vp,vf,e,hx.sl h1,hx.sl h2⟩
theorem zfJ (vp v:Value)(p:List Int)(x:List Rat)(w:World)(he:Env w)(hp:Sl w vp (zap p))(hv:Rd w v x)(hpl:p.length≤100)(hlen:x.length=p.length)(hx:∀ r∈x,Ft 30 r) :
  Calls Tryz.prog 121 #[vp,v] w fun e w'=>∃ tv,e=.returned tv∧TmV w' tv (tms p (dn x) x) (dn x)∧Ext w w':=by
 obtain ⟨i0,hi,hz0,hz1,hz2⟩:=info_parts zc1;obtain ⟨j0,hj,hy0,hy1,hy2⟩:=info_parts zf3;obtain ⟨ap,cp,rfl,_,_,hcp⟩:=hp.parts;obtain ⟨a,c,rfl,_,_,hc⟩:=hv.parts;rw [zar] at *;have hxl:x.length≤100:=by omega
 have hdg:=zfI fun r hr=>(hx r hr).2;have Hcp:=hid hcp;have Hc:=hid hc;have Hdg:=hid hdg;have Hx:=hid hx;have He:=hid he;clear hcp hc hdg hx he;have Hlen:=hid hlen;clear hp hv hlen;have b0:(w.alloc (.cells #[.slice none 0 0,.slice none 0 0,.string ⟨#[]⟩] 174)).heap[w.heap.size]?=some (.cells #[.slice none 0 0,.slice none 0 0,.string ⟨#[]⟩] 174 (0,0)):=World.alloc_heap_new w _;have bE:Ext (w.alloc (.cells #[.slice none 0 0,.slice none 0 0,.string ⟨#[]⟩] 174)) ((w.alloc (.cells #[.slice none 0 0,.slice none 0 0,.string ⟨#[]⟩] 174)).alloc (.cells #[.slice none 0 0,.slice none 0 0,.string ⟨#[49]⟩] 174)):=(Ext.refl _).alloc _;have b1:zf4 ((w.alloc (.cells #[.slice none 0 0,.slice none 0 0,.string ⟨#[]⟩] 174)).alloc (.cells #[.slice none 0 0,.slice none 0 0,.string ⟨#[49]⟩] 174)) (w.heap.size+1) (.slice none 0 0) (.slice none 0 0) (.string ⟨#[49]⟩):=by
  have:=World.alloc_heap_new (w.alloc (.cells #[.slice none 0 0,.slice none 0 0,.string ⟨#[]⟩] 174)) (.cells #[.slice none 0 0,.slice none 0 0,.string ⟨#[49]⟩] 174);rwa [World.size_alloc] at this
 have b00:zf4 ((w.alloc (.cells #[.slice none 0 0,.slice none 0 0,.string ⟨#[]⟩] 174)).alloc (.cells #[.slice none 0 0,.slice none 0 0,.string ⟨#[49]⟩] 174)) w.heap.size (.slice none 0 0) (.slice none 0 0) (.string ⟨#[]⟩):=bE.heap b0;have hE0:Ext w ((w.alloc (.cells #[.slice none 0 0,.slice none 0 0,.string ⟨#[]⟩] 174)).alloc (.cells #[.slice none 0 0,.slice none 0 0,.string ⟨#[49]⟩] 174)):=((Ext.refl _).alloc _).alloc _;clear b0 bE;have B1:=hid b1;have B00:=hid b00;have HE0:=hid hE0;clear b1 b00 hE0;go_enter Tryz.func121,Tryz.ntmps121
 go_wp2_with fail
 generalize hV:(w.alloc (.cells #[.slice none 0 0,.slice none 0 0,.string ⟨#[]⟩] 174)).alloc (.cells #[.slice none 0 0,.slice none 0 0,.string ⟨#[49]⟩] 174)=V at *;go_loopw [7,16] (fun v7 v16 wr=>∃ k:Nat,v16=.int .i64 k∧k≤x.length∧zf4 wr w.heap.size (.slice none 0 0) (.slice none 0 0) (.string ⟨#[]⟩)∧zf4 wr (w.heap.size+1) (.slice none 0 0) (.slice none 0 0) (.string (I ((dn (x.take k):Nat):Int)))∧Ext w wr) (fun _ v16 _=>x.length - (zal v16).toNat)
 case atStart=>exact ⟨0,rfl,Nat.zero_le _,B00.out,by rw [show I ((dn (x.take 0):Nat):Int)=⟨#[49]⟩ by rw [za2];exact zbs];exact B1.out,HE0.out⟩
 case round =>
  obtain ⟨k,rfl,hk,hb0,hb1,hE⟩:=hrel;have Hb0:=hid hb0;have Hb1:=hid hb1;have HE:=hid hE;clear hb0 hb1 hE;by_cases hkl:k<x.length
  ·obtain ⟨r,hr⟩:∃ r,x[k]?=some r:=⟨_,List.getElem?_eq_getElem hkl⟩;obtain ⟨b,off,rfl,hc0,hc1⟩:=Hc.out k r hr;have h0:=HE.out.cell hc0;have h1:=HE.out.cell hc1;have hsn:=zfG hr;have hd30:=(Hx.out r (List.mem_of_getElem? hr)).2;have hd1:=Hdg.out k hk;have hlc:=fun W (h:Ext w W)=>zer (dn (x.take k)) r.den W (He.out.ext h) (by unfold Fit;rw [Int.natAbs_natCast];omega) (by unfold Fit;rw [Int.natAbs_natCast];omega) (zeY _) r.den_pos;rw [← hsn] at hlc;have hB1:=Hb1.out;generalize hse:I ((dn (x.take (k+1)):Nat):Int)=sn at *;generalize I ((dn (x.take k):Nat):Int)=sd at *;generalize I r.num=sa at *;generalize I (r.den:Int)=sb at *;have hEb:Ext w (wr.alloc (.cells #[.string sa,.string sb] 102)):=HE.out.alloc _;have hxb:Ext wr (wr.alloc (.cells #[.string sa,.string sb] 102)):=(Ext.refl _).alloc _;have hq:=zes.new wr (.string sa) (.string sb);have hbb:=hB1.ext hxb;obtain ⟨t0,t1,t2,_,_,z2⟩:=hbb.c;have q1:=hq.c1;have hk0:(0:Int)≤(k:Int):=(by omega);have hk1:(k:Int)<(x.length:Int):=(by omega);clear hc0 hc1 hsn hd30 hd1 t0 t1 hB1;have Hb00:=hid (Hb0.out.ext hxb);have Hlc:=hid hlc;have HEb:=hid hEb;have Hbb:=hid hbb;have Hse:=hid hse;have Hr:=hid hr;clear hlc hEb hbb hse hr;clear hxb hq;go_wp2_with fail
   generalize hW:wr.alloc (.cells #[.string sa,.string sb] 102)=W1 at *;refine (Hlc.out _ HEb.out).mono ?_;rintro e W2 ⟨rfl,hx2⟩;have hb2:=Hbb.out.ext hx2;obtain ⟨_,_,t2,_,_,z2⟩:=hb2.c;have hE2:=(HEb.out.trans hx2).setCell (p:=⟨w.heap.size+1,2,none⟩) (by simp) (.string sn);have hb3:=hb2.put2 (.string sn);have hb4:zf4 (W2.setCell ⟨w.heap.size+1,2,none⟩ (.string sn)) w.heap.size (.slice none 0 0) (.slice none 0 0) (.string ⟨#[]⟩):=(heap_setCell_other W2 ⟨w.heap.size+1,2,none⟩ w.heap.size (.string sn) (by simp)).trans (Hb00.out.ext hx2);clear hx2 hb2;have HE2:=hid hE2;have Hb3:=hid hb3;have Hb4:=hid hb4;clear hE2 hb3 hb4;go_wp2_with fail
   go_roundw
   case rel=>exact ⟨k+1,by go_num,by omega,Hb4.out,by rw [Hse.out];exact Hb3.out,HE2.out⟩
   case measure=>simp [zal];omega
  ·obtain rfl:k=x.length:=by omega
   have hb1':=Hb1.out;rw [List.take_length] at hb1';have Hb1':=hid hb1';clear hb1';obtain ⟨wa,hwa⟩:∃ wa,wa=wr:=⟨_,rfl⟩;subst hwa;go_wp2_with fail
   go_loopw [8,9,10,11,12,29,37] (fun v8 v9 v10 v11 v12 v29 v37 wr=>∃ (k:Nat)(vp vf:Value)(l:List (Int × Int)),v29=.int .i64 k∧k≤x.length∧l=tms p (dn x) (x.take k)∧zf4 wr w.heap.size (.slice none 0 0) (.slice none 0 0) (.string ⟨#[]⟩)∧zf4 wr (w.heap.size+1) vp vf (.string (I ((dn x:Nat):Int)))∧wr.ownsRow w.heap.size 3 1 vp l.length (zap (l.map Prod.fst))∧wr.ownsRow w.heap.size 100 1 vf l.length (zf1 (l.map Prod.snd))∧Ext w wr) (fun _ _ _ _ _ v29 _ _=>x.length - (zal v29).toNat)
   case atStart=>exact ⟨0,_,_,[],rfl,Nat.zero_le _,by unfold tms fcd;simp,Hb0.out,Hb1'.out,World.ownsRow_nil _ _ _ _,World.ownsRow_nil _ _ _ _,HE.out⟩
   case round =>
    obtain ⟨k,vp,vf,l,rfl,hk,hl,hb0,hb1,hop,hof,hE2⟩:=hrel;obtain ⟨a5,c5,rfl⟩:=zc3 hop;obtain ⟨a6,c6,rfl⟩:=zc3 hof;have hll:l.length≤100:=(by rw [hl];have:=zfF (p:=p) (d:=dn x) (x:=x.take k);rw [List.length_take] at this;omega);have Hl:=hid hl;have Hb0:=hid hb0;have Hb1:=hid hb1;have Hop:=hid hop;have Hof:=hid hof;have HE2:=hid hE2;clear hl hb0 hb1 hop hof hE2;by_cases hkl:k<x.length
    ·obtain ⟨r,hr⟩:∃ r,x[k]?=some r:=⟨_,List.getElem?_eq_getElem hkl⟩;obtain ⟨q,hq⟩:∃ q,p[k]?=some q:=⟨_,List.getElem?_eq_getElem (by have:=Hlen.out;omega)⟩;obtain ⟨b,off,rfl,hc0,hc1⟩:=Hc.out k r hr;have h0:=HE2.out.cell hc0;have h1:=HE2.out.cell hc1;have hts:=zfE (d:=dn x) hq hr;rw [← Hl.out] at hts;have hz:=zb3 r.num;have hk0:(0:Int)≤(k:Int):=(by omega);have hk1:(k:Int)<(x.length:Int):=(by omega);have hk2:(k:Int)<(p.length:Int):=(by have:=Hlen.out;omega);by_cases hrz:r.num=0
     ·rw [decide_eq_true hrz] at hz;have hzt:((I r.num).toList != [48])=false:=(by rw [bne,hz];rfl);rw [hrz,Int.zero_mul,if_neg (by simp),List.append_nil] at hts;generalize I r.num=sa at *;generalize I (r.den:Int)=sb at *;have hxb:Ext wr (wr.alloc (.cells #[.string sa,.string sb] 102)):=(Ext.refl _).alloc _;have hB0:=Hb0.out.ext hxb;have hB1:=Hb1.out.ext hxb;have hOp:=hxb.own Hop.out;have hOf:=hxb.own Hof.out;have hEE:=HE2.out.trans hxb;clear hc0 hc1 hrz hxb;have Hts:=hid hts;have HB0:=hid hB0;have HB1:=hid hB1;have HOp:=hid hOp;have HOf:=hid hOf;have HEE:=hid hEE;have Hr:=hid hr;have Hq:=hid hq;clear hts hB0 hB1 hOp hOf hEE hr hq;go_wp2_with fail
      go_roundw
      case rel=>exact ⟨k+1,_,_,l,by go_num,by omega,Hts.out.symm,HB0.out,HB1.out,HOp.out,HOf.out,HEE.out⟩
      case measure=>simp [zal];omega
     ·rw [decide_eq_false hrz] at hz;have hzt:((I r.num).toList != [48])=true:=(by rw [bne,hz];rfl);have hdv:=zeX x r (List.mem_of_getElem? hr);have hnz:r.num * ((dn x / r.den:Nat):Int) ≠ 0:=by
       have h3:0<dn x / r.den:=Nat.div_pos (Nat.le_of_dvd (zeY x) hdv) r.den_pos;intro e;rcases Int.mul_eq_zero.1 e with g | g
       ·exact hrz g
       ·omega
      rw [if_pos (by simpa using hnz)] at hts;have hd1:=Hdg.out x.length (Nat.le_refl _);rw [List.take_length] at hd1;have hfd:Fit ((dn x:Nat):Int):=(by unfold Fit;rw [Int.natAbs_natCast];omega);have hrx:=Hx.out r (List.mem_of_getElem? hr);have hrp:=r.den_pos;have hdm:=fun W (h:Ext w W)=>zek ((dn x:Nat):Int) (r.den:Int) W (He.out.ext h) (by omega) hfd (hrx.den (by omega));have f1:fdv ((dn x:Nat):Int) (r.den:Int)=((dn x / r.den:Nat):Int):=(by unfold fdv;rw [if_pos (by omega),Int.natCast_ediv]);rw [f1] at hdm;have hfq:Fit ((dn x / r.den:Nat):Int):=(by unfold Fit;rw [Int.natAbs_natCast];exact Nat.le_trans (Dec.nDigits_mono (Nat.div_le_self _ _)) (by omega));have hmu:=fun W (h:Ext w W)=>zca r.num ((dn x / r.den:Nat):Int) W (He.out.ext h) (hrx.num (by omega)) hfq;obtain ⟨bp,op,e5,hcq⟩:=Hcp.out k (.int .i64 q) (by unfold zap;rw [List.getElem?_map,hq];rfl);subst e5;generalize fmd ((dn x:Nat):Int) (r.den:Int)=rm at *;generalize r.num * ((dn x / r.den:Nat):Int)=fz at *;generalize hsm:I fz=sm at *;generalize I ((dn x / r.den:Nat):Int)=sq at *;generalize I ((dn x:Nat):Int)=sD at *;generalize I rm=srm at *;generalize I r.num=sa at *;generalize I (r.den:Int)=sb at *;have hxb:Ext wr (wr.alloc (.cells #[.string sa,.string sb] 102)):=(Ext.refl _).alloc _;have hX:=zes.new wr (.string sa) (.string sb);have hB0:=Hb0.out.ext hxb;have hB1:=Hb1.out.ext hxb;have hOp:=hxb.own Hop.out;have hOf:=hxb.own Hof.out;have hEE:=HE2.out.trans hxb;have hne:wr.heap.size ≠ w.heap.size+1:=(by have:=Hb1.out.lt;omega);have q1:=hX.c1;obtain ⟨_,_,t2,_,_,_⟩:=hB1.c;clear hc0 hc1 hrz hdv hnz hd1 hfd hrx hrp f1 hfq hxb;have Hts:=hid hts;have HB0:=hid hB0;have HB1:=hid hB1;have HOp:=hid hOp;have HOf:=hid hOf;have HEE:=hid hEE;have Hr:=hid hr;have Hq:=hid hq;have HX:=hid hX;have Hdm:=hid hdm;have Hmu:=hid hmu;have Hne:=hid hne;have Hsm:=hid hsm;clear hts hB0 hB1 hOp hOf hEE hr hq hX hdm hmu hne hsm;go_wp2_with fail
      generalize hW:wr.alloc (.cells #[.string sa,.string sb] 102)=W1 at *;refine (Hdm.out _ HEE.out).mono ?_;rintro e W2 ⟨rfl,hx2⟩;have T2:=hid (HB1.out.ext hx2);have R2:=hid (HB0.out.ext hx2);have X2:=hid (HX.out.ext hx2);have P2:=hid (hx2.own HOp.out);have F2:=hid (hx2.own HOf.out);have E2:=hid (HEE.out.trans hx2);clear hx2 q1 t2 h0 h1 hW;obtain ⟨c0,c1,c2,z0,z1,_⟩:=T2.out.c;have hm1:l.length+1≤maxLen:=(by unfold maxLen;omega);have hm2:(l.length+1) * 8≤140737488355328:=(by omega);have hm3:(l.length+1) * 16≤140737488355328:=(by omega);have hs2:w.heap.size≤(W2.drew.alloc (.cells #[.int .i64 q] 3)).heap.size:=((E2.out.drew).alloc _).size;have c0a:=(((Ext.refl W2).drew).alloc (.cells #[.int .i64 q] 3)).cell c0;have c1a:=(((Ext.refl W2).drew).alloc (.cells #[.int .i64 q] 3)).cell c1;have c0b:=((Ext.refl W2).alloc (.cells #[.int .i64 q] 3)).cell c0;have c1b:=((Ext.refl W2).alloc (.cells #[.int .i64 q] 3)).cell c1;have hk3:KT w W2 wr.heap.size (.string sa) (.string sb):=⟨E2.out,X2.out⟩;have Hk3:=hid hk3;clear hk3;go_wp2_with fail
      have c0z:=((Ext.refl W2).drew).cell c0;have c1z:=((Ext.refl W2).drew).cell c1;refine zf0 17 (fun w'=>(KT w w' wr.heap.size (.string sa) (.string sb)∧w'.cell? ⟨wr.heap.size,0,none⟩=some (.string sa)∧w'.cell? ⟨bp,op+k,none⟩=some (.int .i64 q))∧w'.cell? ⟨w.heap.size+1,0,none⟩=some (.slice a5 l.length c5)∧w'.cell? ⟨w.heap.size+1,1,none⟩=some (.slice a6 l.length c6)) (by kernel_rfl) (⟨(KT.ext Hk3.out ((Ext.refl W2).drew)).all hcq,c0z,c1z⟩) (fun hHeld=>?_);refine zfw (i:=0) (v:=?v0) rfl (by kernel_rfl) (by kernel_rfl) (by kernel_rfl) (by kernel_rfl) (fun _ _ _ h=>h) (Or.inl ⟨by rfl,?y0⟩) hHeld ?r0
      case y0=>(intro w hSw;(try dsimp only at hSw);go_simp;try with_reducible rfl)
      case r0 =>
      refine zfw (i:=1) (v:=?v1) rfl (by kernel_rfl) (by kernel_rfl) (by kernel_rfl) (by kernel_rfl) (fun _ _ _ h=>h) (Or.inl ⟨by rfl,?y1⟩) hHeld ?r1
      case y1=>(intro w hSw;(try dsimp only at hSw);go_simp;try with_reducible rfl)
      case r1 =>
      refine zfw (i:=2) (v:=?v2) rfl (by kernel_rfl) (by kernel_rfl) (by kernel_rfl) (by kernel_rfl) (fun _ _ _ h=>h) (Or.inl ⟨by rfl,?y2⟩) hHeld ?r2
      case y2=>(intro w hSw;(try dsimp only at hSw);go_simp;try with_reducible rfl)
      case r2 =>
      refine zfw (i:=3) (v:=?v3) rfl (by kernel_rfl) (by kernel_rfl) (by kernel_rfl) (by kernel_rfl) (fun _ _ _ h=>h) (Or.inl ⟨by rfl,?y3⟩) hHeld ?r3
      case y3=>(intro w hSw;(try dsimp only at hSw);go_simp;try with_reducible rfl)
      case r3 =>
      refine zfw (i:=4) (v:=?v4) rfl (by kernel_rfl) (by kernel_rfl) (by kernel_rfl) (by kernel_rfl) (fun _ _ _ h=>h) (Or.inl ⟨by rfl,?y4⟩) hHeld ?r4
      case y4=>(intro w hSw;(try dsimp only at hSw);go_simp;try with_reducible rfl)
      case r4 =>
      refine zfw (i:=5) (v:=?v5) rfl (by kernel_rfl) (by kernel_rfl) (by kernel_rfl) (by kernel_rfl) (fun _ _ _ h=>h) (Or.inl ⟨by rfl,?y5⟩) hHeld ?r5
      case y5=>(intro w hSw;(try dsimp only at hSw);go_simp;try with_reducible rfl)
      case r5 =>
      refine zfw (i:=8) (v:=?v8) rfl (by kernel_rfl) (by kernel_rfl) (by kernel_rfl) (by kernel_rfl) (fun _ _ _ h=>h) (Or.inl ⟨by rfl,?y8⟩) hHeld ?r8
      case y8=>(intro w hSw;(try dsimp only at hSw);go_simp;try with_reducible rfl)
      case r8 =>
      refine zfw (i:=9) (v:=?v9) rfl (by kernel_rfl) (by kernel_rfl) (by kernel_rfl) (by kernel_rfl) (fun _ _ _ h=>h) (Or.inl ⟨by rfl,?y9⟩) hHeld ?r9
      case y9=>(intro w hSw;(try dsimp only at hSw);go_simp;try with_reducible rfl)
      case r9 =>
      refine zfw (i:=10) (v:=?v10) rfl (by kernel_rfl) (by kernel_rfl) (by kernel_rfl) (by kernel_rfl) (fun _ _ _ h=>h) (Or.inl ⟨by rfl,?y10⟩) hHeld ?r10
      case y10=>(intro w hSw;(try dsimp only at hSw);go_simp;try with_reducible rfl)
      case r10 =>
      refine zfw (i:=11) (v:=?v11) rfl (by kernel_rfl) (by kernel_rfl) (by kernel_rfl) (by kernel_rfl) (fun _ _ _ h=>h) (Or.inl ⟨by rfl,?y11⟩) hHeld ?r11
      case y11=>(intro w hSw;(try dsimp only at hSw);go_simp;try with_reducible rfl)
      case r11 =>
      refine zfw (i:=12) (v:=?v12) rfl (by kernel_rfl) (by kernel_rfl) (by kernel_rfl) (by kernel_rfl) (fun _ _ _ h=>h) (Or.inl ⟨by rfl,?y12⟩) hHeld ?r12
      case y12=>(intro w hSw;(try dsimp only at hSw);go_simp;try with_reducible rfl)
      case r12 =>
      refine zfx (i:=6) (by kernel_rfl) rfl (fun K hK=>?_);go_simp
      refine hK.out _ _ (⟨(KT.ext Hk3.out (((Ext.refl W2).drew).alloc _)).all hcq,c0a,c1a⟩) (fun hHeld=>?_);clear hK K;refine zfx (i:=7) (by kernel_rfl) rfl (fun K hK=>?_);refine step_append_lies _ rfl (.tmp 47) (.tmp 52) 28 rfl w.heap.size 3 i0 (.int .i64 0) 1 8 Tryz.underlying28 hi hz0 hz1 hz2 rfl (by decide) (.slice a5 l.length c5) l.length (zap (l.map Prod.fst)) (by simp [Act.eval]) ((P2.out.drew).alloc _) ⟨W2.heap.size,0,none⟩ 1 1 [.int .i64 q] (by simp [Act.eval]) rfl (cell_one_new W2.drew _ _) (by simp [Value.oneCell']) (by decide) hm1 hm2 hs2 _ rfl ?_;intro g1 cc1 V1 hown1 hgrow1 hat1 hlt1;obtain ⟨ka,kb,kc,kd⟩:=zfB ((E2.out.drew).alloc _) (T2.out.ext (((Ext.refl W2).drew).alloc _)) (X2.out.ext (((Ext.refl W2).drew).alloc _)) ((P2.out.drew).alloc _) ((F2.out.drew).alloc _) (by decide) (by decide) (by decide) hgrow1;obtain ⟨ca0,ca1,ca2,za0,za1,_⟩:=kb.c;have HKA:Hid (KT w V1 wr.heap.size (.string sa) (.string sb)):=hid ⟨ka,kc⟩;have RA:=hid (zf5 (R2.out.ext (((Ext.refl W2).drew).alloc _)) ((P2.out.drew).alloc _) (by decide) hgrow1);have EA:=hid ka;have TA:=hid kb;have XA:=hid kc;have FA:=hid kd;have PA:=hid hown1;clear ka kb kc kd hown1 hgrow1 hat1 hlt1;refine hK.out _ _ (⟨HKA.out.all hcq,ca0,ca1⟩) (fun hHeld=>?_);clear hK K;refine zfw (i:=16) (v:=?v16) rfl (by kernel_rfl) (by kernel_rfl) (by kernel_rfl) (by kernel_rfl) (fun _ _ _ h=>h) (Or.inl ⟨by rfl,?y16⟩) hHeld ?r16
      case y16=>(intro w hSw;(try dsimp only at hSw);go_simp;try with_reducible rfl)
      case r16 =>
      refine zfx (i:=13) (by kernel_rfl) rfl (fun K hK=>?_);go_simp;go_at_call 165;refine (Hmu.out _ EA.out).mono ?_;rintro e9 V4 ⟨rfl,hxa⟩;have HKM:Hid (KT w V4 wr.heap.size (.string sa) (.string sb)):=hid (HKA.out.ext hxa);have EM:=hid (EA.out.trans hxa);have RM:=hid (hxa.heap RA.out);have TM:=hid (TA.out.ext hxa);have XM:=hid (XA.out.ext hxa);have FM:=hid (hxa.own FA.out);have PM:=hid (hxa.own PA.out);obtain ⟨cm0,cm1,cm2,zm0,zm1,_⟩:=TM.out.c;have cm1a:=((Ext.refl V4).alloc (.cells #[.string sm] 100)).cell cm1;have hsm:w.heap.size≤(V4.alloc (.cells #[.string sm] 100)).heap.size:=(EM.out.alloc _).size;clear hxa
      refine hK.out _ _ (⟨HKM.out.all hcq,cm0,cm1⟩) (fun hHeld=>?_);clear hK K;refine zfx (i:=14) (by kernel_rfl) rfl (fun K hK=>?_);go_simp
      refine hK.out _ _ (⟨(KT.ext HKM.out ((Ext.refl _).alloc _)).all hcq,((Ext.refl V4).alloc (.cells #[.string sm] 100)).cell cm0,cm1a⟩) (fun hHeld=>?_);clear hK K;refine zfx (i:=15) (by kernel_rfl) rfl (fun K hK=>?_);refine step_append_lies _ rfl (.tmp 55) (.tmp 60) 129 rfl w.heap.size 100 j0 (.string ByteArray.empty) 1 16 Tryz.underlying129 hj hy0 hy1 hy2 rfl (by decide) (.slice a6 l.length c6) l.length (zf1 (l.map Prod.snd)) (by simp [Act.eval]) (FM.out.alloc _) ⟨V4.heap.size,0,none⟩ 1 1 [.string sm] (by simp [Act.eval]) rfl (cell_one_new V4 _ _) (by simp [Value.oneCell']) (by decide) hm1 hm3 hsm _ rfl ?_;intro g2 cc2 V5 hown2 hgrow2 hat2 hlt2;obtain ⟨ka,kb,kc,kd⟩:=zfB (EM.out.alloc _) (TM.out.ext ((Ext.refl V4).alloc _)) (XM.out.ext ((Ext.refl V4).alloc _)) (FM.out.alloc _) (PM.out.alloc _) (by decide) (by decide) (by decide) hgrow2;obtain ⟨cb0,cb1,cb2,zb0,zb1,_⟩:=kb.c;have HKB:Hid (KT w V5 wr.heap.size (.string sa) (.string sb)):=hid ⟨ka,kc⟩;have RB:=hid (zf5 (((Ext.refl V4).alloc (.cells #[.string sm] 100)).heap RM.out) (FM.out.alloc _) (by decide) hgrow2);have EB:=hid ka;have TB:=hid kb;have PB:=hid kd;have FB:=hid hown2;clear ka kb kc kd hown2 hgrow2 hat2 hlt2;refine hK.out _ _ (⟨HKB.out.all hcq,cb0,cb1⟩) (fun hHeld=>?_);clear hK K;refine zfy (i:=17) (by kernel_rfl) (by decide) rfl (fun K hK=>?_);go_simp
      refine hK.out _ _ ?_;clear hK K;refine zfy (i:=18) (by kernel_rfl) (by decide) rfl (fun K hK=>?_);go_simp
      refine hK.out _ _ ?_;clear hK K;refine zfy (i:=19) (by kernel_rfl) (by decide) rfl (fun K hK=>?_);go_simp
      refine hK.out _ _ ?_;clear hK K;refine zfz (by kernel_rfl) ?_
      all_goals
       have hT6:=TB.out.put01 (.slice (some ⟨g1,0,none⟩) (l.length+1) cc1) (.slice (some ⟨g2,0,none⟩) (l.length+1) cc2);have hP6:=zf9 TB.out PB.out (by decide) (.slice (some ⟨g1,0,none⟩) (l.length+1) cc1) (.slice (some ⟨g2,0,none⟩) (l.length+1) cc2);have hF6:=zf9 TB.out FB.out (by decide) (.slice (some ⟨g1,0,none⟩) (l.length+1) cc1) (.slice (some ⟨g2,0,none⟩) (l.length+1) cc2);have hE6:=(EB.out.setCell (p:=⟨w.heap.size+1,0,none⟩) (by simp) (.slice (some ⟨g1,0,none⟩) (l.length+1) cc1)).setCell (p:=⟨w.heap.size+1,1,none⟩) (by simp) (.slice (some ⟨g2,0,none⟩) (l.length+1) cc2);have hR6:zf4 ((V5.setCell ⟨w.heap.size+1,0,none⟩ (.slice (some ⟨g1,0,none⟩) (l.length+1) cc1)).setCell ⟨w.heap.size+1,1,none⟩ (.slice (some ⟨g2,0,none⟩) (l.length+1) cc2)) w.heap.size (.slice none 0 0) (.slice none 0 0) (.string ⟨#[]⟩) :=
        (heap_setCell_other _ ⟨w.heap.size+1,1,none⟩ w.heap.size _ (by simp)).trans ((heap_setCell_other V5 ⟨w.heap.size+1,0,none⟩ w.heap.size _ (by simp)).trans RB.out)
       clear hs2 c0 c1 c2 z0 z1 c0a c1a c0b c1b ca0 ca1 ca2 za0 za1 cm0 cm1 cm2 zm0 zm1 cm1a hsm cb0 cb1 cb2 zb0 zb1;generalize (V5.setCell ⟨w.heap.size+1,0,none⟩ (.slice (some ⟨g1,0,none⟩) (l.length+1) cc1)).setCell ⟨w.heap.size+1,1,none⟩ (.slice (some ⟨g2,0,none⟩) (l.length+1) cc2)=V6 at *;have HT6:=hid hT6;have HP6:=hid hP6;have HF6:=hid hF6;have HE6:=hid hE6;have HR6:=hid hR6;clear hT6 hP6 hF6 hE6 hR6;go_wp2_with fail
       go_roundw
       case rel =>
        refine ⟨k+1,_,_,l++[(q,fz)],by go_num,by omega,Hts.out.symm,HR6.out,HT6.out,?_,?_,HE6.out⟩
        ·have:=HP6.out;rw [List.length_append,List.map_append];rwa [show zap (l.map Prod.fst++[(q,fz)].map Prod.fst)=zap (l.map Prod.fst)++[.int .i64 q] by simp [zap]]
        ·have:=HF6.out;rw [List.length_append,List.map_append];rwa [show zf1 (l.map Prod.snd++[(q,fz)].map Prod.snd)=zf1 (l.map Prod.snd)++[.string sm] by rw [← Hsm.out];simp [zf1]]
       case measure=>simp [zal];omega
    ·obtain rfl:k=x.length:=by omega
     have hl2:=Hl.out;rw [List.take_length] at hl2;subst hl2;obtain ⟨c0,c1,c2,_,_,_⟩:=Hb1.out.c;obtain ⟨r0,r1,r2,z0,z1,z2⟩:=Hb0.out.c;generalize hTl:tms p (dn x) x=l at *;have hb3:=Hb0.out.put012 (.slice a5 l.length c5) (.slice a6 l.length c6) (.string (I ((dn x:Nat):Int)));have hop3:=zfA Hb0.out Hop.out (by decide) (.slice a5 l.length c5) (.slice a6 l.length c6) (.string (I ((dn x:Nat):Int)));have hof3:=zfA Hb0.out Hof.out (by decide) (.slice a5 l.length c5) (.slice a6 l.length c6) (.string (I ((dn x:Nat):Int)));have hE3:=((HE2.out.setCell (p:=⟨w.heap.size,0,none⟩) (Nat.le_refl _) (.slice a5 l.length c5)).setCell (p:=⟨w.heap.size,1,none⟩) (Nat.le_refl _) (.slice a6 l.length c6)).setCell (p:=⟨w.heap.size,2,none⟩) (Nat.le_refl _) (.string (I ((dn x:Nat):Int)));have Hb3:=hid hb3;have Hop3:=hid hop3;have Hof3:=hid hof3;have HE3:=hid hE3;clear hb3 hop3 hof3 hE3;go_wp2_with fail
     obtain ⟨d0,d1,d2,_⟩:=Hb3.out.c;exact bodyPost_ret (v:=.agg #[.slice a5 l.length c5,.slice a6 l.length c6,.string (I ((dn x:Nat):Int))]) (by simp [results,Tryz.results121,go_sem,d0,d1,d2]) rfl ⟨_,rfl,⟨_,_,rfl,by rw [hTl];exact zan Hop3.out,by rw [hTl];exact zan Hof3.out⟩,HE3.out⟩
end
section
open Go.RowKit Go.Lib Go.Shelf
def zfK (w : World) : Prop := ∃ tp p, w.var? Tryz.prog "strconv.ErrRange" = some #[.iface tp p]
theorem zfL : Tryz.prog.globalNamed "strconv.ErrRange" = some 1 := by kernel_rfl
theorem zfK.ext {w w':World}(h:zfK w)(hx:Ext w w'):zfK w':=by
 obtain ⟨tp,p,h⟩:=h;refine ⟨tp,p,var?_below hx zfL ?_ h⟩;unfold World.var? at h;rw [zfL] at h;rcases Nat.lt_or_ge 1 w.heap.size with g | g
 ·exact g
 ·have e:w.heap[1]?=none:=Array.getElem?_eq_none g;simp [e] at h
theorem zfM (z:Int)(h:z < -9223372036854775808∨9223372036854775808≤z):Lib.atoiAll (itoa z)=.range:=by
 have key:∀ (l:List UInt8)(acc:Nat),Dec.Dig l→acc<18446744073709551616→18446744073709551616≤Dec.val acc l→parseUint10 acc l=.range:=by
  intro l;induction l with
  | nil=>intro acc _ h1 h2;rw [Dec.val_nil] at h2;omega
  | cons c r ih =>
   intro acc hd ha hv
   have hc:=hd c (List.mem_cons_self ..)
   have hr:Dec.Dig r:=fun x hx=>hd x (List.mem_cons_of_mem _ hx)
   rw [Dec.val_cons] at hv
   have hdv:c.toNat - 48=Dec.dv c:=rfl
   simp only [parseUint10]
   rw [if_pos hc]
   by_cases h1:1844674407370955162≤acc
   ·rw [if_pos h1]
   ·rw [if_neg h1,hdv]
    by_cases h2:18446744073709551616≤acc * 10+Dec.dv c
    ·rw [if_pos h2]
    ·rw [if_neg h2,Nat.mul_comm acc 10]
     exact ih _ hr (by omega) hv
 have okk:∀ (l:List UInt8)(acc:Nat),Dec.Dig l→Dec.val acc l<18446744073709551616→parseUint10 acc l=.ok (Dec.val acc l):=by
  intro l;induction l with
  | nil=>intro acc _ _;rw [Dec.val_nil];rfl
  | cons c r ih =>
   intro acc hd hv
   have hc:=hd c (List.mem_cons_self ..)
   have hr:Dec.Dig r:=fun x hx=>hd x (List.mem_cons_of_mem _ hx)
   rw [Dec.val_cons] at hv ⊢
   have hmono:10 * acc+Dec.dv c≤Dec.val (10 * acc+Dec.dv c) r:=by
    rw [Dec.val_acc];have:1≤10 ^ r.length:=Nat.one_le_pow _ _ (by decide);have:=Nat.mul_le_mul_left (10 * acc+Dec.dv c) this;omega
   have hdv:c.toNat - 48=Dec.dv c:=rfl
   simp only [parseUint10]
   rw [if_pos hc,if_neg (by omega),hdv,if_neg (by omega),Nat.mul_comm acc 10,ih _ hr hv]
 have mag:∀ n:Nat,parseMag (decDigits n)=if n<18446744073709551616 then .ok n else .range:=by
  intro n;unfold parseMag;rw [if_neg (Dec.dec_ne_nil n)];by_cases hn:n<18446744073709551616
  ·rw [if_pos hn,okk _ 0 (Dec.dig_dec n) (by rw [Dec.val_dec];exact hn),Dec.val_dec]
  ·rw [if_neg hn,key _ 0 (Dec.dig_dec n) (by omega) (by rw [Dec.val_dec];omega)]
 unfold itoa;by_cases hz:z<0
 ·rw [if_pos hz];unfold atoiAll;have e45:(45:UInt8).toNat=45:=rfl;simp only [e45,or_true,if_true];rw [mag];by_cases hn:z.natAbs<18446744073709551616
  ·rw [if_pos hn];simp only [not_true,false_and,if_false,true_and];rw [if_pos (by omega)]
  ·rw [if_neg hn]
 ·rw [if_neg hz];obtain ⟨n,rfl⟩:∃ n:Nat,z=n:=⟨z.toNat,by omega⟩;rw [Int.toNat_natCast]
  cases hl:decDigits n with
  | nil=>exact absurd hl (Dec.dec_ne_nil n)
  | cons c r =>
   have hc:=Dec.dig_dec n c (by rw [hl];exact List.mem_cons_self ..)
   unfold atoiAll
   simp only
   rw [if_neg (by omega),← hl,mag]
   by_cases hn:n<18446744073709551616
   ·rw [if_pos hn]
    simp only
    have h45:¬ c.toNat=45:=by omega
    simp only [h45,not_false_eq_true,true_and,false_and,if_false]
    rw [if_pos (by omega)]
   ·rw [if_neg hn]
theorem zfN (z:Int)(w:World)(h0:-9223372036854775808≤z)(h1:z≤9223372036854775807) :
  Calls Tryz.prog 97 #[.string (I z)] w fun e w'=>e=.returned (.tuple #[.int .i64 z,.bool true])∧Ext w w':=by
 have hs:(I z).size≤9223372036854775806:=by
  show (itoa z).toArray.size≤_;rw [List.size_toArray];unfold itoa;split
  ·rw [List.length_cons,decDigits_length];have:=Dec.nDigits_le (n:=z.natAbs) (k:=20) (by omega) (by omega);omega
  ·rw [decDigits_length];have:=Dec.nDigits_le (n:=z.toNat) (k:=20) (by omega) (by omega);omega
 have hp:=Any.strconv_ParseInt_10_at64_ok Tryz.lParseInt (I z) hs z (by rw [Lib.parseIntB_64];exact zaF z h0 h1) w;have hp2:Calls Tryz.prog 129 #[.string (I z),.int .i64 10,.int .i64 64] w fun e w'=>e=.returned (.tuple #[.int .i64 z,.nilIface])∧Ext w w':=hp.mono fun e w' ⟨h,hw⟩=>⟨h,by
  rcases hw with rfl | ⟨t,rfl⟩
  ·exact Ext.refl _
  ·exact Ext.bytes _ _ _⟩
 have Hp:=hid hp2;clear hp hp2 hs;go_enter Tryz.func97,Tryz.ntmps97
 go_wp2_with fail
 refine Hp.out.mono ?_;rintro e w1 ⟨rfl,hx1⟩;have Hx1:=hid hx1;clear hx1;go_wp2
 go_ret2
 exact ⟨rfl,Hx1.out⟩
theorem zfO (z:Int)(w:World)(hr:zfK w)(h:z < -9223372036854775808∨9223372036854775808≤z)(hf:Fit z) :
  Calls Tryz.prog 97 #[.string (I z)] w fun e w'=>e=.returned (.tuple #[.int .i64 0,.bool false])∧Ext w w':=by
 have hs:(I z).size≤281474976710656:=by
  have:=zbO z hf;omega
 obtain ⟨tp,p,hv⟩:=hr;have hp:=Any.strconv_ParseInt_10_at64_range_var Tryz.lParseInt (I z) hs (by rw [Lib.parseIntB_64];exact zfM z h) tp p w hv;have hp2:Calls Tryz.prog 129 #[.string (I z),.int .i64 10,.int .i64 64] w fun e w'=>∃ n tt N,e=.returned (.tuple #[.int .i64 n,.iface tt (.pointer (some ⟨N,0,none⟩))])∧Ext w w':=hp.mono fun e w' ⟨N,h,_,_,hb⟩=>⟨_,_,N,h,hb⟩;have Hp:=hid hp2;clear hp hp2 hs hv hf h;go_enter Tryz.func97,Tryz.ntmps97
 go_wp2_with fail
 refine Hp.out.mono ?_;rintro e w1 ⟨n1,tt,N,rfl,hx1⟩;have Hx1:=hid hx1;clear hx1;go_wp2
 go_ret2
 exact ⟨rfl,Hx1.out⟩
end
end Go.Proofs.YtipkdebkdnbieaaGreatDoor
