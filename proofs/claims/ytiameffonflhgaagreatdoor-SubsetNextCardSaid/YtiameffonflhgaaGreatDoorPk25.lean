/- Plain: classes of modes, inversion, moments of symmetry; strict scales are the proper ones that are constant. Walk: scale.Note of a right scale. Walk: scale.Steps of a right scale. Plain: the major scale is the collection of seven fifths; what reduces there. Plain: the scales of worlds, and the major scale, have nice classes. Walks: fraction.New, fraction.Of at a positive denominator. Walks: scale.mode, scale.Mode. Plain: ascending lists of so many numbers in lexicographic order: as the program finds them, and as the reference does. Walk: slices.insertionSortCmpFunc and SortFunc at sizes, with a bound method as the compare. -/
import Derived.Test.YtiameffonflhgaaGreatDoorPk24
import Derived.Test.YtiameffonflhgaaGreatDoorPk23
import Derived.Test.YtiameffonflhgaaGreatDoorPk20
import Derived.Test.YtiameffonflhgaaGreatDoorPk19
import Derived.Test.YtiameffonflhgaaGreatDoorPk21
import Derived.Test.YtiameffonflhgaaGreatDoorPk05
import Derived.Deep.RegionHeld3
import Derived.Shelf.RegionOpenPlain
import Derived.Shelf.Abstract
import Derived.Shelf.SlicesE.Kit
set_option maxRecDepth 100000
set_option maxHeartbeats 4000000
namespace Go.Proofs.YtiameffonflhgaaGreatDoor
section
section
variable {p : List Int} {N : List (List Rat)} (h : Wc p N)
include h
theorem Wc.mode (m:Int):Wc p (md p N m):=by
 refine ⟨h.wd.mode m,?_,by rw [zj1];exact h.few⟩;obtain ⟨n,hn⟩:=h.iv_nic;have key:∀ x∈zer p.length::md p N m,∃ k:Int,x=zeO (nt p N k) (nt p N m):=fun x hx=>by
  rcases List.mem_cons.1 hx with rfl | hx
  ·exact ⟨m,by rw [zjk,h.wd.ntlen]⟩
  ·unfold md at hx;obtain ⟨k,_,rfl⟩:=List.mem_map.1 hx;exact ⟨k,rfl⟩
 refine ⟨n,fun x hx y hy=>?_⟩;obtain ⟨k,rfl⟩:=key x hx;obtain ⟨l,rfl⟩:=key y hy;rw [zjl (by rw [h.wd.ntlen,h.wd.ntlen]) (by rw [h.wd.ntlen,h.wd.ntlen])];have:=hn l (k - l);unfold iv at this;rwa [show l+(k - l)=k by omega] at this
theorem Wc.iv_md (m i d:Int):iv p (md p N m) i d=iv p N (m+i) d:=by
 unfold iv;rw [h.wd.nt_md,h.wd.nt_md,zjl (by rw [h.wd.ntlen,h.wd.ntlen]) (by rw [h.wd.ntlen,h.wd.ntlen]),show m+(i+d)=m+i+d by omega]
theorem Wc.cls_md (m d:Int):cls p (md p N m) d=cls p N d:=by
 refine ziO ((h.mode m).cls_srt d) (h.cls_srt d) fun x=>?_;rw [(h.mode m).cls_mem,h.cls_mem];constructor
 ·rintro ⟨i,e⟩;exact ⟨m+i,by rw [e,h.iv_md]⟩
 ·rintro ⟨i,e⟩;exact ⟨i - m,by rw [e,h.iv_md,show m+(i - m)=i by omega]⟩
def Pro (p:List Int)(N:List (List Rat)):Prop:=∀ d:Nat,d<N.length→∀ x∈cls p N (d:Int),∀ y∈cls p N ((d+1:Nat):Int),sF p x≤sF p y
def Str (p:List Int)(N:List (List Rat)):Prop:=∀ d:Nat,d<N.length→∀ x∈cls p N (d:Int),∀ y∈cls p N ((d+1:Nat):Int),sF p x<sF p y
def Cst (p:List Int)(N:List (List Rat)):Prop:=∀ d u:Nat,d<u→u≤N.length→∀ x∈cls p N (d:Int),x ∉ cls p N (u:Int)
end
end
section
open Go.RowKit Go.Lib
attribute [local go_sem] Oper.semAt_some
theorem zl9 (v:Value)(p:List Int)(rs:List Qw)(n:Nat)(k:Int)(r:Qw)(w:World)(he:Env w)(hv:ScV w v p rs)(h:ziW p rs)(hn:rs.length=n+1)(hr:rs[n]?=some r)(hk0:-1000000≤k)(hk1:k≤1000000)
  (hq:Ft 400 ((k / ((n:Int)+1):Int):Rat)) (hf1:∀ q∈zeP r.x ((k / ((n:Int)+1):Int):Rat),Ft 30 q) (hf2:∀ q∈noteQ rs n k,Ft 30 q) :
  Calls Tryz.prog 16 #[v,.int .i64 k] w fun e w'=>∃ g,e=.returned (.tuple #[.slice (some ⟨g,0,none⟩) p.length p.length,.int .i64 0])∧zf2 w' w.heap.size (.slice (some ⟨g,0,none⟩) p.length p.length) (noteQ rs n k)∧Ext w w':=by
 have h1:=fun W (hE:Ext w W)=>ziX v p rs W (he.ext hE) (hv.ext hE) h;have h2:=fun W (hE:Ext w W)=>zlp v p rs n k r W (he.ext hE) (hv.ext hE) h hn hr (by omega) (by omega) hq hf1 hf2;obtain ⟨vp,vn,rfl,hp,hs,hm⟩:=hv;obtain ⟨ap,cp,rfl,_,_,_⟩:=hp.parts;obtain ⟨an,cn,rfl,_,_,_⟩:=hs.parts;generalize (zaq p).length=n1 at *;generalize (qwc rs).length=n2 at *;have bx:(w.alloc (.cells #[.slice ap n1 cp,.slice an n2 cn] 28)).heap[w.heap.size]?=some (.cells #[.slice ap n1 cp,.slice an n2 cn] 28 (0,0)):=World.alloc_heap_new w _;have hE0:Ext w (w.alloc (.cells #[.slice ap n1 cp,.slice an n2 cn] 28)):=(Ext.refl w).alloc _;have hbox:∀ W,Ext (w.alloc (.cells #[.slice ap n1 cp,.slice an n2 cn] 28)) W→W.cell? ⟨w.heap.size,0,none⟩=some (.slice ap n1 cp)∧W.cell? ⟨w.heap.size,1,none⟩=some (.slice an n2 cn):=fun W hE=>by
  have hb:=hE.heap bx;unfold World.cell?;dsimp only;rw [hb];exact ⟨rfl,rfl⟩
 clear hp hs hm he h bx hq hf1 hf2 hn hr;have H1:=hid h1;have H2:=hid h2;have HE0:=hid hE0;have Hbox:=hid hbox;clear h1 h2 hE0 hbox;go_enter Tryz.func16,Tryz.ntmps16
 go_wp2_with fail
 refine (H1.out _ HE0.out).mono ?_;rintro e w1 ⟨rfl,hx1⟩;obtain ⟨q0,q1⟩:=Hbox.out w1 hx1;have Hx1:=hid (HE0.out.trans hx1);clear hx1;go_wp2_with fail
 refine (H2.out w1 Hx1.out).mono ?_;rintro e w2 ⟨g,rfl,ho,hx2⟩;have Ho:=hid (ho.mono Hx1.out.size);have Hx2:=hid (Hx1.out.trans hx2);clear ho hx2 q0 q1;go_wp2
 go_ret2
 exact ⟨g,rfl,Ho.out,Hx2.out⟩
def stQ (n:Nat)(rs:List Qw)(k:Nat):List Rat:=zeO (((rs[k]?).map Qw.x).getD []) (ziV n rs k)
def zlA (n:Nat)(rs:List Qw)(k:Nat):List (List Rat):=(List.range k).map (stQ n rs)
theorem zlB (n:Nat)(rs:List Qw)(k:Nat):zlA n rs (k+1)=zlA n rs k++[stQ n rs k]:=by unfold zlA;rw [List.range_succ,List.map_append];rfl
def zlC (w:World)(n:Nat)(rs:List Qw)(k:Nat)(u:Value)(wr:World):Prop:=∃ out:List Qw,QwM wr w.heap.size w.heap.size u out∧out.map Qw.x=zlA n rs k∧out.length=k∧Ext w wr
theorem zlC.more {w W V:World}{o:Obj}{n k:Nat}{rs:List Qw}{v5 v7 u:Value}{out:List Qw}(hE:Ext w W)(h:QwM W w.heap.size w.heap.size v5 out)(hm:out.map Qw.x=zlA n rs k)(hl:out.length=k)(hr:zf2 W w.heap.size u (stQ n rs k)) 
  (hown:V.ownsRow w.heap.size 41 1 v7 (k+1) (qwc out++[u])) (hgrow:(W.alloc o).grownBy V v5.ownBlock):zlC w n rs (k+1) v7 V:=by
 subst hl;have:=QwM.more (r:=⟨_,u,zf6 hr.rd⟩) hE h hr hown hgrow;exact ⟨_,this.1,by rw [List.map_append,hm,zlB];rfl,by rw [List.length_append];rfl,this.2⟩
end
section
open Go.RowKit Go.Lib
theorem Wd.step_ft {p:List Int}{rs:List Qw}(h:Wd p (rs.map Qw.x)):∀ k,k<rs.length→∀ q∈stQ p.length rs k,Ft 30 q:=by
 intro k hk;have hl:(rs.map Qw.x).length=rs.length:=List.length_map ..;have hf:=h.few;have e:stQ p.length rs k=zeO (nt p (rs.map Qw.x) ((k+1:Nat):Int)) (nt p (rs.map Qw.x) (k:Int)):=by
  rw [h.nt_low (by omega),h.nt_low (by omega)];unfold stQ zat ziV;rw [List.getElem?_cons_succ,List.getElem?_map]
  cases k with
  | zero=>rfl
  | succ j=>rw [if_neg (by omega),List.getElem?_cons_succ,List.getElem?_map,Nat.add_sub_cancel]
 rw [e];exact (h.nt_sub_quick _ _ (by omega) (by omega) (by omega) (by omega)).1
end
section
theorem zlD {p:List Int}(h:Pw p){A B C:Int}(h1:-128≤B)(h2:B≤128)(h3:-64≤C)(h4:C≤64):Bx 128 (sz3 p A B C):=by
 rcases h with rfl | rfl
 ·exact ⟨A,B,rfl,zk2 B,h1,h2⟩
 ·exact ⟨A,B,C,rfl,zk2 B,rfl,h1,h2,by omega,by omega⟩
theorem zlE {p:List Int}(hp:Pw p){n:Nat}(hn:0<n)(hn9:n≤9):zlz p (zjX (zeP (ov (p.length - 1)) (mkRat 1 n)) 1 n):=by
 have h2:∀ x∈zer p.length::zjX (zeP (ov (p.length - 1)) (mkRat 1 n)) 1 n,∃ i:Int,x=oc3 p n i:=fun x hx=>by
  rcases List.mem_cons.1 hx with e | hx
  ·exact ⟨0,by rw [e,zkG hp n]⟩
  ·unfold zjX at hx;obtain ⟨i,_,rfl⟩:=List.mem_map.1 hx;exact ⟨1+(i:Int),zkK hp n _⟩
 refine ⟨n,fun x hx y hy=>?_⟩;obtain ⟨i,rfl⟩:=h2 x hx;obtain ⟨j,rfl⟩:=h2 y hy;rw [zkH hp];exact .inr ⟨hn,by omega,zkI hp hn _⟩
theorem zlF {p:List Int}(hp:Pw p)(x:I3){n:Nat}(hn9:n≤9):zlz p (zjX (szW p.length x) 0 n):=by
 obtain ⟨A,B,C,hA,hB,hC,e⟩:=zkM hp x;have h2:∀ y∈zer p.length::zjX (szW p.length x) 0 n,∃ k:Int,0≤k∧k≤8∧y=sz3 p (A * k) (B * k) (C * k):=fun y hy=>by
  rcases List.mem_cons.1 hy with e | hy
  ·exact ⟨0,by omega,by omega,by rw [e,zk6 hp,Int.mul_zero,Int.mul_zero,Int.mul_zero]⟩
  ·unfold zjX at hy;obtain ⟨i,hi,rfl⟩:=List.mem_map.1 hy;rw [List.mem_range] at hi;exact ⟨0+(i:Int),by omega,by omega,by rw [e];exact zk8 hp ..⟩
 refine ⟨0,fun y hy z hz=>.inl ⟨rfl,?_⟩⟩;obtain ⟨k,k0,k1,rfl⟩:=h2 y hy;obtain ⟨j,j0,j1,rfl⟩:=h2 z hz;rw [zk7 hp,← Int.mul_sub,← Int.mul_sub,← Int.mul_sub];have hk:-8≤k - j∧k - j≤8:=by omega
 generalize k - j=t at *;have mb:∀ z b:Int,-b≤z→z≤b→0≤b→-(b * 8)≤z * t∧z * t≤b * 8:=fun z b h1 h2 h3=>by
  have h4:z.natAbs≤b.natAbs:=by omega
  have h5:t.natAbs≤8:=by omega
  have h6:=Nat.mul_le_mul h4 h5;rw [← Int.natAbs_mul] at h6;omega
 have m2:=mb B 16 hB.1 hB.2 (by omega);have m3:=mb C 8 hC.1 hC.2 (by omega);exact zlD hp (by omega) (by omega) (by omega) (by omega)
theorem zlG {p:List Int}(hp:Pw p)(xs:Nat→I3)(n:Nat):zlz p ((List.range n).map fun i=>szW p.length (xs i)):=by
 have h2:∀ y∈zer p.length::((List.range n).map fun i=>szW p.length (xs i)),∃ A B C:Int,(-16≤B∧B≤16)∧(-8≤C∧C≤8)∧y=sz3 p A B C:=fun y hy=>by
  rcases List.mem_cons.1 hy with e | hy
  ·exact ⟨0,0,0,by omega,by omega,by rw [e,zk6 hp]⟩
  ·obtain ⟨i,_,rfl⟩:=List.mem_map.1 hy;obtain ⟨A,B,C,hA,hB,hC,e⟩:=zkM hp (xs i);exact ⟨A,B,C,hB,hC,e⟩
 refine ⟨0,fun y hy z hz=>.inl ⟨rfl,?_⟩⟩;obtain ⟨A,B,C,hB,hC,rfl⟩:=h2 y hy;obtain ⟨A',B',C',hB',hC',rfl⟩:=h2 z hz;rw [zk7 hp];exact zlD hp (by omega) (by omega) (by omega) (by omega)
theorem zlH (a:Wl):zlz a.p a.sizes:=by
 unfold Wl.sizes;split
 ·exact zlE a.pw a.n9.1 a.n9.2
 ·split
  ·exact zlF a.pw _ a.n9.2
  ·exact zlG a.pw _ _
theorem zlI (a:Wl){N:List (List Rat)}(h:zjD a.p a.sizes N):Wc a.p N:=zl0 a.lw (zlH a) h a.few
end
section
open Go.RowKit Go.Lib Go.Shelf
attribute [local go_sem] Oper.semAt_some
theorem zlJ (n:Int)(d:Nat)(w:World)(he:Env w)(hn:Fit n)(hd:Fit (d:Int))(h0:0<d) :
  Calls Tryz.prog 130 #[.string (I n),.string (I (d:Int))] w fun e w'=>e=.returned (.tuple #[Rv (mkRat n d),.int .i64 0])∧Ext w w':=by
 have hs:=fun W=>zbS (d:Int) W hd;rw [zbo (by omega)] at hs;have hl:=fun W (h:Ext w W)=>zdL n d W (he.ext h) hn hd h0;unfold Rv at hl ⊢;generalize I (mkRat n d).num=st at *;generalize I (((mkRat n d).den:Nat):Int)=su at *;generalize I n=sa at *;generalize I (d:Int)=sb at *;have b2:=zdB.new w (.string ⟨#[]⟩) (.string ⟨#[]⟩);have hE:Ext w (w.alloc (.cells #[.string ⟨#[]⟩,.string ⟨#[]⟩] 65)):=(Ext.refl _).alloc _;clear he hn hd h0;have Hs:=hid hs;have Hl:=hid hl;have HE:=hid hE;have B2:=hid b2;clear hs hl hE b2;go_enter Tryz.func130,Tryz.ntmps130
 go_wp2_with fail
 refine (Hs.out _).mono ?_;rintro e W2 ⟨rfl,rfl⟩;go_wp2_with fail
 refine (Hl.out _ HE.out).mono ?_;rintro e W3 ⟨rfl,hx⟩;have hk:Kp0 w W3 w.heap.size:=⟨HE.out.trans hx,_,_,B2.out.ext hx⟩;obtain ⟨_,k0,k1,z0,z1⟩:=hk.all;have hfin:=hk.fin (Nat.le_refl _) (.string st) (.string su);have Hfin:=hid hfin;clear hfin;clear hx hk;go_wp2_with fail
 obtain ⟨hb,hfx⟩:=Hfin.out;have hd0:=hb.c0;have hd1:=hb.c1;exact bodyPost_ret (v:=.tuple #[.agg #[.string st,.string su],.int .i64 0]) (by simp [results,Tryz.results130,go_sem,hd0,hd1]) rfl ⟨rfl,hfx⟩
theorem zlK (n:Int)(d:Nat)(w:World)(he:Env w)(hn0:-1000000000≤n)(hn1:n≤1000000000)(h0:0<d)(h1:d≤1000000000) :
  Calls Tryz.prog 66 #[.int .i64 n,.int .i64 (d:Int)] w fun e w'=>e=.returned (.tuple #[Rv (mkRat n d),.int .i64 0])∧Ext w w':=by
 have hfit:∀ z:Int,-1000000000≤z→z≤1000000000→Fit z:=fun z a b=>by
  unfold Fit;have h:nDigits z.natAbs≤nDigits 1000000000:=Dec.nDigits_mono (by omega);have h2:nDigits 1000000000≤400000:=by decide +kernel
  omega
 have hi1:=fun W (h:Ext w W)=>zaR n (by omega) (by omega) W (he.ext h);have hi2:=fun W (h:Ext w W)=>zaR (d:Int) (by omega) (by omega) W (he.ext h);have hnw:=fun W (h:Ext w W)=>zlJ n d W (he.ext h) (hfit _ hn0 hn1) (hfit _ (by omega) (by omega)) h0;unfold Rv at hnw ⊢;generalize I (mkRat n d).num=st at *;generalize I (((mkRat n d).den:Nat):Int)=su at *;generalize I n=sa at *;generalize I (d:Int)=sb at *;obtain ⟨dz,hdz⟩:∃ dz:Int,dz=(d:Int):=⟨_,rfl⟩;rw [← hdz] at hi2 ⊢;have b2:=zdB.new w (.string ⟨#[]⟩) (.string ⟨#[]⟩);have hE:Ext w (w.alloc (.cells #[.string ⟨#[]⟩,.string ⟨#[]⟩] 65)):=(Ext.refl _).alloc _;clear he hfit hn0 hn1 h0 h1 hdz;have Hi1:=hid hi1;have Hi2:=hid hi2;have Hnw:=hid hnw;have HE:=hid hE;have B2:=hid b2;clear hi1 hi2 hnw hE b2;go_enter Tryz.func66,Tryz.ntmps66
 go_wp2_with fail
 refine (Hi1.out _ HE.out).mono ?_;rintro e W2 ⟨rfl,hx2⟩;have HE2:=hid (HE.out.trans hx2);have HX2:=hid hx2;clear hx2;go_wp2_with fail
 refine (Hi2.out _ HE2.out).mono ?_;rintro e W3 ⟨rfl,hx3⟩;have HE3:=hid (HE2.out.trans hx3);have HX3:=hid (HX2.out.trans hx3);clear hx3;go_wp2_with fail
 refine (Hnw.out _ HE3.out).mono ?_;rintro e W4 ⟨rfl,hx4⟩;have hk:Kp0 w W4 w.heap.size:=⟨HE3.out.trans hx4,_,_,B2.out.ext (HX3.out.trans hx4)⟩;obtain ⟨_,k0,k1,z0,z1⟩:=hk.all;have hfin:=hk.fin (Nat.le_refl _) (.string st) (.string su);have Hfin:=hid hfin;clear hfin;clear hx4 hk;go_wp2_with fail
 obtain ⟨hb,hfx⟩:=Hfin.out;have hd0:=hb.c0;have hd1:=hb.c1;exact bodyPost_ret (v:=.tuple #[.agg #[.string st,.string su],.int .i64 0]) (by simp [results,Tryz.results66,go_sem,hd0,hd1]) rfl ⟨rfl,hfx⟩
theorem zlL (v:Value)(p:List Int)(rs:List Qw)(m:Int)(w:World)(he:Env w)(hv:ScV w v p rs)(h:Wd p (rs.map Qw.x))(hm0:-500≤m)(hm1:m≤500) :
  Calls Tryz.prog 188 #[v,.int .i64 m] w fun e w'=>∃ v out,e=.returned (.tuple #[v,.int .i64 0])∧ScO w' w.heap.size v p out∧out.map Qw.x=md p (rs.map Qw.x) m∧Ext w w':=by
 obtain ⟨j0,hj,hy0,hy1,hy2⟩:=info_parts zf4;have hpe:zdV p=0∧p.length≤100∧0<p.length:=by rcases h.pr with ⟨e,_⟩ | ⟨e,_⟩ <;> rw [e] <;> decide
 have hnt:=fun (k:Int)(h0:-1000≤k)(h1:k≤1000) W (hE:Ext w W)=>zlr v p rs k W (he.ext hE) (hv.ext hE) h h0 h1;have hfew:=h.few;have hL:(rs.map Qw.x).length=rs.length:=List.length_map ..;rw [hL] at hfew;obtain ⟨vp,vn,rfl,hp,hs,hmr⟩:=hv;have hsb:=fun (k:Int)(h0:-1000≤k)(h1:k≤1000) W va vb (hE:Ext w W)(ha:Rd W va (nt p (rs.map Qw.x) k))(hb:Rd W vb (nt p (rs.map Qw.x) m))=>zih vp va vb p _ _ W (he.ext hE) (hE.sl hp) ha hb hpe.1 (h.ntlen k) (h.ntlen m) (h.nt_quick k h0 h1).1 (h.nt_quick m (by omega) (by omega)).1 (h.nt_sub_quick k m h0 h1 (by omega) (by omega)).1;have hcp:=fun W (hE:Ext w W)=>zjP vp p W (hE.sl hp) (by omega) (by intro e;rw [e] at hpe;exact absurd hpe.2.2 (by simp));have hmd:∀ i,i<rs.length→(md p (rs.map Qw.x) m).take (i+1)=(md p (rs.map Qw.x) m).take i++[zeO (nt p (rs.map Qw.x) (m+(i:Int)+1)) (nt p (rs.map Qw.x) m)]:=fun i hi=>by
  have:=zj2 (p:=p) (N:=rs.map Qw.x) (m:=m) (i:=i) (by rw [hL];exact hi);obtain ⟨hl,e⟩:=List.getElem?_eq_some_iff.1 this;rw [List.take_succ_eq_append_getElem hl,e]
 have hmf:(md p (rs.map Qw.x) m).take rs.length=md p (rs.map Qw.x) m:=List.take_of_length_le (by rw [zj1,hL];exact Nat.le_refl _);obtain ⟨ap,cp,rfl,_,_,_⟩:=hp.parts;obtain ⟨an,cn,rfl,_,_,_⟩:=hs.parts;rw [zas] at *;rw [zf5] at *;generalize hn:rs.length=n at *;have hE0:Ext w ((w.alloc (.cells #[.slice ap p.length cp,.slice an n cn] 28)).alloc (.cells #[.slice none 0 0,.slice none 0 0] 28)):=((Ext.refl w).alloc _).alloc _;have b1:=(zdM.new 28 w (.slice ap p.length cp) (.slice an n cn)).ext ((Ext.refl _).alloc (.cells #[.slice none 0 0,.slice none 0 0] 28));have b2:=zdM.new 28 (w.alloc (.cells #[.slice ap p.length cp,.slice an n cn] 28)) (.slice none 0 0) (.slice none 0 0);rw [World.size_alloc] at b2;have Hnt:=hid hnt;have Hsb:=hid hsb;have Hcp:=hid hcp;have Hmd:=hid hmd;have Hmf:=hid hmf;have HE0:=hid hE0;have B1:=hid b1;have B2:=hid b2;have Hn:=hid hn;clear hp hs hmr he h hpe hnt hsb hcp hmd hmf hE0 b1 b2 hL hn;go_enter Tryz.func188,Tryz.ntmps188
 have q0:=B1.out.c0;have q1:=B1.out.c1;go_wp2_with fail
 refine (Hnt.out m (by omega) (by omega) _ HE0.out).mono ?_;rintro e w1 ⟨g1,rfl,ho1,hx1⟩;have q0:=(B1.out.ext hx1).c0;have q1:=(B1.out.ext hx1).c1;have Ho1:=hid ho1.rd;have Hx1:=hid hx1;clear ho1 hx1;go_wp2_with fail
 refine (Hcp.out w1 (HE0.out.trans Hx1.out)).mono ?_;rintro e w6 ⟨u6,rfl,ho6,hx6⟩;obtain ⟨a6,c6,rfl⟩:=zec ho6;have Hx6:=hid (Hx1.out.trans hx6);have Ho6:=hid (zan ho6 (HE0.out.trans Hx1.out).size);have Ho16:=hid (hx6.rd Ho1.out);clear ho6 hx6 q0 q1;have Hb7:=hid (zdM.new 28 w6 (.slice a6 p.length c6) (.slice none 0 0));have H6x:Hid (Ext w6 (w6.alloc (.cells #[.slice a6 p.length c6,.slice none 0 0] 28))):=hid ((Ext.refl w6).alloc _);go_wp2_with fail
 go_loopw [9,10,11] (fun v9 v10 v11 wr=>∃ i:Nat,v9=.int .i64 ((i:Int)+1)∧i≤n∧NtR w6.heap.size w6 w6.heap.size (.slice a6 p.length c6) ((md p (rs.map Qw.x) m).take i) wr) (fun v9 _ _ _=>n+1 - (zam v9).toNat)
 case atStart=>exact ⟨0,rfl,Nat.zero_le _,.slice none 0 0,[],Hb7.out,QwM.nil _ _ _,rfl,H6x.out⟩
 case round =>
  obtain ⟨i,rfl,hi,⟨vn,nts,hbn,hqn,hmn,hEn⟩⟩:=hrel;have hE6:=Hx6.out.trans hEn;have hEw:=HE0.out.trans hE6;have q0:=(B1.out.ext hE6).c0;have q1:=(B1.out.ext hE6).c1;by_cases hin:i<n
  ·have hik:(i:Int)+1≤(n:Int):=(by omega);have hnk:=Hnt.out (m+((i:Int)+1)) (by omega) (by omega) wr hEw;have hw1:IntKind.i64.wrap (m+((i:Int)+1))=m+((i:Int)+1):=(by rw [IntKind.wrap_i64];omega);have Hbn:=hid hbn;have Hqn:=hid hqn;have Hmn:=hid hmn;have HEn:=hid hEn;have HE6:=hid hE6;have HEw:=hid hEw;have Hnk:=hid hnk;clear hbn hqn hmn hEn hE6 hEw hnk;go_wp2_with fail
   refine Hnk.out.mono ?_;rintro e w8 ⟨g8,rfl,ho8,hx8⟩;have q0:=hx8.cell q0;have q1:=hx8.cell q1;have hsk:=Hsb.out (m+((i:Int)+1)) (by omega) (by omega) w8 _ _ (HEw.out.trans hx8) ho8.rd ((HEn.out.trans hx8).rd Ho16.out);have Hsk:=hid hsk;have Hx8:=hid hx8;clear hsk hx8 ho8;go_wp2_with fail
   refine Hsk.out.mono ?_;rintro e w9 ⟨g9,rfl,ho9,hx9⟩;have hx89:=Hx8.out.trans hx9;obtain ⟨avn,cvn,rfl⟩:=zec Hqn.out.1;have hnl:nts.length=i:=by
    have:=congrArg List.length Hmn.out;rw [List.length_map,List.length_take,zj1,List.length_map,Hn.out] at this;omega
   have hbk:=Hbn.out.ext hx89;rw [hnl] at hbk;have hqk:=hx89.qwM Hqn.out;rw [hnl] at hqk;have hqo:=hx89.own Hqn.out.1;rw [hnl] at hqo;have hEk:=HEn.out.trans hx89;have hbase:=hEk.size;have hok:=ho9.mono (HEn.out.trans Hx8.out).size;have hm3:i+1≤maxLen:=(by unfold maxLen;omega);have hm4:(i+1) * 24≤140737488355328:=(by omega);have r1:=hbk.c1;have Hbk:=hid hbk;have Hqk:=hid hqk;have Hnl:=hid hnl;have HEk:=hid hEk;have Hok:=hid hok;clear hbk hqk hnl hEk hok hx89 ho9 hx9 q0 q1;go_wp2_with (at_builtin;refine wpList_append_own _ rfl _ _ 26 rfl w6.heap.size 41 j0 (.slice none 0 0) 1 24 Tryz.underlying26 hj hy0 hy1 hy2 rfl (by decide) _ _ _ rfl (hqo.alloc _) ⟨w9.heap.size,0,none⟩ 1 1 [.slice (some ⟨g9,0,none⟩) p.length p.length] rfl rfl (cell_one_new _ _ _) (by simp [Value.oneCell']) hm3 hm4 (by rw [World.size_alloc];omega) ?_;intro v7 V7 hown7 hgrow7 _;have hbV:zdM 28 V7 w6.heap.size (.slice a6 p.length c6) (.slice avn i cvn):=zgd (((Ext.refl w9).alloc _).heap Hbk.out) (hqo.alloc (.cells #[.slice (some ⟨g9,0,none⟩) p.length p.length] 41)) (by decide) hgrow7;have d1:=hbV.c1;have e1:=hbV.fz 1;obtain ⟨a7,c7,rfl⟩:=zec hown7)
   have hR:=NtR.more (W6:=w6) (W:=w9) (v7:=.slice a7 (i+1) c7) (Nat.le_refl _) Hbk.out Hqk.out Hmn.out HEk.out Hok.out (by rw [Hnl.out];exact hown7) hgrow7;rw [show m+((i:Int)+1)=m+(i:Int)+1 by omega,← Hmd.out i hin] at hR;have HR:=hid hR;clear hR d1 e1 r1 hgrow7 hown7 hbV;generalize V7.setCell ⟨w6.heap.size,1,none⟩ (.slice a7 (i+1) c7)=V2 at *;go_roundw
   case rel=>exact ⟨i+1,by go_num,by omega,HR.out⟩
   case measure=>simp [zam];omega
  ·obtain rfl:n=i:=by omega
   have hik:¬ (n:Int)+1≤(n:Int):=(by omega);have hmn2:=hmn.trans Hmf.out;obtain ⟨avn,cvn,rfl⟩:=zec hqn.1;have r0:=hbn.c0;have r1:=hbn.c1;have hbr:=B2.out.ext hE6;have hK:K0 28 w wr (w.heap.size+1):=⟨hEw,_,_,hbr⟩;have k0:=hK.res.c0;have k1:=hK.res.c1;have z0:=hK.res.fz 0;have z1:=hK.res.fz 1;have hfin:=hK.fin (by omega) (.slice a6 p.length c6) (.slice avn nts.length cvn);have hq4:=(hqn.set hbr 0 (.slice a6 p.length c6)).set (zdM.put0 hbr (.slice a6 p.length c6)) 1 (.slice avn nts.length cvn);have ho4:=zgg (zdM.put0 hbr (.slice a6 p.length c6)) (zgg hbr (hEn.own Ho6.out) (by decide) 0 (.slice a6 p.length c6)) (by decide) 1 (.slice avn nts.length cvn);have hlo:=(HE0.out.trans Hx6.out).size;have Hfin:=hid hfin;have Hq4:=hid hq4;have Ho4:=hid ho4;have Hmn2:=hid hmn2;clear hfin hq4 ho4 hmn2 hK hbr hqn hbn hmn hEn hE6 hEw;go_wp2_with fail
   obtain ⟨hb5,hx5⟩:=Hfin.out;have hd0:=hb5.c0;have hd1:=hb5.c1;exact bodyPost_ret (v:=.tuple #[.agg #[.slice a6 p.length c6,.slice avn nts.length cvn],.int .i64 0]) (by simp [results,Tryz.results188,go_sem,hd0,hd1]) rfl ⟨_,rfl,nts,⟨_,_,rfl,Ho4.out,Hq4.out.mono hlo hlo⟩,Hmn2.out,hx5⟩
end
section
def cmb (n:Nat):Nat→Nat→List (List Int)
 | 0,_=>[[]]
 | _+1,0=>[]
 | k+1,f+1=>((cmb n k f).map fun c=>((n - (f+1):Nat):Int)::c)++cmb n (k+1) f
theorem zlM (n f:Nat):cmb n 0 f=[[]]:=by cases f <;> rfl
theorem zlN {n:Nat}:∀ {f k:Nat}{c:List Int},c∈cmb n k f→c.length=k
 | f,0,c,h=>by rw [zlM,List.mem_singleton] at h;rw [h];rfl
 | 0,k+1,c,h=>by cases h
 | f+1,k+1,c,h=>by
  rw [cmb,List.mem_append,List.mem_map] at h;rcases h with ⟨d,hd,rfl⟩ | h
  ·rw [List.length_cons,zlN hd]
  ·exact zlN h
theorem zlO {n:Nat}:∀ {f k:Nat}{c:List Int},f≤n→c∈cmb n k f→(∀ x∈c,((n - f:Nat):Int)≤x∧x<(n:Int))∧c.Pairwise (·<·)
 | f,0,c,_,h=>by rw [zlM,List.mem_singleton] at h;rw [h];exact ⟨fun x hx=>(by cases hx),List.Pairwise.nil⟩
 | 0,k+1,c,_,h=>by cases h
 | f+1,k+1,c,hf,h=>by
  rw [cmb,List.mem_append,List.mem_map] at h;rcases h with ⟨d,hd,rfl⟩ | h
  ·obtain ⟨h1,h2⟩:=zlO (by omega) hd;refine ⟨fun x hx=>?_,List.pairwise_cons.2 ⟨fun x hx=>?_,h2⟩⟩
   ·rcases List.mem_cons.1 hx with rfl | hx
    ·omega
    ·have:=h1 x hx;omega
   ·have:=h1 x hx;omega
  ·obtain ⟨h1,h2⟩:=zlO (by omega) h;exact ⟨fun x hx=>by have:=h1 x hx;omega,h2⟩
theorem zlP {n:Nat}:∀ {f k:Nat},f<k→cmb n k f=[]
 | f,0,h=>by omega
 | 0,k+1,_=>rfl
 | f+1,k+1,h=>by rw [cmb,zlP (by omega),zlP (by omega)];rfl
def cho (n m:Nat)(M:List Int):Nat→List Int→Nat→List (List Int)
 | 0,l,u=>if l.length=m then (if u<M.length then [] else [l]) else []
 | f+1,l,u =>
  if l.length=m then (if u<M.length then [] else [l])
  else if m - l.length≤f+1 then
   (if M[u]?=some ((n - (f+1):Nat):Int) then (if M.length≤(u+1)+(m - l.length - 1) then cho n m M f (l++[((n - (f+1):Nat):Int)]) (u+1) else [])
    else (if M.length≤u+(m - l.length - 1) then cho n m M f (l++[((n - (f+1):Nat):Int)]) u else [])++cho n m M f l u)
  else []
theorem zlQ : ∀ {N M:List Int},N.Nodup→N ⊆ M→N.length≤M.length
 | [],_,_,_=>Nat.zero_le _
 | a::N,M,h,hs=>by
  rw [List.nodup_cons] at h;have ha:a∈M:=hs (List.mem_cons_self ..);have ih:=zlQ (N:=N) (M:=M.erase a) h.2 fun x hx=>by
   have hxa:x ≠ a:=fun e=>h.1 (e ▸ hx);exact (List.mem_erase_of_ne hxa).2 (hs (List.mem_cons_of_mem _ hx))
  rw [List.length_erase_of_mem ha] at ih;have:=List.length_pos_of_mem ha;rw [List.length_cons];omega
def zlR (M c:List Int):Bool:=M.all fun x=>c.contains x
theorem zlS {M c:List Int}:zlR M c=true ↔ ∀ x∈M,x∈c:=by
 unfold zlR;rw [List.all_eq_true];exact ⟨fun h x hx=>List.contains_iff_mem.1 (h x hx),fun h x hx=>List.contains_iff_mem.2 (h x hx)⟩
theorem zlT (i:Int)(P Q:List Int→Bool)(l:List (List Int))(h:∀ c∈l,P (i::c)=Q c):(l.map (fun c=>i::c)).filter P=(l.filter Q).map (fun c=>i::c):=by
 rw [List.filter_map];congr 1;exact List.filter_congr fun c hc=>h c hc
theorem zlU {n m:Nat}{M:List Int}(hM:M.Pairwise (·<·)):∀ (f:Nat)(l:List Int)(u:Nat),f≤n→l.length≤m→u≤M.length→(∀ x∈M.drop u,((n - f:Nat):Int)≤x∧x<(n:Int)) →
  cho n m M f l u=((cmb n (m - l.length) f).filter (zlR (M.drop u))).map (l++·):=by
 intro f;induction f with
 | zero =>
  intro l u hf hl hu hb
  unfold cho
  have hd:M.drop u=[]:=by
   rcases hd:M.drop u with _ | ⟨x,t⟩
   ·rfl
   ·have:=hb x (by rw [hd];exact List.mem_cons_self ..);omega
  have hul:¬ u<M.length:=by rw [List.drop_eq_nil_iff] at hd;omega
  rw [hd]
  by_cases e:l.length=m
  ·rw [if_pos e,if_neg hul,e,Nat.sub_self,zlM]
   simp [zlR]
  ·rw [if_neg e,zlP (by omega)];rfl
 | succ f ih =>
  intro l u hf hl hu hb
  rw [cho]
  by_cases e:l.length=m
  ·rw [if_pos e,e,Nat.sub_self,zlM]
   by_cases hul:u<M.length
   ·rw [if_pos hul]
    have:zlR (M.drop u) []=false:=by
     rw [Bool.eq_false_iff];intro h;have:=zlS.1 h M[u] (by rw [List.drop_eq_getElem_cons hul];exact List.mem_cons_self ..)
     cases this
    simp [this]
   ·rw [if_neg hul,List.drop_eq_nil_of_le (by omega)]
    simp [zlR]
  ·rw [if_neg e]
   rcases Nat.lt_or_ge (f+1) (m - l.length) with hk | hk
   ·rw [if_neg (by omega),zlP (by omega)];rfl
   rw [if_pos hk]
   obtain ⟨k,hk2⟩:∃ k,m - l.length=k+1:=⟨m - l.length - 1,by omega⟩
   have hk3:m - (l++[((n - (f+1):Nat):Int)]).length=k:=by rw [List.length_append,List.length_singleton];omega
   rw [hk2,Nat.add_sub_cancel,cmb,List.filter_append,List.map_append]
   have hdn:=fun (v:Nat)=>(hM.imp (fun {a b:Int}(g:a<b)=>(Int.ne_of_lt g:a ≠ b)):M.Nodup).sublist (List.drop_sublist v M)
   -- what the prune leaves out has no subset
   have prune:∀ v,¬ M.length≤v+k→(cmb n k f).filter (zlR (M.drop v))=[]:=fun v hv=>by
    rw [List.filter_eq_nil_iff];intro c hc h;have:=zlQ (hdn v) (fun x hx=>zlS.1 h x hx);rw [List.length_drop,zlN hc] at this;omega
   by_cases hit:M[u]?=some ((n - (f+1):Nat):Int)
   ·rw [if_pos hit]
    have hul:u<M.length:=(List.getElem?_eq_some_iff.1 hit).1
    have hde:M.drop u=((n - (f+1):Nat):Int)::M.drop (u+1):=by
     rw [List.drop_eq_getElem_cons hul];rw [List.getElem?_eq_getElem hul] at hit;rw [Option.some.inj hit]
    have hp:(((n - (f+1):Nat):Int)::M.drop (u+1)).Pairwise (·<·):=by rw [← hde];exact hM.sublist (List.drop_sublist u M)
    rw [List.pairwise_cons] at hp
    have hb2:∀ x∈M.drop (u+1),((n - f:Nat):Int)≤x∧x<(n:Int):=fun x hx=>by
     have h1:=hp.1 x hx;have h2:=hb x (by rw [hde];exact List.mem_cons_of_mem _ hx);omega
    have hno:(cmb n (k+1) f).filter (zlR (M.drop u))=[]:=by
     rw [List.filter_eq_nil_iff];intro c hc h;have h1:=zlS.1 h _ (by rw [hde];exact List.mem_cons_self ..);have h2:=(zlO (by omega) hc).1 _ h1;omega
    rw [hno,List.map_nil,List.append_nil,zlT _ _ (zlR (M.drop (u+1)))]
    ·rw [List.map_map]
     by_cases hpr:M.length≤u+1+k
     ·rw [if_pos hpr,ih _ _ (by omega) (by rw [List.length_append,List.length_singleton];omega) (by omega) hb2,hk3]
      congr 1
      funext c
      simp
     ·rw [if_neg hpr,prune (u+1) hpr];rfl
    ·intro c hc
     rw [Bool.eq_iff_iff,zlS,zlS,hde]
     constructor
     ·intro h x hx
      have h1:=h x (List.mem_cons_of_mem _ hx)
      rcases List.mem_cons.1 h1 with g | g
      ·have:=hp.1 x hx;omega
      ·exact g
     ·intro h x hx
      rcases List.mem_cons.1 hx with g | g
      ·rw [g];exact List.mem_cons_self ..
      ·exact List.mem_cons_of_mem _ (h x g)
   ·rw [if_neg hit]
    have hb2:∀ x∈M.drop u,((n - f:Nat):Int)≤x∧x<(n:Int):=fun x hx=>by
     have h1:=hb x hx;rcases (by omega:x=((n - (f+1):Nat):Int)∨((n - f:Nat):Int)≤x) with g | g
     ·exfalso;have hul:u<M.length:=by
       rcases Nat.lt_or_ge u M.length with g | g
       ·exact g
       ·rw [List.drop_eq_nil_of_le g] at hx;cases hx
      apply hit;rw [List.getElem?_eq_getElem hul];have hp:(M[u]::M.drop (u+1)).Pairwise (·<·):=(by rw [← List.drop_eq_getElem_cons hul];exact hM.sublist (List.drop_sublist u M));rw [List.pairwise_cons] at hp;rw [List.drop_eq_getElem_cons hul] at hx;have h0:=hb M[u] (by rw [List.drop_eq_getElem_cons hul];exact List.mem_cons_self ..);rcases List.mem_cons.1 hx with e2 | e2
      ·rw [← e2,g]
      ·have:=hp.1 x e2;omega
     ·exact ⟨g,h1.2⟩
    have hrest:=ih l u (by omega) hl hu hb2
    rw [hk2] at hrest
    rw [hrest]
    congr 1
    rw [zlT _ _ (zlR (M.drop u))]
    ·rw [List.map_map]
     by_cases hpr:M.length≤u+k
     ·rw [if_pos hpr,ih _ _ (by omega) (by rw [List.length_append,List.length_singleton];omega) hu hb2,hk3]
      congr 1
      funext c
      simp
     ·rw [if_neg hpr,prune u hpr];rfl
    ·intro c hc
     rw [Bool.eq_iff_iff,zlS,zlS]
     constructor
     ·intro h x hx
      rcases List.mem_cons.1 (h x hx) with g | g
      ·have:=hb2 x hx;omega
      ·exact g
     ·intro h x hx
      exact List.mem_cons_of_mem _ (h x hx)
def zlV (n m:Nat)(M:List Int):List (List Int):=(cmb n m n).filter (zlR M)
theorem zlW {n m:Nat}{M:List Int}(hM:M.Pairwise (·<·))(hb:∀ x∈M,0≤x∧x<(n:Int)):cho n m M n [] 0=zlV n m M:=by
 rw [zlU hM n [] 0 (Nat.le_refl _) (Nat.zero_le _) (Nat.zero_le _) (fun x hx=>by rw [Nat.sub_self];exact hb x hx)];unfold zlV;simp
def nx (l:List Int):Int:=(l.getLast?.map (·+1)).getD 0
def grw (n:Nat)(l:List Int):List (List Int):=(List.range (n - (nx l).toNat)).map fun (j:Nat)=>l++[nx l+(j:Int)]
def sts (n:Nat):Nat→List (List Int)
 | 0=>[[]]
 | k+1=>(sts n k).flatMap (grw n)
def exq (n:Nat):Nat→List Int→List (List Int)
 | 0,l=>[l]
 | k+1,l=>(grw n l).flatMap (exq n k)
theorem zlX (n:Nat):∀ k s,(sts n s).flatMap (exq n k)=sts n (s+k)
 | 0,s=>by
  show (sts n s).flatMap (fun l=>[l])=_;simp
 | k+1,s=>by
  show (sts n s).flatMap (fun l=>(grw n l).flatMap (exq n k))=_;rw [← List.flatMap_assoc];have:=zlX n k (s+1);rw [show s+1+k=s+(k+1) by omega] at this;exact this
theorem zlY (l:List Int)(x:Int):nx (l++[x])=x+1:=by unfold nx;simp
theorem zlZ (n k:Nat):∀ f,f≤n→cmb n (k+1) f=(List.range f).flatMap fun j=>(cmb n k (f - 1 - j)).map fun c=>((n - f+j:Nat):Int)::c
 | 0,_=>rfl
 | f+1,h=>by
  rw [cmb,zlZ n k f (by omega),List.range_succ_eq_map,List.flatMap_cons,List.flatMap_map];congr 1;simp only [List.flatMap_def];congr 1;apply List.map_congr_left;intro j hj;rw [List.mem_range] at hj;show _=(cmb n k (f+1 - 1 - (j+1))).map fun c=>((n - (f+1)+(j+1):Nat):Int)::c;rw [show f+1 - 1 - (j+1)=f - 1 - j by omega,show n - (f+1)+(j+1)=n - f+j by omega]
theorem zma (n:Nat):∀ k l,0≤nx l→nx l≤n→exq n k l=(cmb n k (n - (nx l).toNat)).map (l++·)
 | 0,l,_,_=>by rw [zlM];simp [exq]
 | k+1,l,h0,h1=>by
  rw [exq,zlZ n k _ (by omega),List.map_flatMap];unfold grw;rw [List.flatMap_map];simp only [List.flatMap_def];congr 1;apply List.map_congr_left;intro j hj;rw [List.mem_range] at hj;rw [zma n k _ (by rw [zlY];omega) (by rw [zlY];omega),zlY,List.map_map,
   show n - (nx l+(j:Int)+1).toNat=n - (nx l).toNat - 1 - j by omega,show ((n - (n - (nx l).toNat)+j:Nat):Int)=nx l+(j:Int) by omega]
  apply List.map_congr_left;intro c _;simp
theorem zmb (n k:Nat):sts n k=cmb n k n:=by
 have h:=zlX n k 0;rw [Nat.zero_add] at h;rw [← h];show [[]].flatMap (exq n k)=_;have e:=zma n k [] (by decide) (by show (0:Int)≤n;omega);simp only [List.flatMap_cons,List.flatMap_nil,List.append_nil,e];show (cmb n k (n - (0:Int).toNat)).map _=_;simp
end
section
open Go.RowKit Go.Lib Go.Shelf
theorem zmc {α:Type}(enc:α→Value)(key:α→Rat)(g:Nat)(u:Value)(B blk cap:Nat)(d0 d:List α)(W0 w:World)(hR:InR 41 W0 B blk cap enc d0 w d)(hl:d0.length≤1000)(h1:OneCell enc)
  (eg:∀ args w,(callFunc g args).run Tryz.prog w=.ok (.enter g args) w)
  (hcmp:∀ W,W0.grownBy W (some blk)→∀ x∈d0,∀ y∈d0,Calls Tryz.prog g #[u,enc x,enc y] W fun e w'=>(∃ z:Int,e=.returned (.int .i64 z)∧(z<0 ↔ key x<key y))∧Ext W w') :
  Calls Tryz.prog 230 #[.slice (some ⟨blk,0,none⟩) d0.length cap,.int .i64 0,.int .i64 d0.length,.func (.func g) #[u] #[]] w fun e w'=>e=.returned (.tuple #[])∧∃ d',InR 41 W0 B blk cap enc d0 w' d'∧d'.Pairwise fun x y=>key x≤key y:=by
 have mixed:Tryz.prog.follows .mixedOrders=true:=by kernel_rfl
 have hcl0:=h1.cells;simp only [Value.cells] at hcl0;have hst:=h1.store Tryz.prog;generalize hn:d0.length=n at *;have HR:=hid hR;have Hcmp:=hid hcmp;have Hn:=hid hn;clear hR hcmp hn;go_enter Tryz.func230,Tryz.ntmps230
 go_wp2_with fail
 go_loopw [8] (fun vi wr=>∃ (i:Nat)(dk:List α),vi=.int .i64 i∧1≤i∧(i≤n∨i=1)∧Hid (STo key dk i)∧Hid (InR 41 W0 B blk cap enc d0 wr dk)) (fun vi _=>n+1 - (zam vi).toNat)
 case atStart=>exact ⟨1,d,rfl,Nat.le_refl _,.inr rfl,hid (ziG d),HR⟩
 case round =>
  clear HR;obtain ⟨i,dk,rfl,hi1,hin,HS,HR⟩:=hrel;by_cases hlt:i<n
  ·have hltz:(i:Int)<(n:Int):=(by omega);go_wp2_with fail
   obtain ⟨wa,hwa⟩:∃ wa,wa=wr:=⟨_,rfl⟩;subst hwa;go_loopw [9] (fun vj wr=>∃ (j:Nat)(dj:List α),vj=.int .i64 j∧j≤i∧Hid (SAt key dj i j)∧Hid (InR 41 W0 B blk cap enc d0 wr dj)) (fun vj _=>(zam vj).toNat)
   case atStart=>exact ⟨i,dk,rfl,Nat.le_refl _,hid (ziH HS.out),HR⟩
   case round =>
    clear HR;obtain ⟨j,dj,rfl,hji,HA,HR⟩:=hrel;by_cases hja:0<j
    ·obtain ⟨jp,hjp⟩:∃ q,q+1=j:=⟨j - 1,by omega⟩;have hjl:dj.length=n:=HR.out.len.trans Hn.out;obtain ⟨x,hx⟩:∃ x,dj[jp+1]?=some x:=⟨_,List.getElem?_eq_getElem (by omega)⟩;obtain ⟨y,hy⟩:∃ y,dj[jp]?=some y:=⟨_,List.getElem?_eq_getElem (by omega)⟩;obtain ⟨iN,hiN⟩:∃ q,q=j:=⟨_,rfl⟩;obtain ⟨jN,hjN⟩:∃ q,q=jp:=⟨_,rfl⟩;have c1:=HR.out.cell hx;have c2:=HR.out.cell hy;rw [hjp,← hiN] at c1;rw [← hjN] at c2;have hcm:=fun W (hE:Ext wr W)=>Hcmp.out W (zek HR.out.only hE) x (HR.out.mem hx) y (HR.out.mem hy);have hsw:=fun W (hE:Ext wr W)=>(HR.out.ext hE).swap hx hy;have hcf:=fun W (hE:Ext wr W)=>(⟨(HR.out.ext hE).cell hx,(HR.out.ext hE).cell hy,(HR.out.ext hE).frozen (jp+1),(HR.out.ext hE).frozen jp⟩:_∧_∧_∧_);have hex:=fun W (hE:Ext wr W)=>HR.out.ext hE;have hij:jN<iN:=(by omega);rw [hjp,← hiN,← hjN] at hcf;have hsw2:=fun W (hE:Ext wr W)=>(show InR 41 W0 B blk cap enc d0 ((W.setCell ⟨blk,iN,none⟩ (enc y)).setCell ⟨blk,jN,none⟩ (enc x)) ((dj.set (jp+1) y).set jp x) by rw [hiN,hjN,← hjp];exact hsw W hE);have zjp:(j:Int)=(jp:Int)+1:=(by omega);have hjad:decide ((jp:Int)+1 > (0:Int))=true:=decide_eq_true (by omega);have hjaz:(0:Int)<(jp:Int)+1:=(by omega);have ea:((jp:Int)+1).toNat=iN:=(by omega);have pa:(0:Int)≤(jp:Int)+1:=(by omega);have ba:(jp:Int)+1<(n:Int):=(by omega);have ra:IntKind.i64.wrap ((jp:Int)+1)=(jp:Int)+1:=(by rw [IntKind.wrap_i64];omega);have ec:((jp:Int)).toNat=jN:=(by omega);have pc:(0:Int)≤(jp:Int):=(by omega);have bc:(jp:Int)<(n:Int):=(by omega);have rc:IntKind.i64.wrap ((jp:Int))=(jp:Int):=(by rw [IntKind.wrap_i64];omega);have Hx:=hid hx;have Hy:=hid hy;have Hcm:=hid hcm;have Hsw:=hid hsw2;have Hcf:=hid hcf;have Hex:=hid hex;have HiN:=hid hiN;have HjN:=hid hjN;clear hx hy hcm hsw hsw2 hcf hex hjl hiN hjN HR;by_cases hxy:key x<key y
     ·have hxy2:key x≤key y:=Rat.le_of_lt hxy;have Hxy:=hid hxy;have Hxy2:=hid hxy2;clear hxy hxy2;go_wp2_with fail
      go_region_held3 (fun w'=>Ext wr w'∧w'.cell? ⟨blk,iN,none⟩=some (enc x)∧w'.cell? ⟨blk,jN,none⟩=some (enc y))
       (first | (with_reducible assumption) | exact ⟨(Ext.refl wr).drew,c1,c2⟩)
       (first | (go_at_fn g;refine (Hcm.out _ (And.left (by assumption))).mono ?_;rintro e9 VA ⟨⟨z,rfl,hz⟩,hxa⟩;have hEA:=((Ext.refl wr).drew).trans hxa;have hS2:Ext wr VA∧VA.cell? ⟨blk,iN,none⟩=some (enc x)∧VA.cell? ⟨blk,jN,none⟩=some (enc y):=⟨hEA,hEA.cell c1,hEA.cell c2⟩;have hz1:z<0:=hz.2 Hxy.out;have hz2:decide (z<0)=true:=decide_eq_true hz1;have HEA:=hid hEA;clear hxa hEA hz))
      all_goals
       clear hS2 c1 c2;obtain ⟨k1,k2,k3,k4⟩:=Hcf.out VA HEA.out;have S3:=hid (Hsw.out VA HEA.out);have c3:∃ u,(VA.setCell ⟨blk,iN,none⟩ (enc y)).cell? ⟨blk,jN,none⟩=some u:=by
        rw [World.cell?_setCell_other _ _ _ _ (by intro e';simp only [Addr.mk.injEq] at e';omega)];exact ⟨_,k2⟩
       obtain ⟨u3,c3⟩:=c3;go_wp2_with fail
       go_big_region_o
       have S4:=hid (S3.out.ext ((Ext.refl _).drew));have HA2:=hid (ziL (show SAt key dj i (jp+1) by rw [hjp];exact HA.out) Hx.out Hy.out Hxy2.out);clear c3 k1 k2 k3 k4 S3;generalize ((VA.setCell ⟨blk,iN,none⟩ (enc y)).setCell ⟨blk,jN,none⟩ (enc x)).drew=w3 at S4 ⊢;clear ea ec;go_wp2_with fail
       go_roundw
       case rel=>exact ⟨jp,(dj.set (jp+1) y).set jp x,by first | rfl | go_num | (congr 1;omega),by omega,HA2,S4⟩
       case measure=>simp [zam];omega
     ·have Hxy:=hid (Rat.not_lt.1 hxy);have hxy2:=hid hxy;clear hxy;go_wp2_with fail
      go_region_held3 (fun w'=>Ext wr w'∧w'.cell? ⟨blk,iN,none⟩=some (enc x)∧w'.cell? ⟨blk,jN,none⟩=some (enc y))
       (first | (with_reducible assumption) | exact ⟨(Ext.refl wr).drew,c1,c2⟩)
       (first | (go_at_fn g;refine (Hcm.out _ (And.left (by assumption))).mono ?_;rintro e9 VA ⟨⟨z,rfl,hz⟩,hxa⟩;have hEA:=((Ext.refl wr).drew).trans hxa;have hS2:Ext wr VA∧VA.cell? ⟨blk,iN,none⟩=some (enc x)∧VA.cell? ⟨blk,jN,none⟩=some (enc y):=⟨hEA,hEA.cell c1,hEA.cell c2⟩;have hz1:¬ z<0:=fun h=>hxy2.out (hz.1 h);have hz2:decide (z<0)=false:=decide_eq_false hz1;have HEA:=hid hEA;clear hxa hEA hz))
      all_goals
       clear hS2 c1 c2;have S4:=hid (Hex.out VA HEA.out);have HS2:=hid (ziJ (show SAt key dj i (jp+1) by rw [hjp];exact HA.out) Hx.out Hy.out Hxy.out);clear ea ec;go_wp2_with fail
       go_roundw
       case rel=>exact ⟨i+1,dj,by go_num,by omega,.inl (by omega),HS2,S4⟩
       case measure=>simp [zam];omega
    ·obtain rfl:j=0:=by omega
     have hjaz:decide (((0:Nat):Int) > (0:Int))=false:=(by decide);have hjaz':¬ ((0:Nat):Int) > (0:Int):=(by decide);have HS2:=hid (ziI HA.out);go_wp2_with fail
     go_big_region_o
     have S4:=hid (HR.out.ext ((Ext.refl _).drew));clear HR;generalize wr.drew=w3 at S4 ⊢;go_wp2_with fail
     go_roundw
     case rel=>exact ⟨i+1,dj,by go_num,by omega,.inl (by omega),HS2,S4⟩
     case measure=>simp [zam];omega
  ·have hkk:¬ (i:Int)<(n:Int):=(by omega);go_wp2
   go_end0
   refine ⟨rfl,dk,HR.out,?_⟩;have hS:STo key dk dk.length:=by
    rw [HR.out.len,Hn.out];intro a b x y h1 h2;exact HS.out a b x y h1 (by omega)
   exact ziN hS
theorem zmd {α:Type}(enc:α→Value)(key:α→Rat)(g:Nat)(u:Value)(B blk cap:Nat)(d:List α)(w:World)(hR:w.ownsRow B 41 1 (.slice (some ⟨blk,0,none⟩) d.length cap) d.length (d.map enc))(hl:d.length≤12)(h1:OneCell enc)
  (eg:∀ args w,(callFunc g args).run Tryz.prog w=.ok (.enter g args) w)
  (hcmp:∀ W,w.grownBy W (some blk)→∀ x∈d,∀ y∈d,Calls Tryz.prog g #[u,enc x,enc y] W fun e w'=>(∃ z:Int,e=.returned (.int .i64 z)∧(z<0 ↔ key x<key y))∧Ext W w') :
  Calls Tryz.prog 116 #[.slice (some ⟨blk,0,none⟩) d.length cap,.func (.func g) #[u] #[]] w fun e w'=>e=.returned (.tuple #[])∧∃ d',InR 41 w B blk cap enc d w' d'∧d'.Pairwise fun x y=>key x≤key y:=by
 have hi:=fun W (hE:Ext w W)=>zmc enc key g u B blk cap d d w W ⟨List.Perm.refl _,hE.own hR,zek (zei _ _) hE⟩ (by omega) h1 eg hcmp;have h2:∀ W (lim:Int),Ext w W→Calls Tryz.prog 171 #[.slice (some ⟨blk,0,none⟩) d.length cap,.int .i64 0,.int .i64 d.length,.int .i64 lim,.func (.func g) #[u] #[]] W fun e w'=>e=.returned (.tuple #[])∧∃ d',InR 41 w B blk cap enc d w' d'∧d'.Pairwise fun x y=>key x≤key y:=by
  intro W lim hE;have Hi:=hid (hi W hE);generalize hn:d.length=n at *;clear hi hR hcmp hn hE;have t1:(n:Int)≤12:=by omega
  go_enter Tryz.func171,Tryz.ntmps171
  go_wp2_with fail
  refine wp_loop_rounds 1 ?_;rw [rounds_succ];go_wp2_with fail
  refine Hi.out.mono ?_;rintro e w1 ⟨rfl,hd⟩;have Hd:=hid hd;clear hd;go_wp2
  (try simp only [Exit.inBlock,Exit.then]);refine bodyPost_ret (results_none rfl _ _ _) rfl ?_;exact ⟨rfl,Hd.out⟩
 generalize hn:d.length=n at *;have H2:=hid h2;clear hi hR hcmp hn h2;go_enter Tryz.func116,Tryz.ntmps116
 have hln:=fun W=>zhd n (by omega) W;have Hln:=hid hln;clear hln;have hw:IntKind.u64.wrap (n:Int)=(n:Int):=by rw [IntKind.wrap_u64];omega
 go_wp2_with fail
 refine (Hln.out _).mono ?_;rintro e w1 ⟨rfl,rfl⟩;go_wp2_with fail
 refine (H2.out w _ (Ext.refl w)).mono ?_;rintro e w1 ⟨rfl,hd⟩;have Hd:=hid hd;clear hd;go_wp2
 go_end0
 exact ⟨rfl,Hd.out⟩
end
end Go.Proofs.YtiameffonflhgaaGreatDoor
