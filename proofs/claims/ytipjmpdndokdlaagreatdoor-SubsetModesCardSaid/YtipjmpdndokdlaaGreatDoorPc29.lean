/- Plain: classes of modes, inversion, moments of symmetry; strict scales are the proper ones that are constant. Walk: scale.Note of a right scale. Walk: scale.Steps of a right scale. Plain: the major scale is the collection of seven fifths; what reduces there. Plain: the scales of worlds, and the major scale, have nice classes. Walks: fraction.New, fraction.Of at a positive denominator. Walks: scale.mode, scale.Mode. Plain: ascending lists of so many numbers in lexicographic order: as the program finds them, and as the reference does. -/
import Derived.Test.YtipjmpdndokdlaaGreatDoorPc28
import Derived.Test.YtipjmpdndokdlaaGreatDoorPc24
import Derived.Test.YtipjmpdndokdlaaGreatDoorPc23
import Derived.Test.YtipjmpdndokdlaaGreatDoorPc25
import Derived.Test.YtipjmpdndokdlaaGreatDoorPc27
import Derived.Test.YtipjmpdndokdlaaGreatDoorPc06
import Derived.Deep.RegionHeld3
set_option maxRecDepth 100000
set_option maxHeartbeats 2000000
namespace Go.Proofs.YtipjmpdndokdlaaGreatDoor
section
variable {p : List Int} {N : List (List Rat)} (h : Wc p N)
include h
theorem Wc.mode (m:Int):Wc p (md p N m):=by
 refine ⟨h.wd.mode m,?_,by rw [md_len];exact h.few⟩
 obtain ⟨n,hn⟩:=h.iv_nic
 have key:∀ x∈zer p.length::md p N m,∃ k:Int,x=subZ (nt p N k) (nt p N m):=fun x hx=>by
  rcases List.mem_cons.1 hx with rfl | hx
  ·exact ⟨m,by rw [subZ_self,h.wd.ntlen]⟩
  ·unfold md at hx
   obtain ⟨k,_,rfl⟩:=List.mem_map.1 hx
   exact ⟨k,rfl⟩
 refine ⟨n,fun x hx y hy=>?_⟩
 obtain ⟨k,rfl⟩:=key x hx
 obtain ⟨l,rfl⟩:=key y hy
 rw [subZ_subZ (by rw [h.wd.ntlen,h.wd.ntlen]) (by rw [h.wd.ntlen,h.wd.ntlen])]
 have:=hn l (k - l)
 unfold iv at this
 rwa [show l+(k - l)=k by omega] at this
theorem Wc.iv_md (m i d:Int):iv p (md p N m) i d=iv p N (m+i) d:=by
 unfold iv
 rw [h.wd.nt_md,h.wd.nt_md,subZ_subZ (by rw [h.wd.ntlen,h.wd.ntlen]) (by rw [h.wd.ntlen,h.wd.ntlen]),show m+(i+d)=m+i+d by omega]
theorem Wc.cls_md (m d:Int):cls p (md p N m) d=cls p N d:=by
 refine srt_uniq ((h.mode m).cls_srt d) (h.cls_srt d) fun x=>?_
 rw [(h.mode m).cls_mem,h.cls_mem]
 constructor
 ·rintro ⟨i,e⟩
  exact ⟨m+i,by rw [e,h.iv_md]⟩
 ·rintro ⟨i,e⟩
  exact ⟨i - m,by rw [e,h.iv_md,show m+(i - m)=i by omega]⟩
/-- The next interval of a class: a step more above, a step less below. -/
theorem Wc.iv_next (i d:Int):subZ (iv p N (i+1) d) (iv p N i d)=subZ (iv p N (i+d) 1) (iv p N i 1):=by
 unfold iv
 rw [show i+d+1=i+1+d by omega]
 have hl:=h.wd.ntlen
 refine List.ext_getElem ?_ fun j h1 h2=>?_
 ·simp only [subZ,List.length_zipWith,hl]
 ·simp only [subZ,List.getElem_zipWith]
  grind
/-- No size of a class is above one of the next class; none is equal either; none is in two classes. -/
def Pro (p : List Int) (N : List (List Rat)) : Prop:=∀ d : Nat,d<N.length → ∀ x∈cls p N (d : Int),∀ y∈cls p N ((d+1 : Nat) : Int),sF p x≤sF p y
def Str (p : List Int) (N : List (List Rat)) : Prop:=∀ d : Nat,d<N.length → ∀ x∈cls p N (d : Int),∀ y∈cls p N ((d+1 : Nat) : Int),sF p x<sF p y
def Cst (p : List Int) (N : List (List Rat)) : Prop:=∀ d u : Nat,d<u → u≤N.length → ∀ x∈cls p N (d : Int),x ∉ cls p N (u : Int)
theorem Wc.str_up (hs:Str p N):∀ m d:Nat,d+m+1≤N.length→∀ x∈cls p N (d:Int),∀ y∈cls p N ((d+m+1:Nat):Int),sF p x<sF p y
 | 0,d,hd,x,hx,y,hy=>hs d (by omega) x hx y hy
 | m+1,d,hd,x,hx,y,hy=>by
  have hz:iv p N 0 ((d+m+1:Nat):Int)∈cls p N ((d+m+1:Nat):Int):=h.cls_mem.2 ⟨0,rfl⟩
  have h1:=Wc.str_up hs m d (by omega) x hx _ hz
  have h2:=hs (d+m+1) (by omega) _ hz y hy
  grind
theorem Wc.str_iff : Str p N ↔ Cst p N∧Pro p N:=by
 constructor
 ·intro hs
  refine ⟨fun d u hdu hu x hx hy=>?_,fun d hd x hx y hy=>Rat.le_of_lt (hs d hd x hx y hy)⟩
  obtain ⟨m,rfl⟩:∃ m,u=d+m+1:=⟨u - d - 1,by omega⟩
  have:=h.str_up hs m d hu x hx x hy
  grind
 ·rintro ⟨hc,hp⟩ d hd x hx y hy
  have h1:=hp d hd x hx y hy
  have h2:sF p x ≠ sF p y:=fun e=>by
   obtain ⟨i,rfl⟩:=h.cls_mem.1 hx
   obtain ⟨j,rfl⟩:=h.cls_mem.1 hy
   have:=h.iv_inj e
   exact hc d (d+1) (by omega) (by omega) _ hx (by rw [this];exact hy)
  grind
/-- Equal steps. -/
theorem Wc.even {s:List Rat}(h1:cls p N 1=[s]):Str p N:=by
 have hst:∀ i,iv p N i 1=s:=fun i=>by
  have:=(h.cls_mem (d:=1)).2 ⟨i,rfl⟩
  rw [h1] at this
  simpa using this
 have hall:∀ (d:Int)(n:Nat),sF p (iv p N (n:Int) d)=sF p (iv p N 0 d):=by
  intro d n
  induction n with
  | zero=>rfl
  | succ n ih =>
   have hn:=congrArg (sF p) (h.iv_next (n:Int) d)
   rw [hst,hst,sF_sub _ _ _ (by rw [h.ivlen,h.ivlen]),sF_sub _ _ _ rfl,ih] at hn
   rw [show ((n+1:Nat):Int)=(n:Int)+1 by omega]
   grind
 intro d hd x hx y hy
 unfold cls at hx hy
 obtain ⟨i,_,rfl⟩:=clsN_mem.1 hx
 obtain ⟨j,_,rfl⟩:=clsN_mem.1 hy
 rw [hall,hall]
 exact h.iv_lt (by omega)
end
end Go.Proofs.YtipjmpdndokdlaaGreatDoor

namespace Go.Proofs.YtipjmpdndokdlaaGreatDoor
open Go.RowKit Go.Lib
attribute [local go_sem] Oper.semAt_some
theorem scNote_c (v:Value)(p:List Int)(rs:List Qw)(n:Nat)(k:Int)(r:Qw)(w:World)(he:Env w)(hv:ScV w v p rs)(h:Right p rs)(hn:rs.length=n+1)(hr:rs[n]?=some r)(hk0:-1000000≤k)(hk1:k≤1000000)
  (hq:Ft 400 ((k / ((n:Int)+1):Int):Rat)) (hf1:∀ q∈mulZ r.x ((k / ((n:Int)+1):Int):Rat),Ft 30 q) (hf2:∀ q∈noteQ rs n k,Ft 30 q) :
  Calls Tryz.prog 152 #[v,.int .i64 k] w fun e w'=>∃ g,e=.returned (.tuple #[.slice (some ⟨g,0,none⟩) p.length p.length,.int .i64 0])∧OwnQ w' w.heap.size (.slice (some ⟨g,0,none⟩) p.length p.length) (noteQ rs n k)∧Ext w w':=by
 have h1:=fun W (hE:Ext w W)=>scCheck_c v p rs W (he.ext hE) (hv.ext hE) h
 have h2:=fun W (hE:Ext w W)=>note_c v p rs n k r W (he.ext hE) (hv.ext hE) h hn hr (by omega) (by omega) hq hf1 hf2
 obtain ⟨vp,vn,rfl,hp,hs,hm⟩:=hv
 obtain ⟨ap,cp,rfl,_,_,_⟩:=hp.parts
 obtain ⟨an,cn,rfl,_,_,_⟩:=hs.parts
 generalize (i64s p).length=n1 at *
 generalize (qwc rs).length=n2 at *
 have bx:(w.alloc (.cells #[.slice ap n1 cp,.slice an n2 cn] 32)).heap[w.heap.size]?=some (.cells #[.slice ap n1 cp,.slice an n2 cn] 32 (0,0)):=World.alloc_heap_new w _
 have hE0:Ext w (w.alloc (.cells #[.slice ap n1 cp,.slice an n2 cn] 32)):=(Ext.refl w).alloc _
 have hbox:∀ W,Ext (w.alloc (.cells #[.slice ap n1 cp,.slice an n2 cn] 32)) W→W.cell? ⟨w.heap.size,0,none⟩=some (.slice ap n1 cp)∧W.cell? ⟨w.heap.size,1,none⟩=some (.slice an n2 cn):=fun W hE=>by
  have hb:=hE.heap bx
  unfold World.cell?
  dsimp only
  rw [hb]
  exact ⟨rfl,rfl⟩
 clear hp hs hm he h bx hq hf1 hf2 hn hr
 have H1:=hid h1;have H2:=hid h2;have HE0:=hid hE0;have Hbox:=hid hbox;clear h1 h2 hE0 hbox
 go_enter Tryz.func152,Tryz.ntmps152
 go_wp2_with fail
 refine (H1.out _ HE0.out).mono ?_
 rintro e w1 ⟨rfl,hx1⟩
 obtain ⟨q0,q1⟩:=Hbox.out w1 hx1
 have Hx1:=hid (HE0.out.trans hx1);clear hx1
 go_wp2_with fail
 refine (H2.out w1 Hx1.out).mono ?_
 rintro e w2 ⟨g,rfl,ho,hx2⟩
 have Ho:=hid (ho.mono Hx1.out.size)
 have Hx2:=hid (Hx1.out.trans hx2)
 clear ho hx2 q0 q1
 go_wp2
 go_ret2
 exact ⟨g,rfl,Ho.out,Hx2.out⟩
end Go.Proofs.YtipjmpdndokdlaaGreatDoor

namespace Go.Proofs.YtipjmpdndokdlaaGreatDoor
open Go.RowKit Go.Lib
attribute [local go_sem] Oper.semAt_some
/-- The steps of a scale. -/
def stQ (n : Nat) (rs : List Qw) (k : Nat) : List Rat:=subZ (((rs[k]?).map Qw.x).getD []) (prevQ n rs k)
def stQs (n : Nat) (rs : List Qw) (k : Nat) : List (List Rat):=(List.range k).map (stQ n rs)
theorem stQs_succ (n:Nat)(rs:List Qw)(k:Nat):stQs n rs (k+1)=stQs n rs k++[stQ n rs k]:=by unfold stQs;rw [List.range_succ,List.map_append];rfl
def StepR (w : World) (n : Nat) (rs : List Qw) (k : Nat) (u : Value) (wr : World) : Prop:=∃ out : List Qw,QwM wr w.heap.size w.heap.size u out ∧ out.map Qw.x=stQs n rs k ∧ out.length=k ∧ Ext w wr
theorem StepR.more {w W V:World}{o:Obj}{n k:Nat}{rs:List Qw}{v5 v7 u:Value}{out:List Qw}(hE:Ext w W)(h:QwM W w.heap.size w.heap.size v5 out)(hm:out.map Qw.x=stQs n rs k)(hl:out.length=k)(hr:OwnQ W w.heap.size u (stQ n rs k)) 
  (hown:V.ownsRow w.heap.size 37 1 v7 (k+1) (qwc out++[u])) (hgrow:(W.alloc o).grownBy V v5.ownBlock):StepR w n rs (k+1) v7 V:=by
 subst hl
 have:=QwM.more (r:=⟨_,u,rd_one hr.rd⟩) hE h hr hown hgrow
 exact ⟨_,this.1,by rw [List.map_append,hm,stQs_succ];rfl,by rw [List.length_append];rfl,this.2⟩
end Go.Proofs.YtipjmpdndokdlaaGreatDoor

namespace Go.Proofs.YtipjmpdndokdlaaGreatDoor
open Go.RowKit Go.Lib
/-- The steps of a right scale are short. -/
theorem Wd.step_ft {p:List Int}{rs:List Qw}(h:Wd p (rs.map Qw.x)):∀ k,k<rs.length→∀ q∈stQ p.length rs k,Ft 30 q:=by
 intro k hk
 have hl:(rs.map Qw.x).length=rs.length:=List.length_map ..
 have hf:=h.few
 have e:stQ p.length rs k=subZ (nt p (rs.map Qw.x) ((k+1:Nat):Int)) (nt p (rs.map Qw.x) (k:Int)):=by
  rw [h.nt_low (by omega),h.nt_low (by omega)]
  unfold stQ zat prevQ
  rw [List.getElem?_cons_succ,List.getElem?_map]
  cases k with
  | zero=>rfl
  | succ j=>rw [if_neg (by omega),List.getElem?_cons_succ,List.getElem?_map,Nat.add_sub_cancel]
 rw [e]
 exact (h.nt_sub_quick _ _ (by omega) (by omega) (by omega) (by omega)).1
end Go.Proofs.YtipjmpdndokdlaaGreatDoor

namespace Go.Proofs.YtipjmpdndokdlaaGreatDoor
theorem sz_bx2 {p:List Int}(h:Pw p){A B C:Int}(h1:-128≤B)(h2:B≤128)(h3:-64≤C)(h4:C≤64):Bx 128 (sz3 p A B C):=by
 rcases h with rfl | rfl
 ·exact ⟨A,B,rfl,half2 B,h1,h2⟩
 ·exact ⟨A,B,C,rfl,half2 B,rfl,h1,h2,by omega,by omega⟩
theorem d2_parts {p:List Int}(hp:Pw p){n:Nat}(hn:0<n)(hn9:n≤9):Dif2 p (mulsZ (mulZ (ov (p.length - 1)) (mkRat 1 n)) 1 n):=by
 have h2:∀ x∈zer p.length::mulsZ (mulZ (ov (p.length - 1)) (mkRat 1 n)) 1 n,∃ i:Int,x=oc3 p n i:=fun x hx=>by
  rcases List.mem_cons.1 hx with e | hx
  ·exact ⟨0,by rw [e,oc_zer hp n]⟩
  ·unfold mulsZ at hx
   obtain ⟨i,_,rfl⟩:=List.mem_map.1 hx
   exact ⟨1+(i:Int),oc_mul hp n _⟩
 refine ⟨n,fun x hx y hy=>?_⟩
 obtain ⟨i,rfl⟩:=h2 x hx
 obtain ⟨j,rfl⟩:=h2 y hy
 rw [oc3_sub hp]
 exact .inr ⟨hn,by omega,oc_oc hp hn _⟩
theorem d2_mults {p:List Int}(hp:Pw p)(x:I3){n:Nat}(hn9:n≤9):Dif2 p (mulsZ (szW p.length x) 0 n):=by
 obtain ⟨A,B,C,hA,hB,hC,e⟩:=szW_eq hp x
 have h2:∀ y∈zer p.length::mulsZ (szW p.length x) 0 n,∃ k:Int,0≤k∧k≤8∧y=sz3 p (A * k) (B * k) (C * k):=fun y hy=>by
  rcases List.mem_cons.1 hy with e | hy
  ·exact ⟨0,by omega,by omega,by rw [e,sz_zer hp,Int.mul_zero,Int.mul_zero,Int.mul_zero]⟩
  ·unfold mulsZ at hy
   obtain ⟨i,hi,rfl⟩:=List.mem_map.1 hy
   rw [List.mem_range] at hi
   exact ⟨0+(i:Int),by omega,by omega,by rw [e];exact sz_mul hp ..⟩
 refine ⟨0,fun y hy z hz=>.inl ⟨rfl,?_⟩⟩
 obtain ⟨k,k0,k1,rfl⟩:=h2 y hy
 obtain ⟨j,j0,j1,rfl⟩:=h2 z hz
 rw [sz_sub hp,← Int.mul_sub,← Int.mul_sub,← Int.mul_sub]
 have hk:-8≤k - j∧k - j≤8:=by omega
 generalize k - j=t at *
 have mb:∀ z b:Int,-b≤z→z≤b→0≤b→-(b * 8)≤z * t∧z * t≤b * 8:=fun z b h1 h2 h3=>by
  have h4:z.natAbs≤b.natAbs:=by omega
  have h5:t.natAbs≤8:=by omega
  have h6:=Nat.mul_le_mul h4 h5
  rw [← Int.natAbs_mul] at h6
  omega
 have m2:=mb B 16 hB.1 hB.2 (by omega)
 have m3:=mb C 8 hC.1 hC.2 (by omega)
 exact sz_bx2 hp (by omega) (by omega) (by omega) (by omega)
theorem d2_any {p:List Int}(hp:Pw p)(xs:Nat→I3)(n:Nat):Dif2 p ((List.range n).map fun i=>szW p.length (xs i)):=by
 have h2:∀ y∈zer p.length::((List.range n).map fun i=>szW p.length (xs i)),∃ A B C:Int,(-16≤B∧B≤16)∧(-8≤C∧C≤8)∧y=sz3 p A B C:=fun y hy=>by
  rcases List.mem_cons.1 hy with e | hy
  ·exact ⟨0,0,0,by omega,by omega,by rw [e,sz_zer hp]⟩
  ·obtain ⟨i,_,rfl⟩:=List.mem_map.1 hy
   obtain ⟨A,B,C,hA,hB,hC,e⟩:=szW_eq hp (xs i)
   exact ⟨A,B,C,hB,hC,e⟩
 refine ⟨0,fun y hy z hz=>.inl ⟨rfl,?_⟩⟩
 obtain ⟨A,B,C,hB,hC,rfl⟩:=h2 y hy
 obtain ⟨A',B',C',hB',hC',rfl⟩:=h2 z hz
 rw [sz_sub hp]
 exact sz_bx2 hp (by omega) (by omega) (by omega) (by omega)
theorem wl_d2 (a:Wl):Dif2 a.p a.sizes:=by
 unfold Wl.sizes
 split
 ·exact d2_parts a.pw a.n9.1 a.n9.2
 ·split
  ·exact d2_mults a.pw _ a.n9.2
  ·exact d2_any a.pw _ _
theorem wl_wc (a:Wl){N:List (List Rat)}(h:Coll a.p a.sizes N):Wc a.p N:=coll_wc a.lw (wl_d2 a) h a.few
end Go.Proofs.YtipjmpdndokdlaaGreatDoor

namespace Go.Proofs.YtipjmpdndokdlaaGreatDoor
open Go.RowKit Go.Lib Go.Shelf
attribute [local go_sem] Oper.semAt_some
theorem frNew_c (n:Int)(d:Nat)(w:World)(he:Env w)(hn:Fit n)(hd:Fit (d:Int))(h0:0<d) :
  Calls Tryz.prog 60 #[.string (I n),.string (I (d:Int))] w fun e w'=>e=.returned (.tuple #[Rv (mkRat n d),.int .i64 0])∧Ext w w':=by
 have hs:=fun W=>sign_c (d:Int) W hd
 rw [cmpI_gt (by omega)] at hs
 have hl:=fun W (h:Ext w W)=>frlow_c n d W (he.ext h) hn hd h0
 unfold Rv at hl ⊢
 generalize I (mkRat n d).num=st at *
 generalize I (((mkRat n d).den:Nat):Int)=su at *
 generalize I n=sa at *
 generalize I (d:Int)=sb at *
 have b2:=Box2.new w (.string ⟨#[]⟩) (.string ⟨#[]⟩)
 have hE:Ext w (w.alloc (.cells #[.string ⟨#[]⟩,.string ⟨#[]⟩] 27)):=(Ext.refl _).alloc _
 clear he hn hd h0
 have Hs:=hid hs;have Hl:=hid hl;have HE:=hid hE;have B2:=hid b2;clear hs hl hE b2
 go_enter Tryz.func60,Tryz.ntmps60
 go_wp2_with fail
 refine (Hs.out _).mono ?_
 rintro e W2 ⟨rfl,rfl⟩
 go_wp2_with fail
 refine (Hl.out _ HE.out).mono ?_
 rintro e W3 ⟨rfl,hx⟩
 have hk:Kp0 w W3 w.heap.size:=⟨HE.out.trans hx,_,_,B2.out.ext hx⟩
 obtain ⟨_,k0,k1,z0,z1⟩:=hk.all
 have hfin:=hk.fin (Nat.le_refl _) (.string st) (.string su)
 have Hfin:=hid hfin;clear hfin
 clear hx hk
 go_wp2_with fail
 obtain ⟨hb,hfx⟩:=Hfin.out
 have hd0:=hb.c0
 have hd1:=hb.c1
 exact bodyPost_ret (v:=.tuple #[.agg #[.string st,.string su],.int .i64 0]) (by simp [results,Tryz.results60,go_sem,hd0,hd1]) rfl ⟨rfl,hfx⟩
theorem frOf_c (n:Int)(d:Nat)(w:World)(he:Env w)(hn0:-1000000000≤n)(hn1:n≤1000000000)(h0:0<d)(h1:d≤1000000000) :
  Calls Tryz.prog 28 #[.int .i64 n,.int .i64 (d:Int)] w fun e w'=>e=.returned (.tuple #[Rv (mkRat n d),.int .i64 0])∧Ext w w':=by
 have hfit:∀ z:Int,-1000000000≤z→z≤1000000000→Fit z:=fun z a b=>by
  unfold Fit
  have h:nDigits z.natAbs≤nDigits 1000000000:=Dec.nDigits_mono (by omega)
  have h2:nDigits 1000000000≤400000:=by decide +kernel
  omega
 have hi1:=fun W (h:Ext w W)=>wholeOf_c n (by omega) (by omega) W (he.ext h)
 have hi2:=fun W (h:Ext w W)=>wholeOf_c (d:Int) (by omega) (by omega) W (he.ext h)
 have hnw:=fun W (h:Ext w W)=>frNew_c n d W (he.ext h) (hfit _ hn0 hn1) (hfit _ (by omega) (by omega)) h0
 unfold Rv at hnw ⊢
 generalize I (mkRat n d).num=st at *
 generalize I (((mkRat n d).den:Nat):Int)=su at *
 generalize I n=sa at *
 generalize I (d:Int)=sb at *
 obtain ⟨dz,hdz⟩:∃ dz:Int,dz=(d:Int):=⟨_,rfl⟩
 rw [← hdz] at hi2 ⊢
 have b2:=Box2.new w (.string ⟨#[]⟩) (.string ⟨#[]⟩)
 have hE:Ext w (w.alloc (.cells #[.string ⟨#[]⟩,.string ⟨#[]⟩] 27)):=(Ext.refl _).alloc _
 clear he hfit hn0 hn1 h0 h1 hdz
 have Hi1:=hid hi1;have Hi2:=hid hi2;have Hnw:=hid hnw;have HE:=hid hE;have B2:=hid b2;clear hi1 hi2 hnw hE b2
 go_enter Tryz.func28,Tryz.ntmps28
 go_wp2_with fail
 refine (Hi1.out _ HE.out).mono ?_
 rintro e W2 ⟨rfl,hx2⟩
 have HE2:=hid (HE.out.trans hx2)
 have HX2:=hid hx2
 clear hx2
 go_wp2_with fail
 refine (Hi2.out _ HE2.out).mono ?_
 rintro e W3 ⟨rfl,hx3⟩
 have HE3:=hid (HE2.out.trans hx3)
 have HX3:=hid (HX2.out.trans hx3)
 clear hx3
 go_wp2_with fail
 refine (Hnw.out _ HE3.out).mono ?_
 rintro e W4 ⟨rfl,hx4⟩
 have hk:Kp0 w W4 w.heap.size:=⟨HE3.out.trans hx4,_,_,B2.out.ext (HX3.out.trans hx4)⟩
 obtain ⟨_,k0,k1,z0,z1⟩:=hk.all
 have hfin:=hk.fin (Nat.le_refl _) (.string st) (.string su)
 have Hfin:=hid hfin;clear hfin
 clear hx4 hk
 go_wp2_with fail
 obtain ⟨hb,hfx⟩:=Hfin.out
 have hd0:=hb.c0
 have hd1:=hb.c1
 exact bodyPost_ret (v:=.tuple #[.agg #[.string st,.string su],.int .i64 0]) (by simp [results,Tryz.results28,go_sem,hd0,hd1]) rfl ⟨rfl,hfx⟩
end Go.Proofs.YtipjmpdndokdlaaGreatDoor

namespace Go.Proofs.YtipjmpdndokdlaaGreatDoor
open Go.RowKit Go.Lib Go.Shelf
attribute [local go_sem] Oper.semAt_some
theorem mode_c (v:Value)(p:List Int)(rs:List Qw)(m:Int)(w:World)(he:Env w)(hv:ScV w v p rs)(h:Wd p (rs.map Qw.x))(hm0:-500≤m)(hm1:m≤500) :
  Calls Tryz.prog 80 #[v,.int .i64 m] w fun e w'=>∃ v out,e=.returned (.tuple #[v,.int .i64 0])∧ScO w' w.heap.size v p out∧out.map Qw.x=md p (rs.map Qw.x) m∧Ext w w':=by
 obtain ⟨j0,hj,hy0,hy1,hy2⟩:=info_parts info_size
 have hpe:primesErr p=0∧p.length≤100∧0<p.length:=by rcases h.pr with ⟨e,_⟩ | ⟨e,_⟩ <;> rw [e] <;> decide
 have hnt:=fun (k:Int)(h0:-1000≤k)(h1:k≤1000) W (hE:Ext w W)=>nt_c v p rs k W (he.ext hE) (hv.ext hE) h h0 h1
 have hfew:=h.few
 have hL:(rs.map Qw.x).length=rs.length:=List.length_map ..
 rw [hL] at hfew
 obtain ⟨vp,vn,rfl,hp,hs,hmr⟩:=hv
 have hsb:=fun (k:Int)(h0:-1000≤k)(h1:k≤1000) W va vb (hE:Ext w W)(ha:Rd W va (nt p (rs.map Qw.x) k))(hb:Rd W vb (nt p (rs.map Qw.x) m))=>sSub_c vp va vb p _ _ W (he.ext hE) (hE.sl hp) ha hb hpe.1 (h.ntlen k) (h.ntlen m) (h.nt_quick k h0 h1).1 (h.nt_quick m (by omega) (by omega)).1 (h.nt_sub_quick k m h0 h1 (by omega) (by omega)).1
 have hcp:=fun W (hE:Ext w W)=>cloneP_c vp p W (hE.sl hp) (by omega) (by intro e;rw [e] at hpe;exact absurd hpe.2.2 (by simp))
 have hmd:∀ i,i<rs.length→(md p (rs.map Qw.x) m).take (i+1)=(md p (rs.map Qw.x) m).take i++[subZ (nt p (rs.map Qw.x) (m+(i:Int)+1)) (nt p (rs.map Qw.x) m)]:=fun i hi=>by
  have:=md_at (p:=p) (N:=rs.map Qw.x) (m:=m) (i:=i) (by rw [hL];exact hi)
  obtain ⟨hl,e⟩:=List.getElem?_eq_some_iff.1 this
  rw [List.take_succ_eq_append_getElem hl,e]
 have hmf:(md p (rs.map Qw.x) m).take rs.length=md p (rs.map Qw.x) m:=List.take_of_length_le (by rw [md_len,hL];exact Nat.le_refl _)
 obtain ⟨ap,cp,rfl,_,_,_⟩:=hp.parts
 obtain ⟨an,cn,rfl,_,_,_⟩:=hs.parts
 rw [i64s_length] at *
 rw [qwc_length] at *
 generalize hn:rs.length=n at *
 have hE0:Ext w ((w.alloc (.cells #[.slice ap p.length cp,.slice an n cn] 32)).alloc (.cells #[.slice none 0 0,.slice none 0 0] 32)):=((Ext.refl w).alloc _).alloc _
 have b1:=(BoxT.new 32 w (.slice ap p.length cp) (.slice an n cn)).ext ((Ext.refl _).alloc (.cells #[.slice none 0 0,.slice none 0 0] 32))
 have b2:=BoxT.new 32 (w.alloc (.cells #[.slice ap p.length cp,.slice an n cn] 32)) (.slice none 0 0) (.slice none 0 0)
 rw [World.size_alloc] at b2
 have Hnt:=hid hnt;have Hsb:=hid hsb;have Hcp:=hid hcp;have Hmd:=hid hmd;have Hmf:=hid hmf;have HE0:=hid hE0;have B1:=hid b1;have B2:=hid b2;have Hn:=hid hn
 clear hp hs hmr he h hpe hnt hsb hcp hmd hmf hE0 b1 b2 hL hn
 go_enter Tryz.func80,Tryz.ntmps80
 have q0:=B1.out.c0
 have q1:=B1.out.c1
 go_wp2_with fail
 refine (Hnt.out m (by omega) (by omega) _ HE0.out).mono ?_
 rintro e w1 ⟨g1,rfl,ho1,hx1⟩
 have q0:=(B1.out.ext hx1).c0
 have q1:=(B1.out.ext hx1).c1
 have Ho1:=hid ho1.rd;have Hx1:=hid hx1
 clear ho1 hx1
 go_wp2_with fail
 refine (Hcp.out w1 (HE0.out.trans Hx1.out)).mono ?_
 rintro e w6 ⟨u6,rfl,ho6,hx6⟩
 obtain ⟨a6,c6,rfl⟩:=own_shape ho6
 have Hx6:=hid (Hx1.out.trans hx6)
 have Ho6:=hid (own_mono ho6 (HE0.out.trans Hx1.out).size)
 have Ho16:=hid (hx6.rd Ho1.out)
 clear ho6 hx6 q0 q1
 have Hb7:=hid (BoxT.new 32 w6 (.slice a6 p.length c6) (.slice none 0 0))
 have H6x:Hid (Ext w6 (w6.alloc (.cells #[.slice a6 p.length c6,.slice none 0 0] 32))):=hid ((Ext.refl w6).alloc _)
 go_wp2_with fail
 go_loopw [9,10,11] (fun v9 v10 v11 wr=>∃ i:Nat,v9=.int .i64 ((i:Int)+1)∧i≤n∧NtR w6.heap.size w6 w6.heap.size (.slice a6 p.length c6) ((md p (rs.map Qw.x) m).take i) wr) (fun v9 _ _ _=>n+1 - (intOf v9).toNat)
 case atStart=>exact ⟨0,rfl,Nat.zero_le _,.slice none 0 0,[],Hb7.out,QwM.nil _ _ _,rfl,H6x.out⟩
 case round =>
  obtain ⟨i,rfl,hi,⟨vn,nts,hbn,hqn,hmn,hEn⟩⟩:=hrel
  have hE6:=Hx6.out.trans hEn
  have hEw:=HE0.out.trans hE6
  have q0:=(B1.out.ext hE6).c0
  have q1:=(B1.out.ext hE6).c1
  by_cases hin:i<n
  ·have hik:(i:Int)+1≤(n:Int):=by omega
   have hnk:=Hnt.out (m+((i:Int)+1)) (by omega) (by omega) wr hEw
   have hw1:IntKind.i64.wrap (m+((i:Int)+1))=m+((i:Int)+1):=by rw [IntKind.wrap_i64];omega
   have Hbn:=hid hbn;have Hqn:=hid hqn;have Hmn:=hid hmn;have HEn:=hid hEn;have HE6:=hid hE6;have HEw:=hid hEw;have Hnk:=hid hnk
   clear hbn hqn hmn hEn hE6 hEw hnk
   go_wp2_with fail
   refine Hnk.out.mono ?_
   rintro e w8 ⟨g8,rfl,ho8,hx8⟩
   have q0:=hx8.cell q0
   have q1:=hx8.cell q1
   have hsk:=Hsb.out (m+((i:Int)+1)) (by omega) (by omega) w8 _ _ (HEw.out.trans hx8) ho8.rd ((HEn.out.trans hx8).rd Ho16.out)
   have Hsk:=hid hsk;have Hx8:=hid hx8
   clear hsk hx8 ho8
   go_wp2_with fail
   refine Hsk.out.mono ?_
   rintro e w9 ⟨g9,rfl,ho9,hx9⟩
   have hx89:=Hx8.out.trans hx9
   obtain ⟨avn,cvn,rfl⟩:=own_shape Hqn.out.1
   have hnl:nts.length=i:=by
    have:=congrArg List.length Hmn.out
    rw [List.length_map,List.length_take,md_len,List.length_map,Hn.out] at this
    omega
   have hbk:=Hbn.out.ext hx89
   rw [hnl] at hbk
   have hqk:=hx89.qwM Hqn.out
   rw [hnl] at hqk
   have hqo:=hx89.own Hqn.out.1
   rw [hnl] at hqo
   have hEk:=HEn.out.trans hx89
   have hbase:=hEk.size
   have hok:=ho9.mono (HEn.out.trans Hx8.out).size
   have hm3:i+1≤maxLen:=by unfold maxLen;omega
   have hm4:(i+1) * 24≤140737488355328:=by omega
   have r1:=hbk.c1
   have Hbk:=hid hbk;have Hqk:=hid hqk;have Hnl:=hid hnl;have HEk:=hid hEk;have Hok:=hid hok
   clear hbk hqk hnl hEk hok hx89 ho9 hx9 q0 q1
   go_wp2_with (at_builtin;refine wpList_append_own _ rfl _ _ 30 rfl w6.heap.size 37 j0 (.slice none 0 0) 1 24 Tryz.underlying30 hj hy0 hy1 hy2 rfl (by decide) _ _ _ rfl (hqo.alloc _) ⟨w9.heap.size,0,none⟩ 1 1 [.slice (some ⟨g9,0,none⟩) p.length p.length] rfl rfl (cell_one_new _ _ _) (by simp [Value.oneCell']) hm3 hm4 (by rw [World.size_alloc];omega) ?_;intro v7 V7 hown7 hgrow7 _;have hbV:BoxT 32 V7 w6.heap.size (.slice a6 p.length c6) (.slice avn i cvn):=kept_box (((Ext.refl w9).alloc _).heap Hbk.out) (hqo.alloc (.cells #[.slice (some ⟨g9,0,none⟩) p.length p.length] 37)) (by decide) hgrow7;have d1:=hbV.c1;have e1:=hbV.fz 1;obtain ⟨a7,c7,rfl⟩:=own_shape hown7)
   have hR:=NtR.more (W6:=w6) (W:=w9) (v7:=.slice a7 (i+1) c7) (Nat.le_refl _) Hbk.out Hqk.out Hmn.out HEk.out Hok.out (by rw [Hnl.out];exact hown7) hgrow7
   rw [show m+((i:Int)+1)=m+(i:Int)+1 by omega,← Hmd.out i hin] at hR
   have HR:=hid hR
   clear hR d1 e1 r1 hgrow7 hown7 hbV
   generalize V7.setCell ⟨w6.heap.size,1,none⟩ (.slice a7 (i+1) c7)=V2 at *
   go_roundw
   case rel=>exact ⟨i+1,by go_num,by omega,HR.out⟩
   case measure=>simp [intOf];omega
  ·obtain rfl:n=i:=by omega
   have hik:¬ (n:Int)+1≤(n:Int):=by omega
   have hmn2:=hmn.trans Hmf.out
   obtain ⟨avn,cvn,rfl⟩:=own_shape hqn.1
   have r0:=hbn.c0
   have r1:=hbn.c1
   have hbr:=B2.out.ext hE6
   have hK:K0 32 w wr (w.heap.size+1):=⟨hEw,_,_,hbr⟩
   have k0:=hK.res.c0;have k1:=hK.res.c1;have z0:=hK.res.fz 0;have z1:=hK.res.fz 1
   have hfin:=hK.fin (by omega) (.slice a6 p.length c6) (.slice avn nts.length cvn)
   have hq4:=(hqn.set hbr 0 (.slice a6 p.length c6)).set (BoxT.put0 hbr (.slice a6 p.length c6)) 1 (.slice avn nts.length cvn)
   have ho4:=own_set_apart (BoxT.put0 hbr (.slice a6 p.length c6)) (own_set_apart hbr (hEn.own Ho6.out) (by decide) 0 (.slice a6 p.length c6)) (by decide) 1 (.slice avn nts.length cvn)
   have hlo:=(HE0.out.trans Hx6.out).size
   have Hfin:=hid hfin;have Hq4:=hid hq4;have Ho4:=hid ho4;have Hmn2:=hid hmn2
   clear hfin hq4 ho4 hmn2 hK hbr hqn hbn hmn hEn hE6 hEw
   go_wp2_with fail
   obtain ⟨hb5,hx5⟩:=Hfin.out
   have hd0:=hb5.c0
   have hd1:=hb5.c1
   exact bodyPost_ret (v:=.tuple #[.agg #[.slice a6 p.length c6,.slice avn nts.length cvn],.int .i64 0]) (by simp [results,Tryz.results80,go_sem,hd0,hd1]) rfl ⟨_,rfl,nts,⟨_,_,rfl,Ho4.out,Hq4.out.mono hlo hlo⟩,Hmn2.out,hx5⟩
end Go.Proofs.YtipjmpdndokdlaaGreatDoor

namespace Go.Proofs.YtipjmpdndokdlaaGreatDoor
/-- Ascending lists of k of the numbers n - f .. n - 1, in lexicographic order. -/
def cmb (n : Nat) : Nat → Nat → List (List Int)
 | 0,_=>[[]]
 | _+1,0=>[]
 | k+1,f+1=>((cmb n k f).map fun c=>((n - (f+1):Nat):Int)::c)++cmb n (k+1) f
theorem cmb_zero (n f:Nat):cmb n 0 f=[[]]:=by cases f <;> rfl
theorem cmb_len {n:Nat}:∀ {f k:Nat}{c:List Int},c∈cmb n k f→c.length=k
 | f,0,c,h=>by rw [cmb_zero,List.mem_singleton] at h;rw [h];rfl
 | 0,k+1,c,h=>by cases h
 | f+1,k+1,c,h=>by
  rw [cmb,List.mem_append,List.mem_map] at h
  rcases h with ⟨d,hd,rfl⟩ | h
  ·rw [List.length_cons,cmb_len hd]
  ·exact cmb_len h
theorem cmb_bd {n:Nat}:∀ {f k:Nat}{c:List Int},f≤n→c∈cmb n k f→(∀ x∈c,((n - f:Nat):Int)≤x∧x<(n:Int))∧c.Pairwise (·<·)
 | f,0,c,_,h=>by rw [cmb_zero,List.mem_singleton] at h;rw [h];exact ⟨fun x hx=>(by cases hx),List.Pairwise.nil⟩
 | 0,k+1,c,_,h=>by cases h
 | f+1,k+1,c,hf,h=>by
  rw [cmb,List.mem_append,List.mem_map] at h
  rcases h with ⟨d,hd,rfl⟩ | h
  ·obtain ⟨h1,h2⟩:=cmb_bd (by omega) hd
   refine ⟨fun x hx=>?_,List.pairwise_cons.2 ⟨fun x hx=>?_,h2⟩⟩
   ·rcases List.mem_cons.1 hx with rfl | hx
    ·omega
    ·have:=h1 x hx;omega
   ·have:=h1 x hx;omega
  ·obtain ⟨h1,h2⟩:=cmb_bd (by omega) h
   exact ⟨fun x hx=>by have:=h1 x hx;omega,h2⟩
theorem cmb_none {n:Nat}:∀ {f k:Nat},f<k→cmb n k f=[]
 | f,0,h=>by omega
 | 0,k+1,_=>rfl
 | f+1,k+1,h=>by rw [cmb,cmb_none (by omega),cmb_none (by omega)];rfl
/-- What the program yields from an index on: f indices are left. -/
def cho (n m : Nat) (M : List Int) : Nat → List Int → Nat → List (List Int)
 | 0,l,u=>if l.length=m then (if u<M.length then [] else [l]) else []
 | f+1,l,u =>
  if l.length=m then (if u<M.length then [] else [l])
  else if m - l.length≤f+1 then
   (if M[u]?=some ((n - (f+1):Nat):Int) then (if M.length≤(u+1)+(m - l.length - 1) then cho n m M f (l++[((n - (f+1):Nat):Int)]) (u+1) else [])
    else (if M.length≤u+(m - l.length - 1) then cho n m M f (l++[((n - (f+1):Nat):Int)]) u else [])++cho n m M f l u)
  else []
theorem nodup_sub : ∀ {N M:List Int},N.Nodup→N ⊆ M→N.length≤M.length
 | [],_,_,_=>Nat.zero_le _
 | a::N,M,h,hs=>by
  rw [List.nodup_cons] at h
  have ha:a∈M:=hs (List.mem_cons_self ..)
  have ih:=nodup_sub (N:=N) (M:=M.erase a) h.2 fun x hx=>by
   have hxa:x ≠ a:=fun e=>h.1 (e ▸ hx)
   exact (List.mem_erase_of_ne hxa).2 (hs (List.mem_cons_of_mem _ hx))
  rw [List.length_erase_of_mem ha] at ih
  have:=List.length_pos_of_mem ha
  rw [List.length_cons]
  omega
/-- A list has all of another one. -/
def hasAll (M c : List Int) : Bool:=M.all fun x => c.contains x
theorem hasAll_iff {M c:List Int}:hasAll M c=true ↔ ∀ x∈M,x∈c:=by
 unfold hasAll
 rw [List.all_eq_true]
 exact ⟨fun h x hx=>List.contains_iff_mem.1 (h x hx),fun h x hx=>List.contains_iff_mem.2 (h x hx)⟩
theorem filter_map_cons (i:Int)(P Q:List Int→Bool)(l:List (List Int))(h:∀ c∈l,P (i::c)=Q c):(l.map (fun c=>i::c)).filter P=(l.filter Q).map (fun c=>i::c):=by
 rw [List.filter_map]
 congr 1
 exact List.filter_congr fun c hc=>h c hc
theorem cho_eq {n m:Nat}{M:List Int}(hM:M.Pairwise (·<·)):∀ (f:Nat)(l:List Int)(u:Nat),f≤n→l.length≤m→u≤M.length→(∀ x∈M.drop u,((n - f:Nat):Int)≤x∧x<(n:Int)) →
  cho n m M f l u=((cmb n (m - l.length) f).filter (hasAll (M.drop u))).map (l++·):=by
 intro f
 induction f with
 | zero =>
  intro l u hf hl hu hb
  unfold cho
  have hd:M.drop u=[]:=by
   rcases hd:M.drop u with _ | ⟨x,t⟩
   ·rfl
   ·have:=hb x (by rw [hd];exact List.mem_cons_self ..);omega
  have hul:¬ u<M.length:=by rw [List.drop_eq_nil_iff] at hd;omega
  rw [hd]
  by_cases e:l.length=m
  ·rw [if_pos e,if_neg hul,e,Nat.sub_self,cmb_zero]
   simp [hasAll]
  ·rw [if_neg e,cmb_none (by omega)];rfl
 | succ f ih =>
  intro l u hf hl hu hb
  rw [cho]
  by_cases e:l.length=m
  ·rw [if_pos e,e,Nat.sub_self,cmb_zero]
   by_cases hul:u<M.length
   ·rw [if_pos hul]
    have:hasAll (M.drop u) []=false:=by
     rw [Bool.eq_false_iff]
     intro h
     have:=hasAll_iff.1 h M[u] (by rw [List.drop_eq_getElem_cons hul];exact List.mem_cons_self ..)
     cases this
    simp [this]
   ·rw [if_neg hul,List.drop_eq_nil_of_le (by omega)]
    simp [hasAll]
  ·rw [if_neg e]
   rcases Nat.lt_or_ge (f+1) (m - l.length) with hk | hk
   ·rw [if_neg (by omega),cmb_none (by omega)];rfl
   rw [if_pos hk]
   obtain ⟨k,hk2⟩:∃ k,m - l.length=k+1:=⟨m - l.length - 1,by omega⟩
   have hk3:m - (l++[((n - (f+1):Nat):Int)]).length=k:=by rw [List.length_append,List.length_singleton];omega
   rw [hk2,Nat.add_sub_cancel,cmb,List.filter_append,List.map_append]
   have hdn:=fun (v:Nat)=>(hM.imp (fun {a b:Int}(g:a<b)=>(Int.ne_of_lt g:a ≠ b)):M.Nodup).sublist (List.drop_sublist v M)
   -- what the prune leaves out has no subset
   have prune:∀ v,¬ M.length≤v+k→(cmb n k f).filter (hasAll (M.drop v))=[]:=fun v hv=>by
    rw [List.filter_eq_nil_iff]
    intro c hc h
    have:=nodup_sub (hdn v) (fun x hx=>hasAll_iff.1 h x hx)
    rw [List.length_drop,cmb_len hc] at this
    omega
   by_cases hit:M[u]?=some ((n - (f+1):Nat):Int)
   ·rw [if_pos hit]
    have hul:u<M.length:=(List.getElem?_eq_some_iff.1 hit).1
    have hde:M.drop u=((n - (f+1):Nat):Int)::M.drop (u+1):=by
     rw [List.drop_eq_getElem_cons hul]
     rw [List.getElem?_eq_getElem hul] at hit
     rw [Option.some.inj hit]
    have hp:(((n - (f+1):Nat):Int)::M.drop (u+1)).Pairwise (·<·):=by rw [← hde];exact hM.sublist (List.drop_sublist u M)
    rw [List.pairwise_cons] at hp
    have hb2:∀ x∈M.drop (u+1),((n - f:Nat):Int)≤x∧x<(n:Int):=fun x hx=>by
     have h1:=hp.1 x hx
     have h2:=hb x (by rw [hde];exact List.mem_cons_of_mem _ hx)
     omega
    have hno:(cmb n (k+1) f).filter (hasAll (M.drop u))=[]:=by
     rw [List.filter_eq_nil_iff]
     intro c hc h
     have h1:=hasAll_iff.1 h _ (by rw [hde];exact List.mem_cons_self ..)
     have h2:=(cmb_bd (by omega) hc).1 _ h1
     omega
    rw [hno,List.map_nil,List.append_nil,filter_map_cons _ _ (hasAll (M.drop (u+1)))]
    ·rw [List.map_map]
     by_cases hpr:M.length≤u+1+k
     ·rw [if_pos hpr,ih _ _ (by omega) (by rw [List.length_append,List.length_singleton];omega) (by omega) hb2,hk3]
      congr 1
      funext c
      simp
     ·rw [if_neg hpr,prune (u+1) hpr];rfl
    ·intro c hc
     rw [Bool.eq_iff_iff,hasAll_iff,hasAll_iff,hde]
     constructor
     ·intro h x hx
      have h1:=h x (List.mem_cons_of_mem _ hx)
      rcases List.mem_cons.1 h1 with g | g
      ·have:=hp.1 x hx;omega
      ·exact g
     ·intro h x hx
      rcases List.mem_cons.1 hx with g | g
      ·rw [g];exact List.mem_cons_self ..
      ·exact List.mem_cons_of_mem _ (h x g)
   ·rw [if_neg hit]
    have hb2:∀ x∈M.drop u,((n - f:Nat):Int)≤x∧x<(n:Int):=fun x hx=>by
     have h1:=hb x hx
     rcases (by omega:x=((n - (f+1):Nat):Int)∨((n - f:Nat):Int)≤x) with g | g
     ·exfalso
      have hul:u<M.length:=by
       rcases Nat.lt_or_ge u M.length with g | g
       ·exact g
       ·rw [List.drop_eq_nil_of_le g] at hx;cases hx
      apply hit
      rw [List.getElem?_eq_getElem hul]
      have hp:(M[u]::M.drop (u+1)).Pairwise (·<·):=by rw [← List.drop_eq_getElem_cons hul];exact hM.sublist (List.drop_sublist u M)
      rw [List.pairwise_cons] at hp
      rw [List.drop_eq_getElem_cons hul] at hx
      have h0:=hb M[u] (by rw [List.drop_eq_getElem_cons hul];exact List.mem_cons_self ..)
      rcases List.mem_cons.1 hx with e2 | e2
      ·rw [← e2,g]
      ·have:=hp.1 x e2;omega
     ·exact ⟨g,h1.2⟩
    have hrest:=ih l u (by omega) hl hu hb2
    rw [hk2] at hrest
    rw [hrest]
    congr 1
    rw [filter_map_cons _ _ (hasAll (M.drop u))]
    ·rw [List.map_map]
     by_cases hpr:M.length≤u+k
     ·rw [if_pos hpr,ih _ _ (by omega) (by rw [List.length_append,List.length_singleton];omega) hu hb2,hk3]
      congr 1
      funext c
      simp
     ·rw [if_neg hpr,prune u hpr];rfl
    ·intro c hc
     rw [Bool.eq_iff_iff,hasAll_iff,hasAll_iff]
     constructor
     ·intro h x hx
      rcases List.mem_cons.1 (h x hx) with g | g
      ·have:=hb2 x hx;omega
      ·exact g
     ·intro h x hx
      exact List.mem_cons_of_mem _ (h x hx)
/-- The candidates of a query. -/
def cands (n m : Nat) (M : List Int) : List (List Int):=(cmb n m n).filter (hasAll M)
theorem cho_cands {n m:Nat}{M:List Int}(hM:M.Pairwise (·<·))(hb:∀ x∈M,0≤x∧x<(n:Int)):cho n m M n [] 0=cands n m M:=by
 rw [cho_eq hM n [] 0 (Nat.le_refl _) (Nat.zero_le _) (Nat.zero_le _) (fun x hx=>by rw [Nat.sub_self];exact hb x hx)]
 unfold cands
 simp
/-- The next number of an ascending list, and the reference's lists by growing. -/
def nx (l : List Int) : Int:=(l.getLast?.map (·+1)).getD 0
end Go.Proofs.YtipjmpdndokdlaaGreatDoor
