/- Walks: size's Zero, Combine, Sub, Add, Scale. Walks: quick, sign, compare of sizes. Walks: comparing sizes. Walks: downward, quotient: the floor of a quotient by the octave from a few bits. -/
import Derived.Test.YtipjmpdndokdlaaGreatDoorPc18
import Derived.Test.YtipjmpdndokdlaaGreatDoorPc17
set_option maxRecDepth 100000
set_option maxHeartbeats 4000000
namespace Go.Proofs.YtipjmpdndokdlaaGreatDoor
open Go.RowKit Go.Lib
theorem sl_cells {w:World}{b:Nat}{us:List Value}{t:TypeId}(h:w.heap[b]?=some (.cells us.toArray t (0,0)))(hm:us.length≤maxLen):Sl w (.slice (some ⟨b,0,none⟩) us.length us.length) us :=
 .inr ⟨b,0,us.length,rfl,Nat.le_refl _,hm,fun i u hu=>by rw [Nat.zero_add];exact row_cell h hu⟩
theorem rd_cells {w:World}{b:Nat}{x:List Rat}{t:TypeId}(h:w.heap[b]?=some (.cells (rcs x).toArray t (0,0)))(hm:x.length≤maxLen):Rd w (.slice (some ⟨b,0,none⟩) x.length x.length) x :=
 .inr ⟨b,0,x.length,rfl,Nat.le_refl _,hm,fun i r hr=>by
  obtain ⟨q1,q2⟩:=rcs_at hr
  exact ⟨by rw [Nat.zero_add];exact row_cell h q1,by rw [Nat.zero_add];exact row_cell h q2⟩⟩
theorem Zero_c (vp:Value)(p:List Int)(w:World)(he:Env w)(hp:Sl w vp (i64s p))(hpe:primesErr p=0) :
  Calls Tryz.prog 54 #[vp] w fun e w'=>e=.returned (.tuple #[.slice (some ⟨w.heap.size,0,none⟩) p.length p.length,.int .i64 0])∧OwnQ w' w.heap.size (.slice (some ⟨w.heap.size,0,none⟩) p.length p.length) (List.replicate p.length 0)∧Ext w w':=by
 have hpl:=(primesErr_zero hpe).2.1
 have h1:=primes_c vp p w hp (by omega)
 rw [hpe] at h1
 have h2:=zero_c p.length w he (by omega)
 obtain ⟨ap,cp,rfl,_,_,_⟩:=hp.parts
 rw [i64s_length] at h1 ⊢
 clear hp he hpe
 have H1:=hid h1;have H2:=hid h2;clear h1 h2
 go_enter Tryz.func54,Tryz.ntmps54
 go_wp2_with fail
 refine H1.out.mono ?_
 rintro e W ⟨rfl,rfl⟩
 go_wp2_with fail
 refine H2.out.mono ?_
 rintro e w2 ⟨rfl,ho,hx⟩
 have Ho:=hid ho;have Hx:=hid hx;clear ho hx
 go_wp2
 go_ret2
 exact ⟨rfl,Ho.out,Hx.out⟩
theorem comb_c (vp vl vf:Value)(p:List Int)(rs:List Qw)(fs:List Rat)(w:World)(he:Env w)(hp:Sl w vp (i64s p))(hl:RdM w vl rs)(hf:Rd w vf fs)(hpe:primesErr p=0)(hlen:rs.length=fs.length)(hr10:rs.length≤10)
  (hx:∀ r∈rs,r.x.length=p.length∧∀ q∈r.x,Ft 30 q) (hff:∀ f∈fs,Ft 400 f) (hres:∀ q∈sumTo p.length (rs.map Qw.x) fs rs.length,Ft 30 q) :
  Calls Tryz.prog 62 #[vp,vl,vf] w fun e w'=>∃ g,e=.returned (.tuple #[.slice (some ⟨g,0,none⟩) p.length p.length,.int .i64 0])∧OwnQ w' w.heap.size (.slice (some ⟨g,0,none⟩) p.length p.length) (sumTo p.length (rs.map Qw.x) fs rs.length)∧Ext w w':=by
 have hpl:=(primesErr_zero hpe).2.1
 have h1:=sCheckAll_c vp vl p rs w he hp hl hpe (by omega) hx
 have h2:=fun W (h:Ext w W)=>hasBad_c vf fs W (he.ext h) (h.rd hf) (by omega) hff
 have h3:=fun W (h:Ext w W)=>sum_c p.length vl vf rs fs W (he.ext h) (h.rdM hl) (h.rd hf) (by omega) (by omega) hr10 (fun r hr=>⟨(hx r hr).1,fun q hq=>((hx r hr).2 q hq).mono (by omega)⟩) hff
 have hsl:=sumTo_length (n:=p.length) (xs:=rs.map Qw.x) (fs:=fs) (by intro x h;obtain ⟨r,hr,rfl⟩:=List.mem_map.1 h;exact (hx r hr).1) rs.length (by simp)
 generalize sumTo p.length (rs.map Qw.x) fs rs.length=s at *
 have h4:=fun W g (h:OwnQ W w.heap.size (.slice (some ⟨g,0,none⟩) p.length p.length) s)=>result_c _ s W h.rd (by omega) hres
 obtain ⟨ap,cp,rfl,_,_,_⟩:=hp.parts
 obtain ⟨hs,_⟩:=hl
 obtain ⟨al,cl,rfl,_,_,_⟩:=hs.parts
 obtain ⟨af,cf,rfl,_,_,_⟩:=hf.parts
 rw [i64s_length] at h1 ⊢
 rw [qwc_length] at h1 h3 ⊢
 rw [← hlen] at h2 h3 ⊢
 clear hp he hpe hlen hx hff hres hs hf
 have H1:=hid h1;have H2:=hid h2;have H3:=hid h3;have H4:=hid h4;have Hsl:=hid hsl;clear h1 h2 h3 h4 hsl
 go_enter Tryz.func62,Tryz.ntmps62
 go_wp2_with fail
 refine (H1.out).mono ?_
 rintro e w1 ⟨rfl,hx1⟩
 have Hx1:=hid hx1;clear hx1
 go_wp2_with fail
 refine (H2.out w1 Hx1.out).mono ?_
 rintro e w2 ⟨rfl,hx2⟩
 have Hx2:=hid (Hx1.out.trans hx2);clear hx2
 go_wp2_with fail
 refine (H3.out w2 Hx2.out).mono ?_
 rintro e w3 ⟨rfl,ho3,hx3⟩
 have ho3':OwnQ w3 w.heap.size (.slice (some ⟨w2.heap.size,0,none⟩) p.length p.length) s:=ho3.mono Hx2.out.size
 have Ho3:=hid ho3'
 have Hx3:=hid (Hx2.out.trans hx3)
 clear ho3 ho3' hx3
 go_wp2_with fail
 refine (H4.out w3 _ Ho3.out).mono ?_
 rintro e w4 ⟨rfl,hx4⟩
 have Ho4:=hid (hx4.ownQ Ho3.out)
 have Hx4:=hid (Hx3.out.trans hx4)
 clear hx4
 go_wp2
 go_ret2
 exact ⟨_,rfl,Ho4.out,Hx4.out⟩
theorem ft_one1 : Ft 1 (1:Rat):=⟨Dec.nDigits_le (by omega) (by decide),Dec.nDigits_le (by omega) (by decide)⟩
theorem ft_one : Ft 400 (1:Rat):=ft_one1.mono (by omega)
theorem ft_neg1 : Ft 400 (-1:Rat):=ft_one.neg
theorem sSub_c (vp va vb:Value)(p:List Int)(x y:List Rat)(w:World)(he:Env w)(hp:Sl w vp (i64s p))(ha:Rd w va x)(hb:Rd w vb y)(hpe:primesErr p=0)(hx:x.length=p.length)(hy:y.length=p.length)(hxf:∀ q∈x,Ft 30 q)(hyf:∀ q∈y,Ft 30 q)(hres:∀ q∈subZ x y,Ft 30 q) :
  Calls Tryz.prog 38 #[vp,va,vb] w fun e w'=>∃ g,e=.returned (.tuple #[.slice (some ⟨g,0,none⟩) p.length p.length,.int .i64 0])∧OwnQ w' w.heap.size (.slice (some ⟨g,0,none⟩) p.length p.length) (subZ x y)∧Ext w w':=by
 have hua:=rd_one ha
 have hub:=rd_one hb
 have hsum:sumTo p.length [x,y] [1,-1] 2=subZ x y:=sum_sub hx hy
 have hco:=fun W vl vf (hE:Ext w W)(hl:RdM W vl [⟨x,va,hua⟩,⟨y,vb,hub⟩])(hf:Rd W vf [1,-1])=>comb_c vp vl vf p [⟨x,va,hua⟩,⟨y,vb,hub⟩] [1,-1] W (he.ext hE) (hE.sl hp) hl hf hpe rfl (by simp) (by
   intro r hr
   rcases List.mem_cons.1 hr with rfl | hr
   ·exact ⟨hx,hxf⟩
   ·rw [List.mem_singleton] at hr;subst hr;exact ⟨hy,hyf⟩) (by
   intro f hf
   simp only [List.mem_cons,List.not_mem_nil,or_false] at hf
   rcases hf with rfl | rfl
   ·exact ft_one
   ·exact ft_neg1) (by
   show ∀ q∈sumTo p.length [x,y] [1,-1] 2,_
   rw [hsum];exact hres)
 have hco2:∀ W vl vf,Ext w W→RdM W vl [⟨x,va,hua⟩,⟨y,vb,hub⟩]→Rd W vf [1,-1]→Calls Tryz.prog 62 #[vp,vl,vf] W fun e w'=>∃ g,e=.returned (.tuple #[.slice (some ⟨g,0,none⟩) p.length p.length,.int .i64 0])∧OwnQ w' W.heap.size (.slice (some ⟨g,0,none⟩) p.length p.length) (subZ x y)∧Ext W w':=by
  intro W vl vf hE hl hf
  have:=hco W vl vf hE hl hf
  change Calls _ _ _ _ fun e w'=>∃ g,e=.returned (.tuple #[.slice (some ⟨g,0,none⟩) p.length p.length,.int .i64 0])∧OwnQ w' W.heap.size (.slice (some ⟨g,0,none⟩) p.length p.length) (sumTo p.length [x,y] [1,-1] 2)∧Ext W w' at this
  rwa [hsum] at this
 have hn1:=fun W (h:Ext w W)=>number_c 1 W (he.ext h) (by omega) (by omega)
 have hn2:=fun W (h:Ext w W)=>number_c (-1) W (he.ext h) (by omega) (by omega)
 rw [Rv_int] at hn1 hn2
 have hra:=fun W (h:Ext w W)=>h.rd ha
 have hrb:=fun W (h:Ext w W)=>h.rd hb
 have hbl:Ext w (w.alloc (.cells #[va,vb] 37)):=(Ext.refl w).alloc _
 have hbc:(w.alloc (.cells #[va,vb] 37)).heap[w.heap.size]?=some (.cells ([va,vb]:List Value).toArray 37 (0,0)):=World.alloc_heap_new w _
 have hone:rcs [1,-1]=[.string (I 1),.string ⟨#[49]⟩,.string (I (-1)),.string ⟨#[49]⟩]:=by
  show [Value.string (I 1),.string (I ((1:Nat):Int)),.string (I (-1)),.string (I ((1:Nat):Int))]=_
  rw [I_nat,D_one]
 obtain ⟨ap,cp,rfl,_,_,_⟩:=hp.parts
 obtain ⟨aa,ca,rfl,_,_,_⟩:=ha.parts
 obtain ⟨ab,cb,rfl,_,_,_⟩:=hb.parts
 rw [i64s_length] at hco2 ⊢
 generalize I 1=s1 at *
 generalize I (-1)=s2 at *
 clear hp ha hb he hpe hxf hyf hres hco hsum
 have Hxl:=hid hx;have Hyl:=hid hy
 clear hx hy
 have Hco2:=hid hco2;have Hn1:=hid hn1;have Hn2:=hid hn2;have Hra:=hid hra;have Hrb:=hid hrb;have Hbl:=hid hbl;have Hbc:=hid hbc;have Hone:=hid hone;clear hco2 hn1 hn2 hra hrb hbl hbc hone
 go_enter Tryz.func38,Tryz.ntmps38
 go_wp2_with fail
 refine (Hn1.out _ Hbl.out).mono ?_
 rintro e w1 ⟨rfl,hx1⟩
 have Hx1:=hid (Hbl.out.trans hx1)
 have Hb1:=hid (hx1.heap Hbc.out)
 clear hx1
 go_wp2_with fail
 refine (Hn2.out w1 Hx1.out).mono ?_
 rintro e w2 ⟨rfl,hx2⟩
 have hx3:Ext w2 (w2.alloc (.cells #[.string s1,.string ⟨#[49]⟩,.string s2,.string ⟨#[49]⟩] 27)):=(Ext.refl w2).alloc _
 have hE3:Ext w (w2.alloc (.cells #[.string s1,.string ⟨#[49]⟩,.string s2,.string ⟨#[49]⟩] 27)):=(Hx1.out.trans hx2).trans hx3
 have hl3:RdM (w2.alloc (.cells #[.string s1,.string ⟨#[49]⟩,.string s2,.string ⟨#[49]⟩] 27)) (.slice (some ⟨w.heap.size,0,none⟩) 2 2) [⟨x,.slice aa x.length ca,hua⟩,⟨y,.slice ab y.length cb,hub⟩] :=
  ⟨sl_cells ((hx2.trans hx3).heap Hb1.out) (by unfold maxLen;simp),by
   intro r hr
   rcases List.mem_cons.1 hr with rfl | hr
   ·exact Hra.out _ hE3
   ·rw [List.mem_singleton] at hr;subst hr;exact Hrb.out _ hE3⟩
 have hf3:Rd (w2.alloc (.cells #[.string s1,.string ⟨#[49]⟩,.string s2,.string ⟨#[49]⟩] 27)) (.slice (some ⟨w2.heap.size,0,none⟩) 2 2) [1,-1] :=
  rd_cells (x:=[1,-1]) (by rw [Hone.out];exact World.alloc_heap_new w2 _) (by unfold maxLen;simp)
 have hcc:=Hco2.out _ _ _ hE3 hl3 hf3
 have Hcc:=hid hcc;have HE3:=hid hE3
 clear hx2 hx3 hl3 hf3 hcc hE3
 go_wp2_with fail
 refine Hcc.out.mono ?_
 rintro e w4 ⟨g,rfl,ho4,hx4⟩
 have Ho4:=hid (ho4.mono HE3.out.size)
 have Hx4:=hid (HE3.out.trans hx4)
 clear ho4 hx4
 go_wp2
 go_ret2
 exact ⟨g,rfl,Ho4.out,Hx4.out⟩
theorem sAdd_c (vp va vb:Value)(p:List Int)(x y:List Rat)(w:World)(he:Env w)(hp:Sl w vp (i64s p))(ha:Rd w va x)(hb:Rd w vb y)(hpe:primesErr p=0)(hx:x.length=p.length)(hy:y.length=p.length)(hxf:∀ q∈x,Ft 30 q)(hyf:∀ q∈y,Ft 30 q)(hres:∀ q∈addZ x y,Ft 30 q) :
  Calls Tryz.prog 67 #[vp,va,vb] w fun e w'=>∃ g,e=.returned (.tuple #[.slice (some ⟨g,0,none⟩) p.length p.length,.int .i64 0])∧OwnQ w' w.heap.size (.slice (some ⟨g,0,none⟩) p.length p.length) (addZ x y)∧Ext w w':=by
 have hua:=rd_one ha
 have hub:=rd_one hb
 have hsum:sumTo p.length [x,y] [1,1] 2=addZ x y:=sum_add hx hy
 have hco:=fun W vl vf (hE:Ext w W)(hl:RdM W vl [⟨x,va,hua⟩,⟨y,vb,hub⟩])(hf:Rd W vf [1,1])=>comb_c vp vl vf p [⟨x,va,hua⟩,⟨y,vb,hub⟩] [1,1] W (he.ext hE) (hE.sl hp) hl hf hpe rfl (by simp) (by
   intro r hr
   rcases List.mem_cons.1 hr with rfl | hr
   ·exact ⟨hx,hxf⟩
   ·rw [List.mem_singleton] at hr;subst hr;exact ⟨hy,hyf⟩) (by
   intro f hf
   simp only [List.mem_cons,List.not_mem_nil,or_false] at hf
   rcases hf with rfl | rfl
   ·exact ft_one
   ·exact ft_one) (by
   show ∀ q∈sumTo p.length [x,y] [1,1] 2,_
   rw [hsum];exact hres)
 have hco2:∀ W vl vf,Ext w W→RdM W vl [⟨x,va,hua⟩,⟨y,vb,hub⟩]→Rd W vf [1,1]→Calls Tryz.prog 62 #[vp,vl,vf] W fun e w'=>∃ g,e=.returned (.tuple #[.slice (some ⟨g,0,none⟩) p.length p.length,.int .i64 0])∧OwnQ w' W.heap.size (.slice (some ⟨g,0,none⟩) p.length p.length) (addZ x y)∧Ext W w':=by
  intro W vl vf hE hl hf
  have:=hco W vl vf hE hl hf
  change Calls _ _ _ _ fun e w'=>∃ g,e=.returned (.tuple #[.slice (some ⟨g,0,none⟩) p.length p.length,.int .i64 0])∧OwnQ w' W.heap.size (.slice (some ⟨g,0,none⟩) p.length p.length) (sumTo p.length [x,y] [1,1] 2)∧Ext W w' at this
  rwa [hsum] at this
 have hn1:=fun W (h:Ext w W)=>number_c 1 W (he.ext h) (by omega) (by omega)
 have hn2:=fun W (h:Ext w W)=>number_c (1) W (he.ext h) (by omega) (by omega)
 rw [Rv_int] at hn1 hn2
 have hra:=fun W (h:Ext w W)=>h.rd ha
 have hrb:=fun W (h:Ext w W)=>h.rd hb
 have hbl:Ext w (w.alloc (.cells #[va,vb] 37)):=(Ext.refl w).alloc _
 have hbc:(w.alloc (.cells #[va,vb] 37)).heap[w.heap.size]?=some (.cells ([va,vb]:List Value).toArray 37 (0,0)):=World.alloc_heap_new w _
 have hone:rcs [1,1]=[.string (I 1),.string ⟨#[49]⟩,.string (I (1)),.string ⟨#[49]⟩]:=by
  show [Value.string (I 1),.string (I ((1:Nat):Int)),.string (I (1)),.string (I ((1:Nat):Int))]=_
  rw [I_nat,D_one]
 obtain ⟨ap,cp,rfl,_,_,_⟩:=hp.parts
 obtain ⟨aa,ca,rfl,_,_,_⟩:=ha.parts
 obtain ⟨ab,cb,rfl,_,_,_⟩:=hb.parts
 rw [i64s_length] at hco2 ⊢
 generalize I 1=s1 at *
 skip
 clear hp ha hb he hpe hxf hyf hres hco hsum
 have Hxl:=hid hx;have Hyl:=hid hy
 clear hx hy
 have Hco2:=hid hco2;have Hn1:=hid hn1;have Hn2:=hid hn2;have Hra:=hid hra;have Hrb:=hid hrb;have Hbl:=hid hbl;have Hbc:=hid hbc;have Hone:=hid hone;clear hco2 hn1 hn2 hra hrb hbl hbc hone
 go_enter Tryz.func67,Tryz.ntmps67
 go_wp2_with fail
 refine (Hn1.out _ Hbl.out).mono ?_
 rintro e w1 ⟨rfl,hx1⟩
 have Hx1:=hid (Hbl.out.trans hx1)
 have Hb1:=hid (hx1.heap Hbc.out)
 clear hx1
 go_wp2_with fail
 refine (Hn2.out w1 Hx1.out).mono ?_
 rintro e w2 ⟨rfl,hx2⟩
 have hx3:Ext w2 (w2.alloc (.cells #[.string s1,.string ⟨#[49]⟩,.string s1,.string ⟨#[49]⟩] 27)):=(Ext.refl w2).alloc _
 have hE3:Ext w (w2.alloc (.cells #[.string s1,.string ⟨#[49]⟩,.string s1,.string ⟨#[49]⟩] 27)):=(Hx1.out.trans hx2).trans hx3
 have hl3:RdM (w2.alloc (.cells #[.string s1,.string ⟨#[49]⟩,.string s1,.string ⟨#[49]⟩] 27)) (.slice (some ⟨w.heap.size,0,none⟩) 2 2) [⟨x,.slice aa x.length ca,hua⟩,⟨y,.slice ab y.length cb,hub⟩] :=
  ⟨sl_cells ((hx2.trans hx3).heap Hb1.out) (by unfold maxLen;simp),by
   intro r hr
   rcases List.mem_cons.1 hr with rfl | hr
   ·exact Hra.out _ hE3
   ·rw [List.mem_singleton] at hr;subst hr;exact Hrb.out _ hE3⟩
 have hf3:Rd (w2.alloc (.cells #[.string s1,.string ⟨#[49]⟩,.string s1,.string ⟨#[49]⟩] 27)) (.slice (some ⟨w2.heap.size,0,none⟩) 2 2) [1,1] :=
  rd_cells (x:=[1,1]) (by rw [Hone.out];exact World.alloc_heap_new w2 _) (by unfold maxLen;simp)
 have hcc:=Hco2.out _ _ _ hE3 hl3 hf3
 have Hcc:=hid hcc;have HE3:=hid hE3
 clear hx2 hx3 hl3 hf3 hcc hE3
 go_wp2_with fail
 refine Hcc.out.mono ?_
 rintro e w4 ⟨g,rfl,ho4,hx4⟩
 have Ho4:=hid (ho4.mono HE3.out.size)
 have Hx4:=hid (HE3.out.trans hx4)
 clear ho4 hx4
 go_wp2
 go_ret2
 exact ⟨g,rfl,Ho4.out,Hx4.out⟩
theorem sScale_c (vp va:Value)(p:List Int)(x:List Rat)(k:Rat)(w:World)(he:Env w)(hp:Sl w vp (i64s p))(ha:Rd w va x)(hpe:primesErr p=0)(hx:x.length=p.length)(hxf:∀ q∈x,Ft 30 q)(hk:Ft 400 k)(hres:∀ q∈mulZ x k,Ft 30 q) :
  Calls Tryz.prog 29 #[vp,va,Rv k] w fun e w'=>∃ g,e=.returned (.tuple #[.slice (some ⟨g,0,none⟩) p.length p.length,.int .i64 0])∧OwnQ w' w.heap.size (.slice (some ⟨g,0,none⟩) p.length p.length) (mulZ x k)∧Ext w w':=by
 have hua:=rd_one ha
 have hsum:sumTo p.length [x] [k] 1=mulZ x k:=sum_one k hx
 have hco2:∀ W vl vf,Ext w W→RdM W vl [⟨x,va,hua⟩]→Rd W vf [k]→Calls Tryz.prog 62 #[vp,vl,vf] W fun e w'=>∃ g,e=.returned (.tuple #[.slice (some ⟨g,0,none⟩) p.length p.length,.int .i64 0])∧OwnQ w' W.heap.size (.slice (some ⟨g,0,none⟩) p.length p.length) (mulZ x k)∧Ext W w':=by
  intro W vl vf hE hl hf
  have:=comb_c vp vl vf p [⟨x,va,hua⟩] [k] W (he.ext hE) (hE.sl hp) hl hf hpe rfl (by simp) (by
   intro r hr
   rw [List.mem_singleton] at hr;subst hr;exact ⟨hx,hxf⟩) (by
   intro f hf
   rw [List.mem_singleton] at hf;subst hf;exact hk) (by
   show ∀ q∈sumTo p.length [x] [k] 1,_
   rw [hsum];exact hres)
  change Calls _ _ _ _ fun e w'=>∃ g,e=.returned (.tuple #[.slice (some ⟨g,0,none⟩) p.length p.length,.int .i64 0])∧OwnQ w' W.heap.size (.slice (some ⟨g,0,none⟩) p.length p.length) (sumTo p.length [x] [k] 1)∧Ext W w' at this
  rwa [hsum] at this
 have hra:=fun W (h:Ext w W)=>h.rd ha
 have hone:rcs [k]=[.string (I k.num),.string (I (k.den:Int))]:=rfl
 obtain ⟨ap,cp,rfl,_,_,_⟩:=hp.parts
 obtain ⟨aa,ca,rfl,_,_,_⟩:=ha.parts
 rw [i64s_length] at hco2 ⊢
 unfold Rv
 generalize I k.num=s1 at *
 generalize I (k.den:Int)=s2 at *
 have e1:Ext w (w.alloc (.cells #[.string s1,.string s2] 27)):=(Ext.refl w).alloc _
 have e2:Ext w ((w.alloc (.cells #[.string s1,.string s2] 27)).alloc (.cells #[.slice aa x.length ca] 37)):=e1.alloc _
 have h2:((w.alloc (.cells #[.string s1,.string s2] 27)).alloc (.cells #[.slice aa x.length ca] 37)).heap[w.heap.size+1]?=some (.cells ([.slice aa x.length ca]:List Value).toArray 37 (0,0)):=by
  have:=World.alloc_heap_new (w.alloc (.cells #[.string s1,.string s2] 27)) (.cells #[.slice aa x.length ca] 37)
  rwa [World.size_alloc] at this
 have e3:Ext w (((w.alloc (.cells #[.string s1,.string s2] 27)).alloc (.cells #[.slice aa x.length ca] 37)).alloc (.cells #[.string s1,.string s2] 27)):=e2.alloc _
 have h3:(((w.alloc (.cells #[.string s1,.string s2] 27)).alloc (.cells #[.slice aa x.length ca] 37)).alloc (.cells #[.string s1,.string s2] 27)).heap[w.heap.size+1+1]?=some (.cells (rcs [k]).toArray 27 (0,0)):=by
  have:=World.alloc_heap_new ((w.alloc (.cells #[.string s1,.string s2] 27)).alloc (.cells #[.slice aa x.length ca] 37)) (.cells #[.string s1,.string s2] 27)
  rw [World.size_alloc,World.size_alloc] at this
  rwa [hone]
 have hl3:RdM (((w.alloc (.cells #[.string s1,.string s2] 27)).alloc (.cells #[.slice aa x.length ca] 37)).alloc (.cells #[.string s1,.string s2] 27)) (.slice (some ⟨w.heap.size+1,0,none⟩) 1 1) [⟨x,.slice aa x.length ca,hua⟩] :=
  ⟨sl_cells (((Ext.refl _).alloc _).heap h2) (by unfold maxLen;simp),by
   intro r hr
   rw [List.mem_singleton] at hr;subst hr;exact hra _ e3⟩
 have hf3:=rd_cells (x:=[k]) h3 (by unfold maxLen;simp)
 have hcc:=hco2 _ _ _ e3 hl3 hf3
 clear hp ha he hpe hxf hk hres hsum hl3 hf3 h2 h3 e1 e2 hra hco2 hone hx
 have Hcc:=hid hcc;have E3:=hid e3;clear hcc e3
 go_enter Tryz.func29,Tryz.ntmps29
 go_wp2_with fail
 refine Hcc.out.mono ?_
 rintro e w4 ⟨g,rfl,ho4,hx4⟩
 have Ho4:=hid (ho4.mono E3.out.size)
 have Hx4:=hid (E3.out.trans hx4)
 clear ho4 hx4
 go_wp2
 go_ret2
 exact ⟨g,rfl,Ho4.out,Hx4.out⟩
end Go.Proofs.YtipjmpdndokdlaaGreatDoor

namespace Go.Proofs.YtipjmpdndokdlaaGreatDoor
open Go.RowKit Go.Lib
attribute [local go_sem] Oper.semAt_some
theorem quick_c (tv:Value)(l:List (Int × Int))(d:Nat)(w:World)(ht:TmV w tv l d)(hl:l.length≤100)(hok:∀ e∈l,okE 10000000 e)(hne:l ≠ [])(hf:Fair l) :
  Calls Tryz.prog 141 #[tv] w fun e w'=>e=.returned (.int .i64 (sgnT l))∧Ext w w':=by
 have hn:=fun W (hE:Ext w W)=>near_c tv l d 10000000 W (ht.ext hE) hl (by omega) (Int.le_refl _) hok
 have Hn:=hid hn;clear hn
 have hs:(0≤lowT l→sgnT l=1)∧(lowT l<0→sgnT l=-1∧higT l≤0):=by
  unfold sgnT
  rw [if_neg hne]
  refine ⟨fun h=>by rw [if_pos h],fun h=>⟨by rw [if_neg (by omega)],?_⟩⟩
  rcases hf.cases with h1 | h1 | h1
  ·exact absurd h1 hne
  ·omega
  ·omega
 have Hs:=hid hs;clear hs hf hok
 obtain ⟨vp,vf,rfl,hp,hfa⟩:=ht
 obtain ⟨aa,ca,rfl,_,_,_⟩:=hp.parts
 obtain ⟨ab,cb,rfl,_,_,_⟩:=hfa.parts
 clear hp hfa
 generalize (i64s (l.map Prod.fst)).length=la at *
 generalize (strs (l.map Prod.snd)).length=lb at *
 generalize sgnT l=sg at *
 generalize lowT l=lo at *
 generalize higT l=hi at *
 have hE0:Ext w (w.alloc (.cells #[.slice aa la ca,.slice ab lb cb,.string (I ((d:Nat):Int))] 152)):=(Ext.refl w).alloc _
 have HE0:=hid hE0;clear hE0
 go_enter Tryz.func141,Tryz.ntmps141
 go_wp2_with fail
 refine (Hn.out _ HE0.out).mono ?_
 rintro e w1 ⟨rfl,hx1⟩
 have Hx1:=hid (HE0.out.trans hx1);clear hx1
 by_cases h0:0≤lo
 ·obtain rfl:=Hs.out.1 h0
  go_wp2
  go_ret
  exact ⟨rfl,Hx1.out⟩
 ·obtain ⟨h1,h2⟩:=Hs.out.2 (by omega)
  subst h1
  go_wp2
  go_ret
  exact ⟨rfl,Hx1.out⟩
theorem tsign_c (tv:Value)(l:List (Int × Int))(d:Nat)(w:World)(ht:TmV w tv l d)(hl:l.length≤100)(hok:∀ e∈l,okE 10000000 e)(hf:Fair l) :
  Calls Tryz.prog 104 #[tv] w fun e w'=>e=.returned (.int .i64 (sgnT l))∧Ext w w':=by
 have hq:=fun W (hE:Ext w W)(hne:l ≠ [])=>quick_c tv l d W (ht.ext hE) hl hok hne hf
 have Hq:=hid hq;clear hq
 have hs:(l.length=0→sgnT l=0∧l=[])∧(l.length ≠ 0→sgnT l ≠ 0∧l ≠ []):=by
  unfold sgnT
  constructor
  ·intro h
   have:l=[]:=List.length_eq_zero_iff.1 h
   exact ⟨by rw [if_pos this],this⟩
  ·intro h
   have:l ≠ []:=fun e=>h (by rw [e];rfl)
   refine ⟨?_,this⟩
   rw [if_neg this]
   split <;> decide
 have Hs:=hid hs;clear hs hf hok
 obtain ⟨vp,vf,rfl,hp,hfa⟩:=ht
 obtain ⟨aa,ca,rfl,_,_,_⟩:=hp.parts
 obtain ⟨ab,cb,rfl,_,_,_⟩:=hfa.parts
 clear hp hfa
 rw [i64s_length,List.length_map] at *
 generalize (strs (l.map Prod.snd)).length=lb at *
 generalize sgnT l=sg at *
 have hE0:Ext w (w.alloc (.cells #[.slice aa l.length ca,.slice ab lb cb,.string (I ((d:Nat):Int))] 152)):=(Ext.refl w).alloc _
 have HE0:=hid hE0;clear hE0
 go_enter Tryz.func104,Tryz.ntmps104
 go_wp2_with fail
 go_step3
 by_cases h0:l.length=0
 ·obtain ⟨rfl,rfl⟩:=Hs.out.1 h0
  go_wp2
  try rw [Exit.noGoto_ret]
  go_ret
  exact ⟨rfl,HE0.out⟩
 ·obtain ⟨h1,h2⟩:=Hs.out.2 h0
  have Hq2:=hid fun W hE=>Hq.out W hE h2
  clear Hq h2
  go_wp2_with fail
  refine (Hq2.out _ HE0.out).mono ?_
  rintro e w1 ⟨rfl,hx1⟩
  have Hx1:=hid (HE0.out.trans hx1);clear hx1
  go_wp2
  try rw [Exit.noGoto_ret]
  go_ret
  exact ⟨rfl,Hx1.out⟩
theorem sSign_c (vp v:Value)(p:List Int)(x:List Rat)(w:World)(he:Env w)(hp:Sl w vp (i64s p))(hv:Rd w v x)(hpe:primesErr p=0)(hpl:p.length≤100)(hlen:x.length=p.length)(hx:∀ r∈x,Ft 30 r)(hok:∀ e∈tms p (dn x) x,okE 10000000 e)(hf:Fair (tms p (dn x) x)) :
  Calls Tryz.prog 59 #[vp,v] w fun e w'=>e=.returned (.tuple #[.int .i64 (sgnT (tms p (dn x) x)),.int .i64 0])∧Ext w w':=by
 have h1:=sCheck_c vp v p x w he hp hv hpe hlen hx
 have h2:=fun W (hE:Ext w W)=>termsOf_c vp v p x W (he.ext hE) (hE.sl hp) (hE.rd hv) hpl hlen hx
 have hl:(tms p (dn x) x).length≤100:=by
  unfold tms
  refine Nat.le_trans (List.length_filter_le _ _) ?_
  rw [List.length_zip]
  omega
 have h3:=fun W tv (ht:TmV W tv (tms p (dn x) x) (dn x))=>tsign_c tv _ _ W ht hl hok hf
 generalize sgnT (tms p (dn x) x)=sg at *
 obtain ⟨ap,cp,rfl,_,_,_⟩:=hp.parts
 obtain ⟨a,c,rfl,_,_,_⟩:=hv.parts
 clear hp hv hx he hlen hpe hok hf hl hpl
 have H1:=hid h1;have H2:=hid h2;have H3:=hid h3;clear h1 h2 h3
 go_enter Tryz.func59,Tryz.ntmps59
 go_wp2_with fail
 refine (H1.out).mono ?_
 rintro e w1 ⟨rfl,hx1⟩
 have Hx1:=hid hx1;clear hx1
 go_wp2_with fail
 refine (H2.out w1 Hx1.out).mono ?_
 rintro e w2 ⟨tv,rfl,ht,hx2⟩
 have Hx2:=hid (Hx1.out.trans hx2)
 have H4:=hid (H3.out w2 tv ht)
 obtain ⟨_,_,rfl,_,_⟩:=ht
 clear hx2
 go_wp2_with fail
 refine (H4.out).mono ?_
 rintro e w3 ⟨rfl,hx3⟩
 have Hx3:=hid (Hx2.out.trans hx3);clear hx3
 go_wp2
 go_ret2
 exact ⟨rfl,Hx3.out⟩
end Go.Proofs.YtipjmpdndokdlaaGreatDoor

namespace Go.Proofs.YtipjmpdndokdlaaGreatDoor
open Go.RowKit Go.Lib
attribute [local go_sem] Oper.semAt_some
/-- A size whose terms are few and small: the quick sign decides. -/
def Quick (p : List Int) (x : List Rat) : Prop:=(∀ r∈x,Ft 30 r) ∧ (∀ e∈tms p (dn x) x,okE 10000000 e) ∧ Fair (tms p (dn x) x)
theorem compare_c (vp va vb:Value)(p:List Int)(x y:List Rat)(w:World)(he:Env w)(hp:Sl w vp (i64s p))(ha:Rd w va x)(hb:Rd w vb y)(hpl:p.length≤100)(hx:x.length=p.length)(hy:y.length=p.length)(hxf:∀ q∈x,Ft 400 q)(hyf:∀ q∈y,Ft 400 q)(hq:Quick p (subZ x y)) :
  Calls Tryz.prog 100 #[vp,va,vb] w fun e w'=>e=.returned (.int .i64 (sgnT (tms p (dn (subZ x y)) (subZ x y))))∧Ext w w':=by
 have hua:=rd_one ha
 have hub:=rd_one hb
 have hsum:sumTo p.length [x,y] [1,-1] 2=subZ x y:=sum_sub hx hy
 have hsl:(subZ x y).length=p.length:=by unfold subZ;rw [List.length_zipWith];omega
 have hco:∀ W vl vf,Ext w W→RdM W vl [⟨x,va,hua⟩,⟨y,vb,hub⟩]→Rd W vf [1,-1]→Calls Tryz.prog 112 #[.int .i64 (p.length:Int),vl,vf] W fun e w'=>∃ g,e=.returned (.slice (some ⟨g,0,none⟩) p.length p.length)∧OwnQ w' W.heap.size (.slice (some ⟨g,0,none⟩) p.length p.length) (subZ x y)∧Ext W w':=by
  intro W vl vf hE hl hf
  have:=sum_c p.length vl vf [⟨x,va,hua⟩,⟨y,vb,hub⟩] [1,-1] W (he.ext hE) hl hf (by omega) (by simp) (by simp) (by
   intro r hr
   rcases List.mem_cons.1 hr with rfl | hr
   ·exact ⟨hx,hxf⟩
   ·rw [List.mem_singleton] at hr;subst hr;exact ⟨hy,hyf⟩) (by
   intro f hf
   simp only [List.mem_cons,List.not_mem_nil,or_false] at hf
   rcases hf with rfl | rfl
   ·exact ft_one
   ·exact ft_neg1)
  change Calls _ _ _ _ fun e w'=>e=.returned (.slice (some ⟨W.heap.size,0,none⟩) p.length p.length)∧OwnQ w' W.heap.size (.slice (some ⟨W.heap.size,0,none⟩) p.length p.length) (sumTo p.length [x,y] [1,-1] 2)∧Ext W w' at this
  rw [hsum] at this
  exact this.mono fun e w' h=>⟨_,h⟩
 have hn1:=fun W (h:Ext w W)=>number_c 1 W (he.ext h) (by omega) (by omega)
 have hn2:=fun W (h:Ext w W)=>number_c (-1) W (he.ext h) (by omega) (by omega)
 rw [Rv_int] at hn1 hn2
 have hlt:=tms_le (p:=p) (d:=dn (subZ x y)) (x:=subZ x y)
 rw [hsl] at hlt
 have htm:=fun W v (hE:Ext w W)(hv:Rd W v (subZ x y))=>termsOf_c vp v p (subZ x y) W (he.ext hE) (hE.sl hp) hv hpl hsl hq.1
 have hts:=fun W tv (ht:TmV W tv (tms p (dn (subZ x y)) (subZ x y)) (dn (subZ x y)))=>tsign_c tv _ _ W ht (by have:=hlt;omega) hq.2.1 hq.2.2
 generalize sgnT (tms p (dn (subZ x y)) (subZ x y))=sg at *
 have hra:=fun W (h:Ext w W)=>h.rd ha
 have hrb:=fun W (h:Ext w W)=>h.rd hb
 have hbl:Ext w (w.alloc (.cells #[va,vb] 37)):=(Ext.refl w).alloc _
 have hbc:(w.alloc (.cells #[va,vb] 37)).heap[w.heap.size]?=some (.cells ([va,vb]:List Value).toArray 37 (0,0)):=World.alloc_heap_new w _
 have hone:rcs [1,-1]=[.string (I 1),.string ⟨#[49]⟩,.string (I (-1)),.string ⟨#[49]⟩]:=by
  show [Value.string (I 1),.string (I ((1:Nat):Int)),.string (I (-1)),.string (I ((1:Nat):Int))]=_
  rw [I_nat,D_one]
 obtain ⟨ap,cp,rfl,_,_,_⟩:=hp.parts
 obtain ⟨aa,ca,rfl,_,_,_⟩:=ha.parts
 obtain ⟨ab,cb,rfl,_,_,_⟩:=hb.parts
 rw [i64s_length] at htm ⊢
 generalize I 1=s1 at *
 generalize I (-1)=s2 at *
 clear hp ha hb he hxf hyf hq hsum hsl hlt
 clear hpl
 have Hxl:=hid hx;have Hyl:=hid hy
 clear hx hy
 have Hco:=hid hco;have Hn1:=hid hn1;have Hn2:=hid hn2;have Hra:=hid hra;have Hrb:=hid hrb;have Hbl:=hid hbl;have Hbc:=hid hbc;have Hone:=hid hone;have Htm:=hid htm;have Hts:=hid hts;clear hco hn1 hn2 hra hrb hbl hbc hone htm hts
 go_enter Tryz.func100,Tryz.ntmps100
 go_wp2_with fail
 refine (Hn1.out _ Hbl.out).mono ?_
 rintro e w1 ⟨rfl,hx1⟩
 have Hx1:=hid (Hbl.out.trans hx1)
 have Hb1:=hid (hx1.heap Hbc.out)
 clear hx1
 go_wp2_with fail
 refine (Hn2.out w1 Hx1.out).mono ?_
 rintro e w2 ⟨rfl,hx2⟩
 have hx3:Ext w2 (w2.alloc (.cells #[.string s1,.string ⟨#[49]⟩,.string s2,.string ⟨#[49]⟩] 27)):=(Ext.refl w2).alloc _
 have hE3:Ext w (w2.alloc (.cells #[.string s1,.string ⟨#[49]⟩,.string s2,.string ⟨#[49]⟩] 27)):=(Hx1.out.trans hx2).trans hx3
 have hl3:RdM (w2.alloc (.cells #[.string s1,.string ⟨#[49]⟩,.string s2,.string ⟨#[49]⟩] 27)) (.slice (some ⟨w.heap.size,0,none⟩) 2 2) [⟨x,.slice aa x.length ca,hua⟩,⟨y,.slice ab y.length cb,hub⟩] :=
  ⟨sl_cells ((hx2.trans hx3).heap Hb1.out) (by unfold maxLen;simp),by
   intro r hr
   rcases List.mem_cons.1 hr with rfl | hr
   ·exact Hra.out _ hE3
   ·rw [List.mem_singleton] at hr;subst hr;exact Hrb.out _ hE3⟩
 have hf3:Rd (w2.alloc (.cells #[.string s1,.string ⟨#[49]⟩,.string s2,.string ⟨#[49]⟩] 27)) (.slice (some ⟨w2.heap.size,0,none⟩) 2 2) [1,-1] :=
  rd_cells (x:=[1,-1]) (by rw [Hone.out];exact World.alloc_heap_new w2 _) (by unfold maxLen;simp)
 have hcc:=Hco.out _ _ _ hE3 hl3 hf3
 have Hcc:=hid hcc;have HE3:=hid hE3
 clear hx2 hx3 hl3 hf3 hcc hE3
 go_wp2_with fail
 refine Hcc.out.mono ?_
 rintro e w4 ⟨g,rfl,ho4,hx4⟩
 have Ho4:=hid ho4.rd
 have Hx4:=hid (HE3.out.trans hx4)
 clear ho4 hx4
 go_wp2_with fail
 refine (Htm.out w4 _ Hx4.out Ho4.out).mono ?_
 rintro e w5 ⟨tv,rfl,ht,hx5⟩
 have Hx5:=hid (Hx4.out.trans hx5)
 have H6:=hid (Hts.out w5 tv ht)
 obtain ⟨_,_,rfl,_,_⟩:=ht
 clear hx5
 go_wp2_with fail
 refine (H6.out).mono ?_
 rintro e w6 ⟨rfl,hx6⟩
 have Hx6:=hid (Hx5.out.trans hx6);clear hx6
 go_wp2
 go_ret
 exact ⟨rfl,Hx6.out⟩
theorem sCompare_c (vp va vb:Value)(p:List Int)(x y:List Rat)(w:World)(he:Env w)(hp:Sl w vp (i64s p))(ha:Rd w va x)(hb:Rd w vb y)(hpe:primesErr p=0)(hpl:p.length≤100)(hx:x.length=p.length)(hy:y.length=p.length)(hxf:∀ q∈x,Ft 30 q)(hyf:∀ q∈y,Ft 30 q)(hq:Quick p (subZ x y)) :
  Calls Tryz.prog 56 #[vp,va,vb] w fun e w'=>e=.returned (.tuple #[.int .i64 (sgnT (tms p (dn (subZ x y)) (subZ x y))),.int .i64 0])∧Ext w w':=by
 have hua:=rd_one ha
 have hub:=rd_one hb
 have h1:=fun W vl (hE:Ext w W)(hl:RdM W vl [⟨x,va,hua⟩,⟨y,vb,hub⟩])=>sCheckAll_c vp vl p [⟨x,va,hua⟩,⟨y,vb,hub⟩] W (he.ext hE) (hE.sl hp) hl hpe (by simp) (by
   intro r hr
   rcases List.mem_cons.1 hr with rfl | hr
   ·exact ⟨hx,hxf⟩
   ·rw [List.mem_singleton] at hr;subst hr;exact ⟨hy,hyf⟩)
 have h2:=fun W (hE:Ext w W)=>compare_c vp va vb p x y W (he.ext hE) (hE.sl hp) (hE.rd ha) (hE.rd hb) hpl hx hy (fun q h=>(hxf q h).mono (by omega)) (fun q h=>(hyf q h).mono (by omega)) hq
 generalize sgnT (tms p (dn (subZ x y)) (subZ x y))=sg at *
 have hl3:RdM (w.alloc (.cells #[va,vb] 37)) (.slice (some ⟨w.heap.size,0,none⟩) 2 2) [⟨x,va,hua⟩,⟨y,vb,hub⟩] :=
  ⟨sl_cells (us:=[va,vb]) (World.alloc_heap_new w _) (by unfold maxLen;simp),by
   intro r hr
   rcases List.mem_cons.1 hr with rfl | hr
   ·exact ((Ext.refl w).alloc _).rd ha
   ·rw [List.mem_singleton] at hr;subst hr;exact ((Ext.refl w).alloc _).rd hb⟩
 have hbl:Ext w (w.alloc (.cells #[va,vb] 37)):=(Ext.refl w).alloc _
 have h3:=h1 _ _ hbl hl3
 clear h1 hl3
 obtain ⟨ap,cp,rfl,_,_,_⟩:=hp.parts
 obtain ⟨aa,ca,rfl,_,_,_⟩:=ha.parts
 obtain ⟨ab,cb,rfl,_,_,_⟩:=hb.parts
 clear hp ha hb he hxf hyf hq hpe
 have Hxl:=hid hx;have Hyl:=hid hy
 clear hx hy
 have H2:=hid h2;have H3:=hid h3;have Hbl:=hid hbl;clear h2 h3 hbl
 go_enter Tryz.func56,Tryz.ntmps56
 go_wp2_with fail
 refine H3.out.mono ?_
 rintro e w1 ⟨rfl,hx1⟩
 have Hx1:=hid (Hbl.out.trans hx1)
 clear hx1
 go_wp2_with fail
 refine (H2.out w1 Hx1.out).mono ?_
 rintro e w2 ⟨rfl,hx2⟩
 have Hx2:=hid (Hx1.out.trans hx2);clear hx2
 go_wp2
 go_ret2
 exact ⟨rfl,Hx2.out⟩
end Go.Proofs.YtipjmpdndokdlaaGreatDoor

namespace Go.Proofs.YtipjmpdndokdlaaGreatDoor
open Go.RowKit Go.Lib
attribute [local go_sem] Oper.semAt_some
theorem up_div (a b:Int)(hb:0<b):(-a+b - 1) / b=-(a / b):=by
 have h1:=Int.mul_ediv_add_emod a b
 have h2:=Int.emod_nonneg a (show b ≠ 0 by omega)
 have h3:=Int.emod_lt_of_pos a hb
 have e:-a+b - 1=(b - 1 - a % b)+b * (-(a / b)):=by rw [Int.mul_neg];omega
 rw [e,Int.add_mul_ediv_left _ _ (by omega),Int.ediv_eq_zero_of_lt (by omega) (by omega)]
 omega
theorem div_bd {a b:Int}{m:Int}(hb:0<b)(h0:-m≤a)(h1:a≤m)(hm:0≤m):-m≤a / b∧a / b≤m:=by
 constructor
 ·rw [Int.le_ediv_iff_mul_le hb]
  have:=Int.mul_le_mul_of_nonneg_left (show (1:Int)≤b by omega) hm
  rw [Int.neg_mul]
  omega
 ·have:a / b≤m / b:=Int.ediv_le_ediv hb h1
  have h2:m / b≤m:=Int.ediv_le_self _ hm
  omega
theorem downward_c (a b:Int)(w:World)(h0:-1000000000000000000≤a)(h1:a≤1000000000000000000)(h2:0<b)(h3:b≤1000000000000000000) :
  Calls Tryz.prog 238 #[.int .i64 a,.int .i64 b] w fun e w'=>e=.returned (.int .i64 (a / b))∧w=w':=by
 have hbd:=div_bd h2 h0 h1 (by omega)
 by_cases ha:a<0
 ·have hq:(-a+b - 1).tdiv b=-(a / b):=by rw [Int.tdiv_eq_ediv_of_nonneg (by omega),up_div a b h2]
  generalize a / b=q at *
  go_enter Tryz.func238,Tryz.ntmps238
  go_wp2
  go_ret
  exact ⟨by simp,rfl⟩
 ·have hq:a.tdiv b=a / b:=Int.tdiv_eq_ediv_of_nonneg (by omega)
  generalize a / b=q at *
  go_enter Tryz.func238,Tryz.ntmps238
  go_wp2
  go_ret
  exact ⟨rfl,rfl⟩
theorem quotient_c (tx ty:Value)(l:List (Int × Int))(d:Nat)(w:World)(hx:TmV w tx l d)(hy:TmV w ty [(2,1)] 1)(hl:l.length≤100)(hok:∀ e∈l,okE 100000 e)(hd0:0<d)(hd:d≤10000)
  (hfl:lowT l / (67108864 * (d:Int))=higT l / (67108864 * (d:Int))) :
  Calls Tryz.prog 206 #[tx,ty] w fun e w'=>e=.returned (.tuple #[.int .i64 (lowT l / (67108864 * (d:Int))),.bool true])∧Ext w w':=by
 have hn1:=fun W (hE:Ext w W)=>near_c tx l d 100000 W (hx.ext hE) hl (by omega) (by omega) hok
 have hn2:=fun W (hE:Ext w W)=>near_c ty [(2,1)] 1 100000 W (hy.ext hE) (by decide) (by omega) (by omega) (by intro e he;rw [List.mem_singleton] at he;subst he;exact ⟨.inl rfl,by decide,by decide⟩)
 rw [show lowT [(2,1)]=67108864 by decide,show higT [(2,1)]=67108864 by decide] at hn2
 have hs1:=fun W=>wsmall_yes (d:Int) W (by omega) (by omega)
 have hs2:=fun W=>wsmall_yes ((1:Nat):Int) W (by decide) (by decide)
 have hbd:=sum_bd (fun e he=>okE_mono (hok e he) (show (100000:Int)≤10000000 by omega))
 have hll:(l.length:Int)≤100:=by omega
 have b1:-155821957000000000≤lowT l∧lowT l≤155821957000000000:=by omega
 have b2:-155821957000000000≤higT l∧higT l≤155821957000000000:=by omega
 have hq1:=fun W=>downward_c (lowT l) (67108864 * (d:Int)) W (by omega) (by omega) (by omega) (by omega)
 have hq2:=fun W=>downward_c (higT l) (67108864 * (d:Int)) W (by omega) (by omega) (by omega) (by omega)
 rw [← hfl] at hq2
 obtain ⟨va,vb,rfl,hp1,hf1⟩:=hx
 obtain ⟨vc,vd,rfl,hp2,hf2⟩:=hy
 obtain ⟨aa,ca,rfl,_,_,_⟩:=hp1.parts
 obtain ⟨ab,cb,rfl,_,_,_⟩:=hf1.parts
 obtain ⟨ac,cc,rfl,_,_,_⟩:=hp2.parts
 obtain ⟨ad,cd,rfl,_,_,_⟩:=hf2.parts
 clear hp1 hf1 hp2 hf2 hok hfl hbd hll
 generalize (i64s (l.map Prod.fst)).length=n1 at *
 generalize (strs (l.map Prod.snd)).length=n2 at *
 generalize (i64s (([(2,1)]:List (Int × Int)).map Prod.fst)).length=n3 at *
 generalize (strs (([(2,1)]:List (Int × Int)).map Prod.snd)).length=n4 at *
 generalize lowT l / (67108864 * (d:Int))=q at *
 generalize lowT l=lo at *
 generalize higT l=hi at *
 generalize hsd:I ((d:Nat):Int)=sd at *
 generalize hs1':I ((1:Nat):Int)=se at *
 have bx1:=Box3.new w (.slice aa n1 ca) (.slice ab n2 cb) (.string sd)
 have bx2:=Box3.new (w.alloc (.cells #[.slice aa n1 ca,.slice ab n2 cb,.string sd] 152)) (.slice ac n3 cc) (.slice ad n4 cd) (.string se)
 have hE0:Ext w ((w.alloc (.cells #[.slice aa n1 ca,.slice ab n2 cb,.string sd] 152)).alloc (.cells #[.slice ac n3 cc,.slice ad n4 cd,.string se] 152)):=((Ext.refl w).alloc _).alloc _
 have bx1':=bx1.ext ((Ext.refl _).alloc (.cells #[.slice ac n3 cc,.slice ad n4 cd,.string se] 152))
 rw [World.size_alloc] at bx2
 clear bx1 hsd hs1'
 have Hn1:=hid hn1;have Hn2:=hid hn2;have Hs1:=hid hs1;have Hs2:=hid hs2;have Hq1:=hid hq1;have Hq2:=hid hq2;have HE0:=hid hE0;have Bx1':=hid bx1';have Bx2:=hid bx2;clear hn1 hn2 hs1 hs2 hq1 hq2 hE0 bx1' bx2
 clear hl
 go_enter Tryz.func206,Tryz.ntmps206
 go_wp2_with fail
 refine (Hn1.out _ HE0.out).mono ?_
 rintro e w1 ⟨rfl,hx1⟩
 have Hx1:=hid (HE0.out.trans hx1)
 have h2b:=(Bx2.out.ext hx1)
 obtain ⟨c0,c1,c2,_⟩:=h2b.c
 have H1b:=hid (Bx1'.out.ext hx1)
 have H2b:=hid h2b
 clear hx1 h2b
 go_wp2_with fail
 refine (Hn2.out _ Hx1.out).mono ?_
 rintro e w2 ⟨rfl,hx2⟩
 have Hx2:=hid (Hx1.out.trans hx2)
 have h1c:=H1b.out.ext hx2
 obtain ⟨d0,d1,d2,_⟩:=h1c.c
 have H2c:=hid (H2b.out.ext hx2)
 clear hx2 h1c c0 c1 c2
 go_wp2_with fail
 refine (Hs1.out _).mono ?_
 rintro e w3 ⟨rfl,hx3⟩
 have Hx3:=hid (Hx2.out.trans hx3)
 have h2d:=H2c.out.ext hx3
 obtain ⟨f0,f1,f2,_⟩:=h2d.c
 clear hx3 h2d d0 d1 d2
 go_wp2_with fail
 refine (Hs2.out _).mono ?_
 rintro e w4 ⟨rfl,hx4⟩
 have Hx4:=hid (Hx3.out.trans hx4)
 clear hx4 f0 f1 f2
 go_wp2_with fail
 all_goals
  refine (Hq1.out _).mono ?_
  rintro e w' ⟨rfl,rfl⟩
  go_wp2_with fail
 all_goals
  refine (Hq2.out _).mono ?_
  rintro e w' ⟨rfl,rfl⟩
  go_wp2
 all_goals
  go_ret2
  exact ⟨by simp,Hx4.out⟩
end Go.Proofs.YtipjmpdndokdlaaGreatDoor
