/- Walks: scale.Note of a whole scale; row.Equal; law 31's Known. Walks: fraction.New, fraction.Of at a positive denominator. Walks: scale.mode, scale.Mode. Plain: ascending lists of so many numbers in lexicographic order: as the program finds them, and as the reference does. Plain: which lists of indices a subset takes, and what it is. Plain: modes again, the subset of all notes, the collection of a scale's own notes, the sum of the steps. -/
import Derived.Test.YtebabancfnmfjaaGreatDoorPm15
import Derived.Test.YtebabancfnmfjaaGreatDoorPm19
import Derived.Test.YtebabancfnmfjaaGreatDoorPm22
import Derived.Test.YtebabancfnmfjaaGreatDoorPm05
import Derived.Deep.RegionHeld3
import Derived.Test.YtebabancfnmfjaaGreatDoorPm21
import Derived.Test.YtebabancfnmfjaaGreatDoorPm17
import Derived.Test.YtebabancfnmfjaaGreatDoorPm18
import Derived.Test.YtebabancfnmfjaaGreatDoorShelfF
set_option maxRecDepth 100000
set_option maxHeartbeats 2000000
namespace Go.Proofs.YtebabancfnmfjaaGreatDoor
section
open Go.RowKit Go.Lib Go.Shelf
attribute [local go_sem] Oper.semAt_some
theorem zkB (va vb:Value)(p q:List Int)(w:World)(ha:Sl w va (zaq p))(hb:Sl w vb (zaq q))(hp:p.length≤1000)(hq:q.length≤1000) :
  Calls Tryz.prog 55 #[va,vb] w fun e w'=>e=.returned (.bool (decide (p=q)))∧Ext w w':=by
 obtain ⟨aa,ca,rfl,_,_,hca⟩:=ha.parts;obtain ⟨ab,cb,rfl,_,_,hcb⟩:=hb.parts;rw [zas] at *;rw [zas] at *;have h1:∀ k x,p[k]?=some x→∃ b off,aa=some ⟨b,off,none⟩∧w.cell? ⟨b,off+k,none⟩=some (.int .i64 x):=fun k x h=>hca k _ (by unfold zaq;rw [List.getElem?_map,h];rfl);have h2:∀ k x,q[k]?=some x→∃ b off,ab=some ⟨b,off,none⟩∧w.cell? ⟨b,off+k,none⟩=some (.int .i64 x):=fun k x h=>hcb k _ (by unfold zaq;rw [List.getElem?_map,h];rfl);clear hca hcb ha hb;by_cases hl:p.length=q.length
 ·have Hl:=hid hl;rw [← hl];have hfin:(∀ i,i<p.length→p[i]?=q[i]?)→decide (p=q)=true:=fun h=>by
   rw [decide_eq_true_eq];apply List.ext_getElem?;intro i;rcases Nat.lt_or_ge i p.length with g | g
   ·exact h i g
   ·rw [List.getElem?_eq_none g,List.getElem?_eq_none (by omega)]
  have hbad:∀ (i:Nat)(x y:Int),p[i]?=some x→q[i]?=some y→x ≠ y→decide (p=q)=false:=fun i x y h1 h2 h3=>by
   rw [decide_eq_false_iff_not];rintro rfl;rw [h1] at h2;exact h3 (Option.some.inj h2)
  generalize hn:p.length=n at *;clear hl hq;have H1:=hid h1;have H2:=hid h2;have Hfin:=hid hfin;have Hbad:=hid hbad;have Hn:=hid hn;clear h1 h2 hfin hbad hn;go_enter Tryz.func55,Tryz.ntmps55
  go_wp2_with fail
  go_loopw [5,13] (fun v5 v13 wr=>∃ k:Nat,v13=.int .i64 k∧k≤n∧Hid (∀ i,i<k→p[i]?=q[i]?)∧Hid (Ext w wr)) (fun _ v13 _=>n - (zam v13).toNat)
  case atStart=>exact ⟨0,rfl,Nat.zero_le _,hid (fun i h=>by omega),hid (Ext.refl _)⟩
  case round =>
   obtain ⟨k,rfl,hk,Hall,HE⟩:=hrel;by_cases hkn:k<n
   ·obtain ⟨x,hx⟩:∃ x,p[k]?=some x:=⟨_,List.getElem?_eq_getElem (by rw [Hn.out];exact hkn)⟩;obtain ⟨y,hy⟩:∃ y,q[k]?=some y:=⟨_,List.getElem?_eq_getElem (by rw [← Hl.out];exact hkn)⟩;obtain ⟨ba,oa,rfl,c0⟩:=H1.out k x hx;obtain ⟨bb,ob,rfl,c1⟩:=H2.out k y hy;have c0:=HE.out.cell c0;have c1:=HE.out.cell c1;have hk0:(0:Int)≤(k:Int):=(by omega);have hk1:(k:Int)<(n:Int):=(by omega);by_cases hxy:x=y
    ·subst hxy;have Hnx:Hid (∀ i,i<k+1→p[i]?=q[i]?):=hid (fun i hi=>by
      rcases Nat.lt_or_ge i k with g | g
      ·exact Hall.out i g
      ·rw [show i=k by omega,hx,hy])
     clear hx hy;go_wp2_with fail
     go_quiet (fail)
     go_wp2_with fail
     go_roundw
     case rel=>exact ⟨k+1,by go_num,by omega,Hnx,hid (HE.out.drewN _)⟩
     case measure=>simp [zam];omega
    ·have hb1:=Hbad.out k x y hx hy hxy;have hxb:(x == y)=false:=beq_eq_false_iff_ne.2 hxy;have Hb1:=hid hb1;clear hb1 hx hy;go_wp2_with fail
     go_quiet (fail)
     go_wp2
     go_ret
     exact ⟨by rw [Hb1.out];rfl,HE.out.drewN _⟩
   ·obtain rfl:n=k:=by omega
    have Hf:=hid (Hfin.out Hall.out);go_wp2
    go_ret
    exact ⟨by rw [Hf.out];rfl,HE.out⟩
 ·have hne:decide (p=q)=false:=by
   rw [decide_eq_false_iff_not];rintro rfl;exact hl rfl
  rw [hne];have hl2:¬ (p.length:Int)=(q.length:Int):=by omega
  clear h1 h2 hne;generalize p.length=n at *;generalize q.length=m at *;go_enter Tryz.func55,Tryz.ntmps55
  go_wp2
  go_ret
  exact ⟨rfl,Ext.refl _⟩
theorem zkC (va vb:Value)(p q:List Int)(w:World)(ha:Sl w va (zaq p))(hb:Sl w vb (zaq q))(hp:p.length≤1000)(hq:q.length≤1000) :
  Calls Tryz.prog 18 #[va,vb] w fun e w'=>e=.returned (.bool (decide (p=q)))∧Ext w w':=by
 have h:=zkB va vb p q w ha hb hp hq;obtain ⟨aa,ca,rfl,_,_,_⟩:=ha.parts;obtain ⟨ab,cb,rfl,_,_,_⟩:=hb.parts;generalize decide (p=q)=B at *;have H:=hid h;clear h ha hb;go_enter Tryz.func18,Tryz.ntmps18
 go_wp2_with fail
 refine H.out.mono ?_;rintro e w1 ⟨rfl,hx⟩;have Hx:=hid hx;clear hx;go_wp2_with fail
 go_ret
 exact ⟨rfl,Hx.out⟩
theorem zkD (w:World)(he:Env w) :
  Calls Tryz.prog 6 #[] w fun e w'=>e=.returned (.bool true)∧Ext w w':=by
 have h:=zkA w he;have H:=hid h;clear h he;go_enter Tryz.func6,Tryz.ntmps6
 go_wp2_with fail
 refine H.out.mono ?_;rintro e w1 ⟨rfl,hx⟩;have Hx:=hid hx;clear hx;go_wp2_with fail
 go_ret
 exact ⟨rfl,Hx.out⟩
theorem zkE (v:Value)(p:List Int)(rs:List Qw)(k:Int)(w:World)(he:Env w)(hv:ScV w v p rs)(h:Wd p (rs.map Qw.x))(hk0:-1000≤k)(hk1:k≤1000) :
  Calls Tryz.prog 14 #[v,.int .i64 k] w fun e w'=>∃ g,e=.returned (.tuple #[.slice (some ⟨g,0,none⟩) p.length p.length,.int .i64 0])∧zfx w' w.heap.size (.slice (some ⟨g,0,none⟩) p.length p.length) (nt p (rs.map Qw.x) k)∧Ext w w':=by
 have h1:=fun W sv (hE:Ext w W)(hs:ScV W sv p rs)=>ziz sv p rs W (he.ext hE) hs h.right;have h2:=fun W sv (hE:Ext w W)(hs:ScV W sv p rs)=>zjC sv p rs k W (he.ext hE) hs h hk0 hk1;obtain ⟨ap,cp,an,cn,rfl,hs⟩:=zif hv;have hE0:Ext w (w.alloc (.cells #[.slice ap p.length cp,.slice an rs.length cn] 28)):=(Ext.refl w).alloc _;have hb:=zic.new 28 w (.slice ap p.length cp) (.slice an rs.length cn);have g1:=h1 _ _ hE0 (hs.ext hE0);have g2:=fun W (hE:Ext (w.alloc (.cells #[.slice ap p.length cp,.slice an rs.length cn] 28)) W)=>h2 W _ (hE0.trans hE) (hs.ext (hE0.trans hE));have q0:=hb.c0;have q1:=hb.c1;generalize nt p (rs.map Qw.x) k=Y at *;have G1:=hid g1;have G2:=hid g2;have HE0:=hid hE0;have Hb:=hid hb;clear h1 h2 g1 g2 hE0 hb hs hv he h;go_enter Tryz.func14,Tryz.ntmps14
 go_wp2_with fail
 refine G1.out.mono ?_;rintro e w1 ⟨rfl,hx1⟩;have r0:=(Hb.out.ext hx1).c0;have r1:=(Hb.out.ext hx1).c1;have Hx1:=hid hx1;have hl0:¬ k < -1000000:=by omega
 have hl1:¬ (1000000:Int)<k:=by omega
 clear hx1 q0 q1;go_wp2_with fail
 refine (G2.out _ Hx1.out).mono ?_;rintro e w2 ⟨g,rfl,ho,hx2⟩;have Ho:=hid (zan ho (HE0.out.trans Hx1.out).size);have Hx2:=hid ((HE0.out.trans Hx1.out).trans hx2);clear ho hx2 r0 r1;go_wp2_with fail
 go_ret2
 exact ⟨g,rfl,Ho.out,Hx2.out⟩
theorem zkF (n:Int)(d:Nat)(w:World)(he:Env w)(hn:Fit n)(hd:Fit (d:Int))(h0:0<d) :
  Calls Tryz.prog 119 #[.string (I n),.string (I (d:Int))] w fun e w'=>e=.returned (.tuple #[Rv (mkRat n d),.int .i64 0])∧Ext w w':=by
 have hs:=fun W=>zbR (d:Int) W hd;rw [zbn (by omega)] at hs;have hl:=fun W (h:Ext w W)=>zdM n d W (he.ext h) hn hd h0;unfold Rv at hl ⊢;generalize I (mkRat n d).num=st at *;generalize I (((mkRat n d).den:Nat):Int)=su at *;generalize I n=sa at *;generalize I (d:Int)=sb at *;have b2:=zdC.new w (.string ⟨#[]⟩) (.string ⟨#[]⟩);have hE:Ext w (w.alloc (.cells #[.string ⟨#[]⟩,.string ⟨#[]⟩] 65)):=(Ext.refl _).alloc _;clear he hn hd h0;have Hs:=hid hs;have Hl:=hid hl;have HE:=hid hE;have B2:=hid b2;clear hs hl hE b2;go_enter Tryz.func119,Tryz.ntmps119
 go_wp2_with fail
 refine (Hs.out _).mono ?_;rintro e W2 ⟨rfl,rfl⟩;go_wp2_with fail
 refine (Hl.out _ HE.out).mono ?_;rintro e W3 ⟨rfl,hx⟩;have hk:Kp0 w W3 w.heap.size:=⟨HE.out.trans hx,_,_,B2.out.ext hx⟩;obtain ⟨_,k0,k1,z0,z1⟩:=hk.all;have hfin:=hk.fin (Nat.le_refl _) (.string st) (.string su);have Hfin:=hid hfin;clear hfin;clear hx hk;go_wp2_with fail
 obtain ⟨hb,hfx⟩:=Hfin.out;have hd0:=hb.c0;have hd1:=hb.c1;exact bodyPost_ret (v:=.tuple #[.agg #[.string st,.string su],.int .i64 0]) (by simp [results,Tryz.results119,go_sem,hd0,hd1]) rfl ⟨rfl,hfx⟩
theorem zkG (n:Int)(d:Nat)(w:World)(he:Env w)(hn0:-1000000000≤n)(hn1:n≤1000000000)(h0:0<d)(h1:d≤1000000000) :
  Calls Tryz.prog 59 #[.int .i64 n,.int .i64 (d:Int)] w fun e w'=>e=.returned (.tuple #[Rv (mkRat n d),.int .i64 0])∧Ext w w':=by
 have hfit:∀ z:Int,-1000000000≤z→z≤1000000000→Fit z:=fun z a b=>by
  unfold Fit;have h:nDigits z.natAbs≤nDigits 1000000000:=Dec.nDigits_mono (by omega);have h2:nDigits 1000000000≤400000:=by decide +kernel
  omega
 have hi1:=fun W (h:Ext w W)=>zaR n (by omega) (by omega) W (he.ext h);have hi2:=fun W (h:Ext w W)=>zaR (d:Int) (by omega) (by omega) W (he.ext h);have hnw:=fun W (h:Ext w W)=>zkF n d W (he.ext h) (hfit _ hn0 hn1) (hfit _ (by omega) (by omega)) h0;unfold Rv at hnw ⊢;generalize I (mkRat n d).num=st at *;generalize I (((mkRat n d).den:Nat):Int)=su at *;generalize I n=sa at *;generalize I (d:Int)=sb at *;obtain ⟨dz,hdz⟩:∃ dz:Int,dz=(d:Int):=⟨_,rfl⟩;rw [← hdz] at hi2 ⊢;have b2:=zdC.new w (.string ⟨#[]⟩) (.string ⟨#[]⟩);have hE:Ext w (w.alloc (.cells #[.string ⟨#[]⟩,.string ⟨#[]⟩] 65)):=(Ext.refl _).alloc _;clear he hfit hn0 hn1 h0 h1 hdz;have Hi1:=hid hi1;have Hi2:=hid hi2;have Hnw:=hid hnw;have HE:=hid hE;have B2:=hid b2;clear hi1 hi2 hnw hE b2;go_enter Tryz.func59,Tryz.ntmps59
 go_wp2_with fail
 refine (Hi1.out _ HE.out).mono ?_;rintro e W2 ⟨rfl,hx2⟩;have HE2:=hid (HE.out.trans hx2);have HX2:=hid hx2;clear hx2;go_wp2_with fail
 refine (Hi2.out _ HE2.out).mono ?_;rintro e W3 ⟨rfl,hx3⟩;have HE3:=hid (HE2.out.trans hx3);have HX3:=hid (HX2.out.trans hx3);clear hx3;go_wp2_with fail
 refine (Hnw.out _ HE3.out).mono ?_;rintro e W4 ⟨rfl,hx4⟩;have hk:Kp0 w W4 w.heap.size:=⟨HE3.out.trans hx4,_,_,B2.out.ext (HX3.out.trans hx4)⟩;obtain ⟨_,k0,k1,z0,z1⟩:=hk.all;have hfin:=hk.fin (Nat.le_refl _) (.string st) (.string su);have Hfin:=hid hfin;clear hfin;clear hx4 hk;go_wp2_with fail
 obtain ⟨hb,hfx⟩:=Hfin.out;have hd0:=hb.c0;have hd1:=hb.c1;exact bodyPost_ret (v:=.tuple #[.agg #[.string st,.string su],.int .i64 0]) (by simp [results,Tryz.results59,go_sem,hd0,hd1]) rfl ⟨rfl,hfx⟩
theorem zkH (v:Value)(p:List Int)(rs:List Qw)(m:Int)(w:World)(he:Env w)(hv:ScV w v p rs)(h:Wd p (rs.map Qw.x))(hm0:-500≤m)(hm1:m≤500) :
  Calls Tryz.prog 177 #[v,.int .i64 m] w fun e w'=>∃ v out,e=.returned (.tuple #[v,.int .i64 0])∧ScO w' w.heap.size v p out∧out.map Qw.x=md p (rs.map Qw.x) m∧Ext w w':=by
 obtain ⟨j0,hj,hy0,hy1,hy2⟩:=info_parts zfz;have hpe:zfc p=0∧p.length≤100∧0<p.length:=by rcases h.pr with ⟨e,_⟩ | ⟨e,_⟩ <;> rw [e] <;> decide
 have hnt:=fun (k:Int)(h0:-1000≤k)(h1:k≤1000) W (hE:Ext w W)=>zjC v p rs k W (he.ext hE) (hv.ext hE) h h0 h1;have hfew:=h.few;have hL:(rs.map Qw.x).length=rs.length:=List.length_map ..;rw [hL] at hfew;obtain ⟨vp,vn,rfl,hp,hs,hmr⟩:=hv;have hsb:=fun (k:Int)(h0:-1000≤k)(h1:k≤1000) W va vb (hE:Ext w W)(ha:Rd W va (nt p (rs.map Qw.x) k))(hb:Rd W vb (nt p (rs.map Qw.x) m))=>zhx vp va vb p _ _ W (he.ext hE) (hE.sl hp) ha hb hpe.1 (h.ntlen k) (h.ntlen m) (h.nt_quick k h0 h1).1 (h.nt_quick m (by omega) (by omega)).1 (h.nt_sub_quick k m h0 h1 (by omega) (by omega)).1;have hcp:=fun W (hE:Ext w W)=>zjw vp p W (hE.sl hp) (by omega) (by intro e;rw [e] at hpe;exact absurd hpe.2.2 (by simp));have hmd:∀ i,i<rs.length→(md p (rs.map Qw.x) m).take (i+1)=(md p (rs.map Qw.x) m).take i++[zex (nt p (rs.map Qw.x) (m+(i:Int)+1)) (nt p (rs.map Qw.x) m)]:=fun i hi=>by
  have:=ziV (p:=p) (N:=rs.map Qw.x) (m:=m) (i:=i) (by rw [hL];exact hi);obtain ⟨hl,e⟩:=List.getElem?_eq_some_iff.1 this;rw [List.take_succ_eq_append_getElem hl,e]
 have hmf:(md p (rs.map Qw.x) m).take rs.length=md p (rs.map Qw.x) m:=List.take_of_length_le (by rw [ziU,hL];exact Nat.le_refl _);obtain ⟨ap,cp,rfl,_,_,_⟩:=hp.parts;obtain ⟨an,cn,rfl,_,_,_⟩:=hs.parts;rw [zas] at *;rw [zf0] at *;generalize hn:rs.length=n at *;have hE0:Ext w ((w.alloc (.cells #[.slice ap p.length cp,.slice an n cn] 28)).alloc (.cells #[.slice none 0 0,.slice none 0 0] 28)):=((Ext.refl w).alloc _).alloc _;have b1:=(zic.new 28 w (.slice ap p.length cp) (.slice an n cn)).ext ((Ext.refl _).alloc (.cells #[.slice none 0 0,.slice none 0 0] 28));have b2:=zic.new 28 (w.alloc (.cells #[.slice ap p.length cp,.slice an n cn] 28)) (.slice none 0 0) (.slice none 0 0);rw [World.size_alloc] at b2;have Hnt:=hid hnt;have Hsb:=hid hsb;have Hcp:=hid hcp;have Hmd:=hid hmd;have Hmf:=hid hmf;have HE0:=hid hE0;have B1:=hid b1;have B2:=hid b2;have Hn:=hid hn;clear hp hs hmr he h hpe hnt hsb hcp hmd hmf hE0 b1 b2 hL hn;go_enter Tryz.func177,Tryz.ntmps177
 have q0:=B1.out.c0;have q1:=B1.out.c1;go_wp2_with fail
 refine (Hnt.out m (by omega) (by omega) _ HE0.out).mono ?_;rintro e w1 ⟨g1,rfl,ho1,hx1⟩;have q0:=(B1.out.ext hx1).c0;have q1:=(B1.out.ext hx1).c1;have Ho1:=hid ho1.rd;have Hx1:=hid hx1;clear ho1 hx1;go_wp2_with fail
 refine (Hcp.out w1 (HE0.out.trans Hx1.out)).mono ?_;rintro e w6 ⟨u6,rfl,ho6,hx6⟩;obtain ⟨a6,c6,rfl⟩:=zfj ho6;have Hx6:=hid (Hx1.out.trans hx6);have Ho6:=hid (zan ho6 (HE0.out.trans Hx1.out).size);have Ho16:=hid (hx6.rd Ho1.out);clear ho6 hx6 q0 q1;have Hb7:=hid (zic.new 28 w6 (.slice a6 p.length c6) (.slice none 0 0));have H6x:Hid (Ext w6 (w6.alloc (.cells #[.slice a6 p.length c6,.slice none 0 0] 28))):=hid ((Ext.refl w6).alloc _);go_wp2_with fail
 go_loopw [9,10,11] (fun v9 v10 v11 wr=>∃ i:Nat,v9=.int .i64 ((i:Int)+1)∧i≤n∧NtR w6.heap.size w6 w6.heap.size (.slice a6 p.length c6) ((md p (rs.map Qw.x) m).take i) wr) (fun v9 _ _ _=>n+1 - (zam v9).toNat)
 case atStart=>exact ⟨0,rfl,Nat.zero_le _,.slice none 0 0,[],Hb7.out,QwM.nil _ _ _,rfl,H6x.out⟩
 case round =>
  obtain ⟨i,rfl,hi,⟨vn,nts,hbn,hqn,hmn,hEn⟩⟩:=hrel;have hE6:=Hx6.out.trans hEn;have hEw:=HE0.out.trans hE6;have q0:=(B1.out.ext hE6).c0;have q1:=(B1.out.ext hE6).c1;by_cases hin:i<n
  ·have hik:(i:Int)+1≤(n:Int):=(by omega);have hnk:=Hnt.out (m+((i:Int)+1)) (by omega) (by omega) wr hEw;have hw1:IntKind.i64.wrap (m+((i:Int)+1))=m+((i:Int)+1):=(by rw [IntKind.wrap_i64];omega);have Hbn:=hid hbn;have Hqn:=hid hqn;have Hmn:=hid hmn;have HEn:=hid hEn;have HE6:=hid hE6;have HEw:=hid hEw;have Hnk:=hid hnk;clear hbn hqn hmn hEn hE6 hEw hnk;go_wp2_with fail
   refine Hnk.out.mono ?_;rintro e w8 ⟨g8,rfl,ho8,hx8⟩;have q0:=hx8.cell q0;have q1:=hx8.cell q1;have hsk:=Hsb.out (m+((i:Int)+1)) (by omega) (by omega) w8 _ _ (HEw.out.trans hx8) ho8.rd ((HEn.out.trans hx8).rd Ho16.out);have Hsk:=hid hsk;have Hx8:=hid hx8;clear hsk hx8 ho8;go_wp2_with fail
   refine Hsk.out.mono ?_;rintro e w9 ⟨g9,rfl,ho9,hx9⟩;have hx89:=Hx8.out.trans hx9;obtain ⟨avn,cvn,rfl⟩:=zfj Hqn.out.1;have hnl:nts.length=i:=by
    have:=congrArg List.length Hmn.out;rw [List.length_map,List.length_take,ziU,List.length_map,Hn.out] at this;omega
   have hbk:=Hbn.out.ext hx89;rw [hnl] at hbk;have hqk:=hx89.qwM Hqn.out;rw [hnl] at hqk;have hqo:=hx89.own Hqn.out.1;rw [hnl] at hqo;have hEk:=HEn.out.trans hx89;have hbase:=hEk.size;have hok:=ho9.mono (HEn.out.trans Hx8.out).size;have hm3:i+1≤maxLen:=(by unfold maxLen;omega);have hm4:(i+1) * 24≤140737488355328:=(by omega);have r1:=hbk.c1;have Hbk:=hid hbk;have Hqk:=hid hqk;have Hnl:=hid hnl;have HEk:=hid hEk;have Hok:=hid hok;clear hbk hqk hnl hEk hok hx89 ho9 hx9 q0 q1;go_wp2_with (at_builtin;refine wpList_append_own _ rfl _ _ 26 rfl w6.heap.size 41 j0 (.slice none 0 0) 1 24 Tryz.underlying26 hj hy0 hy1 hy2 rfl (by decide) _ _ _ rfl (hqo.alloc _) ⟨w9.heap.size,0,none⟩ 1 1 [.slice (some ⟨g9,0,none⟩) p.length p.length] rfl rfl (cell_one_new _ _ _) (by simp [Value.oneCell']) hm3 hm4 (by rw [World.size_alloc];omega) ?_;intro v7 V7 hown7 hgrow7 _;have hbV:zic 28 V7 w6.heap.size (.slice a6 p.length c6) (.slice avn i cvn):=zga (((Ext.refl w9).alloc _).heap Hbk.out) (hqo.alloc (.cells #[.slice (some ⟨g9,0,none⟩) p.length p.length] 41)) (by decide) hgrow7;have d1:=hbV.c1;have e1:=hbV.fz 1;obtain ⟨a7,c7,rfl⟩:=zfj hown7)
   have hR:=NtR.more (W6:=w6) (W:=w9) (v7:=.slice a7 (i+1) c7) (Nat.le_refl _) Hbk.out Hqk.out Hmn.out HEk.out Hok.out (by rw [Hnl.out];exact hown7) hgrow7;rw [show m+((i:Int)+1)=m+(i:Int)+1 by omega,← Hmd.out i hin] at hR;have HR:=hid hR;clear hR d1 e1 r1 hgrow7 hown7 hbV;generalize V7.setCell ⟨w6.heap.size,1,none⟩ (.slice a7 (i+1) c7)=V2 at *;go_roundw
   case rel=>exact ⟨i+1,by go_num,by omega,HR.out⟩
   case measure=>simp [zam];omega
  ·obtain rfl:n=i:=by omega
   have hik:¬ (n:Int)+1≤(n:Int):=(by omega);have hmn2:=hmn.trans Hmf.out;obtain ⟨avn,cvn,rfl⟩:=zfj hqn.1;have r0:=hbn.c0;have r1:=hbn.c1;have hbr:=B2.out.ext hE6;have hK:K0 28 w wr (w.heap.size+1):=⟨hEw,_,_,hbr⟩;have k0:=hK.res.c0;have k1:=hK.res.c1;have z0:=hK.res.fz 0;have z1:=hK.res.fz 1;have hfin:=hK.fin (by omega) (.slice a6 p.length c6) (.slice avn nts.length cvn);have hq4:=(hqn.set hbr 0 (.slice a6 p.length c6)).set (zic.put0 hbr (.slice a6 p.length c6)) 1 (.slice avn nts.length cvn);have ho4:=zgd (zic.put0 hbr (.slice a6 p.length c6)) (zgd hbr (hEn.own Ho6.out) (by decide) 0 (.slice a6 p.length c6)) (by decide) 1 (.slice avn nts.length cvn);have hlo:=(HE0.out.trans Hx6.out).size;have Hfin:=hid hfin;have Hq4:=hid hq4;have Ho4:=hid ho4;have Hmn2:=hid hmn2;clear hfin hq4 ho4 hmn2 hK hbr hqn hbn hmn hEn hE6 hEw;go_wp2_with fail
   obtain ⟨hb5,hx5⟩:=Hfin.out;have hd0:=hb5.c0;have hd1:=hb5.c1;exact bodyPost_ret (v:=.tuple #[.agg #[.slice a6 p.length c6,.slice avn nts.length cvn],.int .i64 0]) (by simp [results,Tryz.results177,go_sem,hd0,hd1]) rfl ⟨_,rfl,nts,⟨_,_,rfl,Ho4.out,Hq4.out.mono hlo hlo⟩,Hmn2.out,hx5⟩
end
section
def cmb (n:Nat):Nat→Nat→List (List Int)
 | 0,_=>[[]]
 | _+1,0=>[]
 | k+1,f+1=>((cmb n k f).map fun c=>((n - (f+1):Nat):Int)::c)++cmb n (k+1) f
theorem zkI (n f:Nat):cmb n 0 f=[[]]:=by cases f <;> rfl
theorem zkJ {n:Nat}:∀ {f k:Nat}{c:List Int},c∈cmb n k f→c.length=k
 | f,0,c,h=>by rw [zkI,List.mem_singleton] at h;rw [h];rfl
 | 0,k+1,c,h=>by cases h
 | f+1,k+1,c,h=>by
  rw [cmb,List.mem_append,List.mem_map] at h;rcases h with ⟨d,hd,rfl⟩ | h
  ·rw [List.length_cons,zkJ hd]
  ·exact zkJ h
theorem zkK {n:Nat}:∀ {f k:Nat}{c:List Int},f≤n→c∈cmb n k f→(∀ x∈c,((n - f:Nat):Int)≤x∧x<(n:Int))∧c.Pairwise (·<·)
 | f,0,c,_,h=>by rw [zkI,List.mem_singleton] at h;rw [h];exact ⟨fun x hx=>(by cases hx),List.Pairwise.nil⟩
 | 0,k+1,c,_,h=>by cases h
 | f+1,k+1,c,hf,h=>by
  rw [cmb,List.mem_append,List.mem_map] at h;rcases h with ⟨d,hd,rfl⟩ | h
  ·obtain ⟨h1,h2⟩:=zkK (by omega) hd;refine ⟨fun x hx=>?_,List.pairwise_cons.2 ⟨fun x hx=>?_,h2⟩⟩
   ·rcases List.mem_cons.1 hx with rfl | hx
    ·omega
    ·have:=h1 x hx;omega
   ·have:=h1 x hx;omega
  ·obtain ⟨h1,h2⟩:=zkK (by omega) h;exact ⟨fun x hx=>by have:=h1 x hx;omega,h2⟩
theorem zkL {n:Nat}:∀ {f k:Nat},f<k→cmb n k f=[]
 | f,0,h=>by omega
 | 0,k+1,_=>rfl
 | f+1,k+1,h=>by rw [cmb,zkL (by omega),zkL (by omega)];rfl
def cho (n m:Nat)(M:List Int):Nat→List Int→Nat→List (List Int)
 | 0,l,u=>if l.length=m then (if u<M.length then [] else [l]) else []
 | f+1,l,u =>
  if l.length=m then (if u<M.length then [] else [l])
  else if m - l.length≤f+1 then
   (if M[u]?=some ((n - (f+1):Nat):Int) then (if M.length≤(u+1)+(m - l.length - 1) then cho n m M f (l++[((n - (f+1):Nat):Int)]) (u+1) else [])
    else (if M.length≤u+(m - l.length - 1) then cho n m M f (l++[((n - (f+1):Nat):Int)]) u else [])++cho n m M f l u)
  else []
theorem zkM : ∀ {N M:List Int},N.Nodup→N ⊆ M→N.length≤M.length
 | [],_,_,_=>Nat.zero_le _
 | a::N,M,h,hs=>by
  rw [List.nodup_cons] at h;have ha:a∈M:=hs (List.mem_cons_self ..);have ih:=zkM (N:=N) (M:=M.erase a) h.2 fun x hx=>by
   have hxa:x ≠ a:=fun e=>h.1 (e ▸ hx);exact (List.mem_erase_of_ne hxa).2 (hs (List.mem_cons_of_mem _ hx))
  rw [List.length_erase_of_mem ha] at ih;have:=List.length_pos_of_mem ha;rw [List.length_cons];omega
def zkN (M c:List Int):Bool:=M.all fun x=>c.contains x
theorem zkO {M c:List Int}:zkN M c=true ↔ ∀ x∈M,x∈c:=by
 unfold zkN;rw [List.all_eq_true];exact ⟨fun h x hx=>List.contains_iff_mem.1 (h x hx),fun h x hx=>List.contains_iff_mem.2 (h x hx)⟩
theorem zkP (i:Int)(P Q:List Int→Bool)(l:List (List Int))(h:∀ c∈l,P (i::c)=Q c):(l.map (fun c=>i::c)).filter P=(l.filter Q).map (fun c=>i::c):=by
 rw [List.filter_map];congr 1;exact List.filter_congr fun c hc=>h c hc
theorem zkQ {n m:Nat}{M:List Int}(hM:M.Pairwise (·<·)):∀ (f:Nat)(l:List Int)(u:Nat),f≤n→l.length≤m→u≤M.length→(∀ x∈M.drop u,((n - f:Nat):Int)≤x∧x<(n:Int)) →
  cho n m M f l u=((cmb n (m - l.length) f).filter (zkN (M.drop u))).map (l++·):=by
 intro f;induction f with
 | zero =>
  intro l u hf hl hu hb
  unfold cho
  have hd:M.drop u=[]:=by
   rcases hd:M.drop u with _ | ⟨x,t⟩
   ·rfl
   ·have:=hb x (by rw [hd];exact List.mem_cons_self ..);omega
  have hul:¬ u<M.length:=by rw [List.drop_eq_nil_iff] at hd;omega
  rw [hd]
  by_cases e:l.length=m
  ·rw [if_pos e,if_neg hul,e,Nat.sub_self,zkI]
   simp [zkN]
  ·rw [if_neg e,zkL (by omega)];rfl
 | succ f ih =>
  intro l u hf hl hu hb
  rw [cho]
  by_cases e:l.length=m
  ·rw [if_pos e,e,Nat.sub_self,zkI]
   by_cases hul:u<M.length
   ·rw [if_pos hul]
    have:zkN (M.drop u) []=false:=by
     rw [Bool.eq_false_iff];intro h;have:=zkO.1 h M[u] (by rw [List.drop_eq_getElem_cons hul];exact List.mem_cons_self ..)
     cases this
    simp [this]
   ·rw [if_neg hul,List.drop_eq_nil_of_le (by omega)]
    simp [zkN]
  ·rw [if_neg e]
   rcases Nat.lt_or_ge (f+1) (m - l.length) with hk | hk
   ·rw [if_neg (by omega),zkL (by omega)];rfl
   rw [if_pos hk]
   obtain ⟨k,hk2⟩:∃ k,m - l.length=k+1:=⟨m - l.length - 1,by omega⟩
   have hk3:m - (l++[((n - (f+1):Nat):Int)]).length=k:=by rw [List.length_append,List.length_singleton];omega
   rw [hk2,Nat.add_sub_cancel,cmb,List.filter_append,List.map_append]
   have hdn:=fun (v:Nat)=>(hM.imp (fun {a b:Int}(g:a<b)=>(Int.ne_of_lt g:a ≠ b)):M.Nodup).sublist (List.drop_sublist v M)
   -- what the prune leaves out has no subset
   have prune:∀ v,¬ M.length≤v+k→(cmb n k f).filter (zkN (M.drop v))=[]:=fun v hv=>by
    rw [List.filter_eq_nil_iff];intro c hc h;have:=zkM (hdn v) (fun x hx=>zkO.1 h x hx);rw [List.length_drop,zkJ hc] at this;omega
   by_cases hit:M[u]?=some ((n - (f+1):Nat):Int)
   ·rw [if_pos hit]
    have hul:u<M.length:=(List.getElem?_eq_some_iff.1 hit).1
    have hde:M.drop u=((n - (f+1):Nat):Int)::M.drop (u+1):=by
     rw [List.drop_eq_getElem_cons hul];rw [List.getElem?_eq_getElem hul] at hit;rw [Option.some.inj hit]
    have hp:(((n - (f+1):Nat):Int)::M.drop (u+1)).Pairwise (·<·):=by rw [← hde];exact hM.sublist (List.drop_sublist u M)
    rw [List.pairwise_cons] at hp
    have hb2:∀ x∈M.drop (u+1),((n - f:Nat):Int)≤x∧x<(n:Int):=fun x hx=>by
     have h1:=hp.1 x hx;have h2:=hb x (by rw [hde];exact List.mem_cons_of_mem _ hx);omega
    have hno:(cmb n (k+1) f).filter (zkN (M.drop u))=[]:=by
     rw [List.filter_eq_nil_iff];intro c hc h;have h1:=zkO.1 h _ (by rw [hde];exact List.mem_cons_self ..);have h2:=(zkK (by omega) hc).1 _ h1;omega
    rw [hno,List.map_nil,List.append_nil,zkP _ _ (zkN (M.drop (u+1)))]
    ·rw [List.map_map]
     by_cases hpr:M.length≤u+1+k
     ·rw [if_pos hpr,ih _ _ (by omega) (by rw [List.length_append,List.length_singleton];omega) (by omega) hb2,hk3]
      congr 1
      funext c
      simp
     ·rw [if_neg hpr,prune (u+1) hpr];rfl
    ·intro c hc
     rw [Bool.eq_iff_iff,zkO,zkO,hde]
     constructor
     ·intro h x hx
      have h1:=h x (List.mem_cons_of_mem _ hx)
      rcases List.mem_cons.1 h1 with g | g
      ·have:=hp.1 x hx;omega
      ·exact g
     ·intro h x hx
      rcases List.mem_cons.1 hx with g | g
      ·rw [g];exact List.mem_cons_self ..
      ·exact List.mem_cons_of_mem _ (h x g)
   ·rw [if_neg hit]
    have hb2:∀ x∈M.drop u,((n - f:Nat):Int)≤x∧x<(n:Int):=fun x hx=>by
     have h1:=hb x hx;rcases (by omega:x=((n - (f+1):Nat):Int)∨((n - f:Nat):Int)≤x) with g | g
     ·exfalso;have hul:u<M.length:=by
       rcases Nat.lt_or_ge u M.length with g | g
       ·exact g
       ·rw [List.drop_eq_nil_of_le g] at hx;cases hx
      apply hit;rw [List.getElem?_eq_getElem hul];have hp:(M[u]::M.drop (u+1)).Pairwise (·<·):=(by rw [← List.drop_eq_getElem_cons hul];exact hM.sublist (List.drop_sublist u M));rw [List.pairwise_cons] at hp;rw [List.drop_eq_getElem_cons hul] at hx;have h0:=hb M[u] (by rw [List.drop_eq_getElem_cons hul];exact List.mem_cons_self ..);rcases List.mem_cons.1 hx with e2 | e2
      ·rw [← e2,g]
      ·have:=hp.1 x e2;omega
     ·exact ⟨g,h1.2⟩
    have hrest:=ih l u (by omega) hl hu hb2
    rw [hk2] at hrest
    rw [hrest]
    congr 1
    rw [zkP _ _ (zkN (M.drop u))]
    ·rw [List.map_map]
     by_cases hpr:M.length≤u+k
     ·rw [if_pos hpr,ih _ _ (by omega) (by rw [List.length_append,List.length_singleton];omega) hu hb2,hk3]
      congr 1
      funext c
      simp
     ·rw [if_neg hpr,prune u hpr];rfl
    ·intro c hc
     rw [Bool.eq_iff_iff,zkO,zkO]
     constructor
     ·intro h x hx
      rcases List.mem_cons.1 (h x hx) with g | g
      ·have:=hb2 x hx;omega
      ·exact g
     ·intro h x hx
      exact List.mem_cons_of_mem _ (h x hx)
def zkR (n m:Nat)(M:List Int):List (List Int):=(cmb n m n).filter (zkN M)
theorem zkS {n m:Nat}{M:List Int}(hM:M.Pairwise (·<·))(hb:∀ x∈M,0≤x∧x<(n:Int)):cho n m M n [] 0=zkR n m M:=by
 rw [zkQ hM n [] 0 (Nat.le_refl _) (Nat.zero_le _) (Nat.zero_le _) (fun x hx=>by rw [Nat.sub_self];exact hb x hx)];unfold zkR;simp
def nx (l:List Int):Int:=(l.getLast?.map (·+1)).getD 0
end
section
open Go.RowKit Go.Lib
def zkT (n:Nat)(l:List Int)(k:Nat):Int :=
 if (l[k]?).getD 0<0∨(n:Int)≤(l[k]?).getD 0 then 3 else if 0<k∧(l[k]?).getD 0≤(l[k - 1]?).getD 0 then 6 else 0
def zkU (n:Nat)(l:List Int)(k:Nat):Nat→Int
 | 0=>0
 | m+1=>if zkT n l k=0 then zkU n l (k+1) m else zkT n l k
def zkV (n:Nat)(l:List Int):Int:=if l=[] then 13 else zkU n l 0 l.length
theorem zkW {n:Nat}{l:List Int}{k:Nat}(hk:k<l.length)(h:zkT n l k=0):zkU n l k (l.length - k)=zkU n l (k+1) (l.length - (k+1)):=by
 rw [show l.length - k=(l.length - (k+1))+1 by omega,zkU,if_pos h]
theorem zkX {n:Nat}{l:List Int}{k:Nat}(hk:k<l.length)(h:zkT n l k ≠ 0):zkU n l k (l.length - k)=zkT n l k:=by
 rw [show l.length - k=(l.length - (k+1))+1 by omega,zkU,if_neg h]
theorem sub_all {n:Nat}{l:List Int}:∀ (m k:Nat),zkU n l k m=0→∀ i,k≤i→i<k+m→zkT n l i=0
 | 0,k,_,i,h1,h2=>by omega
 | m+1,k,h,i,h1,h2=>by
  rw [zkU] at h;by_cases e:zkT n l k=0
  ·rw [if_pos e] at h;by_cases hi:i=k
   ·rw [hi];exact e
   ·exact sub_all m (k+1) h i (by omega) (by omega)
  ·rw [if_neg e] at h;exact absurd h e
theorem zkY {n:Nat}{l:List Int}{k:Nat}(h:zkT n l k=0):(0≤(l[k]?).getD 0∧(l[k]?).getD 0<(n:Int))∧(0<k→(l[k - 1]?).getD 0<(l[k]?).getD 0):=by
 unfold zkT at h;split at h
 ·cases h
 ·split at h
  ·cases h
  ·rename_i h1 h2;exact ⟨by omega,fun hk=>by omega⟩
theorem zkZ {n:Nat}{l:List Int}(h:zkU n l 0 l.length=0):(∀ x∈l,0≤x∧x<(n:Int))∧l.Pairwise (·<·):=by
 have ha:=fun i (hi:i<l.length)=>zkY (sub_all l.length 0 h i (Nat.zero_le _) (by omega));refine ⟨fun x hx=>?_,?_⟩
 ·obtain ⟨i,hi,rfl⟩:=List.mem_iff_getElem.1 hx;have:=(ha i hi).1;rw [List.getElem?_eq_getElem hi] at this;exact this
 ·rw [List.pairwise_iff_getElem];have key:∀ d i (hi:i+d+1<l.length),l[i]'(by omega)<l[i+d+1]:=by
   intro d;induction d with
   | zero =>
    intro i hi
    have:=(ha (i+1) hi).2 (by omega)
    rw [Nat.add_sub_cancel,List.getElem?_eq_getElem hi,List.getElem?_eq_getElem (by omega)] at this
    exact this
   | succ d ih =>
    intro i hi
    have h1:=ih i (by omega)
    have:=(ha (i+d+1+1) hi).2 (by omega)
    rw [Nat.add_sub_cancel,List.getElem?_eq_getElem (show i+d+1+1<l.length by omega),List.getElem?_eq_getElem (show i+d+1<l.length by omega)] at this
    exact Int.lt_trans h1 this
  intro i j hi hj hij;obtain ⟨d,rfl⟩:∃ d,j=i+d+1:=⟨j - i - 1,by omega⟩;exact key d i hj
def zla (n:Nat)(l:List Int):List Int:=l.tail++[l.headD 0+(n:Int)]
def zlb (p:List Int)(N:List (List Rat))(l:List Int):List (List Rat):=(zla N.length l).map fun k=>zex (nt p N k) (nt p N (l.headD 0))
theorem zlc (n:Nat){l:List Int}(h:l ≠ []):(zla n l).length=l.length:=by
 cases l with
 | nil=>exact absurd rfl h
 | cons a l=>simp [zla]
theorem zld {n:Nat}{l:List Int}(h:l ≠ [])(hb:∀ x∈l,0≤x∧x<(n:Int))(hu:l.Pairwise (·<·)):(l.headD 0::zla n l).Pairwise (·<·):=by
 cases l with
 | nil=>exact absurd rfl h
 | cons a l =>
  unfold zla
  simp only [List.headD_cons,List.tail_cons]
  rw [List.pairwise_cons] at hu
  rw [List.pairwise_cons,List.pairwise_append]
  have ha:=hb a (List.mem_cons_self ..)
  refine ⟨fun x hx=>?_,hu.2,List.pairwise_singleton _ _,fun x hx y hy=>?_⟩
  ·rcases List.mem_append.1 hx with e | e
   ·exact hu.1 x e
   ·rw [List.mem_singleton] at e;omega
  ·rw [List.mem_singleton] at hy
   have:=hb x (List.mem_cons_of_mem _ hx)
   omega
theorem zle {p:List Int}{N:List (List Rat)}(h:Wd p N){l:List Int}(hl:l ≠ [])(hl10:l.length≤60)(hb:∀ x∈l,0≤x∧x<(N.length:Int))(hu:l.Pairwise (·<·)):Wd p (zlb p N l) :=
 h.pick (l.headD 0) (zla N.length l) (by rw [zlc _ hl];exact hl10) (zld hl hb hu) (by
  unfold zla;rw [List.length_append,List.length_singleton,Nat.add_sub_cancel,List.getElem?_append_right (Nat.le_refl _),Nat.sub_self];rfl)
theorem zlf (b off c:Nat)(l:List Int)(w:World)(hl:l.length≤1000000)(hc:∀ j z,l[j]?=some z→w.cell? ⟨b,off+j,none⟩=some (.int .i64 z)) :
  Calls Tryz.prog 37 #[.slice (some ⟨b,off,none⟩) l.length c] w fun e w'=>∃ u,e=.returned u∧zfi w' w.heap.size u l∧u ≠ .slice none 0 0∧Ext w w':=by
 obtain ⟨i0,hi,hz0,hz1,hz2⟩:=info_parts zfh;have hcell:∀ j u,(zaq l)[j]?=some u→w.cell? ⟨b,off+j,none⟩=some u:=fun j u hu=>by
  unfold zaq at hu;rw [List.getElem?_map] at hu
  cases hz:l[j]? with
  | none=>rw [hz] at hu;cases hu
  | some z=>rw [hz] at hu;cases hu;exact hc j z hz
 refine (AnyE.slices_Clone Tryz.lCloneI i0 (.int .i64 0) 1 8 hi hz0 hz1 hz2 rfl (by decide) Tryz.sizeOf3 b off l.length c (zaq l) w (by rw [zas];omega) (by unfold maxLen;omega) (by omega) hcell (by simp [zaq,Value.oneCell'])).mono fun e w' ⟨v',he,ho,hn,hb⟩=>⟨v',he,ho,hn,hb⟩
end
section
def zlg (n:Nat):List Int:=(List.range n).map fun (i:Nat)=>(i:Int)
theorem zlh {n:Nat}(h0:0<n):zla n (zlg n)=(List.range n).map fun (i:Nat)=>(0:Int)+(i:Int)+1:=by
 obtain ⟨m,rfl⟩:∃ m,n=m+1:=⟨n - 1,by omega⟩;have e:zlg (m+1)=0::(List.range m).map fun (i:Nat)=>(i:Int)+1:=by
  unfold zlg;rw [List.range_succ_eq_map,List.map_cons,List.map_map];rfl
 unfold zla;rw [e,List.tail_cons,List.headD_cons,List.range_succ,List.map_append];have e2:((List.range m).map fun (i:Nat)=>(i:Int)+1)=(List.range m).map fun (i:Nat)=>(0:Int)+(i:Int)+1:=List.map_congr_left fun i _=>by omega
 rw [e2,List.map_singleton,show (0:Int)+((m+1:Nat):Int)=0+(m:Int)+1 by omega]
section
variable {p : List Int} {N : List (List Rat)} (h : Wd p N)
include h
omit h in
theorem zli {i:Nat}(hi:i<N.length):N[i]?=some (zat p N (i+1)):=by
 unfold zat;rw [List.getElem?_cons_succ,List.getElem?_eq_getElem hi,Option.getD_some]
theorem Wd.md_zero : md p N 0=N:=by
 refine List.ext_getElem? fun i=>?_;by_cases hi:i<N.length
 ·have e:(0:Int)+(i:Int)+1=((i+1:Nat):Int):=by omega
  have hz:=ziD (nt p N ((i+1:Nat):Int));rw [h.ntlen] at hz;rw [ziV hi,e,h.nt_zero,hz,h.nt_low (by omega),zli (p:=p) hi]
 ·rw [List.getElem?_eq_none (by rw [ziU];omega),List.getElem?_eq_none (by omega)]
theorem Wd.sub_all : zlb p N (zlg N.length)=N:=by
 have h0:=h.pos;have e:(zlg N.length).headD 0=0:=by
  obtain ⟨m,hm⟩:∃ m,N.length=m+1:=⟨N.length - 1,by omega⟩;rw [hm];unfold zlg;rw [List.range_succ_eq_map];rfl
 unfold zlb;rw [zlh h0,e];exact h.md_zero
end
end
end Go.Proofs.YtebabancfnmfjaaGreatDoor
