/- Remainder, scale.reduce, scale.Reduce and scale.Find where the rest has a number of more than 30 digits: ErrLimit. (Printed by wip/flx.py.) (Printed by wip/cku.py.) Walks: whole.Check and fraction.Check at any strings of at most 40 bytes. -/
import Derived.Test.YtbkfhacmekbniaaGreatDoorPa29
import Derived.Test.YtbkfhacmekbniaaGreatDoorPa07
set_option maxRecDepth 100000
set_option maxHeartbeats 4000000
namespace Go.Proofs.YtbkfhacmekbniaaGreatDoor
section
open Go.RowKit Go.Lib Go.Shelf
attribute [local go_sem] Oper.semAt_some
theorem zph {r:Rat}(h:¬ Ft 30 r):zfD r=false:=by
 cases hb:zfD r with
 | false=>rfl
 | true =>
  unfold zfD at hb
  rw [Bool.and_eq_true,decide_eq_true_eq,decide_eq_true_eq] at hb
  exact absurd ⟨hb.1,hb.2⟩ h
def zpi (w:World)(v6 v7:Value)(wx:World):Prop:=v6=.slice none 0 0∧v7=.int .i64 4∧Ext w wx
def zpj (w:World)(v6:Value)(wx:World):Prop:=v6=.int .i64 4∧Ext w wx
theorem zpk (v:Value)(x:List Rat)(w:World)(hv:Rd w v x)(hl:x.length≤1000)(hall:∀ r∈x,Ft 100000 r)(hx:∃ r∈x,¬ Ft 30 r) :
  Calls Tryz.prog 104 #[v] w fun e w'=>e=.returned (.tuple #[.slice none 0 0,.int .i64 4])∧Ext w w':=by
 have h:=zfL v x w hv hl hall;have hf:x.any (fun r=>!zfD r)=true:=by
  rw [List.any_eq_true];obtain ⟨r,hr,hn⟩:=hx;exact ⟨r,hr,by rw [zph hn];rfl⟩
 rw [hf] at h;obtain ⟨a,c,rfl,_,_,_⟩:=hv.parts;have H:=hid h;clear h;clear hv hx hf hall;go_enter Tryz.func104,Tryz.ntmps104
 go_wp2_with fail
 refine (H.out).mono ?_;rintro e w1 ⟨rfl,hx1⟩;have Hx1:=hid hx1;clear hx1;go_wp2
 go_ret2
 exact ⟨rfl,Hx1.out⟩
theorem zpl (vp va vb:Value)(p:List Int)(a0:Rat)(tl:List Rat)(w:World)(he:Env w)(hp:Sl w vp (zak p))(ha:Rd w va (a0::tl))(hb:Rd w vb (ov tl.length))(hpe:zee p=0)(hpr:Pr p (tl.length+1))(hf:∀ q∈a0::tl,Ft 30 q)(hrv:zhf w)(hk:Ft 400 ((-flN p (a0::tl):Int):Rat))(hfl:Fit (flN p (a0::tl)))
  (hall:∀ q∈zeU (a0::tl) (zeW (ov tl.length) ((-flN p (a0::tl):Int):Rat)),Ft 100000 q) (hres:∃ q∈zeU (a0::tl) (zeW (ov tl.length) ((-flN p (a0::tl):Int):Rat)),¬ Ft 30 q) :
  Calls Tryz.prog 84 #[vp,va,vb] w fun e w'=>e=.returned (.tuple #[.slice none 0 0,.int .i64 4])∧Ext w w':=by
 have hpl:=ziD hpr;have hpl3:p.length≤3:=by rcases hpr with ⟨rfl,_⟩ | ⟨rfl,_⟩ <;> simp
 have hua:=zfA ha;have hub:=zfA hb;have h1:=zjd vp va vb p (a0::tl) tl.length w he hp ha hb hpe hpr rfl hf;have h2:=fun W (h:Ext w W)=>zno vp va vb p a0 tl W (he.ext h) (h.sl hp) (h.rd ha) (h.rd hb) hpr hf (hrv.ext h);have h3:=fun W=>zdb (flN p (a0::tl)) W hfl;have hxl:(a0::tl).length=p.length:=by rw [hpl];rfl
 have hyl:(ov tl.length).length=p.length:=by rw [hpl,ziF]
 have hsum:zhT p.length [a0::tl,ov tl.length] [1,((-flN p (a0::tl):Int):Rat)] 2=zeU (a0::tl) (zeW (ov tl.length) ((-flN p (a0::tl):Int):Rat)):=zjc _ hxl hyl;have hsl:(zeU (a0::tl) (zeW (ov tl.length) ((-flN p (a0::tl):Int):Rat))).length=p.length:=by unfold zeU zeW;rw [List.length_zipWith,List.length_map,hxl,hyl,Nat.min_self]
 have hco:∀ W vl vf,Ext w W→RdM W vl [⟨a0::tl,va,hua⟩,⟨ov tl.length,vb,hub⟩]→Rd W vf [1,((-flN p (a0::tl):Int):Rat)]→Calls Tryz.prog 105 #[.int .i64 (p.length:Int),vl,vf] W fun e w'=>∃ g,e=.returned (.slice (some ⟨g,0,none⟩) p.length p.length)∧zf6 w' W.heap.size (.slice (some ⟨g,0,none⟩) p.length p.length) (zeU (a0::tl) (zeW (ov tl.length) ((-flN p (a0::tl):Int):Rat)))∧Ext W w':=by
  intro W vl vf hE hl hff;have:=zim p.length vl vf [⟨a0::tl,va,hua⟩,⟨ov tl.length,vb,hub⟩] [1,((-flN p (a0::tl):Int):Rat)] W (he.ext hE) hl hff (by omega) (by simp) (by simp) (by
   intro r hr;rcases List.mem_cons.1 hr with rfl | hr
   ·exact ⟨hxl,fun q h=>(hf q h).mono (by omega)⟩
   ·rw [List.mem_singleton] at hr;subst hr;exact ⟨hyl,fun q h=>(ziE q h).mono (by omega)⟩) (by
   intro f hf;simp only [List.mem_cons,List.not_mem_nil,or_false] at hf;rcases hf with rfl | rfl
   ·exact zis
   ·exact hk)
  change Calls _ _ _ _ fun e w'=>e=.returned (.slice (some ⟨W.heap.size,0,none⟩) p.length p.length)∧zf6 w' W.heap.size (.slice (some ⟨W.heap.size,0,none⟩) p.length p.length) (zhT p.length [a0::tl,ov tl.length] [1,((-flN p (a0::tl):Int):Rat)] 2)∧Ext W w' at this;rw [hsum] at this;exact this.mono fun e w' h=>⟨_,h⟩
 have hre:=fun W v (hv:Rd W v (zeU (a0::tl) (zeW (ov tl.length) ((-flN p (a0::tl):Int):Rat))))=>zpk v _ W hv (by rw [hsl];omega) hall hres;have hn1:=fun W (h:Ext w W)=>zfC 1 W (he.ext h) (by omega) (by omega);rw [zfB] at hn1;have hone:rcs [1,((-flN p (a0::tl):Int):Rat)]=[.string (I 1),.string ⟨#[49]⟩,.string (I (-flN p (a0::tl))),.string ⟨#[49]⟩]:=by
  show [Value.string (I 1),.string (I ((1:Nat):Int)),.string (I _),.string (I _)]=_;have e:=zfB (-flN p (a0::tl));unfold Rv at e;injection e with e;have e2:([.string (I ((-flN p (a0::tl):Int):Rat).num),.string (I ((((-flN p (a0::tl):Int):Rat).den:Nat):Int))]:List Value)=[.string (I (-flN p (a0::tl))),.string ⟨#[49]⟩]:=by injection e
  injection e2 with e3 e4;injection e4 with e4 _;rw [e3,e4,zav,zbl]
 generalize zeU (a0::tl) (zeW (ov tl.length) ((-flN p (a0::tl):Int):Rat))=r at *;generalize ((-flN p (a0::tl):Int):Rat)=kq at *;have hra:=fun W (h:Ext w W)=>h.rd ha;have hrb:=fun W (h:Ext w W)=>h.rd hb;generalize I (-flN p (a0::tl))=sk at *;generalize I (flN p (a0::tl))=sf at *;generalize I 1=s1 at *;have hol:=ziF tl.length;obtain ⟨ap,cp,rfl,_,_,_⟩:=hp.parts;obtain ⟨aa,ca,rfl,_,_,_⟩:=ha.parts;obtain ⟨ab,cb,rfl,_,_,_⟩:=hb.parts;rw [zam] at h1 h2 ⊢;clear hp ha hb he hpe hpr hf hrv hk hfl hres hall hsum hxl hyl hpl hpl3 hol;generalize (a0::tl).length=n1 at *;generalize (ov tl.length).length=n2 at *;have H1:=hid h1;have H2:=hid h2;have H3:=hid h3;have Hco:=hid hco;have Hre:=hid hre;have Hn1:=hid hn1;have Hone:=hid hone;have Hra:=hid hra;have Hrb:=hid hrb;have Hsl:=hid hsl;clear h1 h2 h3 hco hre hn1 hone hra hrb hsl;go_enter Tryz.func84,Tryz.ntmps84
 go_wp2_with fail
 refine (H1.out).mono ?_;rintro e w1 ⟨rfl,hx1⟩;have Hx1:=hid hx1;clear hx1;go_wp2_with fail
 refine (H2.out w1 Hx1.out).mono ?_;rintro e w2 ⟨rfl,hx2⟩;have Hx2:=hid (Hx1.out.trans hx2);clear hx2;go_wp2_with fail
 refine (H3.out w2).mono ?_;rintro e w3 ⟨rfl,hx3⟩;have Hx3:=hid (Hx2.out.trans hx3);clear hx3;have b9:=zdK.new w3 (.string sk) (.string ⟨#[49]⟩);have hE:=Hx3.out.alloc (.cells #[.string sk,.string ⟨#[49]⟩] 60);have hs3:w3.heap.size<(w3.alloc (.cells #[.string sk,.string ⟨#[49]⟩] 60)).heap.size:=by simp
 go_wp2_with fail
 generalize w3.alloc (.cells #[.string sk,.string ⟨#[49]⟩] 60)=V at *;generalize w3.heap.size=b at *;have hc0:=b9.c0;have hc1:=b9.c1;have HE:=hid hE;have B9:=hid b9;clear hE b9;go_upto_region 5 with (fail)
 go_cut [6,7] (fun v6 v7 wx=>zpi w v6 v7 wx)
 case first =>
  go_region_held3 (fun w'=>Ext V w'∧w'.cell? ⟨b,0,none⟩=some (.string sk)∧w'.cell? ⟨b,1,none⟩=some (.string ⟨#[49]⟩))
   (first | (with_reducible assumption) | exact ⟨(Ext.refl V).drew,hc0,hc1⟩ | exact ⟨Ext.trans (And.left (by assumption)) hxa,Ext.cell hxa (And.left (And.right (by assumption))),Ext.cell hxa (And.right (And.right (by assumption)))⟩ | exact ⟨Ext.alloc (And.left (by assumption)) _,Ext.cell ((Ext.refl _).alloc _) (And.left (And.right (by assumption))),Ext.cell ((Ext.refl _).alloc _) (And.right (And.right (by assumption)))⟩)
   (first
    | (go_at_call 96;refine (Hn1.out _ (HE.out.trans (And.left (by assumption)))).mono ?_;rintro e9 VA ⟨rfl,hxa⟩;have HxA:=hid hxa)
    | (go_at_call 105
       have hck:Hid (Ext (V.alloc (.cells #[.slice aa n1 ca,.slice ab n2 cb] 32)).drew VA):=by with_reducible assumption
       clear hck
       have hbc:((V.alloc (.cells #[.slice aa n1 ca,.slice ab n2 cb] 32)).drew).heap[V.heap.size]?=some (.cells ([.slice aa n1 ca,.slice ab n2 cb]:List Value).toArray 32 (0,0)):=World.alloc_heap_new V _
       have hE0:Ext V VA:=(((Ext.refl V).alloc (.cells #[.slice aa n1 ca,.slice ab n2 cb] 32)).drew).trans HxA.out
       have hx3:Ext VA (VA.alloc (.cells #[.string s1,.string ⟨#[49]⟩,.string sk,.string ⟨#[49]⟩] 60)):=(Ext.refl VA).alloc _
       have hE3:Ext w (VA.alloc (.cells #[.string s1,.string ⟨#[49]⟩,.string sk,.string ⟨#[49]⟩] 60)):=(HE.out.trans hE0).trans hx3
       have hl3:RdM (VA.alloc (.cells #[.string s1,.string ⟨#[49]⟩,.string sk,.string ⟨#[49]⟩] 60)) (.slice (some ⟨V.heap.size,0,none⟩) 2 2) [⟨a0::tl,.slice aa n1 ca,hua⟩,⟨ov tl.length,.slice ab n2 cb,hub⟩] :=
         ⟨zin ((HxA.out.trans hx3).heap hbc) (by unfold maxLen;simp),by
           intro r hr;rcases List.mem_cons.1 hr with rfl | hr
           · exact Hra.out _ hE3
           · rw [List.mem_singleton] at hr;subst hr;exact Hrb.out _ hE3⟩
       have hf3:Rd (VA.alloc (.cells #[.string s1,.string ⟨#[49]⟩,.string sk,.string ⟨#[49]⟩] 60)) (.slice (some ⟨VA.heap.size,0,none⟩) 2 2) [1,kq] :=
         zio (x:=[1,kq]) (by rw [Hone.out];exact World.alloc_heap_new VA _) (by unfold maxLen;simp)
       refine (Hco.out _ _ _ hE3 hl3 hf3).mono ?_
       rintro e9 VB ⟨g,rfl,ho,hxa⟩
       have HoB:=hid (ho.mono hE3.size)
       have HEB:=hid (hE3.trans hxa)
       have hEV:=(hE0.trans hx3).trans hxa
       have hS2:Ext V VB∧VB.cell? ⟨b,0,none⟩=some (.string sk)∧VB.cell? ⟨b,1,none⟩=some (.string ⟨#[49]⟩):=⟨hEV,hEV.cell hc0,hEV.cell hc1⟩
       have HEV:=hid hEV
       clear hl3 hf3 hbc ho hE0 hx3 hE3 hEV hxa)
    | (go_at_call 105
       have hck2:Ext V ((VA.alloc (.cells #[.slice aa n1 ca,.slice ab n2 cb] 32)).alloc (.cells #[.string s1,.string ⟨#[49]⟩,.string sk,.string ⟨#[49]⟩] 60))∧((VA.alloc (.cells #[.slice aa n1 ca,.slice ab n2 cb] 32)).alloc (.cells #[.string s1,.string ⟨#[49]⟩,.string sk,.string ⟨#[49]⟩] 60)).cell? ⟨b,0,none⟩=some (.string sk)∧((VA.alloc (.cells #[.slice aa n1 ca,.slice ab n2 cb] 32)).alloc (.cells #[.string s1,.string ⟨#[49]⟩,.string sk,.string ⟨#[49]⟩] 60)).cell? ⟨b,1,none⟩=some (.string ⟨#[49]⟩):=by with_reducible assumption
       clear hck2
       have hbc:(VA.alloc (.cells #[.slice aa n1 ca,.slice ab n2 cb] 32)).heap[VA.heap.size]?=some (.cells ([.slice aa n1 ca,.slice ab n2 cb]:List Value).toArray 32 (0,0)):=World.alloc_heap_new VA _
       have hE0:Ext V (VA.alloc (.cells #[.slice aa n1 ca,.slice ab n2 cb] 32)):=(((Ext.refl V).drew).trans HxA.out).alloc _
       have hx3:Ext (VA.alloc (.cells #[.slice aa n1 ca,.slice ab n2 cb] 32)) ((VA.alloc (.cells #[.slice aa n1 ca,.slice ab n2 cb] 32)).alloc (.cells #[.string s1,.string ⟨#[49]⟩,.string sk,.string ⟨#[49]⟩] 60)):=(Ext.refl _).alloc _
       have hE3:Ext w ((VA.alloc (.cells #[.slice aa n1 ca,.slice ab n2 cb] 32)).alloc (.cells #[.string s1,.string ⟨#[49]⟩,.string sk,.string ⟨#[49]⟩] 60)):=(HE.out.trans hE0).trans hx3
       have hl3:RdM ((VA.alloc (.cells #[.slice aa n1 ca,.slice ab n2 cb] 32)).alloc (.cells #[.string s1,.string ⟨#[49]⟩,.string sk,.string ⟨#[49]⟩] 60)) (.slice (some ⟨VA.heap.size,0,none⟩) 2 2) [⟨a0::tl,.slice aa n1 ca,hua⟩,⟨ov tl.length,.slice ab n2 cb,hub⟩] :=
         ⟨zin (hx3.heap hbc) (by unfold maxLen;simp),by
         intro r hr
         rcases List.mem_cons.1 hr with rfl | hr
         · exact Hra.out _ hE3
         · rw [List.mem_singleton] at hr;subst hr;exact Hrb.out _ hE3⟩
       have hf3:Rd ((VA.alloc (.cells #[.slice aa n1 ca,.slice ab n2 cb] 32)).alloc (.cells #[.string s1,.string ⟨#[49]⟩,.string sk,.string ⟨#[49]⟩] 60)) (.slice (some ⟨VA.heap.size+1,0,none⟩) 2 2) [1,kq] :=
         zio (x:=[1,kq]) (by rw [Hone.out];have:=World.alloc_heap_new (VA.alloc (.cells #[.slice aa n1 ca,.slice ab n2 cb] 32)) (.cells #[.string s1,.string ⟨#[49]⟩,.string sk,.string ⟨#[49]⟩] 60);rwa [World.size_alloc] at this) (by unfold maxLen;simp)
       refine (Hco.out _ _ _ hE3 hl3 hf3).mono ?_
       rintro e9 VB ⟨g,rfl,ho,hxa⟩
       have HoB2:=hid (ho.mono hE3.size)
       have HEB2:=hid (hE3.trans hxa)
       have hEV:=(hE0.trans hx3).trans hxa
       have hS2:Ext V VB∧VB.cell? ⟨b,0,none⟩=some (.string sk)∧VB.cell? ⟨b,1,none⟩=some (.string ⟨#[49]⟩):=⟨hEV,hEV.cell hc0,hEV.cell hc1⟩
       have HEV2:=hid hEV
       clear hl3 hf3 hbc ho hE0 hx3 hE3 hEV hxa)
    | (go_at_call 105
       have hck2:Ext V ((VA.alloc (.cells #[.string s1,.string ⟨#[49]⟩,.string sk,.string ⟨#[49]⟩] 60)).alloc (.cells #[.slice aa n1 ca,.slice ab n2 cb] 32))∧((VA.alloc (.cells #[.string s1,.string ⟨#[49]⟩,.string sk,.string ⟨#[49]⟩] 60)).alloc (.cells #[.slice aa n1 ca,.slice ab n2 cb] 32)).cell? ⟨b,0,none⟩=some (.string sk)∧((VA.alloc (.cells #[.string s1,.string ⟨#[49]⟩,.string sk,.string ⟨#[49]⟩] 60)).alloc (.cells #[.slice aa n1 ca,.slice ab n2 cb] 32)).cell? ⟨b,1,none⟩=some (.string ⟨#[49]⟩):=by with_reducible assumption
       clear hck2
       have hbc:(VA.alloc (.cells #[.string s1,.string ⟨#[49]⟩,.string sk,.string ⟨#[49]⟩] 60)).heap[VA.heap.size]?=some (.cells (rcs [1,kq]).toArray 60 (0,0)):=by rw [Hone.out];exact World.alloc_heap_new VA _
       have hE0:Ext V (VA.alloc (.cells #[.string s1,.string ⟨#[49]⟩,.string sk,.string ⟨#[49]⟩] 60)):=(((Ext.refl V).drew).trans HxA.out).alloc _
       have hx3:Ext (VA.alloc (.cells #[.string s1,.string ⟨#[49]⟩,.string sk,.string ⟨#[49]⟩] 60)) ((VA.alloc (.cells #[.string s1,.string ⟨#[49]⟩,.string sk,.string ⟨#[49]⟩] 60)).alloc (.cells #[.slice aa n1 ca,.slice ab n2 cb] 32)):=(Ext.refl _).alloc _
       have hE3:Ext w ((VA.alloc (.cells #[.string s1,.string ⟨#[49]⟩,.string sk,.string ⟨#[49]⟩] 60)).alloc (.cells #[.slice aa n1 ca,.slice ab n2 cb] 32)):=(HE.out.trans hE0).trans hx3
       have hl3:RdM ((VA.alloc (.cells #[.string s1,.string ⟨#[49]⟩,.string sk,.string ⟨#[49]⟩] 60)).alloc (.cells #[.slice aa n1 ca,.slice ab n2 cb] 32)) (.slice (some ⟨VA.heap.size+1,0,none⟩) 2 2) [⟨a0::tl,.slice aa n1 ca,hua⟩,⟨ov tl.length,.slice ab n2 cb,hub⟩] :=
         ⟨zin (us:=[.slice aa n1 ca,.slice ab n2 cb]) (by have:=World.alloc_heap_new (VA.alloc (.cells #[.string s1,.string ⟨#[49]⟩,.string sk,.string ⟨#[49]⟩] 60)) (.cells #[.slice aa n1 ca,.slice ab n2 cb] 32);rwa [World.size_alloc] at this) (by unfold maxLen;simp),by
         intro r hr
         rcases List.mem_cons.1 hr with rfl | hr
         · exact Hra.out _ hE3
         · rw [List.mem_singleton] at hr;subst hr;exact Hrb.out _ hE3⟩
       have hf3:Rd ((VA.alloc (.cells #[.string s1,.string ⟨#[49]⟩,.string sk,.string ⟨#[49]⟩] 60)).alloc (.cells #[.slice aa n1 ca,.slice ab n2 cb] 32)) (.slice (some ⟨VA.heap.size,0,none⟩) 2 2) [1,kq] :=
         zio (x:=[1,kq]) (hx3.heap hbc) (by unfold maxLen;simp)
       refine (Hco.out _ _ _ hE3 hl3 hf3).mono ?_
       rintro e9 VB ⟨g,rfl,ho,hxa⟩
       have HoB2:=hid (ho.mono hE3.size)
       have HEB2:=hid (hE3.trans hxa)
       have hEV:=(hE0.trans hx3).trans hxa
       have hS2:Ext V VB∧VB.cell? ⟨b,0,none⟩=some (.string sk)∧VB.cell? ⟨b,1,none⟩=some (.string ⟨#[49]⟩):=⟨hEV,hEV.cell hc0,hEV.cell hc1⟩
       have HEV2:=hid hEV
       clear hl3 hf3 hbc ho hE0 hx3 hE3 hEV hxa)
    | (go_at_call 104;refine (Hre.out _ _ HoB.out.rd).mono ?_;rintro e9 VC ⟨rfl,hxa⟩;have HEC:=hid (HEB.out.trans hxa);have hS3:Ext V VC∧VC.cell? ⟨b,0,none⟩=some (.string sk)∧VC.cell? ⟨b,1,none⟩=some (.string ⟨#[49]⟩):=⟨HEV.out.trans hxa,(HEV.out.trans hxa).cell hc0,(HEV.out.trans hxa).cell hc1⟩;clear hxa hS2)
    | (go_at_call 104;refine (Hre.out _ _ HoB2.out.rd).mono ?_;rintro e9 VC ⟨rfl,hxa⟩;have HEC:=hid (HEB2.out.trans hxa);have hS3:Ext V VC∧VC.cell? ⟨b,0,none⟩=some (.string sk)∧VC.cell? ⟨b,1,none⟩=some (.string ⟨#[49]⟩):=⟨HEV2.out.trans hxa,(HEV2.out.trans hxa).cell hc0,(HEV2.out.trans hxa).cell hc1⟩;clear hxa hS2))
  all_goals
   have Hfin:Hid (zpi w (.slice none 0 0) (.int .i64 4) VC):=hid ⟨rfl,rfl,HEC.out⟩;go_wp2_with fail
   go_meet
   exact Hfin.out
 case rest =>
  obtain ⟨rfl,rfl,hx⟩:=hcut;have Hx:=hid hx;clear hx;go_wp2
  go_ret2
  exact ⟨rfl,Hx.out⟩
theorem zpm (vp va vb:Value)(p:List Int)(a0:Rat)(tl:List Rat)(w:World)(he:Env w)(hp:Sl w vp (zak p))(ha:Rd w va (a0::tl))(hb:Rd w vb (ov tl.length))(hpe:zee p=0)(hpr:Pr p (tl.length+1))(hf:∀ q∈a0::tl,Ft 30 q)(hrv:zhf w)(hk:Ft 400 ((-flN p (a0::tl):Int):Rat))(hfl:Fit (flN p (a0::tl)))
  (hall:∀ q∈zeU (a0::tl) (zeW (ov tl.length) ((-flN p (a0::tl):Int):Rat)),Ft 100000 q) (hres:∃ q∈zeU (a0::tl) (zeW (ov tl.length) ((-flN p (a0::tl):Int):Rat)),¬ Ft 30 q) :
  Calls Tryz.prog 52 #[vp,vb,va] w fun e w'=>e=.returned (.tuple #[.slice none 0 0,.string ⟨#[]⟩,.int .i64 4])∧Ext w w':=by
 have h1:=znp vp va vb p a0 tl w he hp ha hb hpe hpr hf hrv;have h2:=fun W (h:Ext w W)=>zpl vp va vb p a0 tl W (he.ext h) (h.sl hp) (h.rd ha) (h.rd hb) hpe hpr hf (hrv.ext h) hk hfl hall hres;generalize zeU (a0::tl) (zeW (ov tl.length) ((-flN p (a0::tl):Int):Rat))=r at *;generalize I (flN p (a0::tl))=sf at *;obtain ⟨ap,cp,rfl,_,_,_⟩:=hp.parts;obtain ⟨aa,ca,rfl,_,_,_⟩:=ha.parts;obtain ⟨ab,cb,rfl,_,_,_⟩:=hb.parts;clear hp ha hb he hpe hpr hf hrv hk hfl hres hall;have H1:=hid h1;have H2:=hid h2;clear h1 h2;go_enter Tryz.func52,Tryz.ntmps52
 go_wp2_with fail
 refine (H1.out).mono ?_;rintro e w1 ⟨rfl,hx1⟩;have Hx1:=hid hx1;clear hx1;go_wp2_with fail
 refine (H2.out w1 Hx1.out).mono ?_;rintro e w2 ⟨rfl,hx2⟩;have Hx2:=hid (Hx1.out.trans hx2);clear hx2;go_wp2
 exact bodyPost_ret (by simp [results,Tryz.results52,go_sem]) rfl ⟨rfl,Hx2.out⟩
theorem zpn (v va:Value)(p:List Int)(rs:List Qw)(n:Nat)(r:Qw)(a0:Rat)(tl:List Rat)(w:World)(he:Env w)(hv:ScV w v p rs)(h:zjm p rs)(hn:rs.length=n+1)(hr:rs[n]?=some r)(hro:r.x=ov tl.length)
  (ha:Rd w va (a0::tl)) (hpr:Pr p (tl.length+1)) (hf:∀ q∈a0::tl,Ft 30 q) (hrv:zhf w) (hk:Ft 400 ((-flN p (a0::tl):Int):Rat)) (hfl:Fit (flN p (a0::tl)))
  (hall:∀ q∈zeU (a0::tl) (zeW (ov tl.length) ((-flN p (a0::tl):Int):Rat)),Ft 100000 q) (hres:∃ q∈zeU (a0::tl) (zeW (ov tl.length) ((-flN p (a0::tl):Int):Rat)),¬ Ft 30 q) :
  Calls Tryz.prog 17 #[v,va] w fun e w'=>e=.returned (.tuple #[.slice none 0 0,.string ⟨#[]⟩,.int .i64 4])∧Ext w w':=by
 have hpl:=ziD hpr;have h60:=h.most;have h1:=fun W (hE:Ext w W)=>zjo v va p rs (a0::tl) W (he.ext hE) (hv.ext hE) h (hE.rd ha) (by rw [hpl];rfl) hf;have h2:=fun W (hE:Ext w W)=>zjk v p rs n r W (hv.ext hE) hn (by omega) hr;obtain ⟨vp,vn,rfl,hp,hs,hm⟩:=hv;have hmr:=hm r (List.mem_of_getElem? hr);rw [hro] at hmr;have h3:=fun W (hE:Ext w W)=>zpm vp va r.u p a0 tl W (he.ext hE) (hE.sl hp) (hE.rd ha) (hE.rd hmr) h.pe hpr hf (hrv.ext hE) hk hfl hall hres;generalize zeU (a0::tl) (zeW (ov tl.length) ((-flN p (a0::tl):Int):Rat))=z at *;generalize I (flN p (a0::tl))=sf at *;obtain ⟨ap,cp,rfl,_,_,_⟩:=hp.parts;obtain ⟨an,cn,rfl,_,_,_⟩:=hs.parts;obtain ⟨aa,ca,rfl,_,_,_⟩:=ha.parts;obtain ⟨ar,cr,hru,_,_,_⟩:=hmr.parts;rw [hru] at h2 h3;generalize (zak p).length=n1 at *;generalize (qwc rs).length=n2 at *;generalize (a0::tl).length=n3 at *;generalize (ov tl.length).length=n4 at *;have bx:(w.alloc (.cells #[.slice ap n1 cp,.slice an n2 cn] 36)).heap[w.heap.size]?=some (.cells #[.slice ap n1 cp,.slice an n2 cn] 36 (0,0)):=World.alloc_heap_new w _;have hE0:Ext w (w.alloc (.cells #[.slice ap n1 cp,.slice an n2 cn] 36)):=(Ext.refl w).alloc _;have hbox:∀ W,Ext (w.alloc (.cells #[.slice ap n1 cp,.slice an n2 cn] 36)) W→W.cell? ⟨w.heap.size,0,none⟩=some (.slice ap n1 cp)∧W.cell? ⟨w.heap.size,1,none⟩=some (.slice an n2 cn):=fun W hE=>by
  have hb:=hE.heap bx;unfold World.cell?;dsimp only;rw [hb];exact ⟨rfl,rfl⟩
 clear hp hs hm he h ha hpr hf hrv hk hfl hres hall hmr hru hr hro hn bx hpl h60;have H1:=hid h1;have H2:=hid h2;have H3:=hid h3;have HE0:=hid hE0;have Hbox:=hid hbox;clear h1 h2 h3 hE0 hbox;go_enter Tryz.func17,Tryz.ntmps17
 go_wp2_with fail
 refine (H1.out _ HE0.out).mono ?_;rintro e w1 ⟨rfl,hx1⟩;obtain ⟨q0,q1⟩:=Hbox.out w1 hx1;have Hx1:=hid (HE0.out.trans hx1);clear hx1;go_wp2_with fail
 go_region_held3 (fun w'=>Ext w1 w'∧w'.cell? ⟨w.heap.size,0,none⟩=some (.slice ap n1 cp)∧w'.cell? ⟨w.heap.size,1,none⟩=some (.slice an n2 cn))
  (first | (with_reducible assumption) | exact ⟨(Ext.refl w1).drew,q0,q1⟩)
  (first
   | (go_at_call 53;refine (H2.out _ (Hx1.out.trans (And.left (by assumption)))).mono ?_;rintro e9 VA ⟨rfl,hxa⟩;have hEA:=((Ext.refl w1).drew).trans hxa;have hS2:Ext w1 VA∧VA.cell? ⟨w.heap.size,0,none⟩=some (.slice ap n1 cp)∧VA.cell? ⟨w.heap.size,1,none⟩=some (.slice an n2 cn):=⟨hEA,hEA.cell q0,hEA.cell q1⟩;have HEA:=hid hEA;clear hxa hEA)
   | (go_at_call 52;refine (H3.out _ (Hx1.out.trans HEA.out)).mono ?_;rintro e9 VB ⟨rfl,hxa⟩;have hEB:=HEA.out.trans hxa;have hS3:Ext w1 VB∧VB.cell? ⟨w.heap.size,0,none⟩=some (.slice ap n1 cp)∧VB.cell? ⟨w.heap.size,1,none⟩=some (.slice an n2 cn):=⟨hEB,hEB.cell q0,hEB.cell q1⟩;have HEB:=hid hEB;clear hxa hEB hS2))
 all_goals
  clear hS3 q0 q1;go_wp2
  exact bodyPost_ret (by simp [results,Tryz.results17,go_sem]) rfl ⟨rfl,Hx1.out.trans HEB.out⟩
theorem zpo (v va:Value)(p:List Int)(rs:List Qw)(n:Nat)(r:Qw)(a0:Rat)(tl:List Rat)(w:World)(he:Env w)(hv:ScV w v p rs)(h:zjm p rs)(hn:rs.length=n+1)(hr:rs[n]?=some r)(hro:r.x=ov tl.length)
  (ha:Rd w va (a0::tl)) (hpr:Pr p (tl.length+1)) (hf:∀ q∈a0::tl,Ft 30 q) (hrv:zhf w) (hk:Ft 400 ((-flN p (a0::tl):Int):Rat)) (hfl:Fit (flN p (a0::tl)))
  (hall:∀ q∈zeU (a0::tl) (zeW (ov tl.length) ((-flN p (a0::tl):Int):Rat)),Ft 100000 q) (hres:∃ q∈zeU (a0::tl) (zeW (ov tl.length) ((-flN p (a0::tl):Int):Rat)),¬ Ft 30 q) :
  Calls Tryz.prog 18 #[v,va] w fun e w'=>e=.returned (.tuple #[.int .i64 0,.bool false,.int .i64 4])∧Ext w w':=by
 have hpl:=ziD hpr;have h60:=h.most;have hp3:p.length≤3:=by rcases hpr with ⟨rfl,_⟩ | ⟨rfl,_⟩ <;> simp
 have h1:=fun W (hE:Ext w W)=>zjo v va p rs (a0::tl) W (he.ext hE) (hv.ext hE) h (hE.rd ha) (by rw [hpl];rfl) hf;have h2:=fun W (hE:Ext w W)=>zjk v p rs n r W (hv.ext hE) hn (by omega) hr;obtain ⟨vp,vn,rfl,hp,hs,hm⟩:=hv;have hmr:=hm r (List.mem_of_getElem? hr);rw [hro] at hmr;have h3:=fun W (hE:Ext w W)=>zpm vp va r.u p a0 tl W (he.ext hE) (hE.sl hp) (hE.rd ha) (hE.rd hmr) h.pe hpr hf (hrv.ext hE) hk hfl hall hres;generalize zeU (a0::tl) (zeW (ov tl.length) ((-flN p (a0::tl):Int):Rat))=x at *;generalize flN p (a0::tl)=q at *;generalize hsq:I q=sf at *;obtain ⟨ap,cp,rfl,_,_,_⟩:=hp.parts;obtain ⟨an,cn,rfl,_,_,_⟩:=hs.parts;obtain ⟨aa,ca,rfl,_,_,_⟩:=ha.parts;obtain ⟨ar,cr,hru,_,_,_⟩:=hmr.parts;rw [hru] at h2 h3;rw [zf9] at *;generalize hrn:rs.length=N at *;have hN60:N≤60:=by omega
 generalize (zak p).length=n1 at *;generalize (a0::tl).length=n3 at *;generalize (ov tl.length).length=n4 at *;have bx:(w.alloc (.cells #[.slice ap n1 cp,.slice an N cn] 36)).heap[w.heap.size]?=some (.cells #[.slice ap n1 cp,.slice an N cn] 36 (0,0)):=World.alloc_heap_new w _;have hE0:Ext w (w.alloc (.cells #[.slice ap n1 cp,.slice an N cn] 36)):=(Ext.refl w).alloc _;have hbox:∀ W,Ext (w.alloc (.cells #[.slice ap n1 cp,.slice an N cn] 36)) W→W.cell? ⟨w.heap.size,0,none⟩=some (.slice ap n1 cp)∧W.cell? ⟨w.heap.size,1,none⟩=some (.slice an N cn):=fun W hE=>by
  have hb:=hE.heap bx;unfold World.cell?;dsimp only;rw [hb];exact ⟨rfl,rfl⟩
 clear hp hs hm he h ha hpr hf hrv hk hfl hres hall hmr hru hr hro hn bx hpl h60 hp3 hsq hrn;have H1:=hid h1;have H2:=hid h2;have H3:=hid h3;have HE0:=hid hE0;have Hbox:=hid hbox;clear h1 h2 h3 hE0 hbox;go_enter Tryz.func18,Tryz.ntmps18
 go_wp2_with fail
 refine (H1.out _ HE0.out).mono ?_;rintro e w1 ⟨rfl,hx1⟩;obtain ⟨q0,q1⟩:=Hbox.out w1 hx1;have Hx1:=hid (HE0.out.trans hx1);have H01:=hid hx1;clear hx1;have hSQ:∀ W,Ext w1 W→Ext w1 W∧W.cell? ⟨w.heap.size,0,none⟩=some (.slice ap n1 cp)∧W.cell? ⟨w.heap.size,1,none⟩=some (.slice an N cn):=fun W hE=>⟨hE,hE.cell q0,hE.cell q1⟩;have HSQ:=hid hSQ;clear hSQ;go_upto_region 4 with (fail)
 go_cut [6] (fun v6 wx=>zpj w1 v6 wx)
 case first =>
  go_region_held3 (fun w'=>Ext w1 w'∧w'.cell? ⟨w.heap.size,0,none⟩=some (.slice ap n1 cp)∧w'.cell? ⟨w.heap.size,1,none⟩=some (.slice an N cn))
   (first | (with_reducible assumption) | exact HSQ.out _ (Ext.refl w1).drew | exact HSQ.out _ (((Ext.refl w1).drew).alloc _) | exact HSQ.out _ (HEB.out.setCell (p:=⟨w1.heap.size,0,none⟩) (Nat.le_refl _) _) | exact HSQ.out _ (HEB.out.setCell (p:=⟨VA.heap.size,0,none⟩) HEA.out.size _) | exact HSQ.out _ ((HEB.out.alloc _).setCell (p:=⟨VB.heap.size,0,none⟩) HEB.out.size _) | exact HSQ.out _ (HEB.out.alloc _) | exact HSQ.out _ (HEA.out.alloc _))
   (first
    | (go_at_call 53
       refine (H2.out _ (Hx1.out.trans (And.left (by with_reducible assumption)))).mono ?_
       rintro e9 VA ⟨rfl,hxa⟩
       have hEA:Ext w1 VA:=Ext.trans (And.left (by with_reducible assumption)) hxa
       have hS2:Ext w1 VA∧VA.cell? ⟨w.heap.size,0,none⟩=some (.slice ap n1 cp)∧VA.cell? ⟨w.heap.size,1,none⟩=some (.slice an N cn):=⟨hEA,hEA.cell q0,hEA.cell q1⟩
       first
         | (have hbA:Boxed VA w1.heap.size 32 (.slice none 0 0):=hxa.heap (World.alloc_heap_new w1.drew _)
            have HbA:=hid hbA
            clear hbA)
         | skip
       have HEA:=hid hEA
       clear hxa hEA)
    | (go_at_call 52
       refine (H3.out _ (Hx1.out.trans (And.left (by with_reducible assumption)))).mono ?_
       rintro e9 VB ⟨rfl,hxa⟩
       have hEB:Ext w1 VB:=Ext.trans (And.left (by with_reducible assumption)) hxa
       have hS3:Ext w1 VB∧VB.cell? ⟨w.heap.size,0,none⟩=some (.slice ap n1 cp)∧VB.cell? ⟨w.heap.size,1,none⟩=some (.slice an N cn):=⟨hEB,hEB.cell q0,hEB.cell q1⟩
       first
         | (have hbB:Boxed VB w1.heap.size 32 (.slice none 0 0):=hxa.heap HbA.out
            have k0:=hbB.cell
            have z0:=hbB.frozen
            have HbB:=hid hbB
            clear hbB)
         | (have hbB:Boxed VB VA.heap.size 32 (.slice none 0 0):=hxa.heap (World.alloc_heap_new VA _)
            have k0:=hbB.cell
            have z0:=hbB.frozen
            have HbC:=hid hbB
            clear hbB)
         | skip
       have HEB:=hid hEB
       clear hxa hEB hS2))
  all_goals
   go_wp2_with fail
   go_meet
   unfold zpj;refine ⟨rfl,?_⟩
   first
    | exact HEB.out.setCell (p:=⟨w1.heap.size,0,none⟩) (Nat.le_refl _) _
    | exact HEB.out.setCell (p:=⟨VA.heap.size,0,none⟩) HEA.out.size _
    | exact HEB.out.alloc _
 case rest =>
  obtain ⟨rfl,hx2⟩:=hcut;have Hx2:=hid (Hx1.out.trans hx2);clear hx2;go_wp2
  go_ret3
  exact ⟨rfl,Hx2.out⟩
end
section
open Go.RowKit Go.Lib
theorem zpp : ∀ (k:Nat)(l:List UInt8),l.length=k→ze5 l=true→∃ n,l=decDigits n:=by
 intro k;induction k with
 | zero =>
  intro l hl h
  have:=List.eq_nil_of_length_eq_zero hl
  subst this
  exact absurd h (by decide)
 | succ k ih =>
  intro l hl h
  obtain ⟨m,c,rfl⟩:∃ m c,l=m++[c]:=⟨l.dropLast,l.getLast (by intro e;subst e;simp at hl),(List.dropLast_concat_getLast _).symm⟩
  have hm:m.length=k:=by simpa using hl
  unfold ze5 at h
  rw [Bool.and_eq_true,List.all_append,Bool.and_eq_true] at h
  obtain ⟨⟨ha,hc⟩,hb⟩:=h
  have hc:isD c=true:=by simpa using hc
  unfold isD at hc
  rw [Bool.and_eq_true,decide_eq_true_iff,decide_eq_true_iff] at hc
  obtain ⟨hc1,hc2⟩:=hc
  have hce:∀ j,j % 10=c.toNat - 48→UInt8.ofNat (48+j % 10)=c:=by
   intro j hj;apply UInt8.toNat_inj.1;rw [hj,show 48+(c.toNat - 48)=c.toNat by omega];simp
  cases m with
  | nil =>
   refine ⟨c.toNat - 48,?_⟩
   rw [decDigits,dif_pos (by omega)]
   have:=hce (c.toNat - 48) (by omega)
   rw [Nat.mod_eq_of_lt (by omega)] at this
   rw [this];rfl
  | cons d m =>
   have hd:d ≠ 48:=by
    rw [Bool.or_eq_true] at hb;rcases hb with hb | hb
    ·simp at hb
    ·rw [Bool.and_eq_true,decide_eq_true_iff,decide_eq_true_iff] at hb;exact hb.2
   have hcm:ze5 (d::m)=true:=by
    unfold ze5;rw [ha,Bool.true_and,Bool.or_eq_true]
    cases m with
    | nil=>exact .inl rfl
    | cons _ _=>refine .inr ?_;rw [Bool.and_eq_true];exact ⟨decide_eq_true (by simp),decide_eq_true hd⟩
   obtain ⟨n,hn⟩:=ih (d::m) hm hcm
   have hn0:n ≠ 0:=by
    rintro rfl;rw [decDigits,dif_pos (by omega)] at hn;exact hd (List.cons.inj hn).1
   refine ⟨10 * n+(c.toNat - 48),?_⟩
   rw [decDigits,dif_neg (by omega),hn,show (10 * n+(c.toNat - 48)) / 10=n by omega,hce _ (by omega)]
theorem zpq (s:ByteArray):(⟨s.toList.toArray⟩:ByteArray)=s:=by rw [Lib.toList_data]
theorem zpr (s:ByteArray)(w:World)(h0:s.size=0) :
  Calls Tryz.prog 160 #[.string s] w fun e w'=>e=.returned (.tuple #[.bool false,.string s])∧Ext w w':=by
 go_enter Tryz.func160,Tryz.ntmps160
 go_wp2
 go_ret2
 exact ⟨rfl,Ext.refl _⟩
theorem zps (s:ByteArray)(hs:∀ w,Calls Tryz.prog 160 #[.string s] w fun e w'=>e=.returned (.tuple #[.bool false,.string s])∧Ext w w')(k:Int)(hk:k=0∨k=2)
  (hc2:∀ W,Calls Tryz.prog 163 #[.string s] W fun e w'=>e=.returned (.int .i64 k)∧Ext W w') (w:World) :
  Calls Tryz.prog 125 #[.string s] w fun e w'=>e=.returned (.int .i64 k)∧Ext w w':=by
 rcases hk with rfl | rfl
 all_goals
  have Hs:=hid hs;have Hc2:=hid hc2;clear hs hc2;go_enter Tryz.func125,Tryz.ntmps125
  go_wp2_with fail
  refine ((Hs.out _)).mono ?_;rintro e w1 ⟨rfl,hx1⟩;have Hx1:=hid hx1;clear hx1;go_wp2_with fail
  refine (Hc2.out w1).mono ?_;rintro e w2 ⟨rfl,hx2⟩;have Hx2:=hid (Hx1.out.trans hx2);clear hx2;go_wp2
  go_ret
  exact ⟨rfl,Hx2.out⟩
theorem zpt (s t:ByteArray)(hs:∀ w,Calls Tryz.prog 160 #[.string s] w fun e w'=>e=.returned (.tuple #[.bool true,.string t])∧Ext w w')(h0:(t.toList == [48])=true)(w:World) :
  Calls Tryz.prog 125 #[.string s] w fun e w'=>e=.returned (.int .i64 2)∧Ext w w':=by
 have Hs:=hid hs;clear hs;go_enter Tryz.func125,Tryz.ntmps125
 go_wp2_with fail
 refine ((Hs.out _)).mono ?_;rintro e w1 ⟨rfl,hx1⟩;have Hx1:=hid hx1;clear hx1;go_wp2
 go_ret
 exact ⟨rfl,Hx1.out⟩
theorem zpu (s t:ByteArray)(hs:∀ w,Calls Tryz.prog 160 #[.string s] w fun e w'=>e=.returned (.tuple #[.bool true,.string t])∧Ext w w')(h0:(t.toList == [48])=false)(k:Int)(hk:k=0∨k=2)
  (hc2:∀ W,Calls Tryz.prog 163 #[.string t] W fun e w'=>e=.returned (.int .i64 k)∧Ext W w') (w:World) :
  Calls Tryz.prog 125 #[.string s] w fun e w'=>e=.returned (.int .i64 k)∧Ext w w':=by
 rcases hk with rfl | rfl
 all_goals
  have Hs:=hid hs;have Hc2:=hid hc2;clear hs hc2;go_enter Tryz.func125,Tryz.ntmps125
  go_wp2_with fail
  refine ((Hs.out _)).mono ?_;rintro e w1 ⟨rfl,hx1⟩;have Hx1:=hid hx1;clear hx1;go_wp2_with fail
  refine (Hc2.out w1).mono ?_;rintro e w2 ⟨rfl,hx2⟩;have Hx2:=hid (Hx1.out.trans hx2);clear hx2;go_wp2
  go_ret
  exact ⟨rfl,Hx2.out⟩
theorem zpv (t:ByteArray)(h9:t.size≤40)(w:World) :
  Calls Tryz.prog 163 #[.string t] w fun e w'=>e=.returned (.int .i64 (if ze5 t.toList=true then 0 else 2))∧Ext w w':=by
 have hl:t.toList.length≤40:=by rw [Lib.toList_data];exact h9
 have h:=zeE t.toList w (by omega);rw [zpq] at h;have e:(if ze5 t.toList=true∧t.toList.length≤400 then (0:Int) else 2)=if ze5 t.toList=true then 0 else 2:=by
  by_cases hb:ze5 t.toList=true
  ·rw [if_pos ⟨hb,by omega⟩,if_pos hb]
  ·rw [if_neg (fun k=>hb k.1),if_neg hb]
 rwa [e] at h
theorem zpw {t:ByteArray}(h9:t.size≤40)(h:ze5 t.toList=true):∃ n:Nat,t=D n∧nDigits n≤40:=by
 obtain ⟨n,hn⟩:=zpp _ _ rfl h;have e:t=D n:=by rw [← zpq t,hn];rfl
 refine ⟨n,e,?_⟩;rw [e,zau] at h9;exact h9
theorem zpx (s:ByteArray)(h9:s.size≤40) :
  (∃ z:Int,s=I z∧nDigits z.natAbs≤40)∨∀ w,Calls Tryz.prog 125 #[.string s] w fun e w'=>e=.returned (.int .i64 2)∧Ext w w':=by
 by_cases h0:s.size=0
 ·refine .inr fun w=>zps s (fun w=>zpr s w h0) 2 (.inr rfl) (fun W=>?_) w;have h:=zpv s h9 W;have hl:s.toList=[]:=List.eq_nil_of_length_eq_zero (by rw [Lib.toList_data];exact h0);rw [hl,if_neg (by decide)] at h;exact h
 ·have hp:0<s.size:=by omega
  by_cases hm:(((s[0]'hp).toNat:Int) == 45)=true
  ·have hs:=fun w=>zb9 s (s.extract 1 s.size) w hp (by omega) hm rfl;have ht9:(s.extract 1 s.size).size+1=s.size  :=(by rw [ByteArray.size_extract];omega);have hst:s.toList=45::(s.extract 1 s.size).toList:=by
    have hb:(s[0]'hp)=45:=UInt8.toNat_inj.1 (by have:=beq_iff_eq.1 hm;show (s[0]'hp).toNat=45;omega);rw [Lib.toList_data,Lib.toList_data];have h1:s.data.toList[0]'(by simpa using hp)=45:=hb;have h2:(s.extract 1 s.size).data.toList=s.data.toList.drop 1:=by
     rw [ByteArray.data_extract,Array.toList_extract,List.extract_eq_take_drop];apply List.take_of_length_le;rw [List.length_drop,Array.length_toList];exact Nat.le_refl _
    rw [h2];have:s.data.toList ≠ []:=by
     intro e;have e2:s.data.toList.length=0:=(by rw [e];rfl);have e3:s.size=s.data.toList.length:=(by rw [Array.length_toList];rfl);omega
    cases hq:s.data.toList with
    | nil=>exact absurd hq this
    | cons a q=>simp only [hq] at h1;simp at h1;rw [h1];rfl
   generalize s.extract 1 s.size=t at *
   cases hz:(t.toList == [48]) with
   | true=>exact .inr fun w=>zpt s t hs hz w
   | false =>
    by_cases hc:ze5 t.toList=true
    ·obtain ⟨n,rfl,hn⟩:=zpw (by omega) hc
     refine .inl ⟨-(n:Int),?_,by rw [Int.natAbs_neg,Int.natAbs_natCast];exact hn⟩
     have hn0:0<n:=by
      rcases Nat.eq_zero_or_pos n with e | e
      ·subst e;rw [zbm] at hz;simp at hz
      ·exact e
     have:=zbo n hn0
     rw [← zpq s,hst,zbg,← this,zpq]
    ·refine .inr fun w=>zpu s t hs hz 2 (.inr rfl) (fun W=>?_) w
     have h:=zpv t (by omega) W
     rwa [if_neg hc] at h
  ·have hs:=fun w=>zb8 s w hp (by omega) (by simpa using hm);by_cases hc:ze5 s.toList=true
   ·obtain ⟨n,rfl,hn⟩:=zpw h9 hc;exact .inl ⟨(n:Int),(zav n).symm,by rw [Int.natAbs_natCast];exact hn⟩
   ·refine .inr fun w=>zps s hs 2 (.inr rfl) (fun W=>?_) w;have h:=zpv s h9 W;rwa [if_neg hc] at h
theorem zpy (a b:ByteArray)(w:World)
  (hw1:∀ w,Calls Tryz.prog 125 #[.string a] w fun e w'=>e=.returned (.int .i64 2)∧Ext w w') :
  Calls Tryz.prog 88 #[.agg #[.string a,.string b]] w fun e w'=>e=.returned (.int .i64 2)∧Ext w w':=by
 have hE:Ext w (w.alloc (.cells #[.string a,.string b] 60)):=(Ext.refl _).alloc _;have b1:=zdK.new w (.string a) (.string b);have Hw1:=hid hw1;have HE:=hid hE;have B1:=hid b1;clear hw1 hE b1;go_enter Tryz.func88,Tryz.ntmps88
 go_wp2_with fail
 refine (Hw1.out _).mono ?_;rintro e w1 ⟨rfl,hx1⟩;have Hx1:=hid hx1;clear hx1;go_wp2
 go_ret
 exact ⟨rfl,HE.out.trans Hx1.out⟩
theorem zpz (a b:ByteArray)(w:World)
  (hw1:∀ w,Calls Tryz.prog 125 #[.string a] w fun e w'=>e=.returned (.int .i64 0)∧Ext w w')
  (hw2:∀ w,Calls Tryz.prog 125 #[.string b] w fun e w'=>e=.returned (.int .i64 2)∧Ext w w') :
  Calls Tryz.prog 88 #[.agg #[.string a,.string b]] w fun e w'=>e=.returned (.int .i64 2)∧Ext w w':=by
 have hE:Ext w (w.alloc (.cells #[.string a,.string b] 60)):=(Ext.refl _).alloc _;have b1:=zdK.new w (.string a) (.string b);have Hw1:=hid hw1;have Hw2:=hid hw2;have HE:=hid hE;have B1:=hid b1;clear hw1 hw2 hE b1;go_enter Tryz.func88,Tryz.ntmps88
 go_wp2_with fail
 refine (Hw1.out _).mono ?_;rintro e w1 ⟨rfl,hx1⟩;have Hx1:=hid hx1;clear hx1;have hc1:=(B1.out.ext Hx1.out).c1;go_wp2_with fail
 refine (Hw2.out w1).mono ?_;rintro e w2 ⟨rfl,hx2⟩;have Hx2:=hid (Hx1.out.trans hx2);clear hx2;go_wp2
 go_ret
 exact ⟨rfl,HE.out.trans Hx2.out⟩
theorem zp0 (a b:ByteArray)(k:Int)(w:World)(hk:k=0∨k=-1)
  (hw1:∀ w,Calls Tryz.prog 125 #[.string a] w fun e w'=>e=.returned (.int .i64 0)∧Ext w w')
  (hw2:∀ w,Calls Tryz.prog 125 #[.string b] w fun e w'=>e=.returned (.int .i64 0)∧Ext w w')
  (hs:∀ w,Calls Tryz.prog 126 #[.string b] w fun e w'=>e=.returned (.int .i64 k)∧w=w') :
  Calls Tryz.prog 88 #[.agg #[.string a,.string b]] w fun e w'=>e=.returned (.int .i64 2)∧Ext w w':=by
 have hE:Ext w (w.alloc (.cells #[.string a,.string b] 60)):=(Ext.refl _).alloc _;have b1:=zdK.new w (.string a) (.string b);rcases hk with rfl | rfl
 all_goals
  have Hw1:=hid hw1;have Hw2:=hid hw2;have Hs:=hid hs;have HE:=hid hE;have B1:=hid b1;clear hw1 hw2 hs hE b1;go_enter Tryz.func88,Tryz.ntmps88
  go_wp2_with fail
  refine (Hw1.out _).mono ?_;rintro e w1 ⟨rfl,hx1⟩;have Hx1:=hid hx1;clear hx1;have hc1:=(B1.out.ext Hx1.out).c1;go_wp2_with fail
  refine (Hw2.out w1).mono ?_;rintro e w2 ⟨rfl,hx2⟩;have Hx2:=hid (Hx1.out.trans hx2);clear hx2;have hc0:=(B1.out.ext Hx2.out).c0;have hc1:=(B1.out.ext Hx2.out).c1;go_wp2_with fail
  refine (Hs.out _).mono ?_;rintro e W3 ⟨rfl,rfl⟩;go_wp2
  go_ret
  exact ⟨rfl,HE.out.trans Hx2.out⟩
theorem zp1 (a b g:ByteArray)(t:Bool)(ht:(g.toList == [49])=t)(w:World)
  (hw1:∀ w,Calls Tryz.prog 125 #[.string a] w fun e w'=>e=.returned (.int .i64 0)∧Ext w w')
  (hw2:∀ w,Calls Tryz.prog 125 #[.string b] w fun e w'=>e=.returned (.int .i64 0)∧Ext w w')
  (hs:∀ w,Calls Tryz.prog 126 #[.string b] w fun e w'=>e=.returned (.int .i64 1)∧w=w')
  (hg:∀ W,Ext w W→Calls Tryz.prog 127 #[.string a,.string b] W fun e w'=>e=.returned (.string g)∧Ext W w') :
  Calls Tryz.prog 88 #[.agg #[.string a,.string b]] w fun e w'=>e=.returned (.int .i64 (if t then 0 else 2))∧Ext w w':=by
 have hE:Ext w (w.alloc (.cells #[.string a,.string b] 60)):=(Ext.refl _).alloc _;have b1:=zdK.new w (.string a) (.string b);have t2:(g.toList != [49])=!t:=by rw [bne,ht]
 cases t
 all_goals
  simp only [Bool.not_true,Bool.not_false] at t2;have Hw1:=hid hw1;have Hw2:=hid hw2;have Hs:=hid hs;have Hg:=hid hg;have HE:=hid hE;have B1:=hid b1;clear hw1 hw2 hs hg hE b1;go_enter Tryz.func88,Tryz.ntmps88
  go_wp2_with fail
  refine (Hw1.out _).mono ?_;rintro e w1 ⟨rfl,hx1⟩;have Hx1:=hid hx1;clear hx1;have hc1:=(B1.out.ext Hx1.out).c1;go_wp2_with fail
  refine (Hw2.out w1).mono ?_;rintro e w2 ⟨rfl,hx2⟩;have Hx2:=hid (Hx1.out.trans hx2);clear hx2;have hc0:=(B1.out.ext Hx2.out).c0;have hc1:=(B1.out.ext Hx2.out).c1;go_wp2_with fail
  refine (Hs.out _).mono ?_;rintro e W3 ⟨rfl,rfl⟩;go_wp2_with fail
  refine (Hg.out _ (HE.out.trans Hx2.out)).mono ?_;rintro e w4 ⟨rfl,hx4⟩;have Hx4:=hid (Hx2.out.trans hx4);clear hx4;go_wp2
  go_ret
  exact ⟨rfl,HE.out.trans Hx4.out⟩
theorem zp2 (a:Nat):((D a).toList == [49])=decide (a=1):=by
 have:=zbj a 1;rwa [zbg 1,show decDigits 1=[49] by rw [decDigits];rfl] at this
theorem zp3 (a b:ByteArray)(ha:a.size≤40)(hb:b.size≤40) :
  (∃ r:Rat,Rv r=.agg #[.string a,.string b]∧Ft 40 r) ∨
  ∀ w,Env w→Calls Tryz.prog 88 #[.agg #[.string a,.string b]] w fun e w'=>e=.returned (.int .i64 2)∧Ext w w':=by
 rcases zpx a ha with ⟨x,rfl,hx⟩ | h1
 ·have hw1:=fun W=>zeF x W (by omega);rcases zpx b hb with ⟨z,rfl,hz⟩ | h2
  ·have hw2:=fun W=>zeF z W (by omega);have hs:=fun W=>zbK z W (by unfold Fit;omega);by_cases hp:0<z
   ·rw [zbf (by omega)] at hs;have hg:=fun W (he:Env W)=>zdI x z W he (by unfold Fit;omega) (by unfold Fit;omega);by_cases hr:Nat.gcd x.natAbs z.natAbs=1
    ·refine .inl ⟨⟨x,z.natAbs,by omega,hr⟩,?_,hx,hz⟩;unfold Rv;show Value.agg #[.string (I x),.string (I (z.natAbs:Int))]=_;rw [Int.natAbs_of_nonneg (by omega)]
    ·refine .inr fun w he=>?_;have:=zp1 (I x) (I z) (I (Nat.gcd x.natAbs z.natAbs:Nat)) false ?_ w hw1 hw2 hs (fun W h=>hg W (he.ext h))
     ·exact this
     ·rw [zav,zp2];exact decide_eq_false hr
   ·refine .inr fun w he=>zp0 (I x) (I z) (zbc z 0) w ?_ hw1 hw2 hs;rcases Int.lt_or_eq_of_le (Int.not_lt.1 hp) with h | h
    ·exact .inr (zbd h)
    ·exact .inl (zbe h)
  ·exact .inr fun w _=>zpz (I x) b w hw1 h2
 ·exact .inr fun w _=>zpy a b w h1
end
end Go.Proofs.YtbkfhacmekbniaaGreatDoor
