/- Walks: Floor, Remainder, scale.reduce, scale.Reduce by the octave, at any size of numbers of 30 digits. (Printed by wip/flg.py.) Walks: scale.Find of a right scale with the octave as its period. -/
import Derived.Test.YtbkfhacmekbniaaGreatDoorPa28
import Derived.Test.YtbkfhacmekbniaaGreatDoorPa18
import Derived.Test.YtbkfhacmekbniaaGreatDoorPa21
import Derived.Test.YtbkfhacmekbniaaGreatDoorPa20
import Derived.Test.YtbkfhacmekbniaaGreatDoorPa05
import Derived.Deep.DeepCutAuto
set_option maxRecDepth 100000
set_option maxHeartbeats 4000000
namespace Go.Proofs.YtbkfhacmekbniaaGreatDoor
open Go.RowKit Go.Lib
attribute [local go_sem] Oper.semAt_some
theorem znl : ∀ (x:List Rat)(d0:Nat),x.foldl (fun d r=>Nat.lcm d r.den) d0 ∣ d0 * (x.map Rat.den).prod
 | [],d0=>by simp
 | s::x,d0=>by
  rw [List.foldl_cons,List.map_cons,List.prod_cons,← Nat.mul_assoc];refine Nat.dvd_trans (znl x (Nat.lcm d0 s.den)) ?_;exact Nat.mul_dvd_mul (Nat.lcm_dvd_mul d0 s.den) (Nat.dvd_refl _)
theorem znm {r:Rat}(h:Ft 30 r):r.den<10 ^ 30∧r.num.natAbs<10 ^ 30 :=
 ⟨Nat.lt_of_lt_of_le (lt_pow_nDigits _) (Nat.pow_le_pow_right (by decide) h.2),Nat.lt_of_lt_of_le (lt_pow_nDigits _) (Nat.pow_le_pow_right (by decide) h.1)⟩
theorem znn {p:List Int}{x:List Rat}(hp:Pr p x.length)(hf:∀ q∈x,Ft 30 q):FwN x∧nDigits (dn x)≤50000:=by
 have hT:0<10 ^ 30:=Nat.pow_pos (by decide);have key:∀ T:Nat,0<T→(∀ r∈x,r.den<T∧r.num.natAbs<T)→dn x≤T * T * T∧∀ r∈x,(r.num * ((dn x / r.den:Nat):Int)).natAbs≤T * (T * T * T):=by
  intro T hT h;have h1:dn x ∣ (x.map Rat.den).prod:=by have:=znl x 1;rwa [Nat.one_mul] at this
  have h2:(x.map Rat.den).prod≤T * T * T:=by
   rcases hp with ⟨_,hl⟩ | ⟨_,hl⟩
   ·match x,hl with
    | [a,b],_ =>
     have ha:=(h a (by simp)).1;have hb:=(h b (by simp)).1
     simp only [List.map_cons,List.map_nil,List.prod_cons,List.prod_nil,Nat.mul_one]
     exact Nat.le_trans (Nat.mul_le_mul (Nat.le_of_lt ha) (Nat.le_of_lt hb)) (Nat.le_mul_of_pos_right _ hT)
   ·match x,hl with
    | [a,b,c],_ =>
     have ha:=(h a (by simp)).1;have hb:=(h b (by simp)).1;have hc:=(h c (by simp)).1
     simp only [List.map_cons,List.map_nil,List.prod_cons,List.prod_nil,Nat.mul_one]
     rw [← Nat.mul_assoc]
     exact Nat.mul_le_mul (Nat.mul_le_mul (Nat.le_of_lt ha) (Nat.le_of_lt hb)) (Nat.le_of_lt hc)
  have h0:0<(x.map Rat.den).prod:=by
   rcases hp with ⟨_,hl⟩ | ⟨_,hl⟩
   ·match x,hl with
    | [a,b],_=>simp only [List.map_cons,List.map_nil,List.prod_cons,List.prod_nil,Nat.mul_one];exact Nat.mul_pos a.den_pos b.den_pos
   ·match x,hl with
    | [a,b,c],_=>simp only [List.map_cons,List.map_nil,List.prod_cons,List.prod_nil,Nat.mul_one];exact Nat.mul_pos a.den_pos (Nat.mul_pos b.den_pos c.den_pos)
  have h3:dn x≤T * T * T:=Nat.le_trans (Nat.le_of_dvd h0 h1) h2;refine ⟨h3,fun r hr=>?_⟩;rw [Int.natAbs_mul,Int.natAbs_natCast];exact Nat.mul_le_mul (Nat.le_of_lt (h r hr).2) (Nat.le_trans (Nat.div_le_self _ _) h3)
 obtain ⟨k1,k2⟩:=key (10 ^ 30) hT fun r hr=>znm (hf r hr);have e3:(10:Nat) ^ 30 * 10 ^ 30 * 10 ^ 30=10 ^ 90:=by rw [← Nat.pow_add,← Nat.pow_add]
 have e4:(10:Nat) ^ 30 * 10 ^ 90=HH:=by rw [← Nat.pow_add];rfl
 rw [e3] at k1;rw [e3,e4] at k2;refine ⟨k2,Nat.le_trans (Dec.nDigits_le (k:=91) (by decide) (Nat.lt_of_le_of_lt k1 ?_)) (by decide)⟩;exact Nat.pow_lt_pow_right (by decide) (by decide)
theorem zno (vp va vb:Value)(p:List Int)(a0:Rat)(tl:List Rat)(w:World)(he:Env w)(hp:Sl w vp (zak p))(ha:Rd w va (a0::tl))(hb:Rd w vb (ov tl.length))(hpr:Pr p (tl.length+1))(hf:∀ q∈a0::tl,Ft 30 q)(hrv:zhf w) :
  Calls Tryz.prog 91 #[vp,va,vb] w fun e w'=>e=.returned (.string (I (flN p (a0::tl))))∧Ext w w' :=
 have h:=znn (x:=a0::tl) (by rw [List.length_cons];exact hpr) hf
 znk vp va vb p a0 tl w he hp ha hb hpr hf h.1 h.2 hrv
theorem znp (vp va vb:Value)(p:List Int)(a0:Rat)(tl:List Rat)(w:World)(he:Env w)(hp:Sl w vp (zak p))(ha:Rd w va (a0::tl))(hb:Rd w vb (ov tl.length))(hpe:zee p=0)(hpr:Pr p (tl.length+1))(hf:∀ q∈a0::tl,Ft 30 q)(hrv:zhf w) :
  Calls Tryz.prog 59 #[vp,va,vb] w fun e w'=>e=.returned (.tuple #[.string (I (flN p (a0::tl))),.int .i64 0])∧Ext w w':=by
 have h1:=zjd vp va vb p (a0::tl) tl.length w he hp ha hb hpe hpr rfl hf;have h2:=fun W (h:Ext w W)=>zno vp va vb p a0 tl W (he.ext h) (h.sl hp) (h.rd ha) (h.rd hb) hpr hf (hrv.ext h);generalize I (flN p (a0::tl))=sf at *;obtain ⟨ap,cp,rfl,_,_,_⟩:=hp.parts;obtain ⟨aa,ca,rfl,_,_,_⟩:=ha.parts;obtain ⟨ab,cb,rfl,_,_,_⟩:=hb.parts;clear hp ha hb he hpe hpr hf hrv;have H1:=hid h1;have H2:=hid h2;clear h1 h2;go_enter Tryz.func59,Tryz.ntmps59
 go_wp2_with fail
 refine (H1.out).mono ?_;rintro e w1 ⟨rfl,hx1⟩;have Hx1:=hid hx1;clear hx1;go_wp2_with fail
 refine (H2.out w1 Hx1.out).mono ?_;rintro e w2 ⟨rfl,hx2⟩;have Hx2:=hid (Hx1.out.trans hx2);clear hx2;go_wp2
 go_ret2
 exact ⟨rfl,Hx2.out⟩
theorem znq (vp va vb:Value)(p:List Int)(a0:Rat)(tl:List Rat)(w:World)(he:Env w)(hp:Sl w vp (zak p))(ha:Rd w va (a0::tl))(hb:Rd w vb (ov tl.length))(hpe:zee p=0)(hpr:Pr p (tl.length+1))(hf:∀ q∈a0::tl,Ft 30 q)(hrv:zhf w)(hk:Ft 400 ((-flN p (a0::tl):Int):Rat))(hfl:Fit (flN p (a0::tl)))
  (hres:∀ q∈zeU (a0::tl) (zeW (ov tl.length) ((-flN p (a0::tl):Int):Rat)),Ft 30 q) :
  Calls Tryz.prog 84 #[vp,va,vb] w fun e w'=>∃ g,e=.returned (.tuple #[.slice (some ⟨g,0,none⟩) p.length p.length,.int .i64 0])∧zf6 w' w.heap.size (.slice (some ⟨g,0,none⟩) p.length p.length) (zeU (a0::tl) (zeW (ov tl.length) ((-flN p (a0::tl):Int):Rat)))∧Ext w w':=by
 have hpl:=ziD hpr;have hpl3:p.length≤3:=by rcases hpr with ⟨rfl,_⟩ | ⟨rfl,_⟩ <;> simp
 have hua:=zfA ha;have hub:=zfA hb;have h1:=zjd vp va vb p (a0::tl) tl.length w he hp ha hb hpe hpr rfl hf;have h2:=fun W (h:Ext w W)=>zno vp va vb p a0 tl W (he.ext h) (h.sl hp) (h.rd ha) (h.rd hb) hpr hf (hrv.ext h);have h3:=fun W=>zdb (flN p (a0::tl)) W hfl;have hxl:(a0::tl).length=p.length:=by rw [hpl];rfl
 have hyl:(ov tl.length).length=p.length:=by rw [hpl,ziF]
 have hsum:zhT p.length [a0::tl,ov tl.length] [1,((-flN p (a0::tl):Int):Rat)] 2=zeU (a0::tl) (zeW (ov tl.length) ((-flN p (a0::tl):Int):Rat)):=zjc _ hxl hyl;have hsl:(zeU (a0::tl) (zeW (ov tl.length) ((-flN p (a0::tl):Int):Rat))).length=p.length:=by unfold zeU zeW;rw [List.length_zipWith,List.length_map,hxl,hyl,Nat.min_self]
 have hco:∀ W vl vf,Ext w W→RdM W vl [⟨a0::tl,va,hua⟩,⟨ov tl.length,vb,hub⟩]→Rd W vf [1,((-flN p (a0::tl):Int):Rat)]→Calls Tryz.prog 105 #[.int .i64 (p.length:Int),vl,vf] W fun e w'=>∃ g,e=.returned (.slice (some ⟨g,0,none⟩) p.length p.length)∧zf6 w' W.heap.size (.slice (some ⟨g,0,none⟩) p.length p.length) (zeU (a0::tl) (zeW (ov tl.length) ((-flN p (a0::tl):Int):Rat)))∧Ext W w':=by
  intro W vl vf hE hl hff;have:=zim p.length vl vf [⟨a0::tl,va,hua⟩,⟨ov tl.length,vb,hub⟩] [1,((-flN p (a0::tl):Int):Rat)] W (he.ext hE) hl hff (by omega) (by simp) (by simp) (by
   intro r hr;rcases List.mem_cons.1 hr with rfl | hr
   ·exact ⟨hxl,fun q h=>(hf q h).mono (by omega)⟩
   ·rw [List.mem_singleton] at hr;subst hr;exact ⟨hyl,fun q h=>(ziE q h).mono (by omega)⟩) (by
   intro f hf;simp only [List.mem_cons,List.not_mem_nil,or_false] at hf;rcases hf with rfl | rfl
   ·exact zis
   ·exact hk)
  change Calls _ _ _ _ fun e w'=>e=.returned (.slice (some ⟨W.heap.size,0,none⟩) p.length p.length)∧zf6 w' W.heap.size (.slice (some ⟨W.heap.size,0,none⟩) p.length p.length) (zhT p.length [a0::tl,ov tl.length] [1,((-flN p (a0::tl):Int):Rat)] 2)∧Ext W w' at this;rw [hsum] at this;exact this.mono fun e w' h=>⟨_,h⟩
 have hre:=fun W v (hv:Rd W v (zeU (a0::tl) (zeW (ov tl.length) ((-flN p (a0::tl):Int):Rat))))=>zfM v _ W hv (by rw [hsl];omega) hres;have hn1:=fun W (h:Ext w W)=>zfC 1 W (he.ext h) (by omega) (by omega);rw [zfB] at hn1;have hone:rcs [1,((-flN p (a0::tl):Int):Rat)]=[.string (I 1),.string ⟨#[49]⟩,.string (I (-flN p (a0::tl))),.string ⟨#[49]⟩]:=by
  show [Value.string (I 1),.string (I ((1:Nat):Int)),.string (I _),.string (I _)]=_;have e:=zfB (-flN p (a0::tl));unfold Rv at e;injection e with e;have e2:([.string (I ((-flN p (a0::tl):Int):Rat).num),.string (I ((((-flN p (a0::tl):Int):Rat).den:Nat):Int))]:List Value)=[.string (I (-flN p (a0::tl))),.string ⟨#[49]⟩]:=by injection e
  injection e2 with e3 e4;injection e4 with e4 _;rw [e3,e4,zav,zbl]
 generalize zeU (a0::tl) (zeW (ov tl.length) ((-flN p (a0::tl):Int):Rat))=r at *;generalize ((-flN p (a0::tl):Int):Rat)=kq at *;have hra:=fun W (h:Ext w W)=>h.rd ha;have hrb:=fun W (h:Ext w W)=>h.rd hb;generalize I (-flN p (a0::tl))=sk at *;generalize I (flN p (a0::tl))=sf at *;generalize I 1=s1 at *;have hol:=ziF tl.length;obtain ⟨ap,cp,rfl,_,_,_⟩:=hp.parts;obtain ⟨aa,ca,rfl,_,_,_⟩:=ha.parts;obtain ⟨ab,cb,rfl,_,_,_⟩:=hb.parts;rw [zam] at h1 h2 ⊢;clear hp ha hb he hpe hpr hf hrv hk hfl hres hsum hxl hyl hpl hpl3 hol;generalize (a0::tl).length=n1 at *;generalize (ov tl.length).length=n2 at *;have H1:=hid h1;have H2:=hid h2;have H3:=hid h3;have Hco:=hid hco;have Hre:=hid hre;have Hn1:=hid hn1;have Hone:=hid hone;have Hra:=hid hra;have Hrb:=hid hrb;have Hsl:=hid hsl;clear h1 h2 h3 hco hre hn1 hone hra hrb hsl;go_enter Tryz.func84,Tryz.ntmps84
 go_wp2_with fail
 refine (H1.out).mono ?_;rintro e w1 ⟨rfl,hx1⟩;have Hx1:=hid hx1;clear hx1;go_wp2_with fail
 refine (H2.out w1 Hx1.out).mono ?_;rintro e w2 ⟨rfl,hx2⟩;have Hx2:=hid (Hx1.out.trans hx2);clear hx2;go_wp2_with fail
 refine (H3.out w2).mono ?_;rintro e w3 ⟨rfl,hx3⟩;have Hx3:=hid (Hx2.out.trans hx3);clear hx3;have b9:=zdK.new w3 (.string sk) (.string ⟨#[49]⟩);have hE:=Hx3.out.alloc (.cells #[.string sk,.string ⟨#[49]⟩] 60);have hs3:w3.heap.size<(w3.alloc (.cells #[.string sk,.string ⟨#[49]⟩] 60)).heap.size:=by simp
 go_wp2_with fail
 generalize w3.alloc (.cells #[.string sk,.string ⟨#[49]⟩] 60)=V at *;generalize w3.heap.size=b at *;have hc0:=b9.c0;have hc1:=b9.c1;have HE:=hid hE;have B9:=hid b9;clear hE b9;go_upto_region 5 with (fail)
 go_cut [6,7] (fun v6 v7 wx=>zjf w p.length r v6 v7 wx)
 case first =>
  go_region_held3 (fun w'=>Ext V w'∧w'.cell? ⟨b,0,none⟩=some (.string sk)∧w'.cell? ⟨b,1,none⟩=some (.string ⟨#[49]⟩))
   (first | (with_reducible assumption) | exact ⟨(Ext.refl V).drew,hc0,hc1⟩ | exact ⟨Ext.trans (And.left (by assumption)) hxa,Ext.cell hxa (And.left (And.right (by assumption))),Ext.cell hxa (And.right (And.right (by assumption)))⟩ | exact ⟨Ext.alloc (And.left (by assumption)) _,Ext.cell ((Ext.refl _).alloc _) (And.left (And.right (by assumption))),Ext.cell ((Ext.refl _).alloc _) (And.right (And.right (by assumption)))⟩)
   (first
    | (go_at_call 96;refine (Hn1.out _ (HE.out.trans (And.left (by assumption)))).mono ?_;rintro e9 VA ⟨rfl,hxa⟩;have HxA:=hid hxa)
    | (go_at_call 105
       have hck:Hid (Ext (V.alloc (.cells #[.slice aa n1 ca,.slice ab n2 cb] 32)).drew VA):=by with_reducible assumption
       clear hck
       have hbc:((V.alloc (.cells #[.slice aa n1 ca,.slice ab n2 cb] 32)).drew).heap[V.heap.size]?=some (.cells ([.slice aa n1 ca,.slice ab n2 cb]:List Value).toArray 32 (0,0)):=World.alloc_heap_new V _
       have hE0:Ext V VA:=(((Ext.refl V).alloc (.cells #[.slice aa n1 ca,.slice ab n2 cb] 32)).drew).trans HxA.out
       have hx3:Ext VA (VA.alloc (.cells #[.string s1,.string ⟨#[49]⟩,.string sk,.string ⟨#[49]⟩] 60)):=(Ext.refl VA).alloc _
       have hE3:Ext w (VA.alloc (.cells #[.string s1,.string ⟨#[49]⟩,.string sk,.string ⟨#[49]⟩] 60)):=(HE.out.trans hE0).trans hx3
       have hl3:RdM (VA.alloc (.cells #[.string s1,.string ⟨#[49]⟩,.string sk,.string ⟨#[49]⟩] 60)) (.slice (some ⟨V.heap.size,0,none⟩) 2 2) [⟨a0::tl,.slice aa n1 ca,hua⟩,⟨ov tl.length,.slice ab n2 cb,hub⟩] :=
         ⟨zin ((HxA.out.trans hx3).heap hbc) (by unfold maxLen;simp),by
           intro r hr;rcases List.mem_cons.1 hr with rfl | hr
           · exact Hra.out _ hE3
           · rw [List.mem_singleton] at hr;subst hr;exact Hrb.out _ hE3⟩
       have hf3:Rd (VA.alloc (.cells #[.string s1,.string ⟨#[49]⟩,.string sk,.string ⟨#[49]⟩] 60)) (.slice (some ⟨VA.heap.size,0,none⟩) 2 2) [1,kq] :=
         zio (x:=[1,kq]) (by rw [Hone.out];exact World.alloc_heap_new VA _) (by unfold maxLen;simp)
       refine (Hco.out _ _ _ hE3 hl3 hf3).mono ?_
       rintro e9 VB ⟨g,rfl,ho,hxa⟩
       have HoB:=hid (ho.mono hE3.size)
       have HEB:=hid (hE3.trans hxa)
       have hEV:=(hE0.trans hx3).trans hxa
       have hS2:Ext V VB∧VB.cell? ⟨b,0,none⟩=some (.string sk)∧VB.cell? ⟨b,1,none⟩=some (.string ⟨#[49]⟩):=⟨hEV,hEV.cell hc0,hEV.cell hc1⟩
       have HEV:=hid hEV
       clear hl3 hf3 hbc ho hE0 hx3 hE3 hEV hxa)
    | (go_at_call 105
       have hck2:Ext V ((VA.alloc (.cells #[.slice aa n1 ca,.slice ab n2 cb] 32)).alloc (.cells #[.string s1,.string ⟨#[49]⟩,.string sk,.string ⟨#[49]⟩] 60))∧((VA.alloc (.cells #[.slice aa n1 ca,.slice ab n2 cb] 32)).alloc (.cells #[.string s1,.string ⟨#[49]⟩,.string sk,.string ⟨#[49]⟩] 60)).cell? ⟨b,0,none⟩=some (.string sk)∧((VA.alloc (.cells #[.slice aa n1 ca,.slice ab n2 cb] 32)).alloc (.cells #[.string s1,.string ⟨#[49]⟩,.string sk,.string ⟨#[49]⟩] 60)).cell? ⟨b,1,none⟩=some (.string ⟨#[49]⟩):=by with_reducible assumption
       clear hck2
       have hbc:(VA.alloc (.cells #[.slice aa n1 ca,.slice ab n2 cb] 32)).heap[VA.heap.size]?=some (.cells ([.slice aa n1 ca,.slice ab n2 cb]:List Value).toArray 32 (0,0)):=World.alloc_heap_new VA _
       have hE0:Ext V (VA.alloc (.cells #[.slice aa n1 ca,.slice ab n2 cb] 32)):=(((Ext.refl V).drew).trans HxA.out).alloc _
       have hx3:Ext (VA.alloc (.cells #[.slice aa n1 ca,.slice ab n2 cb] 32)) ((VA.alloc (.cells #[.slice aa n1 ca,.slice ab n2 cb] 32)).alloc (.cells #[.string s1,.string ⟨#[49]⟩,.string sk,.string ⟨#[49]⟩] 60)):=(Ext.refl _).alloc _
       have hE3:Ext w ((VA.alloc (.cells #[.slice aa n1 ca,.slice ab n2 cb] 32)).alloc (.cells #[.string s1,.string ⟨#[49]⟩,.string sk,.string ⟨#[49]⟩] 60)):=(HE.out.trans hE0).trans hx3
       have hl3:RdM ((VA.alloc (.cells #[.slice aa n1 ca,.slice ab n2 cb] 32)).alloc (.cells #[.string s1,.string ⟨#[49]⟩,.string sk,.string ⟨#[49]⟩] 60)) (.slice (some ⟨VA.heap.size,0,none⟩) 2 2) [⟨a0::tl,.slice aa n1 ca,hua⟩,⟨ov tl.length,.slice ab n2 cb,hub⟩] :=
         ⟨zin (hx3.heap hbc) (by unfold maxLen;simp),by
         intro r hr
         rcases List.mem_cons.1 hr with rfl | hr
         · exact Hra.out _ hE3
         · rw [List.mem_singleton] at hr;subst hr;exact Hrb.out _ hE3⟩
       have hf3:Rd ((VA.alloc (.cells #[.slice aa n1 ca,.slice ab n2 cb] 32)).alloc (.cells #[.string s1,.string ⟨#[49]⟩,.string sk,.string ⟨#[49]⟩] 60)) (.slice (some ⟨VA.heap.size+1,0,none⟩) 2 2) [1,kq] :=
         zio (x:=[1,kq]) (by rw [Hone.out];have:=World.alloc_heap_new (VA.alloc (.cells #[.slice aa n1 ca,.slice ab n2 cb] 32)) (.cells #[.string s1,.string ⟨#[49]⟩,.string sk,.string ⟨#[49]⟩] 60);rwa [World.size_alloc] at this) (by unfold maxLen;simp)
       refine (Hco.out _ _ _ hE3 hl3 hf3).mono ?_
       rintro e9 VB ⟨g,rfl,ho,hxa⟩
       have HoB2:=hid (ho.mono hE3.size)
       have HEB2:=hid (hE3.trans hxa)
       have hEV:=(hE0.trans hx3).trans hxa
       have hS2:Ext V VB∧VB.cell? ⟨b,0,none⟩=some (.string sk)∧VB.cell? ⟨b,1,none⟩=some (.string ⟨#[49]⟩):=⟨hEV,hEV.cell hc0,hEV.cell hc1⟩
       have HEV2:=hid hEV
       clear hl3 hf3 hbc ho hE0 hx3 hE3 hEV hxa)
    | (go_at_call 105
       have hck2:Ext V ((VA.alloc (.cells #[.string s1,.string ⟨#[49]⟩,.string sk,.string ⟨#[49]⟩] 60)).alloc (.cells #[.slice aa n1 ca,.slice ab n2 cb] 32))∧((VA.alloc (.cells #[.string s1,.string ⟨#[49]⟩,.string sk,.string ⟨#[49]⟩] 60)).alloc (.cells #[.slice aa n1 ca,.slice ab n2 cb] 32)).cell? ⟨b,0,none⟩=some (.string sk)∧((VA.alloc (.cells #[.string s1,.string ⟨#[49]⟩,.string sk,.string ⟨#[49]⟩] 60)).alloc (.cells #[.slice aa n1 ca,.slice ab n2 cb] 32)).cell? ⟨b,1,none⟩=some (.string ⟨#[49]⟩):=by with_reducible assumption
       clear hck2
       have hbc:(VA.alloc (.cells #[.string s1,.string ⟨#[49]⟩,.string sk,.string ⟨#[49]⟩] 60)).heap[VA.heap.size]?=some (.cells (rcs [1,kq]).toArray 60 (0,0)):=by rw [Hone.out];exact World.alloc_heap_new VA _
       have hE0:Ext V (VA.alloc (.cells #[.string s1,.string ⟨#[49]⟩,.string sk,.string ⟨#[49]⟩] 60)):=(((Ext.refl V).drew).trans HxA.out).alloc _
       have hx3:Ext (VA.alloc (.cells #[.string s1,.string ⟨#[49]⟩,.string sk,.string ⟨#[49]⟩] 60)) ((VA.alloc (.cells #[.string s1,.string ⟨#[49]⟩,.string sk,.string ⟨#[49]⟩] 60)).alloc (.cells #[.slice aa n1 ca,.slice ab n2 cb] 32)):=(Ext.refl _).alloc _
       have hE3:Ext w ((VA.alloc (.cells #[.string s1,.string ⟨#[49]⟩,.string sk,.string ⟨#[49]⟩] 60)).alloc (.cells #[.slice aa n1 ca,.slice ab n2 cb] 32)):=(HE.out.trans hE0).trans hx3
       have hl3:RdM ((VA.alloc (.cells #[.string s1,.string ⟨#[49]⟩,.string sk,.string ⟨#[49]⟩] 60)).alloc (.cells #[.slice aa n1 ca,.slice ab n2 cb] 32)) (.slice (some ⟨VA.heap.size+1,0,none⟩) 2 2) [⟨a0::tl,.slice aa n1 ca,hua⟩,⟨ov tl.length,.slice ab n2 cb,hub⟩] :=
         ⟨zin (us:=[.slice aa n1 ca,.slice ab n2 cb]) (by have:=World.alloc_heap_new (VA.alloc (.cells #[.string s1,.string ⟨#[49]⟩,.string sk,.string ⟨#[49]⟩] 60)) (.cells #[.slice aa n1 ca,.slice ab n2 cb] 32);rwa [World.size_alloc] at this) (by unfold maxLen;simp),by
         intro r hr
         rcases List.mem_cons.1 hr with rfl | hr
         · exact Hra.out _ hE3
         · rw [List.mem_singleton] at hr;subst hr;exact Hrb.out _ hE3⟩
       have hf3:Rd ((VA.alloc (.cells #[.string s1,.string ⟨#[49]⟩,.string sk,.string ⟨#[49]⟩] 60)).alloc (.cells #[.slice aa n1 ca,.slice ab n2 cb] 32)) (.slice (some ⟨VA.heap.size,0,none⟩) 2 2) [1,kq] :=
         zio (x:=[1,kq]) (hx3.heap hbc) (by unfold maxLen;simp)
       refine (Hco.out _ _ _ hE3 hl3 hf3).mono ?_
       rintro e9 VB ⟨g,rfl,ho,hxa⟩
       have HoB2:=hid (ho.mono hE3.size)
       have HEB2:=hid (hE3.trans hxa)
       have hEV:=(hE0.trans hx3).trans hxa
       have hS2:Ext V VB∧VB.cell? ⟨b,0,none⟩=some (.string sk)∧VB.cell? ⟨b,1,none⟩=some (.string ⟨#[49]⟩):=⟨hEV,hEV.cell hc0,hEV.cell hc1⟩
       have HEV2:=hid hEV
       clear hl3 hf3 hbc ho hE0 hx3 hE3 hEV hxa)
    | (go_at_call 104;refine (Hre.out _ _ HoB.out.rd).mono ?_;rintro e9 VC ⟨rfl,hxa⟩;have HoC:=hid (hxa.ownQ HoB.out);have HEC:=hid (HEB.out.trans hxa);have hS3:Ext V VC∧VC.cell? ⟨b,0,none⟩=some (.string sk)∧VC.cell? ⟨b,1,none⟩=some (.string ⟨#[49]⟩):=⟨HEV.out.trans hxa,(HEV.out.trans hxa).cell hc0,(HEV.out.trans hxa).cell hc1⟩;clear hxa hS2)
    | (go_at_call 104;refine (Hre.out _ _ HoB2.out.rd).mono ?_;rintro e9 VC ⟨rfl,hxa⟩;have HoC:=hid (hxa.ownQ HoB2.out);have HEC:=hid (HEB2.out.trans hxa);have hS3:Ext V VC∧VC.cell? ⟨b,0,none⟩=some (.string sk)∧VC.cell? ⟨b,1,none⟩=some (.string ⟨#[49]⟩):=⟨HEV2.out.trans hxa,(HEV2.out.trans hxa).cell hc0,(HEV2.out.trans hxa).cell hc1⟩;clear hxa hS2))
  all_goals
   have Hfin:Hid (zjf w p.length r (.slice (some ⟨g,0,none⟩) p.length p.length) (.int .i64 0) VC):=hid ⟨g,rfl,rfl,HoC.out,HEC.out⟩;go_wp2_with fail
   go_meet
   exact Hfin.out
 case rest =>
  obtain ⟨g,rfl,rfl,ho,hx⟩:=hcut;have Ho:=hid ho;have Hx:=hid hx;clear ho hx;go_wp2
  go_ret2
  exact ⟨_,rfl,Ho.out,Hx.out⟩
theorem znr (vp va vb:Value)(p:List Int)(a0:Rat)(tl:List Rat)(w:World)(he:Env w)(hp:Sl w vp (zak p))(ha:Rd w va (a0::tl))(hb:Rd w vb (ov tl.length))(hpe:zee p=0)(hpr:Pr p (tl.length+1))(hf:∀ q∈a0::tl,Ft 30 q)(hrv:zhf w)(hk:Ft 400 ((-flN p (a0::tl):Int):Rat))(hfl:Fit (flN p (a0::tl)))
  (hres:∀ q∈zeU (a0::tl) (zeW (ov tl.length) ((-flN p (a0::tl):Int):Rat)),Ft 30 q) :
  Calls Tryz.prog 52 #[vp,vb,va] w fun e w'=>∃ g,e=.returned (.tuple #[.slice (some ⟨g,0,none⟩) p.length p.length,.string (I (flN p (a0::tl))),.int .i64 0])∧zf6 w' w.heap.size (.slice (some ⟨g,0,none⟩) p.length p.length) (zeU (a0::tl) (zeW (ov tl.length) ((-flN p (a0::tl):Int):Rat)))∧Ext w w':=by
 have h1:=znp vp va vb p a0 tl w he hp ha hb hpe hpr hf hrv;have h2:=fun W (h:Ext w W)=>znq vp va vb p a0 tl W (he.ext h) (h.sl hp) (h.rd ha) (h.rd hb) hpe hpr hf (hrv.ext h) hk hfl hres;generalize zeU (a0::tl) (zeW (ov tl.length) ((-flN p (a0::tl):Int):Rat))=r at *;generalize I (flN p (a0::tl))=sf at *;obtain ⟨ap,cp,rfl,_,_,_⟩:=hp.parts;obtain ⟨aa,ca,rfl,_,_,_⟩:=ha.parts;obtain ⟨ab,cb,rfl,_,_,_⟩:=hb.parts;clear hp ha hb he hpe hpr hf hrv hk hfl hres;have H1:=hid h1;have H2:=hid h2;clear h1 h2;go_enter Tryz.func52,Tryz.ntmps52
 go_wp2_with fail
 refine (H1.out).mono ?_;rintro e w1 ⟨rfl,hx1⟩;have Hx1:=hid hx1;clear hx1;go_wp2_with fail
 refine (H2.out w1 Hx1.out).mono ?_;rintro e w2 ⟨g,rfl,ho,hx2⟩;have Ho:=hid (ho.mono Hx1.out.size);have Hx2:=hid (Hx1.out.trans hx2);clear ho hx2;go_wp2
 exact bodyPost_ret (by simp [results,Tryz.results52,go_sem]) rfl ⟨g,rfl,Ho.out,Hx2.out⟩
theorem zns (v va:Value)(p:List Int)(rs:List Qw)(n:Nat)(r:Qw)(a0:Rat)(tl:List Rat)(w:World)(he:Env w)(hv:ScV w v p rs)(h:zjm p rs)(hn:rs.length=n+1)(hr:rs[n]?=some r)(hro:r.x=ov tl.length)
  (ha:Rd w va (a0::tl)) (hpr:Pr p (tl.length+1)) (hf:∀ q∈a0::tl,Ft 30 q) (hrv:zhf w) (hk:Ft 400 ((-flN p (a0::tl):Int):Rat)) (hfl:Fit (flN p (a0::tl)))
  (hres:∀ q∈zeU (a0::tl) (zeW (ov tl.length) ((-flN p (a0::tl):Int):Rat)),Ft 30 q) :
  Calls Tryz.prog 17 #[v,va] w fun e w'=>∃ g,e=.returned (.tuple #[.slice (some ⟨g,0,none⟩) p.length p.length,.string (I (flN p (a0::tl))),.int .i64 0])∧zf6 w' w.heap.size (.slice (some ⟨g,0,none⟩) p.length p.length) (zeU (a0::tl) (zeW (ov tl.length) ((-flN p (a0::tl):Int):Rat)))∧Ext w w':=by
 have hpl:=ziD hpr;have h60:=h.most;have h1:=fun W (hE:Ext w W)=>zjo v va p rs (a0::tl) W (he.ext hE) (hv.ext hE) h (hE.rd ha) (by rw [hpl];rfl) hf;have h2:=fun W (hE:Ext w W)=>zjk v p rs n r W (hv.ext hE) hn (by omega) hr;obtain ⟨vp,vn,rfl,hp,hs,hm⟩:=hv;have hmr:=hm r (List.mem_of_getElem? hr);rw [hro] at hmr;have h3:=fun W (hE:Ext w W)=>znr vp va r.u p a0 tl W (he.ext hE) (hE.sl hp) (hE.rd ha) (hE.rd hmr) h.pe hpr hf (hrv.ext hE) hk hfl hres;generalize zeU (a0::tl) (zeW (ov tl.length) ((-flN p (a0::tl):Int):Rat))=z at *;generalize I (flN p (a0::tl))=sf at *;obtain ⟨ap,cp,rfl,_,_,_⟩:=hp.parts;obtain ⟨an,cn,rfl,_,_,_⟩:=hs.parts;obtain ⟨aa,ca,rfl,_,_,_⟩:=ha.parts;obtain ⟨ar,cr,hru,_,_,_⟩:=hmr.parts;rw [hru] at h2 h3;generalize (zak p).length=n1 at *;generalize (qwc rs).length=n2 at *;generalize (a0::tl).length=n3 at *;generalize (ov tl.length).length=n4 at *;have bx:(w.alloc (.cells #[.slice ap n1 cp,.slice an n2 cn] 36)).heap[w.heap.size]?=some (.cells #[.slice ap n1 cp,.slice an n2 cn] 36 (0,0)):=World.alloc_heap_new w _;have hE0:Ext w (w.alloc (.cells #[.slice ap n1 cp,.slice an n2 cn] 36)):=(Ext.refl w).alloc _;have hbox:∀ W,Ext (w.alloc (.cells #[.slice ap n1 cp,.slice an n2 cn] 36)) W→W.cell? ⟨w.heap.size,0,none⟩=some (.slice ap n1 cp)∧W.cell? ⟨w.heap.size,1,none⟩=some (.slice an n2 cn):=fun W hE=>by
  have hb:=hE.heap bx;unfold World.cell?;dsimp only;rw [hb];exact ⟨rfl,rfl⟩
 clear hp hs hm he h ha hpr hf hrv hk hfl hres hmr hru hr hro hn bx hpl h60;have H1:=hid h1;have H2:=hid h2;have H3:=hid h3;have HE0:=hid hE0;have Hbox:=hid hbox;clear h1 h2 h3 hE0 hbox;go_enter Tryz.func17,Tryz.ntmps17
 go_wp2_with fail
 refine (H1.out _ HE0.out).mono ?_;rintro e w1 ⟨rfl,hx1⟩;obtain ⟨q0,q1⟩:=Hbox.out w1 hx1;have Hx1:=hid (HE0.out.trans hx1);clear hx1;go_wp2_with fail
 go_region_held3 (fun w'=>Ext w1 w'∧w'.cell? ⟨w.heap.size,0,none⟩=some (.slice ap n1 cp)∧w'.cell? ⟨w.heap.size,1,none⟩=some (.slice an n2 cn))
  (first | (with_reducible assumption) | exact ⟨(Ext.refl w1).drew,q0,q1⟩)
  (first
   | (go_at_call 53;refine (H2.out _ (Hx1.out.trans (And.left (by assumption)))).mono ?_;rintro e9 VA ⟨rfl,hxa⟩;have hEA:=((Ext.refl w1).drew).trans hxa;have hS2:Ext w1 VA∧VA.cell? ⟨w.heap.size,0,none⟩=some (.slice ap n1 cp)∧VA.cell? ⟨w.heap.size,1,none⟩=some (.slice an n2 cn):=⟨hEA,hEA.cell q0,hEA.cell q1⟩;have HEA:=hid hEA;clear hxa hEA)
   | (go_at_call 52;refine (H3.out _ (Hx1.out.trans HEA.out)).mono ?_;rintro e9 VB ⟨g,rfl,ho,hxa⟩;have hEB:=HEA.out.trans hxa;have hS3:Ext w1 VB∧VB.cell? ⟨w.heap.size,0,none⟩=some (.slice ap n1 cp)∧VB.cell? ⟨w.heap.size,1,none⟩=some (.slice an n2 cn):=⟨hEB,hEB.cell q0,hEB.cell q1⟩;have HEB:=hid hEB;have HoB:=hid (ho.mono (Hx1.out.trans HEA.out).size);clear hxa hEB ho hS2))
 all_goals
  clear hS3 q0 q1;go_wp2
  exact bodyPost_ret (by simp [results,Tryz.results17,go_sem]) rfl ⟨g,rfl,HoB.out,Hx1.out.trans HEB.out⟩
def findA (n:Nat)(i q:Int)(z:Bool):Int × Bool :=
 if i=0∧z=false then (0,false) else if 2000000<q∨q < -2000000 then (0,false) else
 if q * (n:Int)+i < -1000000∨1000000<q * (n:Int)+i then (0,false) else (q * (n:Int)+i,true)
def znt (W:World)(n:Nat)(s:ByteArray)(x:List Rat)(v8 v9 v6:Value)(wx:World):Prop:=∃ bk g,v8=.pointer (some ⟨bk,0,none⟩)∧v9=.string s∧v6=.int .i64 0∧Boxed wx bk 32 (.slice (some ⟨g,0,none⟩) n n)∧Rd wx (.slice (some ⟨g,0,none⟩) n n) x∧Ext W wx
theorem znu (z:Int)(w:World)(hr:zhf w)(hf:Fit z) :
  Calls Tryz.prog 56 #[.string (I z)] w fun e w'=>(∃ (n:Int)(b:Bool),e=.returned (.tuple #[.int .i64 n,.bool b])∧(b=true→n=z)∧(b=false→z < -9223372036854775808∨9223372036854775808≤z))∧Ext w w':=by
 rcases Classical.em (-9223372036854775808≤z∧z≤9223372036854775807) with h | h
 ·exact (zhj z w h.1 h.2).mono fun e w' ⟨h1,h2⟩=>⟨⟨z,true,h1,fun _=>rfl,fun h=>nomatch h⟩,h2⟩
 ·exact (zhk z w hr (by omega) hf).mono fun e w' ⟨h1,h2⟩=>⟨⟨0,false,h1,fun h=>(nomatch h),fun _=>by omega⟩,h2⟩
theorem zkt.bd {P:List Rat→Bool}{rs:List Qw}{z:Int}(h:zkt P rs z):-1≤z∧z<rs.length:=by
 rcases h with ⟨rfl,_⟩ | ⟨k,r,rfl,hk,_⟩
 ·omega
 ·have:=(List.getElem?_eq_some_iff.1 hk).1;omega
theorem znv {n:Nat}{i q:Int}{z:Bool}(h:¬ (i=0∧z=false))(hq:2000000<q∨q < -2000000):findA n i q z=(0,false):=by unfold findA;rw [if_neg h,if_pos hq]
theorem znw {n:Nat}{i q:Int}{z:Bool}(h:¬ (i=0∧z=false))(hq:¬ (2000000<q∨q < -2000000))(hk:q * (n:Int)+i < -1000000∨1000000<q * (n:Int)+i):findA n i q z=(0,false):=by unfold findA;rw [if_neg h,if_neg hq,if_pos hk]
theorem znx {n:Nat}{i q:Int}{z:Bool}(h:¬ (i=0∧z=false))(hq:¬ (2000000<q∨q < -2000000))(hk:¬ (q * (n:Int)+i < -1000000∨1000000<q * (n:Int)+i)):findA n i q z=(q * (n:Int)+i,true):=by unfold findA;rw [if_neg h,if_neg hq,if_neg hk]
theorem zny (bk:Nat)(va vb:Value)(x y:List Rat)(w:World)(hb:Boxed w bk 32 va)(ha:Rd w va x)(hy:Rd w vb y)(hx9:x.length≤1000)(hy9:y.length≤1000) :
  Calls Tryz.prog 55 #[vb,.pointer (some ⟨bk,0,none⟩)] w fun e w'=>e=.returned (.bool (decide (x=y)))∧Ext w w':=by
 have h:=zkk va vb x y w ha hy hx9 hy9;have hc:=hb.cell;obtain ⟨aa,ca,rfl,_,_,_⟩:=ha.parts;obtain ⟨ab,cb,rfl,_,_,_⟩:=hy.parts;generalize decide (x=y)=b at *;generalize x.length=n1 at *;generalize y.length=n2 at *;clear ha hy hb hx9 hy9;have H:=hid h;clear h;go_enter Tryz.func55,Tryz.ntmps55
 go_wp2_with fail
 refine H.out.mono ?_;rintro e w1 ⟨rfl,hx1⟩;have Hx1:=hid hx1;clear hx1;go_wp2
 go_ret
 exact ⟨rfl,Hx1.out⟩
theorem znz (v va:Value)(p:List Int)(rs:List Qw)(n:Nat)(r:Qw)(a0:Rat)(tl:List Rat)(w:World)(he:Env w)(hv:ScV w v p rs)(h:zjm p rs)(hn:rs.length=n+1)(hr:rs[n]?=some r)(hro:r.x=ov tl.length)
  (ha:Rd w va (a0::tl)) (hpr:Pr p (tl.length+1)) (hf:∀ q∈a0::tl,Ft 30 q) (hrv:zhf w) (hk:Ft 400 ((-flN p (a0::tl):Int):Rat)) (hfl:Fit (flN p (a0::tl)))
  (hres:∀ q∈zeU (a0::tl) (zeW (ov tl.length) ((-flN p (a0::tl):Int):Rat)),Ft 30 q) :
  Calls Tryz.prog 18 #[v,va] w fun e w'=>∃ z:Int,zkt (fun y=>decide (zeU (a0::tl) (zeW (ov tl.length) ((-flN p (a0::tl):Int):Rat))=y)) rs z ∧
   e=.returned (.tuple #[.int .i64 (findA rs.length (z+1) (flN p (a0::tl)) (decide (zeU (a0::tl) (zeW (ov tl.length) ((-flN p (a0::tl):Int):Rat))=List.replicate p.length 0))).1,.bool (findA rs.length (z+1) (flN p (a0::tl)) (decide (zeU (a0::tl) (zeW (ov tl.length) ((-flN p (a0::tl):Int):Rat))=List.replicate p.length 0))).2,.int .i64 0])∧Ext w w':=by
 have hpl:=ziD hpr;have h60:=h.most;have hp3:p.length≤3:=by rcases hpr with ⟨rfl,_⟩ | ⟨rfl,_⟩ <;> simp
 have hlens:∀ s∈rs,s.x.length≤1000:=fun s hs=>by have:=h.len s hs;omega
 have hzl:(zeU (a0::tl) (zeW (ov tl.length) ((-flN p (a0::tl):Int):Rat))).length=p.length:=by unfold zeU zeW;rw [List.length_zipWith,List.length_map,ziF,List.length_cons,Nat.min_self,hpl]
 have h1:=fun W (hE:Ext w W)=>zjo v va p rs (a0::tl) W (he.ext hE) (hv.ext hE) h (hE.rd ha) (by rw [hpl];rfl) hf;have h2:=fun W (hE:Ext w W)=>zjk v p rs n r W (hv.ext hE) hn (by omega) hr;obtain ⟨vp,vn,rfl,hp,hs,hm⟩:=hv;have hmr:=hm r (List.mem_of_getElem? hr);rw [hro] at hmr;have h3:=fun W (hE:Ext w W)=>znr vp va r.u p a0 tl W (he.ext hE) (hE.sl hp) (hE.rd ha) (hE.rd hmr) h.pe hpr hf (hrv.ext hE) hk hfl hres;have h4:=fun W (hE:Ext w W)=>zip vp p W (he.ext hE) (hE.sl hp) h.pe;have h6:=fun W (hE:Ext w W)=>znu (flN p (a0::tl)) W (hrv.ext hE) hfl;generalize zeU (a0::tl) (zeW (ov tl.length) ((-flN p (a0::tl):Int):Rat))=x at *;have h5:=fun W bk vx (hE:Ext w W)(hb:Boxed W bk 32 vx)(hx:Rd W vx x)=>zku 55 #[.pointer (some ⟨bk,0,none⟩)] vn rs (fun y=>decide (x=y)) W (hE.sl hs) (by omega) (fun _ _=>rfl) (fun W2 hE2 s hs2=>zny bk vx s.u x s.x W2 (hE2.heap hb) (hE2.rd hx) ((hE.trans hE2).rd (hm s hs2)) (by omega) (hlens s hs2));have h7:=fun W vx vz (hx:Rd W vx x)(hz:Rd W vz (List.replicate p.length 0))=>zkk vx vz x (List.replicate p.length 0) W hx hz (by omega) (by rw [List.length_replicate];omega);generalize flN p (a0::tl)=q at *;generalize hsq:I q=sf at *;obtain ⟨ap,cp,rfl,_,_,_⟩:=hp.parts;obtain ⟨an,cn,rfl,_,_,_⟩:=hs.parts;obtain ⟨aa,ca,rfl,_,_,_⟩:=ha.parts;obtain ⟨ar,cr,hru,_,_,_⟩:=hmr.parts;rw [hru] at h2 h3;rw [zf9] at *;have hidb:∀ P z,zkt P rs z→-1≤z∧z<rs.length:=fun P z h=>h.bd;generalize hrn:rs.length=N at *;have hN60:N≤60:=by omega
 generalize (zak p).length=n1 at *;generalize (a0::tl).length=n3 at *;generalize (ov tl.length).length=n4 at *;have bx:(w.alloc (.cells #[.slice ap n1 cp,.slice an N cn] 36)).heap[w.heap.size]?=some (.cells #[.slice ap n1 cp,.slice an N cn] 36 (0,0)):=World.alloc_heap_new w _;have hE0:Ext w (w.alloc (.cells #[.slice ap n1 cp,.slice an N cn] 36)):=(Ext.refl w).alloc _;have hbox:∀ W,Ext (w.alloc (.cells #[.slice ap n1 cp,.slice an N cn] 36)) W→W.cell? ⟨w.heap.size,0,none⟩=some (.slice ap n1 cp)∧W.cell? ⟨w.heap.size,1,none⟩=some (.slice an N cn):=fun W hE=>by
  have hb:=hE.heap bx;unfold World.cell?;dsimp only;rw [hb];exact ⟨rfl,rfl⟩
 clear hp hs hm he h ha hpr hf hrv hk hfl hres hmr hru hr hro hn bx hpl h60 hlens hzl hp3 hsq hrn;have H1:=hid h1;have H2:=hid h2;have H3:=hid h3;have H4:=hid h4;have H5:=hid h5;have H6:=hid h6;have H7:=hid h7;have HE0:=hid hE0;have Hbox:=hid hbox;have Hidb:=hid hidb;clear h1 h2 h3 h4 h5 h6 h7 hE0 hbox hidb;go_enter Tryz.func18,Tryz.ntmps18
 go_wp2_with fail
 refine (H1.out _ HE0.out).mono ?_;rintro e w1 ⟨rfl,hx1⟩;obtain ⟨q0,q1⟩:=Hbox.out w1 hx1;have Hx1:=hid (HE0.out.trans hx1);have H01:=hid hx1;clear hx1;have hSQ:∀ W,Ext w1 W→Ext w1 W∧W.cell? ⟨w.heap.size,0,none⟩=some (.slice ap n1 cp)∧W.cell? ⟨w.heap.size,1,none⟩=some (.slice an N cn):=fun W hE=>⟨hE,hE.cell q0,hE.cell q1⟩;have HSQ:=hid hSQ;clear hSQ;go_upto_region 4 with (fail)
 go_cut [8,9,6] (fun v8 v9 v6 wx=>znt w1 p.length sf x v8 v9 v6 wx)
 case first =>
  go_region_held3 (fun w'=>Ext w1 w'∧w'.cell? ⟨w.heap.size,0,none⟩=some (.slice ap n1 cp)∧w'.cell? ⟨w.heap.size,1,none⟩=some (.slice an N cn))
   (first | (with_reducible assumption) | exact HSQ.out _ (Ext.refl w1).drew | exact HSQ.out _ (((Ext.refl w1).drew).alloc _) | exact HSQ.out _ (HEB.out.setCell (p:=⟨w1.heap.size,0,none⟩) (Nat.le_refl _) _) | exact HSQ.out _ (HEB.out.setCell (p:=⟨VA.heap.size,0,none⟩) HEA.out.size _) | exact HSQ.out _ ((HEB.out.alloc _).setCell (p:=⟨VB.heap.size,0,none⟩) HEB.out.size _) | exact HSQ.out _ (HEB.out.alloc _) | exact HSQ.out _ (HEA.out.alloc _))
   (first
    | (go_at_call 53
       refine (H2.out _ (Hx1.out.trans (And.left (by with_reducible assumption)))).mono ?_
       rintro e9 VA ⟨rfl,hxa⟩
       have hEA:Ext w1 VA:=Ext.trans (And.left (by with_reducible assumption)) hxa
       have hS2:Ext w1 VA∧VA.cell? ⟨w.heap.size,0,none⟩=some (.slice ap n1 cp)∧VA.cell? ⟨w.heap.size,1,none⟩=some (.slice an N cn):=⟨hEA,hEA.cell q0,hEA.cell q1⟩
       first
         | (have hbA:Boxed VA w1.heap.size 32 (.slice none 0 0):=hxa.heap (World.alloc_heap_new w1.drew _)
            have HbA:=hid hbA
            clear hbA)
         | skip
       have HEA:=hid hEA
       clear hxa hEA)
    | (go_at_call 52
       refine (H3.out _ (Hx1.out.trans (And.left (by with_reducible assumption)))).mono ?_
       rintro e9 VB ⟨g,rfl,ho,hxa⟩
       have hEB:Ext w1 VB:=Ext.trans (And.left (by with_reducible assumption)) hxa
       have hS3:Ext w1 VB∧VB.cell? ⟨w.heap.size,0,none⟩=some (.slice ap n1 cp)∧VB.cell? ⟨w.heap.size,1,none⟩=some (.slice an N cn):=⟨hEB,hEB.cell q0,hEB.cell q1⟩
       first
         | (have hbB:Boxed VB w1.heap.size 32 (.slice none 0 0):=hxa.heap HbA.out
            have k0:=hbB.cell
            have z0:=hbB.frozen
            have HbB:=hid hbB
            clear hbB)
         | (have hbB:Boxed VB VA.heap.size 32 (.slice none 0 0):=hxa.heap (World.alloc_heap_new VA _)
            have k0:=hbB.cell
            have z0:=hbB.frozen
            have HbC:=hid hbB
            clear hbB)
         | skip
       have HEB:=hid hEB
       have Ho:=hid ho
       clear hxa hEB ho hS2))
  all_goals
   first
    | have Hfin:Hid (znt w1 p.length sf x (.pointer (some ⟨w1.heap.size,0,none⟩)) (.string sf) (.int .i64 0) (VB.setCell ⟨w1.heap.size,0,none⟩ (.slice (some ⟨g,0,none⟩) p.length p.length))):=hid ⟨w1.heap.size,g,rfl,rfl,rfl,Boxed.set _ HbB.out,zf6.rd (zgk HbB.out Ho.out (by decide) 0 _),HEB.out.setCell (p:=⟨w1.heap.size,0,none⟩) (Nat.le_refl _) _⟩
    | have Hfin:Hid (znt w1 p.length sf x (.pointer (some ⟨VA.heap.size,0,none⟩)) (.string sf) (.int .i64 0) (VB.setCell ⟨VA.heap.size,0,none⟩ (.slice (some ⟨g,0,none⟩) p.length p.length))):=hid ⟨VA.heap.size,g,rfl,rfl,rfl,Boxed.set _ HbC.out,zf6.rd (zgk HbC.out Ho.out (by decide) 0 _),HEB.out.setCell (p:=⟨VA.heap.size,0,none⟩) HEA.out.size _⟩
    | have Hfin:Hid (znt w1 p.length sf x (.pointer (some ⟨VB.heap.size,0,none⟩)) (.string sf) (.int .i64 0) (VB.alloc (.cells #[.slice (some ⟨g,0,none⟩) p.length p.length] 32))):=hid ⟨VB.heap.size,g,rfl,rfl,rfl,Boxed.new VB _ _,((Ext.refl VB).alloc _).rd Ho.out.rd,HEB.out.alloc _⟩
   go_wp2_with fail
   go_meet
   exact Hfin.out
 case rest =>
  obtain ⟨bk,g,rfl,rfl,rfl,hb,hrd,hx2⟩:=hcut;have c0:=hx2.cell q0;have c1:=hx2.cell q1;have Hx2:=hid (Hx1.out.trans hx2);have Hb:=hid hb;have Hrd:=hid hrd;clear hb hrd hx2;go_wp2_with fail
  refine (H4.out _ Hx2.out).mono ?_;rintro e w3 ⟨rfl,hoz,hx3⟩;have d1:=hx3.cell c1;have hbz:Boxed w3 bk 32 (.slice (some ⟨g,0,none⟩) p.length p.length):=hx3.heap Hb.out;have H5b:=hid (H5.out w3 bk _ (Hx2.out.trans hx3) hbz (hx3.rd Hrd.out));have Hx3:=hid (Hx2.out.trans hx3);have Hbz:=hid hbz;have Hrd3:=hid (hx3.rd Hrd.out);have Hoz:=hid hoz.rd;clear hx3 hbz hoz c0 c1;go_wp2_with fail
  refine H5b.out.mono ?_;rintro e w4 ⟨z,rfl,hz,hx4⟩;have hzb:=Hidb.out _ _ hz;have qw5:=hx4.cell d1;have e0:=(show Boxed w4 bk 32 (.slice (some ⟨g,0,none⟩) p.length p.length) from hx4.heap Hbz.out).cell;have H7b:=hid (H7.out w4 _ _ (hx4.rd Hrd3.out) (hx4.rd Hoz.out));have HXw5:=hid (Hx3.out.trans hx4);have Hz:=hid hz;clear hx4 hz d1;by_cases hz1:z=-1
  ·subst hz1;go_wp2_with fail
   refine H7b.out.mono ?_;rintro e w5 ⟨rfl,hx5⟩;replace qw5:=hx5.cell qw5;replace HXw5:=hid (HXw5.out.trans hx5);clear hx5 e0 hzb;by_cases hxz:x=List.replicate p.length 0
   case neg =>
    have hzf:decide (x=List.replicate p.length 0)=false:=decide_eq_false hxz;have Hzf:=hid hzf;go_wp2
    go_ret3
    exact ⟨-1,Hz.out,by rw [Hzf.out,show findA N (-1+1) q false=(0,false) from if_pos ⟨rfl,rfl⟩];rfl,HXw5.out⟩
   case pos =>
    have hzf:decide (x=List.replicate p.length 0)=true:=decide_eq_true hxz;have Hzf:=hid hzf;obtain ⟨z,hzz⟩:∃ z:Int,z=-1:=⟨_,rfl⟩;have Hzi:Hid (z+1=0):=hid (by omega);rw [← hzz] at Hz ⊢;clear hzz;have HFar:=hid fun (q:Int) hq=>znv (n:=N) (i:=(0:Int)) (q:=q) (z:=true) (fun h=>nomatch h.2) hq
    have HOut:=hid fun (q:Int) hq hk=>znw (n:=N) (i:=(0:Int)) (q:=q) (z:=true) (fun h=>nomatch h.2) hq hk
    have HIn:=hid fun (q:Int) hq hk=>znx (n:=N) (i:=(0:Int)) (q:=q) (z:=true) (fun h=>nomatch h.2) hq hk

    go_wp2_with fail
    refine (H6.out _ HXw5.out).mono ?_
    rintro e w6 ⟨⟨nn,b,rfl,hb1,hb2⟩,hx6⟩
    have q1':=hx6.cell qw5
    have HX6:=hid (HXw5.out.trans hx6)
    clear hx6
    cases b with
    | false =>
     have hfar:=hb2 rfl
     have hres:=HFar.out q (by omega)
     have Hres:=hid hres
     clear hb1 hb2 hfar hres
     go_wp2
     go_ret3
     exact ⟨z,Hz.out,by rw [Hzi.out,Hzf.out,Hres.out];rfl,HX6.out⟩
    | true =>
     obtain rfl:=hb1 rfl
     clear hb1 hb2
     by_cases hgt:2000000<nn
     ·have hres:=HFar.out nn (.inl hgt)
      have Hres:=hid hres
      clear hres
      go_wp2
      go_ret3
      exact ⟨z,Hz.out,by rw [Hzi.out,Hzf.out,Hres.out];rfl,HX6.out⟩
     ·by_cases hlt:nn < -2000000
      ·have hres:=HFar.out nn (.inr hlt)
       have Hres:=hid hres
       clear hres
       go_wp2
       go_ret3
       exact ⟨z,Hz.out,by rw [Hzi.out,Hzf.out,Hres.out];rfl,HX6.out⟩
      ·have hb1:nn * (N:Int)≤2000000 * 60:=Int.le_trans (Int.mul_le_mul_of_nonneg_right (show nn≤2000000 by omega) (by omega)) (Int.mul_le_mul_of_nonneg_left (show (N:Int)≤60 by omega) (by omega))
       have hb2:-2000000 * 60≤nn * (N:Int):=by
        have h1:=Int.mul_le_mul_of_nonneg_right (show -2000000≤nn by omega) (show (0:Int)≤(N:Int) by omega);omega
       by_cases ho1:nn * (N:Int) < -1000000
       ·have hres:=HOut.out nn (by omega) (.inl (by omega))
        have Hres:=hid hres
        clear hres
        go_wp2
        go_ret3
        exact ⟨z,Hz.out,by rw [Hzi.out,Hzf.out,Hres.out];rfl,HX6.out⟩
       ·by_cases ho2:1000000<nn * (N:Int)
        ·have hres:=HOut.out nn (by omega) (.inr (by omega))
         have Hres:=hid hres
         clear hres
         go_wp2
         go_ret3
         exact ⟨z,Hz.out,by rw [Hzi.out,Hzf.out,Hres.out];rfl,HX6.out⟩
        ·have hres:=HIn.out nn (by omega) (by omega)
         rw [Int.add_zero] at hres
         have Hres:=hid hres
         clear hres
         go_wp2
         go_ret3
         exact ⟨z,Hz.out,by rw [Hzi.out,Hzf.out,Hres.out];rfl,HX6.out⟩
  ·obtain ⟨i,hi⟩:∃ i:Nat,z=i:=⟨z.toNat,by omega⟩
   subst hi
   obtain ⟨z,hzz⟩:∃ z:Int,z=(i:Int):=⟨_,rfl⟩
   have Hzi:Hid (z+1=(i:Int)+1):=hid (by omega)
   rw [← hzz] at Hz
   have hiz:¬ (i:Int)+1=0:=by omega
   have HFar:=hid fun (q:Int) hq=>znv (n:=N) (i:=((i:Int)+1)) (q:=q) (z:=decide (x=List.replicate p.length 0)) (fun h=>hiz h.1) hq
   have HOut:=hid fun (q:Int) hq hk=>znw (n:=N) (i:=((i:Int)+1)) (q:=q) (z:=decide (x=List.replicate p.length 0)) (fun h=>hiz h.1) hq hk
   have HIn:=hid fun (q:Int) hq hk=>znx (n:=N) (i:=((i:Int)+1)) (q:=q) (z:=decide (x=List.replicate p.length 0)) (fun h=>hiz h.1) hq hk
   clear hzz hz1 H7b e0

   go_wp2_with fail
   refine (H6.out _ HXw5.out).mono ?_
   rintro e w6 ⟨⟨nn,b,rfl,hb1,hb2⟩,hx6⟩
   have q1':=hx6.cell qw5
   have HX6:=hid (HXw5.out.trans hx6)
   clear hx6
   cases b with
   | false =>
    have hfar:=hb2 rfl
    have hres:=HFar.out q (by omega)
    have Hres:=hid hres
    clear hb1 hb2 hfar hres
    go_wp2
    go_ret3
    exact ⟨z,Hz.out,by rw [Hzi.out,Hres.out];rfl,HX6.out⟩
   | true =>
    obtain rfl:=hb1 rfl
    clear hb1 hb2
    by_cases hgt:2000000<nn
    ·have hres:=HFar.out nn (.inl hgt)
     have Hres:=hid hres
     clear hres
     go_wp2
     go_ret3
     exact ⟨z,Hz.out,by rw [Hzi.out,Hres.out];rfl,HX6.out⟩
    ·by_cases hlt:nn < -2000000
     ·have hres:=HFar.out nn (.inr hlt)
      have Hres:=hid hres
      clear hres
      go_wp2
      go_ret3
      exact ⟨z,Hz.out,by rw [Hzi.out,Hres.out];rfl,HX6.out⟩
     ·have hb1:nn * (N:Int)≤2000000 * 60:=Int.le_trans (Int.mul_le_mul_of_nonneg_right (show nn≤2000000 by omega) (by omega)) (Int.mul_le_mul_of_nonneg_left (show (N:Int)≤60 by omega) (by omega))
      have hb2:-2000000 * 60≤nn * (N:Int):=by
       have h1:=Int.mul_le_mul_of_nonneg_right (show -2000000≤nn by omega) (show (0:Int)≤(N:Int) by omega);omega
      by_cases ho1:nn * (N:Int)+((i:Int)+1) < -1000000
      ·have hres:=HOut.out nn (by omega) (.inl (by omega))
       have Hres:=hid hres
       clear hres
       go_wp2
       go_ret3
       exact ⟨z,Hz.out,by rw [Hzi.out,Hres.out];rfl,HX6.out⟩
      ·by_cases ho2:1000000<nn * (N:Int)+((i:Int)+1)
       ·have hres:=HOut.out nn (by omega) (.inr (by omega))
        have Hres:=hid hres
        clear hres
        go_wp2
        go_ret3
        exact ⟨z,Hz.out,by rw [Hzi.out,Hres.out];rfl,HX6.out⟩
       ·have hres:=HIn.out nn (by omega) (by omega)
        have Hres:=hid hres
        clear hres
        go_wp2
        go_ret3
        exact ⟨z,Hz.out,by rw [Hzi.out,Hres.out];rfl,HX6.out⟩
end Go.Proofs.YtbkfhacmekbniaaGreatDoor
