/- Walks: Floor, Remainder, scale.reduce, scale.Reduce by the octave, at any size of numbers of 30 digits. (Printed by wip/flg.py.) Walks: scale.Find of a right scale with the octave as its period. Walks: slices.Grow of nothing, slices.Concat of two lists of sizes. Walks: scale.alike, scale.Within. -/
import Derived.Test.YtbkfhacmekbniaaGreatDoorPc24
import Derived.Test.YtbkfhacmekbniaaGreatDoorPc15
import Derived.Test.YtbkfhacmekbniaaGreatDoorPc18
import Derived.Test.YtbkfhacmekbniaaGreatDoorPc16
import Derived.Deep.DeepCutAuto
import Derived.Test.YtbkfhacmekbniaaGreatDoorPc03
import Derived.Test.YtbkfhacmekbniaaGreatDoorPc07
import Derived.Laws.OwnMore
import Derived.Deep.RegionLaw
import Derived.Deep.AppendLies
import Derived.LoopN
import Derived.Test.YtbkfhacmekbniaaGreatDoorPc21
set_option maxRecDepth 100000
set_option maxHeartbeats 2000000
namespace Go.Proofs.YtbkfhacmekbniaaGreatDoor
section
open Go.RowKit Go.Lib
attribute [local go_sem] Oper.semAt_some
theorem zmM : ∀ (x:List Rat)(d0:Nat),x.foldl (fun d r=>Nat.lcm d r.den) d0 ∣ d0 * (x.map Rat.den).prod
 | [],d0=>by simp
 | s::x,d0=>by
  rw [List.foldl_cons,List.map_cons,List.prod_cons,← Nat.mul_assoc];refine Nat.dvd_trans (zmM x (Nat.lcm d0 s.den)) ?_;exact Nat.mul_dvd_mul (Nat.lcm_dvd_mul d0 s.den) (Nat.dvd_refl _)
theorem zmN {r:Rat}(h:Ft 30 r):r.den<10 ^ 30∧r.num.natAbs<10 ^ 30 :=
 ⟨Nat.lt_of_lt_of_le (lt_pow_nDigits _) (Nat.pow_le_pow_right (by decide) h.2),Nat.lt_of_lt_of_le (lt_pow_nDigits _) (Nat.pow_le_pow_right (by decide) h.1)⟩
theorem zmO {p:List Int}{x:List Rat}(hp:Pr p x.length)(hf:∀ q∈x,Ft 30 q):FwN x∧nDigits (dn x)≤50000:=by
 have hT:0<10 ^ 30:=Nat.pow_pos (by decide);have key:∀ T:Nat,0<T→(∀ r∈x,r.den<T∧r.num.natAbs<T)→dn x≤T * T * T∧∀ r∈x,(r.num * ((dn x / r.den:Nat):Int)).natAbs≤T * (T * T * T):=by
  intro T hT h;have h1:dn x ∣ (x.map Rat.den).prod:=by have:=zmM x 1;rwa [Nat.one_mul] at this
  have h2:(x.map Rat.den).prod≤T * T * T:=by
   rcases hp with ⟨_,hl⟩ | ⟨_,hl⟩
   ·match x,hl with
    | [a,b],_ =>
     have ha:=(h a (by simp)).1;have hb:=(h b (by simp)).1
     simp only [List.map_cons,List.map_nil,List.prod_cons,List.prod_nil,Nat.mul_one]
     exact Nat.le_trans (Nat.mul_le_mul (Nat.le_of_lt ha) (Nat.le_of_lt hb)) (Nat.le_mul_of_pos_right _ hT)
   ·match x,hl with
    | [a,b,c],_ =>
     have ha:=(h a (by simp)).1;have hb:=(h b (by simp)).1;have hc:=(h c (by simp)).1
     simp only [List.map_cons,List.map_nil,List.prod_cons,List.prod_nil,Nat.mul_one]
     rw [← Nat.mul_assoc]
     exact Nat.mul_le_mul (Nat.mul_le_mul (Nat.le_of_lt ha) (Nat.le_of_lt hb)) (Nat.le_of_lt hc)
  have h0:0<(x.map Rat.den).prod:=by
   rcases hp with ⟨_,hl⟩ | ⟨_,hl⟩
   ·match x,hl with
    | [a,b],_=>simp only [List.map_cons,List.map_nil,List.prod_cons,List.prod_nil,Nat.mul_one];exact Nat.mul_pos a.den_pos b.den_pos
   ·match x,hl with
    | [a,b,c],_=>simp only [List.map_cons,List.map_nil,List.prod_cons,List.prod_nil,Nat.mul_one];exact Nat.mul_pos a.den_pos (Nat.mul_pos b.den_pos c.den_pos)
  have h3:dn x≤T * T * T:=Nat.le_trans (Nat.le_of_dvd h0 h1) h2;refine ⟨h3,fun r hr=>?_⟩;rw [Int.natAbs_mul,Int.natAbs_natCast];exact Nat.mul_le_mul (Nat.le_of_lt (h r hr).2) (Nat.le_trans (Nat.div_le_self _ _) h3)
 obtain ⟨k1,k2⟩:=key (10 ^ 30) hT fun r hr=>zmN (hf r hr);have e3:(10:Nat) ^ 30 * 10 ^ 30 * 10 ^ 30=10 ^ 90:=by rw [← Nat.pow_add,← Nat.pow_add]
 have e4:(10:Nat) ^ 30 * 10 ^ 90=HH:=by rw [← Nat.pow_add];rfl
 rw [e3] at k1;rw [e3,e4] at k2;refine ⟨k2,Nat.le_trans (Dec.nDigits_le (k:=91) (by decide) (Nat.lt_of_le_of_lt k1 ?_)) (by decide)⟩;exact Nat.pow_lt_pow_right (by decide) (by decide)
theorem zmP (vp va vb:Value)(p:List Int)(a0:Rat)(tl:List Rat)(w:World)(he:Env w)(hp:Sl w vp (zak p))(ha:Rd w va (a0::tl))(hb:Rd w vb (ov tl.length))(hpr:Pr p (tl.length+1))(hf:∀ q∈a0::tl,Ft 30 q)(hrv:zgm w) :
  Calls Tryz.prog 91 #[vp,va,vb] w fun e w'=>e=.returned (.string (I (flN p (a0::tl))))∧Ext w w' :=
 have h:=zmO (x:=a0::tl) (by rw [List.length_cons];exact hpr) hf
 zmL vp va vb p a0 tl w he hp ha hb hpr hf h.1 h.2 hrv
theorem zmQ (vp va vb:Value)(p:List Int)(a0:Rat)(tl:List Rat)(w:World)(he:Env w)(hp:Sl w vp (zak p))(ha:Rd w va (a0::tl))(hb:Rd w vb (ov tl.length))(hpe:zfe p=0)(hpr:Pr p (tl.length+1))(hf:∀ q∈a0::tl,Ft 30 q)(hrv:zgm w) :
  Calls Tryz.prog 59 #[vp,va,vb] w fun e w'=>e=.returned (.tuple #[.string (I (flN p (a0::tl))),.int .i64 0])∧Ext w w':=by
 have h1:=zik vp va vb p (a0::tl) tl.length w he hp ha hb hpe hpr rfl hf;have h2:=fun W (h:Ext w W)=>zmP vp va vb p a0 tl W (he.ext h) (h.sl hp) (h.rd ha) (h.rd hb) hpr hf (hrv.ext h);generalize I (flN p (a0::tl))=sf at *;obtain ⟨ap,cp,rfl,_,_,_⟩:=hp.parts;obtain ⟨aa,ca,rfl,_,_,_⟩:=ha.parts;obtain ⟨ab,cb,rfl,_,_,_⟩:=hb.parts;clear hp ha hb he hpe hpr hf hrv;have H1:=hid h1;have H2:=hid h2;clear h1 h2;go_enter Tryz.func59,Tryz.ntmps59
 go_wp2_with fail
 refine (H1.out).mono ?_;rintro e w1 ⟨rfl,hx1⟩;have Hx1:=hid hx1;clear hx1;go_wp2_with fail
 refine (H2.out w1 Hx1.out).mono ?_;rintro e w2 ⟨rfl,hx2⟩;have Hx2:=hid (Hx1.out.trans hx2);clear hx2;go_wp2
 go_ret2
 exact ⟨rfl,Hx2.out⟩
theorem zmR (vp va vb:Value)(p:List Int)(a0:Rat)(tl:List Rat)(w:World)(he:Env w)(hp:Sl w vp (zak p))(ha:Rd w va (a0::tl))(hb:Rd w vb (ov tl.length))(hpe:zfe p=0)(hpr:Pr p (tl.length+1))(hf:∀ q∈a0::tl,Ft 30 q)(hrv:zgm w)(hk:Ft 400 ((-flN p (a0::tl):Int):Rat))(hfl:Fit (flN p (a0::tl)))
  (hres:∀ q∈ze1 (a0::tl) (ze3 (ov tl.length) ((-flN p (a0::tl):Int):Rat)),Ft 30 q) :
  Calls Tryz.prog 84 #[vp,va,vb] w fun e w'=>∃ g,e=.returned (.tuple #[.slice (some ⟨g,0,none⟩) p.length p.length,.int .i64 0])∧zfw w' w.heap.size (.slice (some ⟨g,0,none⟩) p.length p.length) (ze1 (a0::tl) (ze3 (ov tl.length) ((-flN p (a0::tl):Int):Rat)))∧Ext w w':=by
 have hpl:=zhK hpr;have hpl3:p.length≤3:=by rcases hpr with ⟨rfl,_⟩ | ⟨rfl,_⟩ <;> simp
 have hua:=zf0 ha;have hub:=zf0 hb;have h1:=zik vp va vb p (a0::tl) tl.length w he hp ha hb hpe hpr rfl hf;have h2:=fun W (h:Ext w W)=>zmP vp va vb p a0 tl W (he.ext h) (h.sl hp) (h.rd ha) (h.rd hb) hpr hf (hrv.ext h);have h3:=fun W=>zdb (flN p (a0::tl)) W hfl;have hxl:(a0::tl).length=p.length:=by rw [hpl];rfl
 have hyl:(ov tl.length).length=p.length:=by rw [hpl,zhM]
 have hsum:zgZ p.length [a0::tl,ov tl.length] [1,((-flN p (a0::tl):Int):Rat)] 2=ze1 (a0::tl) (ze3 (ov tl.length) ((-flN p (a0::tl):Int):Rat)):=zij _ hxl hyl;have hsl:(ze1 (a0::tl) (ze3 (ov tl.length) ((-flN p (a0::tl):Int):Rat))).length=p.length:=by unfold ze1 ze3;rw [List.length_zipWith,List.length_map,hxl,hyl,Nat.min_self]
 have hco:∀ W vl vf,Ext w W→RdM W vl [⟨a0::tl,va,hua⟩,⟨ov tl.length,vb,hub⟩]→Rd W vf [1,((-flN p (a0::tl):Int):Rat)]→Calls Tryz.prog 105 #[.int .i64 (p.length:Int),vl,vf] W fun e w'=>∃ g,e=.returned (.slice (some ⟨g,0,none⟩) p.length p.length)∧zfw w' W.heap.size (.slice (some ⟨g,0,none⟩) p.length p.length) (ze1 (a0::tl) (ze3 (ov tl.length) ((-flN p (a0::tl):Int):Rat)))∧Ext W w':=by
  intro W vl vf hE hl hff;have:=zht p.length vl vf [⟨a0::tl,va,hua⟩,⟨ov tl.length,vb,hub⟩] [1,((-flN p (a0::tl):Int):Rat)] W (he.ext hE) hl hff (by omega) (by simp) (by simp) (by
   intro r hr;rcases List.mem_cons.1 hr with rfl | hr
   ·exact ⟨hxl,fun q h=>(hf q h).mono (by omega)⟩
   ·rw [List.mem_singleton] at hr;subst hr;exact ⟨hyl,fun q h=>(zhL q h).mono (by omega)⟩) (by
   intro f hf;simp only [List.mem_cons,List.not_mem_nil,or_false] at hf;rcases hf with rfl | rfl
   ·exact zhz
   ·exact hk)
  change Calls _ _ _ _ fun e w'=>e=.returned (.slice (some ⟨W.heap.size,0,none⟩) p.length p.length)∧zfw w' W.heap.size (.slice (some ⟨W.heap.size,0,none⟩) p.length p.length) (zgZ p.length [a0::tl,ov tl.length] [1,((-flN p (a0::tl):Int):Rat)] 2)∧Ext W w' at this;rw [hsum] at this;exact this.mono fun e w' h=>⟨_,h⟩
 have hre:=fun W v (hv:Rd W v (ze1 (a0::tl) (ze3 (ov tl.length) ((-flN p (a0::tl):Int):Rat))))=>zfC v _ W hv (by rw [hsl];omega) hres;have hn1:=fun W (h:Ext w W)=>zf2 1 W (he.ext h) (by omega) (by omega);rw [zf1] at hn1;have hone:rcs [1,((-flN p (a0::tl):Int):Rat)]=[.string (I 1),.string ⟨#[49]⟩,.string (I (-flN p (a0::tl))),.string ⟨#[49]⟩]:=by
  show [Value.string (I 1),.string (I ((1:Nat):Int)),.string (I _),.string (I _)]=_;have e:=zf1 (-flN p (a0::tl));unfold Rv at e;injection e with e;have e2:([.string (I ((-flN p (a0::tl):Int):Rat).num),.string (I ((((-flN p (a0::tl):Int):Rat).den:Nat):Int))]:List Value)=[.string (I (-flN p (a0::tl))),.string ⟨#[49]⟩]:=by injection e
  injection e2 with e3 e4;injection e4 with e4 _;rw [e3,e4,zav,zbl]
 generalize ze1 (a0::tl) (ze3 (ov tl.length) ((-flN p (a0::tl):Int):Rat))=r at *;generalize ((-flN p (a0::tl):Int):Rat)=kq at *;have hra:=fun W (h:Ext w W)=>h.rd ha;have hrb:=fun W (h:Ext w W)=>h.rd hb;generalize I (-flN p (a0::tl))=sk at *;generalize I (flN p (a0::tl))=sf at *;generalize I 1=s1 at *;have hol:=zhM tl.length;obtain ⟨ap,cp,rfl,_,_,_⟩:=hp.parts;obtain ⟨aa,ca,rfl,_,_,_⟩:=ha.parts;obtain ⟨ab,cb,rfl,_,_,_⟩:=hb.parts;rw [zam] at h1 h2 ⊢;clear hp ha hb he hpe hpr hf hrv hk hfl hres hsum hxl hyl hpl hpl3 hol;generalize (a0::tl).length=n1 at *;generalize (ov tl.length).length=n2 at *;have H1:=hid h1;have H2:=hid h2;have H3:=hid h3;have Hco:=hid hco;have Hre:=hid hre;have Hn1:=hid hn1;have Hone:=hid hone;have Hra:=hid hra;have Hrb:=hid hrb;have Hsl:=hid hsl;clear h1 h2 h3 hco hre hn1 hone hra hrb hsl;go_enter Tryz.func84,Tryz.ntmps84
 go_wp2_with fail
 refine (H1.out).mono ?_;rintro e w1 ⟨rfl,hx1⟩;have Hx1:=hid hx1;clear hx1;go_wp2_with fail
 refine (H2.out w1 Hx1.out).mono ?_;rintro e w2 ⟨rfl,hx2⟩;have Hx2:=hid (Hx1.out.trans hx2);clear hx2;go_wp2_with fail
 refine (H3.out w2).mono ?_;rintro e w3 ⟨rfl,hx3⟩;have Hx3:=hid (Hx2.out.trans hx3);clear hx3;have b9:=zdK.new w3 (.string sk) (.string ⟨#[49]⟩);have hE:=Hx3.out.alloc (.cells #[.string sk,.string ⟨#[49]⟩] 60);have hs3:w3.heap.size<(w3.alloc (.cells #[.string sk,.string ⟨#[49]⟩] 60)).heap.size:=by simp
 go_wp2_with fail
 generalize w3.alloc (.cells #[.string sk,.string ⟨#[49]⟩] 60)=V at *;generalize w3.heap.size=b at *;have hc0:=b9.c0;have hc1:=b9.c1;have HE:=hid hE;have B9:=hid b9;clear hE b9;go_upto_region 5 with (fail)
 go_cut [6,7] (fun v6 v7 wx=>zim w p.length r v6 v7 wx)
 case first =>
  go_region_held3 (fun w'=>Ext V w'∧w'.cell? ⟨b,0,none⟩=some (.string sk)∧w'.cell? ⟨b,1,none⟩=some (.string ⟨#[49]⟩))
   (first | (with_reducible assumption) | exact ⟨(Ext.refl V).drew,hc0,hc1⟩ | exact ⟨Ext.trans (And.left (by assumption)) hxa,Ext.cell hxa (And.left (And.right (by assumption))),Ext.cell hxa (And.right (And.right (by assumption)))⟩ | exact ⟨Ext.alloc (And.left (by assumption)) _,Ext.cell ((Ext.refl _).alloc _) (And.left (And.right (by assumption))),Ext.cell ((Ext.refl _).alloc _) (And.right (And.right (by assumption)))⟩)
   (first
    | (go_at_call 96;refine (Hn1.out _ (HE.out.trans (And.left (by assumption)))).mono ?_;rintro e9 VA ⟨rfl,hxa⟩;have HxA:=hid hxa)
    | (go_at_call 105
       have hck:Hid (Ext (V.alloc (.cells #[.slice aa n1 ca,.slice ab n2 cb] 32)).drew VA):=by with_reducible assumption
       clear hck
       have hbc:((V.alloc (.cells #[.slice aa n1 ca,.slice ab n2 cb] 32)).drew).heap[V.heap.size]?=some (.cells ([.slice aa n1 ca,.slice ab n2 cb]:List Value).toArray 32 (0,0)):=World.alloc_heap_new V _
       have hE0:Ext V VA:=(((Ext.refl V).alloc (.cells #[.slice aa n1 ca,.slice ab n2 cb] 32)).drew).trans HxA.out
       have hx3:Ext VA (VA.alloc (.cells #[.string s1,.string ⟨#[49]⟩,.string sk,.string ⟨#[49]⟩] 60)):=(Ext.refl VA).alloc _
       have hE3:Ext w (VA.alloc (.cells #[.string s1,.string ⟨#[49]⟩,.string sk,.string ⟨#[49]⟩] 60)):=(HE.out.trans hE0).trans hx3
       have hl3:RdM (VA.alloc (.cells #[.string s1,.string ⟨#[49]⟩,.string sk,.string ⟨#[49]⟩] 60)) (.slice (some ⟨V.heap.size,0,none⟩) 2 2) [⟨a0::tl,.slice aa n1 ca,hua⟩,⟨ov tl.length,.slice ab n2 cb,hub⟩] :=
         ⟨zhu ((HxA.out.trans hx3).heap hbc) (by unfold maxLen;simp),by
           intro r hr;rcases List.mem_cons.1 hr with rfl | hr
           · exact Hra.out _ hE3
           · rw [List.mem_singleton] at hr;subst hr;exact Hrb.out _ hE3⟩
       have hf3:Rd (VA.alloc (.cells #[.string s1,.string ⟨#[49]⟩,.string sk,.string ⟨#[49]⟩] 60)) (.slice (some ⟨VA.heap.size,0,none⟩) 2 2) [1,kq] :=
         zhv (x:=[1,kq]) (by rw [Hone.out];exact World.alloc_heap_new VA _) (by unfold maxLen;simp)
       refine (Hco.out _ _ _ hE3 hl3 hf3).mono ?_
       rintro e9 VB ⟨g,rfl,ho,hxa⟩
       have HoB:=hid (ho.mono hE3.size)
       have HEB:=hid (hE3.trans hxa)
       have hEV:=(hE0.trans hx3).trans hxa
       have hS2:Ext V VB∧VB.cell? ⟨b,0,none⟩=some (.string sk)∧VB.cell? ⟨b,1,none⟩=some (.string ⟨#[49]⟩):=⟨hEV,hEV.cell hc0,hEV.cell hc1⟩
       have HEV:=hid hEV
       clear hl3 hf3 hbc ho hE0 hx3 hE3 hEV hxa)
    | (go_at_call 105
       have hck2:Ext V ((VA.alloc (.cells #[.slice aa n1 ca,.slice ab n2 cb] 32)).alloc (.cells #[.string s1,.string ⟨#[49]⟩,.string sk,.string ⟨#[49]⟩] 60))∧((VA.alloc (.cells #[.slice aa n1 ca,.slice ab n2 cb] 32)).alloc (.cells #[.string s1,.string ⟨#[49]⟩,.string sk,.string ⟨#[49]⟩] 60)).cell? ⟨b,0,none⟩=some (.string sk)∧((VA.alloc (.cells #[.slice aa n1 ca,.slice ab n2 cb] 32)).alloc (.cells #[.string s1,.string ⟨#[49]⟩,.string sk,.string ⟨#[49]⟩] 60)).cell? ⟨b,1,none⟩=some (.string ⟨#[49]⟩):=by with_reducible assumption
       clear hck2
       have hbc:(VA.alloc (.cells #[.slice aa n1 ca,.slice ab n2 cb] 32)).heap[VA.heap.size]?=some (.cells ([.slice aa n1 ca,.slice ab n2 cb]:List Value).toArray 32 (0,0)):=World.alloc_heap_new VA _
       have hE0:Ext V (VA.alloc (.cells #[.slice aa n1 ca,.slice ab n2 cb] 32)):=(((Ext.refl V).drew).trans HxA.out).alloc _
       have hx3:Ext (VA.alloc (.cells #[.slice aa n1 ca,.slice ab n2 cb] 32)) ((VA.alloc (.cells #[.slice aa n1 ca,.slice ab n2 cb] 32)).alloc (.cells #[.string s1,.string ⟨#[49]⟩,.string sk,.string ⟨#[49]⟩] 60)):=(Ext.refl _).alloc _
       have hE3:Ext w ((VA.alloc (.cells #[.slice aa n1 ca,.slice ab n2 cb] 32)).alloc (.cells #[.string s1,.string ⟨#[49]⟩,.string sk,.string ⟨#[49]⟩] 60)):=(HE.out.trans hE0).trans hx3
       have hl3:RdM ((VA.alloc (.cells #[.slice aa n1 ca,.slice ab n2 cb] 32)).alloc (.cells #[.string s1,.string ⟨#[49]⟩,.string sk,.string ⟨#[49]⟩] 60)) (.slice (some ⟨VA.heap.size,0,none⟩) 2 2) [⟨a0::tl,.slice aa n1 ca,hua⟩,⟨ov tl.length,.slice ab n2 cb,hub⟩] :=
         ⟨zhu (hx3.heap hbc) (by unfold maxLen;simp),by
         intro r hr
         rcases List.mem_cons.1 hr with rfl | hr
         · exact Hra.out _ hE3
         · rw [List.mem_singleton] at hr;subst hr;exact Hrb.out _ hE3⟩
       have hf3:Rd ((VA.alloc (.cells #[.slice aa n1 ca,.slice ab n2 cb] 32)).alloc (.cells #[.string s1,.string ⟨#[49]⟩,.string sk,.string ⟨#[49]⟩] 60)) (.slice (some ⟨VA.heap.size+1,0,none⟩) 2 2) [1,kq] :=
         zhv (x:=[1,kq]) (by rw [Hone.out];have:=World.alloc_heap_new (VA.alloc (.cells #[.slice aa n1 ca,.slice ab n2 cb] 32)) (.cells #[.string s1,.string ⟨#[49]⟩,.string sk,.string ⟨#[49]⟩] 60);rwa [World.size_alloc] at this) (by unfold maxLen;simp)
       refine (Hco.out _ _ _ hE3 hl3 hf3).mono ?_
       rintro e9 VB ⟨g,rfl,ho,hxa⟩
       have HoB2:=hid (ho.mono hE3.size)
       have HEB2:=hid (hE3.trans hxa)
       have hEV:=(hE0.trans hx3).trans hxa
       have hS2:Ext V VB∧VB.cell? ⟨b,0,none⟩=some (.string sk)∧VB.cell? ⟨b,1,none⟩=some (.string ⟨#[49]⟩):=⟨hEV,hEV.cell hc0,hEV.cell hc1⟩
       have HEV2:=hid hEV
       clear hl3 hf3 hbc ho hE0 hx3 hE3 hEV hxa)
    | (go_at_call 105
       have hck2:Ext V ((VA.alloc (.cells #[.string s1,.string ⟨#[49]⟩,.string sk,.string ⟨#[49]⟩] 60)).alloc (.cells #[.slice aa n1 ca,.slice ab n2 cb] 32))∧((VA.alloc (.cells #[.string s1,.string ⟨#[49]⟩,.string sk,.string ⟨#[49]⟩] 60)).alloc (.cells #[.slice aa n1 ca,.slice ab n2 cb] 32)).cell? ⟨b,0,none⟩=some (.string sk)∧((VA.alloc (.cells #[.string s1,.string ⟨#[49]⟩,.string sk,.string ⟨#[49]⟩] 60)).alloc (.cells #[.slice aa n1 ca,.slice ab n2 cb] 32)).cell? ⟨b,1,none⟩=some (.string ⟨#[49]⟩):=by with_reducible assumption
       clear hck2
       have hbc:(VA.alloc (.cells #[.string s1,.string ⟨#[49]⟩,.string sk,.string ⟨#[49]⟩] 60)).heap[VA.heap.size]?=some (.cells (rcs [1,kq]).toArray 60 (0,0)):=by rw [Hone.out];exact World.alloc_heap_new VA _
       have hE0:Ext V (VA.alloc (.cells #[.string s1,.string ⟨#[49]⟩,.string sk,.string ⟨#[49]⟩] 60)):=(((Ext.refl V).drew).trans HxA.out).alloc _
       have hx3:Ext (VA.alloc (.cells #[.string s1,.string ⟨#[49]⟩,.string sk,.string ⟨#[49]⟩] 60)) ((VA.alloc (.cells #[.string s1,.string ⟨#[49]⟩,.string sk,.string ⟨#[49]⟩] 60)).alloc (.cells #[.slice aa n1 ca,.slice ab n2 cb] 32)):=(Ext.refl _).alloc _
       have hE3:Ext w ((VA.alloc (.cells #[.string s1,.string ⟨#[49]⟩,.string sk,.string ⟨#[49]⟩] 60)).alloc (.cells #[.slice aa n1 ca,.slice ab n2 cb] 32)):=(HE.out.trans hE0).trans hx3
       have hl3:RdM ((VA.alloc (.cells #[.string s1,.string ⟨#[49]⟩,.string sk,.string ⟨#[49]⟩] 60)).alloc (.cells #[.slice aa n1 ca,.slice ab n2 cb] 32)) (.slice (some ⟨VA.heap.size+1,0,none⟩) 2 2) [⟨a0::tl,.slice aa n1 ca,hua⟩,⟨ov tl.length,.slice ab n2 cb,hub⟩] :=
         ⟨zhu (us:=[.slice aa n1 ca,.slice ab n2 cb]) (by have:=World.alloc_heap_new (VA.alloc (.cells #[.string s1,.string ⟨#[49]⟩,.string sk,.string ⟨#[49]⟩] 60)) (.cells #[.slice aa n1 ca,.slice ab n2 cb] 32);rwa [World.size_alloc] at this) (by unfold maxLen;simp),by
         intro r hr
         rcases List.mem_cons.1 hr with rfl | hr
         · exact Hra.out _ hE3
         · rw [List.mem_singleton] at hr;subst hr;exact Hrb.out _ hE3⟩
       have hf3:Rd ((VA.alloc (.cells #[.string s1,.string ⟨#[49]⟩,.string sk,.string ⟨#[49]⟩] 60)).alloc (.cells #[.slice aa n1 ca,.slice ab n2 cb] 32)) (.slice (some ⟨VA.heap.size,0,none⟩) 2 2) [1,kq] :=
         zhv (x:=[1,kq]) (hx3.heap hbc) (by unfold maxLen;simp)
       refine (Hco.out _ _ _ hE3 hl3 hf3).mono ?_
       rintro e9 VB ⟨g,rfl,ho,hxa⟩
       have HoB2:=hid (ho.mono hE3.size)
       have HEB2:=hid (hE3.trans hxa)
       have hEV:=(hE0.trans hx3).trans hxa
       have hS2:Ext V VB∧VB.cell? ⟨b,0,none⟩=some (.string sk)∧VB.cell? ⟨b,1,none⟩=some (.string ⟨#[49]⟩):=⟨hEV,hEV.cell hc0,hEV.cell hc1⟩
       have HEV2:=hid hEV
       clear hl3 hf3 hbc ho hE0 hx3 hE3 hEV hxa)
    | (go_at_call 104;refine (Hre.out _ _ HoB.out.rd).mono ?_;rintro e9 VC ⟨rfl,hxa⟩;have HoC:=hid (hxa.ownQ HoB.out);have HEC:=hid (HEB.out.trans hxa);have hS3:Ext V VC∧VC.cell? ⟨b,0,none⟩=some (.string sk)∧VC.cell? ⟨b,1,none⟩=some (.string ⟨#[49]⟩):=⟨HEV.out.trans hxa,(HEV.out.trans hxa).cell hc0,(HEV.out.trans hxa).cell hc1⟩;clear hxa hS2)
    | (go_at_call 104;refine (Hre.out _ _ HoB2.out.rd).mono ?_;rintro e9 VC ⟨rfl,hxa⟩;have HoC:=hid (hxa.ownQ HoB2.out);have HEC:=hid (HEB2.out.trans hxa);have hS3:Ext V VC∧VC.cell? ⟨b,0,none⟩=some (.string sk)∧VC.cell? ⟨b,1,none⟩=some (.string ⟨#[49]⟩):=⟨HEV2.out.trans hxa,(HEV2.out.trans hxa).cell hc0,(HEV2.out.trans hxa).cell hc1⟩;clear hxa hS2))
  all_goals
   have Hfin:Hid (zim w p.length r (.slice (some ⟨g,0,none⟩) p.length p.length) (.int .i64 0) VC):=hid ⟨g,rfl,rfl,HoC.out,HEC.out⟩;go_wp2_with fail
   go_meet
   exact Hfin.out
 case rest =>
  obtain ⟨g,rfl,rfl,ho,hx⟩:=hcut;have Ho:=hid ho;have Hx:=hid hx;clear ho hx;go_wp2
  go_ret2
  exact ⟨_,rfl,Ho.out,Hx.out⟩
theorem zmS (vp va vb:Value)(p:List Int)(a0:Rat)(tl:List Rat)(w:World)(he:Env w)(hp:Sl w vp (zak p))(ha:Rd w va (a0::tl))(hb:Rd w vb (ov tl.length))(hpe:zfe p=0)(hpr:Pr p (tl.length+1))(hf:∀ q∈a0::tl,Ft 30 q)(hrv:zgm w)(hk:Ft 400 ((-flN p (a0::tl):Int):Rat))(hfl:Fit (flN p (a0::tl)))
  (hres:∀ q∈ze1 (a0::tl) (ze3 (ov tl.length) ((-flN p (a0::tl):Int):Rat)),Ft 30 q) :
  Calls Tryz.prog 52 #[vp,vb,va] w fun e w'=>∃ g,e=.returned (.tuple #[.slice (some ⟨g,0,none⟩) p.length p.length,.string (I (flN p (a0::tl))),.int .i64 0])∧zfw w' w.heap.size (.slice (some ⟨g,0,none⟩) p.length p.length) (ze1 (a0::tl) (ze3 (ov tl.length) ((-flN p (a0::tl):Int):Rat)))∧Ext w w':=by
 have h1:=zmQ vp va vb p a0 tl w he hp ha hb hpe hpr hf hrv;have h2:=fun W (h:Ext w W)=>zmR vp va vb p a0 tl W (he.ext h) (h.sl hp) (h.rd ha) (h.rd hb) hpe hpr hf (hrv.ext h) hk hfl hres;generalize ze1 (a0::tl) (ze3 (ov tl.length) ((-flN p (a0::tl):Int):Rat))=r at *;generalize I (flN p (a0::tl))=sf at *;obtain ⟨ap,cp,rfl,_,_,_⟩:=hp.parts;obtain ⟨aa,ca,rfl,_,_,_⟩:=ha.parts;obtain ⟨ab,cb,rfl,_,_,_⟩:=hb.parts;clear hp ha hb he hpe hpr hf hrv hk hfl hres;have H1:=hid h1;have H2:=hid h2;clear h1 h2;go_enter Tryz.func52,Tryz.ntmps52
 go_wp2_with fail
 refine (H1.out).mono ?_;rintro e w1 ⟨rfl,hx1⟩;have Hx1:=hid hx1;clear hx1;go_wp2_with fail
 refine (H2.out w1 Hx1.out).mono ?_;rintro e w2 ⟨g,rfl,ho,hx2⟩;have Ho:=hid (ho.mono Hx1.out.size);have Hx2:=hid (Hx1.out.trans hx2);clear ho hx2;go_wp2
 exact bodyPost_ret (by simp [results,Tryz.results52,go_sem]) rfl ⟨g,rfl,Ho.out,Hx2.out⟩
theorem zjq.bd {P:List Rat→Bool}{rs:List Qw}{z:Int}(h:zjq P rs z):-1≤z∧z<rs.length:=by
 rcases h with ⟨rfl,_⟩ | ⟨k,r,rfl,hk,_⟩
 ·omega
 ·have:=(List.getElem?_eq_some_iff.1 hk).1;omega
end
section
open Go.RowKit Go.Lib Go.Shelf
section
variable {P : Program} (w : World)
end
theorem zmT {w:World}{B e n:Nat}{a:Option Addr}{m c:Nat}{xs:List Value}(h:w.ownsRow B e 1 (.slice a m c) n xs):w.ownsRow B e 1 (.slice a 0 c) 0 []:=by
 rcases h.2 with ⟨h1,h2⟩ | ⟨g,cap,cur,h1,hbg,hg,hnc,hcm,hcs,htake⟩
 ·injection h1 with e1 e2 e3;subst e1;subst e3;exact World.ownsRow_nil w B e 1
 ·injection h1 with e1 e2 e3;subst e1;subst e3;exact ⟨rfl,.inr ⟨g,c,cur,rfl,hbg,hg,Nat.zero_le _,hcm,hcs,by simp⟩⟩
theorem zmU {w:World}{B e:Nat}{v:Value}{n:Nat}{xs:List Value}(h:w.ownsRow B e 1 v n xs):∃ a c,v=.slice a n c∧n≤c:=by
 rcases h.2 with ⟨h1,h2⟩ | ⟨g,cap,cur,h1,hbg,hg,hnc,hcm,hcs,htake⟩
 ·exact ⟨none,0,by rw [h1,h2],by omega⟩
 ·exact ⟨_,_,h1,hnc⟩
theorem zmV (m:Nat)(w:World)(hm:m≤100000) :
  Calls Tryz.prog 67 #[.slice none 0 0,.int .i64 m] w fun e w'=>∃ u,e=.returned u∧w'.ownsRow w.heap.size 32 1 u 0 []∧Ext w w':=by
 obtain ⟨j0,hj,hy0,hy1,hy2⟩:=info_parts zfy;have h0:¬ ((m:Int)<0):=by omega
 by_cases hm0:m=0
 ·subst hm0;go_enter Tryz.func67,Tryz.ntmps67
  go_wp2
  go_ret
  exact ⟨_,rfl,World.ownsRow_nil w _ _ 1,Ext.refl w⟩
 ·have h1:(0:Int)<(m:Int):=by omega
  go_enter Tryz.func67,Tryz.ntmps67
  go_wp2_with (at_builtin;refine zcD _ rfl _ _ 34 3 rfl w.heap.size 32 j0 (.slice none 0 0) 24 .i64 .i64 Tryz.underlying34 Tryz.underlying3 hj hy0 hy1 hy2 rfl rfl _ 0 [] rfl (World.ownsRow_nil w _ _ 1) m rfl (by unfold maxLen;omega) (by omega) (Nat.le_refl _) ?_;intro v7 w7 hown7 hgrow7 hat7;obtain ⟨a7,c7,rfl,hc7⟩:=zmU hown7)
  go_ret
  exact ⟨_,rfl,zmT hown7,(Ext.refl w).grown hgrow7 (fun k hk=>(World.ownsRow.lt (World.ownsRow_nil w w.heap.size 32 1) k hk).1)⟩
theorem zmW {w:World}{v:Value}{rs:List Qw}(h:RdM w v rs)(hn:0<rs.length):∃ b off c,v=.slice (some ⟨b,off,none⟩) rs.length c∧(∀ j u,(qwc rs)[j]?=some u→w.cell? ((⟨b,off,none⟩:Addr).add j)=some u)∧(∀ u∈qwc rs,u.oneCell'=true):=by
 obtain ⟨a,c,rfl,_,h1,h2⟩:=h.1.parts;rw [zfz] at *;obtain ⟨u0,hu0⟩:∃ u,(qwc rs)[0]?=some u:=⟨_,List.getElem?_eq_getElem (by rw [zfz];exact hn)⟩;obtain ⟨b,off,rfl,_⟩:=h2 0 u0 hu0;refine ⟨b,off,c,rfl,fun j u hj=>?_,fun u hu=>?_⟩
 ·obtain ⟨b',off',e,hc⟩:=h2 j u hj;injection e with e;injection e with e1 e2 e3;subst e1;subst e2;rw [Addr.add_lit];exact hc
 ·obtain ⟨r,hr,rfl⟩:=List.mem_map.1 hu;obtain ⟨a,c,e,_⟩:=(h.2 r hr).parts;rw [e];rfl
theorem zmX (g:Nat)(va vb:Value)(rs qs:List Qw)(w:World)(h0:w.cell? ⟨g,0,none⟩=some va)(h1:w.cell? ⟨g,1,none⟩=some vb)(ha:RdM w va rs)(hb:RdM w vb qs)(hn:rs.length≤1000)(hm:qs.length≤1000)(hn0:0<rs.length)(hm0:0<qs.length) :
  Calls Tryz.prog 32 #[.slice (some ⟨g,0,none⟩) 2 2] w fun e w'=>∃ u,e=.returned u∧w'.ownsRow w.heap.size 32 1 u (rs.length+qs.length) (qwc (rs++qs))∧Ext w w':=by
 obtain ⟨j0,hj,hy0,hy1,hy2⟩:=info_parts zfy;have hg:=fun (m:Nat) W=>zmV m W;obtain ⟨ba,fa,ca,rfl,la,oa⟩:=zmW ha hn0;obtain ⟨bb,fb,cb,rfl,lb,ob⟩:=zmW hb hm0;have hla:=zfz rs;have hlb:=zfz qs;have hap:qwc (rs++qs)=qwc rs++qwc qs:=by unfold qwc;rw [List.map_append]
 rw [hap];generalize qwc rs=xs at *;generalize qwc qs=ys at *;generalize rs.length=n at *;generalize qs.length=m at *;obtain ⟨S,hS⟩:∃ S:Nat,S=n+m:=⟨_,rfl⟩;rw [← hS];have hSb:S≤2000:=by omega
 have Hg:=hid (hg S w (by omega));have HS:=hid hS;have La:=hid la;have Lb:=hid lb;have Oa:=hid oa;have Ob:=hid ob;clear hg la lb oa ob ha hb hap;have e0:(0:Int)+(n:Int)=(n:Int):=by omega
 have e1:(n:Int)+(m:Int)=(S:Int):=by omega
 have p0:¬ (n:Int)<0:=by omega
 have p1:¬ (S:Int)<0:=by omega
 clear hS;go_enter Tryz.func32,Tryz.ntmps32
 go_wp2_with fail
 refine wp_loop_rounds 3 ?_;rw [rounds_succ];go_wp2_with fail
 rw [rounds_succ];go_wp2_with fail
 rw [rounds_succ];go_wp2_with fail
 refine Hg.out.mono ?_;rintro e w1 ⟨u,rfl,hu,hx⟩;have Hu:=hid hu;have Hx:=hid hx;have H1:=hid h1;have h0:=hx.cell h0;have hla1:=hx.size;clear hu hx;go_wp2_with fail
 refine wp_loop_rounds 3 ?_;rw [rounds_succ];go_wp2_with (at_builtin;refine wpList_append_own _ rfl _ _ 34 rfl w.heap.size 32 j0 (.slice none 0 0) 1 24 Tryz.underlying34 hj hy0 hy1 hy2 rfl (by decide) u 0 [] rfl Hu.out ⟨ba,fa,none⟩ n ca xs rfl (by rw [hla];omega) (fun j z hz=>Hx.out.cell (La.out j z hz)) Oa.out (by unfold maxLen;omega) (by omega) hla1 ?_;intro v7 w2 hown7 hgrow7 _)
 have hx2:=Hx.out.grown hgrow7 (fun k hk=>(World.ownsRow.lt Hu.out k hk).1);have Hx2:=hid hx2;have Hu2:=hid hown7;clear h0 h1;have h1:=hx2.cell H1.out;clear hown7 hgrow7 hx2;rw [rounds_succ];go_wp2_with (at_builtin;refine wpList_append_own _ rfl _ _ 34 rfl w.heap.size 32 j0 (.slice none 0 0) 1 24 Tryz.underlying34 hj hy0 hy1 hy2 rfl (by decide) v7 (0+n) ([]++xs) rfl Hu2.out ⟨bb,fb,none⟩ m cb ys rfl (by rw [hlb];omega) (fun j z hz=>Hx2.out.cell (Lb.out j z hz)) Ob.out (by unfold maxLen;omega) (by omega) Hx2.out.size ?_;intro v8 w3 hown8 hgrow8 _)
 have hx3:=Hx2.out.grown hgrow8 (fun k hk=>(World.ownsRow.lt Hu2.out k hk).1);rw [rounds_succ];go_wp2
 go_ret
 exact ⟨_,rfl,by rw [HS.out];have h:=hown8;rw [Nat.zero_add] at h;exact h,hx3⟩
end
section
open Go.RowKit Go.Lib Go.Shelf
attribute [local go_sem] Oper.semAt_some
theorem zmY {p:List Int}{rs:List Qw}(h:Wd p (rs.map Qw.x)):∃ n r,rs.length=n+1∧rs[n]?=some r∧r.x=ov (p.length - 1):=by
 have hp:=h.pos;have hl:=h.last;rw [List.length_map] at hp hl;rw [List.getElem?_map] at hl;obtain ⟨r,hr⟩:∃ r,rs[rs.length - 1]?=some r:=⟨_,List.getElem?_eq_getElem (by omega)⟩;rw [hr] at hl;exact ⟨rs.length - 1,r,by omega,hr,by simpa using hl⟩
theorem zmZ (v1 v2:Value)(p q:List Int)(rs ts:List Qw)(w:World)(he:Env w)(h1:ScV w v1 p rs)(h2:ScV w v2 q ts)(g1:Wd p (rs.map Qw.x))(g2:Wd q (ts.map Qw.x))(hpq:p ≠ q) :
  Calls Tryz.prog 64 #[v1,v2] w fun e w'=>e=.returned (.int .i64 14)∧Ext w w':=by
 obtain ⟨a1,c1,b1,d1,rfl,h1⟩:=zj1 h1;obtain ⟨a2,c2,b2,d2,rfl,h2⟩:=zj1 h2;have hp:=(ziM g1.pr).1;have hp3:p.length≤3:=by rcases g1.pr with ⟨e,_⟩ | ⟨e,_⟩ <;> rw [e] <;> decide
 have hq3:q.length≤3:=by rcases g2.pr with ⟨e,_⟩ | ⟨e,_⟩ <;> rw [e] <;> decide
 have hc1:=fun W (hE:Ext w W)=>zj6 _ _ p q rs ts W (he.ext hE) (h1.ext hE) (h2.ext hE) g1.right g2.right;obtain ⟨_,_,hev,hs1,_⟩:=h1;obtain ⟨_,_,hew,hs2,_⟩:=h2;injection hev with hev;injection hew with hew;simp only [Array.mk.injEq,List.cons.injEq,and_true] at hev hew;rw [← hev.1] at hs1;rw [← hew.1] at hs2;have hc2:=fun W (hE:Ext w W)=>zj2 _ _ p q W (hE.sl hs1) (hE.sl hs2) (by omega) (by omega);have hb:=zj5 w (.slice a1 p.length c1) (.slice b1 rs.length d1) (.slice a2 q.length c2) (.slice b2 ts.length d2);rw [decide_eq_false hpq] at hc2;generalize p.length=n1 at *;generalize q.length=n2 at *;generalize rs.length=n3 at *;generalize ts.length=n4 at *;have Hc1:=hid hc1;have Hc2:=hid hc2;have Hb:=hid hb;clear hc1 hc2 hb hs1 hs2 g1 g2 he hev hew hp;go_enter Tryz.func64,Tryz.ntmps64
 have q0:=Hb.out.1.c0;have q1:=Hb.out.1.c1;have r0:=Hb.out.2.1.c0;have r1:=Hb.out.2.1.c1;go_wp2_with fail
 refine (Hc1.out _ Hb.out.2.2).mono ?_;rintro e w1 ⟨rfl,hx1⟩;have q0:=(Hb.out.1.ext hx1).c0;have q1:=(Hb.out.1.ext hx1).c1;have r0:=(Hb.out.2.1.ext hx1).c0;have r1:=(Hb.out.2.1.ext hx1).c1;have Hx1:=hid (Hb.out.2.2.trans hx1);clear hx1;go_wp2_with fail
 refine zfT 14 (fun w'=>Ext w1 w'∧w'.cell? ⟨w.heap.size,0,none⟩=some (.slice a1 n1 c1)∧w'.cell? ⟨w.heap.size,1,none⟩=some (.slice b1 n3 d1)∧w'.cell? ⟨w.heap.size+1,0,none⟩=some (.slice a2 n2 c2)∧w'.cell? ⟨w.heap.size+1,1,none⟩=some (.slice b2 n4 d2)) (by kernel_rfl) ⟨(Ext.refl w1).drew,q0,q1,r0,r1⟩ (fun hHeld=>?_);refine zfP (i:=0) (v:=.pointer (some ⟨w.heap.size,0,none⟩)) rfl (by kernel_rfl) (by kernel_rfl) (by kernel_rfl) (by kernel_rfl) (fun _ _ _ h=>h) (Or.inl ⟨by rfl,fun w hSw=>by (try dsimp only at hSw);go_simp⟩) hHeld ?_;refine zfP (i:=1) (v:=.slice a1 n1 c1) rfl (by kernel_rfl) (by kernel_rfl) (by kernel_rfl) (by kernel_rfl) (fun _ _ _ h=>h) (Or.inl ⟨by rfl,fun w hSw=>by (try dsimp only at hSw);go_simp⟩) hHeld ?_;refine zfP (i:=2) (v:=.pointer (some ⟨w.heap.size+1,0,none⟩)) rfl (by kernel_rfl) (by kernel_rfl) (by kernel_rfl) (by kernel_rfl) (fun _ _ _ h=>h) (Or.inl ⟨by rfl,fun w hSw=>by (try dsimp only at hSw);go_simp⟩) hHeld ?_;refine zfP (i:=3) (v:=.slice a2 n2 c2) rfl (by kernel_rfl) (by kernel_rfl) (by kernel_rfl) (by kernel_rfl) (fun _ _ _ h=>h) (Or.inl ⟨by rfl,fun w hSw=>by (try dsimp only at hSw);go_simp⟩) hHeld ?_;refine zfQ (i:=4) (by kernel_rfl) rfl (fun K hK=>?_);go_simp
 go_at_call 31
 have hcc:=Hc2.out w1.drew Hx1.out.drew;refine hcc.mono ?_;rintro e9 VA ⟨rfl,hxa⟩;have hEA:=((Ext.refl w1).drew).trans hxa;have HEA:=hid hEA;refine hK.out _ _ ⟨hEA,hEA.cell q0,hEA.cell q1,hEA.cell r0,hEA.cell r1⟩ (fun hHeld=>?_);clear hK K hxa hEA hcc;refine zfP (i:=5) (v:=.bool true) rfl (by kernel_rfl) (by kernel_rfl) (by kernel_rfl) (by kernel_rfl) (fun _ _ _ h=>h) (Or.inl ⟨by rfl,fun w hSw=>by (try dsimp only at hSw);go_simp⟩) hHeld ?_;refine zfP (i:=6) (v:=.bool true) rfl (by kernel_rfl) (by kernel_rfl) (by kernel_rfl) (by kernel_rfl) (fun _ _ _ h=>h) (Or.inl ⟨by rfl,fun w hSw=>by (try dsimp only at hSw);go_simp⟩) hHeld ?_;refine zfP (i:=7) (v:=undef) rfl (by kernel_rfl) (by kernel_rfl) (by kernel_rfl) (by kernel_rfl) (fun _ _ _ h=>h) (Or.inr ⟨by kernel_rfl,rfl⟩) hHeld ?_;refine zfP (i:=8) (v:=undef) rfl (by kernel_rfl) (by kernel_rfl) (by kernel_rfl) (by kernel_rfl) (fun _ _ _ h=>h) (Or.inr ⟨by kernel_rfl,rfl⟩) hHeld ?_;refine zfP (i:=9) (v:=undef) rfl (by kernel_rfl) (by kernel_rfl) (by kernel_rfl) (by kernel_rfl) (fun _ _ _ h=>h) (Or.inr ⟨by kernel_rfl,rfl⟩) hHeld ?_;refine zfP (i:=10) (v:=undef) rfl (by kernel_rfl) (by kernel_rfl) (by kernel_rfl) (by kernel_rfl) (fun _ _ _ h=>h) (Or.inr ⟨by kernel_rfl,rfl⟩) hHeld ?_;refine zfP (i:=11) (v:=undef) rfl (by kernel_rfl) (by kernel_rfl) (by kernel_rfl) (by kernel_rfl) (fun _ _ _ h=>h) (Or.inr ⟨by kernel_rfl,rfl⟩) hHeld ?_;refine zfP (i:=12) (v:=undef) rfl (by kernel_rfl) (by kernel_rfl) (by kernel_rfl) (by kernel_rfl) (fun _ _ _ h=>h) (Or.inr ⟨by kernel_rfl,rfl⟩) hHeld ?_;refine zfQ (i:=13) (by kernel_rfl) rfl (fun K hK=>?_);go_simp
 refine hK.out _ _ hHeld (fun hHeld=>?_);clear hK K;refine zfS (by kernel_rfl) ?_;clear hHeld q0 q1 r0 r1;go_wp2
 go_ret
 exact ⟨rfl,Hx1.out.trans HEA.out⟩
theorem zna (v1 v2:Value)(p q:List Int)(rs ts:List Qw)(w:World)(he:Env w)(h1:ScV w v1 p rs)(h2:ScV w v2 q ts)(g1:Wd p (rs.map Qw.x))(g2:Wd q (ts.map Qw.x))(hpq:p=q) :
  Calls Tryz.prog 64 #[v1,v2] w fun e w'=>e=.returned (.int .i64 0)∧Ext w w':=by
 obtain ⟨a1,c1,b1,d1,rfl,h1⟩:=zj1 h1;obtain ⟨a2,c2,b2,d2,rfl,h2⟩:=zj1 h2;have hp:=(ziM g1.pr).1;have hp3:p.length≤3:=by rcases g1.pr with ⟨e,_⟩ | ⟨e,_⟩ <;> rw [e] <;> decide
 have hq3:q.length≤3:=by rcases g2.pr with ⟨e,_⟩ | ⟨e,_⟩ <;> rw [e] <;> decide
 have hc1:=fun W (hE:Ext w W)=>zj6 _ _ p q rs ts W (he.ext hE) (h1.ext hE) (h2.ext hE) g1.right g2.right;obtain ⟨m1,x1,hm1,hx1,hy1⟩:=zmY g1;obtain ⟨m2,x2,hm2,hx2,hy2⟩:=zmY g2;have hr60:=g1.few;have ht60:=g2.few;rw [List.length_map] at hr60 ht60;have hc3:=fun W (hE:Ext w W)=>zir _ p rs m1 x1 W (h1.ext hE) hm1 (by omega) hx1;have hc4:=fun W (hE:Ext w W)=>zir _ q ts m2 x2 W (h2.ext hE) hm2 (by omega) hx2;obtain ⟨_,_,hev,hs1,hn1⟩:=h1;obtain ⟨_,_,hew,hs2,hn2⟩:=h2;injection hev with hev;injection hew with hew;simp only [Array.mk.injEq,List.cons.injEq,and_true] at hev hew;rw [← hev.1] at hs1;rw [← hew.1] at hs2;have hc2:=fun W (hE:Ext w W)=>zj2 _ _ p q W (hE.sl hs1) (hE.sl hs2) (by omega) (by omega);have hz1:=hn1.2 x1 (List.mem_of_getElem? hx1);have hz2:=hn2.2 x2 (List.mem_of_getElem? hx2);rw [hy1] at hz1;rw [hy2,← hpq] at hz2;have hc5:=fun W (hE:Ext w W)=>zji x1.u x2.u (ov (p.length - 1)) (ov (p.length - 1)) W (hE.rd hz1) (hE.rd hz2) (by rw [zhM];omega) (by rw [zhM];omega);simp only [decide_true] at hc5;have hb:=zj5 w (.slice a1 p.length c1) (.slice b1 rs.length d1) (.slice a2 q.length c2) (.slice b2 ts.length d2);rw [decide_eq_true hpq] at hc2;generalize x1.u=u1 at *;generalize x2.u=u2 at *;clear hz1 hz2 hx1 hx2 hy1 hy2 hn1 hn2 hm1 hm2 hr60 ht60;generalize p.length=n1 at *;generalize q.length=n2 at *;generalize rs.length=n3 at *;generalize ts.length=n4 at *;have Hc1:=hid hc1;have Hc2:=hid hc2;have Hc3:=hid hc3;have Hc4:=hid hc4;have Hc5:=hid hc5;have Hb:=hid hb;clear hc1 hc2 hc3 hc4 hc5 hb hs1 hs2 g1 g2 he hev hew hp;go_enter Tryz.func64,Tryz.ntmps64
 have q0:=Hb.out.1.c0;have q1:=Hb.out.1.c1;have r0:=Hb.out.2.1.c0;have r1:=Hb.out.2.1.c1;go_wp2_with fail
 refine (Hc1.out _ Hb.out.2.2).mono ?_;rintro e w1 ⟨rfl,hx1⟩;have q0:=(Hb.out.1.ext hx1).c0;have q1:=(Hb.out.1.ext hx1).c1;have r0:=(Hb.out.2.1.ext hx1).c0;have r1:=(Hb.out.2.1.ext hx1).c1;have Hx1:=hid (Hb.out.2.2.trans hx1);clear hx1;go_wp2_with fail
 first
  | (go_region_held3 (fun w'=>Ext w1 w'∧w'.cell? ⟨w.heap.size,0,none⟩=some (.slice a1 n1 c1)∧w'.cell? ⟨w.heap.size,1,none⟩=some (.slice b1 n3 d1)∧w'.cell? ⟨w.heap.size+1,0,none⟩=some (.slice a2 n2 c2)∧w'.cell? ⟨w.heap.size+1,1,none⟩=some (.slice b2 n4 d2))
  (first | (with_reducible assumption) | exact ⟨(Ext.refl w1).drew,q0,q1,r0,r1⟩)
  (first
    | (go_at_call 31;refine (Hc2.out _ (Hx1.out.trans (And.left (by with_reducible assumption)))).mono ?_;rintro e9 VA ⟨rfl,hxa⟩;have hEA:Ext w1 VA:=Ext.trans (And.left (by with_reducible assumption)) hxa;have hSVA:Ext w1 VA∧VA.cell? ⟨w.heap.size,0,none⟩=some (.slice a1 n1 c1)∧VA.cell? ⟨w.heap.size,1,none⟩=some (.slice b1 n3 d1)∧VA.cell? ⟨w.heap.size+1,0,none⟩=some (.slice a2 n2 c2)∧VA.cell? ⟨w.heap.size+1,1,none⟩=some (.slice b2 n4 d2):=⟨hEA,hEA.cell q0,hEA.cell q1,hEA.cell r0,hEA.cell r1⟩;have HE:=hid hEA;clear hxa hEA)
    | (go_at_call 53;with_reducible refine (Hc3.out _ (Hx1.out.trans (And.left (by with_reducible assumption)))).mono ?_;rintro e9 VB ⟨rfl,hxa⟩;have hEA:Ext w1 VB:=Ext.trans (And.left (by with_reducible assumption)) hxa;have hSVB:Ext w1 VB∧VB.cell? ⟨w.heap.size,0,none⟩=some (.slice a1 n1 c1)∧VB.cell? ⟨w.heap.size,1,none⟩=some (.slice b1 n3 d1)∧VB.cell? ⟨w.heap.size+1,0,none⟩=some (.slice a2 n2 c2)∧VB.cell? ⟨w.heap.size+1,1,none⟩=some (.slice b2 n4 d2):=⟨hEA,hEA.cell q0,hEA.cell q1,hEA.cell r0,hEA.cell r1⟩;have HE:=hid hEA;clear hxa hEA)
    | (go_at_call 53;with_reducible refine (Hc4.out _ (Hx1.out.trans (And.left (by with_reducible assumption)))).mono ?_;rintro e9 VC ⟨rfl,hxa⟩;have hEA:Ext w1 VC:=Ext.trans (And.left (by with_reducible assumption)) hxa;have hSVC:Ext w1 VC∧VC.cell? ⟨w.heap.size,0,none⟩=some (.slice a1 n1 c1)∧VC.cell? ⟨w.heap.size,1,none⟩=some (.slice b1 n3 d1)∧VC.cell? ⟨w.heap.size+1,0,none⟩=some (.slice a2 n2 c2)∧VC.cell? ⟨w.heap.size+1,1,none⟩=some (.slice b2 n4 d2):=⟨hEA,hEA.cell q0,hEA.cell q1,hEA.cell r0,hEA.cell r1⟩;have HE:=hid hEA;clear hxa hEA)
    | (go_at_call 23;refine (Hc5.out _ (Hx1.out.trans (And.left (by with_reducible assumption)))).mono ?_;rintro e9 VD ⟨rfl,hxa⟩;have hEA:Ext w1 VD:=Ext.trans (And.left (by with_reducible assumption)) hxa;have hSVD:Ext w1 VD∧VD.cell? ⟨w.heap.size,0,none⟩=some (.slice a1 n1 c1)∧VD.cell? ⟨w.heap.size,1,none⟩=some (.slice b1 n3 d1)∧VD.cell? ⟨w.heap.size+1,0,none⟩=some (.slice a2 n2 c2)∧VD.cell? ⟨w.heap.size+1,1,none⟩=some (.slice b2 n4 d2):=⟨hEA,hEA.cell q0,hEA.cell q1,hEA.cell r0,hEA.cell r1⟩;have HE:=hid hEA;clear hxa hEA)))
  | fail "E"
 all_goals
  go_wp2
  go_ret
  exact ⟨rfl,Hx1.out.trans HE.out⟩
end
end Go.Proofs.YtbkfhacmekbniaaGreatDoor
