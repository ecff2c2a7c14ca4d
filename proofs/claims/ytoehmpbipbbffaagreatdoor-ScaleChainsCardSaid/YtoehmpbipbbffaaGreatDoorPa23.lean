/- Walks: Floor, Remainder, scale.reduce, scale.Reduce by the octave, at any size of numbers of 30 digits. (Printed by wip/flg.py.) Plain: the linear form of a size by logarithms of 2048 bits; its sign is what the program finds at any size of numbers of 30 digits. Plain: rests by the floor flN, lists in the order of mF; the collection of any few sizes. (Printed by wip/colln.py.) -/
import Derived.Test.YtoehmpbipbbffaaGreatDoorPa22
import Derived.Test.YtoehmpbipbbffaaGreatDoorPa16
import Derived.Test.YtoehmpbipbbffaaGreatDoorPa17
set_option maxRecDepth 100000
set_option maxHeartbeats 2000000
namespace Go.Proofs.YtoehmpbipbbffaaGreatDoor
section
open Go.RowKit Go.Lib
attribute [local go_sem] Oper.semAt_some
theorem zlM : ∀ (x:List Rat)(d0:Nat),x.foldl (fun d r=>Nat.lcm d r.den) d0 ∣ d0 * (x.map Rat.den).prod
 | [],d0=>by simp
 | s::x,d0=>by
  rw [List.foldl_cons,List.map_cons,List.prod_cons,← Nat.mul_assoc];refine Nat.dvd_trans (zlM x (Nat.lcm d0 s.den)) ?_;exact Nat.mul_dvd_mul (Nat.lcm_dvd_mul d0 s.den) (Nat.dvd_refl _)
theorem zlN {r:Rat}(h:Ft 30 r):r.den<10 ^ 30∧r.num.natAbs<10 ^ 30 :=
 ⟨Nat.lt_of_lt_of_le (lt_pow_nDigits _) (Nat.pow_le_pow_right (by decide) h.2),Nat.lt_of_lt_of_le (lt_pow_nDigits _) (Nat.pow_le_pow_right (by decide) h.1)⟩
theorem zlO {p:List Int}{x:List Rat}(hp:Pr p x.length)(hf:∀ q∈x,Ft 30 q):FwN x∧nDigits (dn x)≤50000:=by
 have hT:0<10 ^ 30:=Nat.pow_pos (by decide);have key:∀ T:Nat,0<T→(∀ r∈x,r.den<T∧r.num.natAbs<T)→dn x≤T * T * T∧∀ r∈x,(r.num * ((dn x / r.den:Nat):Int)).natAbs≤T * (T * T * T):=by
  intro T hT h;have h1:dn x ∣ (x.map Rat.den).prod:=by have:=zlM x 1;rwa [Nat.one_mul] at this
  have h2:(x.map Rat.den).prod≤T * T * T:=by
   rcases hp with ⟨_,hl⟩ | ⟨_,hl⟩
   ·match x,hl with
    | [a,b],_ =>
     have ha:=(h a (by simp)).1;have hb:=(h b (by simp)).1
     simp only [List.map_cons,List.map_nil,List.prod_cons,List.prod_nil,Nat.mul_one]
     exact Nat.le_trans (Nat.mul_le_mul (Nat.le_of_lt ha) (Nat.le_of_lt hb)) (Nat.le_mul_of_pos_right _ hT)
   ·match x,hl with
    | [a,b,c],_ =>
     have ha:=(h a (by simp)).1;have hb:=(h b (by simp)).1;have hc:=(h c (by simp)).1
     simp only [List.map_cons,List.map_nil,List.prod_cons,List.prod_nil,Nat.mul_one]
     rw [← Nat.mul_assoc]
     exact Nat.mul_le_mul (Nat.mul_le_mul (Nat.le_of_lt ha) (Nat.le_of_lt hb)) (Nat.le_of_lt hc)
  have h0:0<(x.map Rat.den).prod:=by
   rcases hp with ⟨_,hl⟩ | ⟨_,hl⟩
   ·match x,hl with
    | [a,b],_=>simp only [List.map_cons,List.map_nil,List.prod_cons,List.prod_nil,Nat.mul_one];exact Nat.mul_pos a.den_pos b.den_pos
   ·match x,hl with
    | [a,b,c],_=>simp only [List.map_cons,List.map_nil,List.prod_cons,List.prod_nil,Nat.mul_one];exact Nat.mul_pos a.den_pos (Nat.mul_pos b.den_pos c.den_pos)
  have h3:dn x≤T * T * T:=Nat.le_trans (Nat.le_of_dvd h0 h1) h2;refine ⟨h3,fun r hr=>?_⟩;rw [Int.natAbs_mul,Int.natAbs_natCast];exact Nat.mul_le_mul (Nat.le_of_lt (h r hr).2) (Nat.le_trans (Nat.div_le_self _ _) h3)
 obtain ⟨k1,k2⟩:=key (10 ^ 30) hT fun r hr=>zlN (hf r hr);have e3:(10:Nat) ^ 30 * 10 ^ 30 * 10 ^ 30=10 ^ 90:=by rw [← Nat.pow_add,← Nat.pow_add]
 have e4:(10:Nat) ^ 30 * 10 ^ 90=HH:=by rw [← Nat.pow_add];rfl
 rw [e3] at k1;rw [e3,e4] at k2;refine ⟨k2,Nat.le_trans (Dec.nDigits_le (k:=91) (by decide) (Nat.lt_of_le_of_lt k1 ?_)) (by decide)⟩;exact Nat.pow_lt_pow_right (by decide) (by decide)
theorem zlP (vp va vb:Value)(p:List Int)(a0:Rat)(tl:List Rat)(w:World)(he:Env w)(hp:Sl w vp (zak p))(ha:Rd w va (a0::tl))(hb:Rd w vb (ov tl.length))(hpr:Pr p (tl.length+1))(hf:∀ q∈a0::tl,Ft 30 q)(hrv:zgJ w) :
  Calls Tryz.prog 87 #[vp,va,vb] w fun e w'=>e=.returned (.string (I (flN p (a0::tl))))∧Ext w w' :=
 have h:=zlO (x:=a0::tl) (by rw [List.length_cons];exact hpr) hf
 zlL vp va vb p a0 tl w he hp ha hb hpr hf h.1 h.2 hrv
theorem zlQ (vp va vb:Value)(p:List Int)(a0:Rat)(tl:List Rat)(w:World)(he:Env w)(hp:Sl w vp (zak p))(ha:Rd w va (a0::tl))(hb:Rd w vb (ov tl.length))(hpe:zee p=0)(hpr:Pr p (tl.length+1))(hf:∀ q∈a0::tl,Ft 30 q)(hrv:zgJ w) :
  Calls Tryz.prog 57 #[vp,va,vb] w fun e w'=>e=.returned (.tuple #[.string (I (flN p (a0::tl))),.int .i64 0])∧Ext w w':=by
 have h1:=ziA vp va vb p (a0::tl) tl.length w he hp ha hb hpe hpr rfl hf;have h2:=fun W (h:Ext w W)=>zlP vp va vb p a0 tl W (he.ext h) (h.sl hp) (h.rd ha) (h.rd hb) hpr hf (hrv.ext h);generalize I (flN p (a0::tl))=sf at *;obtain ⟨ap,cp,rfl,_,_,_⟩:=hp.parts;obtain ⟨aa,ca,rfl,_,_,_⟩:=ha.parts;obtain ⟨ab,cb,rfl,_,_,_⟩:=hb.parts;clear hp ha hb he hpe hpr hf hrv;have H1:=hid h1;have H2:=hid h2;clear h1 h2;go_enter Tryz.func57,Tryz.ntmps57
 go_wp2_with fail
 refine (H1.out).mono ?_;rintro e w1 ⟨rfl,hx1⟩;have Hx1:=hid hx1;clear hx1;go_wp2_with fail
 refine (H2.out w1 Hx1.out).mono ?_;rintro e w2 ⟨rfl,hx2⟩;have Hx2:=hid (Hx1.out.trans hx2);clear hx2;go_wp2
 go_ret2
 exact ⟨rfl,Hx2.out⟩
theorem zlR (vp va vb:Value)(p:List Int)(a0:Rat)(tl:List Rat)(w:World)(he:Env w)(hp:Sl w vp (zak p))(ha:Rd w va (a0::tl))(hb:Rd w vb (ov tl.length))(hpe:zee p=0)(hpr:Pr p (tl.length+1))(hf:∀ q∈a0::tl,Ft 30 q)(hrv:zgJ w)(hk:Ft 400 ((-flN p (a0::tl):Int):Rat))(hfl:Fit (flN p (a0::tl)))
  (hres:∀ q∈zeS (a0::tl) (zeU (ov tl.length) ((-flN p (a0::tl):Int):Rat)),Ft 30 q) :
  Calls Tryz.prog 65 #[vp,va,vb] w fun e w'=>∃ g,e=.returned (.tuple #[.slice (some ⟨g,0,none⟩) p.length p.length,.int .i64 0])∧zf4 w' w.heap.size (.slice (some ⟨g,0,none⟩) p.length p.length) (zeS (a0::tl) (zeU (ov tl.length) ((-flN p (a0::tl):Int):Rat)))∧Ext w w':=by
 have hpl:=zir hpr;have hpl3:p.length≤3:=by rcases hpr with ⟨rfl,_⟩ | ⟨rfl,_⟩ <;> simp
 have hua:=zf8 ha;have hub:=zf8 hb;have h1:=ziA vp va vb p (a0::tl) tl.length w he hp ha hb hpe hpr rfl hf;have h2:=fun W (h:Ext w W)=>zlP vp va vb p a0 tl W (he.ext h) (h.sl hp) (h.rd ha) (h.rd hb) hpr hf (hrv.ext h);have h3:=fun W=>zdb (flN p (a0::tl)) W hfl;have hxl:(a0::tl).length=p.length:=by rw [hpl];rfl
 have hyl:(ov tl.length).length=p.length:=by rw [hpl,zit]
 have hsum:zh7 p.length [a0::tl,ov tl.length] [1,((-flN p (a0::tl):Int):Rat)] 2=zeS (a0::tl) (zeU (ov tl.length) ((-flN p (a0::tl):Int):Rat)):=zi9 _ hxl hyl;have hsl:(zeS (a0::tl) (zeU (ov tl.length) ((-flN p (a0::tl):Int):Rat))).length=p.length:=by unfold zeS zeU;rw [List.length_zipWith,List.length_map,hxl,hyl,Nat.min_self]
 have hco:∀ W vl vf,Ext w W→RdM W vl [⟨a0::tl,va,hua⟩,⟨ov tl.length,vb,hub⟩]→Rd W vf [1,((-flN p (a0::tl):Int):Rat)]→Calls Tryz.prog 77 #[.int .i64 (p.length:Int),vl,vf] W fun e w'=>∃ g,e=.returned (.slice (some ⟨g,0,none⟩) p.length p.length)∧zf4 w' W.heap.size (.slice (some ⟨g,0,none⟩) p.length p.length) (zeS (a0::tl) (zeU (ov tl.length) ((-flN p (a0::tl):Int):Rat)))∧Ext W w':=by
  intro W vl vf hE hl hff;have:=zhQ p.length vl vf [⟨a0::tl,va,hua⟩,⟨ov tl.length,vb,hub⟩] [1,((-flN p (a0::tl):Int):Rat)] W (he.ext hE) hl hff (by omega) (by simp) (by simp) (by
   intro r hr;rcases List.mem_cons.1 hr with rfl | hr
   ·exact ⟨hxl,fun q h=>(hf q h).mono (by omega)⟩
   ·rw [List.mem_singleton] at hr;subst hr;exact ⟨hyl,fun q h=>(zis q h).mono (by omega)⟩) (by
   intro f hf;simp only [List.mem_cons,List.not_mem_nil,or_false] at hf;rcases hf with rfl | rfl
   ·exact zhW
   ·exact hk)
  change Calls _ _ _ _ fun e w'=>e=.returned (.slice (some ⟨W.heap.size,0,none⟩) p.length p.length)∧zf4 w' W.heap.size (.slice (some ⟨W.heap.size,0,none⟩) p.length p.length) (zh7 p.length [a0::tl,ov tl.length] [1,((-flN p (a0::tl):Int):Rat)] 2)∧Ext W w' at this;rw [hsum] at this;exact this.mono fun e w' h=>⟨_,h⟩
 have hre:=fun W v (hv:Rd W v (zeS (a0::tl) (zeU (ov tl.length) ((-flN p (a0::tl):Int):Rat))))=>zfK v _ W hv (by rw [hsl];omega) hres;have hn1:=fun W (h:Ext w W)=>zfA 1 W (he.ext h) (by omega) (by omega);rw [zf9] at hn1;have hone:rcs [1,((-flN p (a0::tl):Int):Rat)]=[.string (I 1),.string ⟨#[49]⟩,.string (I (-flN p (a0::tl))),.string ⟨#[49]⟩]:=by
  show [Value.string (I 1),.string (I ((1:Nat):Int)),.string (I _),.string (I _)]=_;have e:=zf9 (-flN p (a0::tl));unfold Rv at e;injection e with e;have e2:([.string (I ((-flN p (a0::tl):Int):Rat).num),.string (I ((((-flN p (a0::tl):Int):Rat).den:Nat):Int))]:List Value)=[.string (I (-flN p (a0::tl))),.string ⟨#[49]⟩]:=by injection e
  injection e2 with e3 e4;injection e4 with e4 _;rw [e3,e4,zav,zbl]
 generalize zeS (a0::tl) (zeU (ov tl.length) ((-flN p (a0::tl):Int):Rat))=r at *;generalize ((-flN p (a0::tl):Int):Rat)=kq at *;have hra:=fun W (h:Ext w W)=>h.rd ha;have hrb:=fun W (h:Ext w W)=>h.rd hb;generalize I (-flN p (a0::tl))=sk at *;generalize I (flN p (a0::tl))=sf at *;generalize I 1=s1 at *;have hol:=zit tl.length;obtain ⟨ap,cp,rfl,_,_,_⟩:=hp.parts;obtain ⟨aa,ca,rfl,_,_,_⟩:=ha.parts;obtain ⟨ab,cb,rfl,_,_,_⟩:=hb.parts;rw [zam] at h1 h2 ⊢;clear hp ha hb he hpe hpr hf hrv hk hfl hres hsum hxl hyl hpl hpl3 hol;generalize (a0::tl).length=n1 at *;generalize (ov tl.length).length=n2 at *;have H1:=hid h1;have H2:=hid h2;have H3:=hid h3;have Hco:=hid hco;have Hre:=hid hre;have Hn1:=hid hn1;have Hone:=hid hone;have Hra:=hid hra;have Hrb:=hid hrb;have Hsl:=hid hsl;clear h1 h2 h3 hco hre hn1 hone hra hrb hsl;go_enter Tryz.func65,Tryz.ntmps65
 go_wp2_with fail
 refine (H1.out).mono ?_;rintro e w1 ⟨rfl,hx1⟩;have Hx1:=hid hx1;clear hx1;go_wp2_with fail
 refine (H2.out w1 Hx1.out).mono ?_;rintro e w2 ⟨rfl,hx2⟩;have Hx2:=hid (Hx1.out.trans hx2);clear hx2;go_wp2_with fail
 refine (H3.out w2).mono ?_;rintro e w3 ⟨rfl,hx3⟩;have Hx3:=hid (Hx2.out.trans hx3);clear hx3;have b9:=zdK.new w3 (.string sk) (.string ⟨#[49]⟩);have hE:=Hx3.out.alloc (.cells #[.string sk,.string ⟨#[49]⟩] 57);have hs3:w3.heap.size<(w3.alloc (.cells #[.string sk,.string ⟨#[49]⟩] 57)).heap.size:=by simp
 go_wp2_with fail
 generalize w3.alloc (.cells #[.string sk,.string ⟨#[49]⟩] 57)=V at *;generalize w3.heap.size=b at *;have hc0:=b9.c0;have hc1:=b9.c1;have HE:=hid hE;have B9:=hid b9;clear hE b9;go_upto_region 5 with (fail)
 go_cut [6,7] (fun v6 v7 wx=>ziC w p.length r v6 v7 wx)
 case first =>
  go_region_held3 (fun w'=>Ext V w'∧w'.cell? ⟨b,0,none⟩=some (.string sk)∧w'.cell? ⟨b,1,none⟩=some (.string ⟨#[49]⟩))
   (first | (with_reducible assumption) | exact ⟨(Ext.refl V).drew,hc0,hc1⟩ | exact ⟨Ext.trans (And.left (by assumption)) hxa,Ext.cell hxa (And.left (And.right (by assumption))),Ext.cell hxa (And.right (And.right (by assumption)))⟩ | exact ⟨Ext.alloc (And.left (by assumption)) _,Ext.cell ((Ext.refl _).alloc _) (And.left (And.right (by assumption))),Ext.cell ((Ext.refl _).alloc _) (And.right (And.right (by assumption)))⟩)
   (first
    | (go_at_call 64;refine (Hn1.out _ (HE.out.trans (And.left (by assumption)))).mono ?_;rintro e9 VA ⟨rfl,hxa⟩;have HxA:=hid hxa)
    | (go_at_call 77
       have hck:Hid (Ext (V.alloc (.cells #[.slice aa n1 ca,.slice ab n2 cb] 32)).drew VA):=by with_reducible assumption
       clear hck
       have hbc:((V.alloc (.cells #[.slice aa n1 ca,.slice ab n2 cb] 32)).drew).heap[V.heap.size]?=some (.cells ([.slice aa n1 ca,.slice ab n2 cb]:List Value).toArray 32 (0,0)):=World.alloc_heap_new V _
       have hE0:Ext V VA:=(((Ext.refl V).alloc (.cells #[.slice aa n1 ca,.slice ab n2 cb] 32)).drew).trans HxA.out
       have hx3:Ext VA (VA.alloc (.cells #[.string s1,.string ⟨#[49]⟩,.string sk,.string ⟨#[49]⟩] 57)):=(Ext.refl VA).alloc _
       have hE3:Ext w (VA.alloc (.cells #[.string s1,.string ⟨#[49]⟩,.string sk,.string ⟨#[49]⟩] 57)):=(HE.out.trans hE0).trans hx3
       have hl3:RdM (VA.alloc (.cells #[.string s1,.string ⟨#[49]⟩,.string sk,.string ⟨#[49]⟩] 57)) (.slice (some ⟨V.heap.size,0,none⟩) 2 2) [⟨a0::tl,.slice aa n1 ca,hua⟩,⟨ov tl.length,.slice ab n2 cb,hub⟩] :=
         ⟨zhR ((HxA.out.trans hx3).heap hbc) (by unfold maxLen;simp),by
           intro r hr;rcases List.mem_cons.1 hr with rfl | hr
           · exact Hra.out _ hE3
           · rw [List.mem_singleton] at hr;subst hr;exact Hrb.out _ hE3⟩
       have hf3:Rd (VA.alloc (.cells #[.string s1,.string ⟨#[49]⟩,.string sk,.string ⟨#[49]⟩] 57)) (.slice (some ⟨VA.heap.size,0,none⟩) 2 2) [1,kq] :=
         zhS (x:=[1,kq]) (by rw [Hone.out];exact World.alloc_heap_new VA _) (by unfold maxLen;simp)
       refine (Hco.out _ _ _ hE3 hl3 hf3).mono ?_
       rintro e9 VB ⟨g,rfl,ho,hxa⟩
       have HoB:=hid (ho.mono hE3.size)
       have HEB:=hid (hE3.trans hxa)
       have hEV:=(hE0.trans hx3).trans hxa
       have hS2:Ext V VB∧VB.cell? ⟨b,0,none⟩=some (.string sk)∧VB.cell? ⟨b,1,none⟩=some (.string ⟨#[49]⟩):=⟨hEV,hEV.cell hc0,hEV.cell hc1⟩
       have HEV:=hid hEV
       clear hl3 hf3 hbc ho hE0 hx3 hE3 hEV hxa)
    | (go_at_call 77
       have hck2:Ext V ((VA.alloc (.cells #[.slice aa n1 ca,.slice ab n2 cb] 32)).alloc (.cells #[.string s1,.string ⟨#[49]⟩,.string sk,.string ⟨#[49]⟩] 57))∧((VA.alloc (.cells #[.slice aa n1 ca,.slice ab n2 cb] 32)).alloc (.cells #[.string s1,.string ⟨#[49]⟩,.string sk,.string ⟨#[49]⟩] 57)).cell? ⟨b,0,none⟩=some (.string sk)∧((VA.alloc (.cells #[.slice aa n1 ca,.slice ab n2 cb] 32)).alloc (.cells #[.string s1,.string ⟨#[49]⟩,.string sk,.string ⟨#[49]⟩] 57)).cell? ⟨b,1,none⟩=some (.string ⟨#[49]⟩):=by with_reducible assumption
       clear hck2
       have hbc:(VA.alloc (.cells #[.slice aa n1 ca,.slice ab n2 cb] 32)).heap[VA.heap.size]?=some (.cells ([.slice aa n1 ca,.slice ab n2 cb]:List Value).toArray 32 (0,0)):=World.alloc_heap_new VA _
       have hE0:Ext V (VA.alloc (.cells #[.slice aa n1 ca,.slice ab n2 cb] 32)):=(((Ext.refl V).drew).trans HxA.out).alloc _
       have hx3:Ext (VA.alloc (.cells #[.slice aa n1 ca,.slice ab n2 cb] 32)) ((VA.alloc (.cells #[.slice aa n1 ca,.slice ab n2 cb] 32)).alloc (.cells #[.string s1,.string ⟨#[49]⟩,.string sk,.string ⟨#[49]⟩] 57)):=(Ext.refl _).alloc _
       have hE3:Ext w ((VA.alloc (.cells #[.slice aa n1 ca,.slice ab n2 cb] 32)).alloc (.cells #[.string s1,.string ⟨#[49]⟩,.string sk,.string ⟨#[49]⟩] 57)):=(HE.out.trans hE0).trans hx3
       have hl3:RdM ((VA.alloc (.cells #[.slice aa n1 ca,.slice ab n2 cb] 32)).alloc (.cells #[.string s1,.string ⟨#[49]⟩,.string sk,.string ⟨#[49]⟩] 57)) (.slice (some ⟨VA.heap.size,0,none⟩) 2 2) [⟨a0::tl,.slice aa n1 ca,hua⟩,⟨ov tl.length,.slice ab n2 cb,hub⟩] :=
         ⟨zhR (hx3.heap hbc) (by unfold maxLen;simp),by
         intro r hr
         rcases List.mem_cons.1 hr with rfl | hr
         · exact Hra.out _ hE3
         · rw [List.mem_singleton] at hr;subst hr;exact Hrb.out _ hE3⟩
       have hf3:Rd ((VA.alloc (.cells #[.slice aa n1 ca,.slice ab n2 cb] 32)).alloc (.cells #[.string s1,.string ⟨#[49]⟩,.string sk,.string ⟨#[49]⟩] 57)) (.slice (some ⟨VA.heap.size+1,0,none⟩) 2 2) [1,kq] :=
         zhS (x:=[1,kq]) (by rw [Hone.out];have:=World.alloc_heap_new (VA.alloc (.cells #[.slice aa n1 ca,.slice ab n2 cb] 32)) (.cells #[.string s1,.string ⟨#[49]⟩,.string sk,.string ⟨#[49]⟩] 57);rwa [World.size_alloc] at this) (by unfold maxLen;simp)
       refine (Hco.out _ _ _ hE3 hl3 hf3).mono ?_
       rintro e9 VB ⟨g,rfl,ho,hxa⟩
       have HoB2:=hid (ho.mono hE3.size)
       have HEB2:=hid (hE3.trans hxa)
       have hEV:=(hE0.trans hx3).trans hxa
       have hS2:Ext V VB∧VB.cell? ⟨b,0,none⟩=some (.string sk)∧VB.cell? ⟨b,1,none⟩=some (.string ⟨#[49]⟩):=⟨hEV,hEV.cell hc0,hEV.cell hc1⟩
       have HEV2:=hid hEV
       clear hl3 hf3 hbc ho hE0 hx3 hE3 hEV hxa)
    | (go_at_call 77
       have hck2:Ext V ((VA.alloc (.cells #[.string s1,.string ⟨#[49]⟩,.string sk,.string ⟨#[49]⟩] 57)).alloc (.cells #[.slice aa n1 ca,.slice ab n2 cb] 32))∧((VA.alloc (.cells #[.string s1,.string ⟨#[49]⟩,.string sk,.string ⟨#[49]⟩] 57)).alloc (.cells #[.slice aa n1 ca,.slice ab n2 cb] 32)).cell? ⟨b,0,none⟩=some (.string sk)∧((VA.alloc (.cells #[.string s1,.string ⟨#[49]⟩,.string sk,.string ⟨#[49]⟩] 57)).alloc (.cells #[.slice aa n1 ca,.slice ab n2 cb] 32)).cell? ⟨b,1,none⟩=some (.string ⟨#[49]⟩):=by with_reducible assumption
       clear hck2
       have hbc:(VA.alloc (.cells #[.string s1,.string ⟨#[49]⟩,.string sk,.string ⟨#[49]⟩] 57)).heap[VA.heap.size]?=some (.cells (rcs [1,kq]).toArray 57 (0,0)):=by rw [Hone.out];exact World.alloc_heap_new VA _
       have hE0:Ext V (VA.alloc (.cells #[.string s1,.string ⟨#[49]⟩,.string sk,.string ⟨#[49]⟩] 57)):=(((Ext.refl V).drew).trans HxA.out).alloc _
       have hx3:Ext (VA.alloc (.cells #[.string s1,.string ⟨#[49]⟩,.string sk,.string ⟨#[49]⟩] 57)) ((VA.alloc (.cells #[.string s1,.string ⟨#[49]⟩,.string sk,.string ⟨#[49]⟩] 57)).alloc (.cells #[.slice aa n1 ca,.slice ab n2 cb] 32)):=(Ext.refl _).alloc _
       have hE3:Ext w ((VA.alloc (.cells #[.string s1,.string ⟨#[49]⟩,.string sk,.string ⟨#[49]⟩] 57)).alloc (.cells #[.slice aa n1 ca,.slice ab n2 cb] 32)):=(HE.out.trans hE0).trans hx3
       have hl3:RdM ((VA.alloc (.cells #[.string s1,.string ⟨#[49]⟩,.string sk,.string ⟨#[49]⟩] 57)).alloc (.cells #[.slice aa n1 ca,.slice ab n2 cb] 32)) (.slice (some ⟨VA.heap.size+1,0,none⟩) 2 2) [⟨a0::tl,.slice aa n1 ca,hua⟩,⟨ov tl.length,.slice ab n2 cb,hub⟩] :=
         ⟨zhR (us:=[.slice aa n1 ca,.slice ab n2 cb]) (by have:=World.alloc_heap_new (VA.alloc (.cells #[.string s1,.string ⟨#[49]⟩,.string sk,.string ⟨#[49]⟩] 57)) (.cells #[.slice aa n1 ca,.slice ab n2 cb] 32);rwa [World.size_alloc] at this) (by unfold maxLen;simp),by
         intro r hr
         rcases List.mem_cons.1 hr with rfl | hr
         · exact Hra.out _ hE3
         · rw [List.mem_singleton] at hr;subst hr;exact Hrb.out _ hE3⟩
       have hf3:Rd ((VA.alloc (.cells #[.string s1,.string ⟨#[49]⟩,.string sk,.string ⟨#[49]⟩] 57)).alloc (.cells #[.slice aa n1 ca,.slice ab n2 cb] 32)) (.slice (some ⟨VA.heap.size,0,none⟩) 2 2) [1,kq] :=
         zhS (x:=[1,kq]) (hx3.heap hbc) (by unfold maxLen;simp)
       refine (Hco.out _ _ _ hE3 hl3 hf3).mono ?_
       rintro e9 VB ⟨g,rfl,ho,hxa⟩
       have HoB2:=hid (ho.mono hE3.size)
       have HEB2:=hid (hE3.trans hxa)
       have hEV:=(hE0.trans hx3).trans hxa
       have hS2:Ext V VB∧VB.cell? ⟨b,0,none⟩=some (.string sk)∧VB.cell? ⟨b,1,none⟩=some (.string ⟨#[49]⟩):=⟨hEV,hEV.cell hc0,hEV.cell hc1⟩
       have HEV2:=hid hEV
       clear hl3 hf3 hbc ho hE0 hx3 hE3 hEV hxa)
    | (go_at_call 76;refine (Hre.out _ _ HoB.out.rd).mono ?_;rintro e9 VC ⟨rfl,hxa⟩;have HoC:=hid (hxa.ownQ HoB.out);have HEC:=hid (HEB.out.trans hxa);have hS3:Ext V VC∧VC.cell? ⟨b,0,none⟩=some (.string sk)∧VC.cell? ⟨b,1,none⟩=some (.string ⟨#[49]⟩):=⟨HEV.out.trans hxa,(HEV.out.trans hxa).cell hc0,(HEV.out.trans hxa).cell hc1⟩;clear hxa hS2)
    | (go_at_call 76;refine (Hre.out _ _ HoB2.out.rd).mono ?_;rintro e9 VC ⟨rfl,hxa⟩;have HoC:=hid (hxa.ownQ HoB2.out);have HEC:=hid (HEB2.out.trans hxa);have hS3:Ext V VC∧VC.cell? ⟨b,0,none⟩=some (.string sk)∧VC.cell? ⟨b,1,none⟩=some (.string ⟨#[49]⟩):=⟨HEV2.out.trans hxa,(HEV2.out.trans hxa).cell hc0,(HEV2.out.trans hxa).cell hc1⟩;clear hxa hS2))
  all_goals
   have Hfin:Hid (ziC w p.length r (.slice (some ⟨g,0,none⟩) p.length p.length) (.int .i64 0) VC):=hid ⟨g,rfl,rfl,HoC.out,HEC.out⟩;go_wp2_with fail
   go_meet
   exact Hfin.out
 case rest =>
  obtain ⟨g,rfl,rfl,ho,hx⟩:=hcut;have Ho:=hid ho;have Hx:=hid hx;clear ho hx;go_wp2
  go_ret2
  exact ⟨_,rfl,Ho.out,Hx.out⟩
theorem zlS (vp va vb:Value)(p:List Int)(a0:Rat)(tl:List Rat)(w:World)(he:Env w)(hp:Sl w vp (zak p))(ha:Rd w va (a0::tl))(hb:Rd w vb (ov tl.length))(hpe:zee p=0)(hpr:Pr p (tl.length+1))(hf:∀ q∈a0::tl,Ft 30 q)(hrv:zgJ w)(hk:Ft 400 ((-flN p (a0::tl):Int):Rat))(hfl:Fit (flN p (a0::tl)))
  (hres:∀ q∈zeS (a0::tl) (zeU (ov tl.length) ((-flN p (a0::tl):Int):Rat)),Ft 30 q) :
  Calls Tryz.prog 41 #[vp,vb,va] w fun e w'=>∃ g,e=.returned (.tuple #[.slice (some ⟨g,0,none⟩) p.length p.length,.string (I (flN p (a0::tl))),.int .i64 0])∧zf4 w' w.heap.size (.slice (some ⟨g,0,none⟩) p.length p.length) (zeS (a0::tl) (zeU (ov tl.length) ((-flN p (a0::tl):Int):Rat)))∧Ext w w':=by
 have h1:=zlQ vp va vb p a0 tl w he hp ha hb hpe hpr hf hrv;have h2:=fun W (h:Ext w W)=>zlR vp va vb p a0 tl W (he.ext h) (h.sl hp) (h.rd ha) (h.rd hb) hpe hpr hf (hrv.ext h) hk hfl hres;generalize zeS (a0::tl) (zeU (ov tl.length) ((-flN p (a0::tl):Int):Rat))=r at *;generalize I (flN p (a0::tl))=sf at *;obtain ⟨ap,cp,rfl,_,_,_⟩:=hp.parts;obtain ⟨aa,ca,rfl,_,_,_⟩:=ha.parts;obtain ⟨ab,cb,rfl,_,_,_⟩:=hb.parts;clear hp ha hb he hpe hpr hf hrv hk hfl hres;have H1:=hid h1;have H2:=hid h2;clear h1 h2;go_enter Tryz.func41,Tryz.ntmps41
 go_wp2_with fail
 refine (H1.out).mono ?_;rintro e w1 ⟨rfl,hx1⟩;have Hx1:=hid hx1;clear hx1;go_wp2_with fail
 refine (H2.out w1 Hx1.out).mono ?_;rintro e w2 ⟨g,rfl,ho,hx2⟩;have Ho:=hid (ho.mono Hx1.out.size);have Hx2:=hid (Hx1.out.trans hx2);clear ho hx2;go_wp2
 exact bodyPost_ret (by simp [results,Tryz.results41,go_sem]) rfl ⟨g,rfl,Ho.out,Hx2.out⟩
end
section
open Go.RowKit Go.Lib
def mF : List Int→List Rat→Rat
 | p::ps,r::x=>r * ((LG p 2048:Nat):Rat)+mF ps x
 | _,_=>0
theorem zlT (d:Nat):∀ (p:List Int)(x:List Rat),(∀ r∈x,r.den ∣ d)→((zkE (p.zip (fcd d x)):Int):Rat)=(d:Rat) * mF p x
 | [],x,_=>by simp [fcd,zkE,mF]
 | _::_,[],_=>by simp [fcd,zkE,mF]
 | p::ps,r::x,h=>by
  have ih:=zlT d ps x fun s hs=>h s (List.mem_cons_of_mem _ hs);have e:=zeO (h r (List.mem_cons_self ..));simp only [fcd] at ih;simp only [fcd,List.map_cons,List.zip_cons_cons,zkE,mF];rw [Rat.intCast_add,ih,Rat.intCast_mul,e,Rat.intCast_natCast];grind
theorem zlU : ∀ (p:List Int)(x y:List Rat),x.length=y.length→mF p (zeT x y)=mF p x - mF p y
 | [],x,y,_=>by simp only [mF];grind
 | _::_,[],[],_=>by simp only [mF,zeT,List.zipWith_nil_left];grind
 | p::ps,a::x,b::y,h=>by
  have ih:=zlU ps x y (by simpa using h);simp only [zeT] at ih;simp only [zeT,List.zipWith_cons_cons,mF,ih];grind
theorem zlV : ∀ (p:List Int)(x:List Rat),(∀ r∈x,r=0)→mF p x=0
 | [],x,_=>by simp [mF]
 | _::_,[],_=>by simp [mF]
 | p::ps,r::x,h=>by
  rw [mF,zlV ps x fun s hs=>h s (List.mem_cons_of_mem _ hs),h r (List.mem_cons_self ..)];grind
theorem zlW {d:Nat}{r:Rat}(h0:0<d)(hd:r.den ∣ d)(h:r.num * ((d / r.den:Nat):Int)=0):r=0:=by
 have h3:0<d / r.den:=Nat.div_pos (Nat.le_of_dvd h0 hd) r.den_pos;rcases Int.mul_eq_zero.1 h with g | g
 ·exact Rat.num_eq_zero.1 g
 ·omega
theorem zlX {p:List Int}{a:Rat}{tl:List Rat}(hp:Pr p (a::tl).length)(hw:FwN (a::tl))(hne:¬ ∀ r∈a::tl,r=0):2 * HH<(zkE (tms p (dn (a::tl)) (a::tl))).natAbs:=by
 obtain ⟨B,C,hM,-,hbd,hz⟩:=zkU hp (dn (a::tl));have hBC:=hbd HH fun r hr=>hw r (List.mem_cons_of_mem _ hr);have hd:=zeR (a::tl);have e1:zkE (tms p (dn (a::tl)) (a::tl))=zkE (p.zip (fcd (dn (a::tl)) (a::tl))):=(zkV 0 _).2.2;rw [e1,hM];rcases Nat.lt_or_ge (2 * HH) (a.num * ((dn (a::tl) / a.den:Nat):Int) * KK+B * (L3:Int)+C * (L5:Int)).natAbs with g | g
 ·exact g
 ·exfalso;have:=zkB hBC.1 hBC.2 g;refine hne fun r hr=>?_;rcases List.mem_cons.1 hr with rfl | hr
  ·exact zlW hd (zeQ _ r (List.mem_cons_self ..)) this.1
  ·exact hz hd (fun r hr=>zeQ _ r (List.mem_cons_of_mem _ hr)) this.2.1 this.2.2 r hr
def sgM (l:List (Int × Int)):Int:=if l=[] then 0 else if 0<zkE l then 1 else -1
structure Sgn (l:List (Int × Int)):Prop where
 few:l.length≤100
 ok:∀ e∈l,okN e
 ne:l ≠ []→zkE l ≠ 0
 top:l ≠ []→0≤zkC 2048 l∨zkD 2048 l≤0
theorem Sgn.low {l:List (Int × Int)}(h:Sgn l){n:Nat}(hn:n≤2048)(hl:l ≠ [])(h0:0≤zkC n l):sgM l=1:=by
 have h1:=(zkN hn l).1;have h2:(0:Int)≤zkC n l * ((2 ^ (2048 - n):Nat):Int):=Int.mul_nonneg h0 (Int.natCast_nonneg _);have h3:=h.ne hl;unfold sgM;rw [if_neg hl,if_pos (by omega)]
theorem Sgn.hig {l:List (Int × Int)}(h:Sgn l){n:Nat}(hn:n≤2048)(hl:l ≠ [])(h0:zkD n l≤0):sgM l=-1:=by
 have h1:=(zkN hn l).2;have h2:zkD n l * ((2 ^ (2048 - n):Nat):Int)≤0:=Int.mul_nonpos_of_nonpos_of_nonneg h0 (Int.natCast_nonneg _);have h3:=h.ne hl;unfold sgM;rw [if_neg hl,if_neg (by omega)]
theorem Sgn.lowT {l:List (Int × Int)}(h:Sgn l)(hl:l ≠ [])(h0:0≤lowT l):sgM l=1:=by
 have h1:=(zkR (l:=l) fun e he=>(h.ok e he).1).1;have h2:(0:Int)≤Go.Proofs.YtoehmpbipbbffaaGreatDoor.lowT l * (S22:Int):=Int.mul_nonneg h0 (Int.le_of_lt zkO);have h3:=h.ne hl;unfold sgM;rw [if_neg hl,if_pos (by omega)]
theorem Sgn.higT {l:List (Int × Int)}(h:Sgn l)(hl:l ≠ [])(h0:higT l≤0):sgM l=-1:=by
 have h1:=(zkR (l:=l) fun e he=>(h.ok e he).1).2;have h2:Go.Proofs.YtoehmpbipbbffaaGreatDoor.higT l * (S22:Int)≤0:=Int.mul_nonpos_of_nonpos_of_nonneg h0 (Int.le_of_lt zkO);have h3:=h.ne hl;unfold sgM;rw [if_neg hl,if_neg (by omega)]
theorem zlY {p:List Int}{x:List Rat}(hp:Pr p x.length)(hw:FwN x):∀ e∈tms p (dn x) x,okN e:=by
 intro e he;refine ⟨zld hp _ e he,?_⟩;have h1:=(List.mem_filter.1 he).1;have h2:e.2∈fcd (dn x) x:=(List.of_mem_zip (show (e.1,e.2)∈p.zip (fcd (dn x) x) from h1)).2;unfold fcd at h2;obtain ⟨r,hr,h3⟩:=List.mem_map.1 h2;rw [← h3];exact hw r hr
theorem zlZ {p:List Int}{x:List Rat}(hp:Pr p x.length):∃ a tl,x=a::tl:=by
 rcases hp with ⟨_,h⟩ | ⟨_,h⟩ <;> (cases x with | nil=>simp at h | cons a tl=>exact ⟨a,tl,rfl⟩)
theorem zma {p:List Int}{x:List Rat}(hp:Pr p x.length)(hf:∀ q∈x,Ft 30 q):Sgn (tms p (dn x) x):=by
 obtain ⟨hw,_⟩:=zlO hp hf;have hlen:(tms p (dn x) x).length≤100:=by
  unfold tms;refine Nat.le_trans (List.length_filter_le _ _) ?_;rw [List.length_zip];rcases hp with ⟨rfl,_⟩ | ⟨rfl,_⟩ <;> simp <;> omega
 obtain ⟨a,tl,rfl⟩:=zlZ hp;have hz:tms p (dn (a::tl)) (a::tl) ≠ []→¬ ∀ r∈a::tl,r=0:=fun h1 h2=>h1 (by
  unfold tms;rw [List.filter_eq_nil_iff];intro e he;have h3:e.2∈fcd (dn (a::tl)) (a::tl):=(List.of_mem_zip (show (e.1,e.2)∈p.zip (fcd (dn (a::tl)) (a::tl)) from he)).2;unfold fcd at h3;obtain ⟨r,hr,h4⟩:=List.mem_map.1 h3;rw [h2 r hr] at h4;rw [← h4];simp)
 refine ⟨hlen,zlY hp hw,fun h=>?_,fun h=>?_⟩
 ·have:=zlX hp hw (hz h);intro e;rw [e] at this;simp at this
 ·have hfar:=zlX hp hw (hz h);obtain ⟨B,C,_,hE,hbd,_⟩:=zkU hp (dn (a::tl));have hBC:=hbd HH fun r hr=>hw r (List.mem_cons_of_mem _ hr);have hend:=zkN (n:=2048) (Nat.le_refl _) (tms p (dn (a::tl)) (a::tl));have herr:=zkT (n:=2048) (tms p (dn (a::tl)) (a::tl));rw [show ((2 ^ (2048 - 2048):Nat):Int)=1 by decide,Int.mul_one,Int.mul_one] at hend;have e2:zeI (tms p (dn (a::tl)) (a::tl))=zeI (p.zip (fcd (dn (a::tl)) (a::tl))):=(zeN _).2.2.2;rw [e2,hE] at herr;have h1:B.natAbs≤HH:=hBC.1;have h2:C.natAbs≤HH:=hBC.2;omega
theorem zmb {p:List Int}{x:List Rat}(hp:Pr p x.length)(hf:∀ q∈x,Ft 30 q):(sgM (tms p (dn x) x)<0 ↔ mF p x<0)∧(sgM (tms p (dn x) x)=0 ↔ ∀ r∈x,r=0)∧(0<sgM (tms p (dn x) x) ↔ 0<mF p x):=by
 have hs:=zma hp hf;have e1:=zlT (dn x) p x (zeQ x);have e2:zkE (tms p (dn x) x)=zkE (p.zip (fcd (dn x) x)):=(zkV 0 _).2.2;have hpos:(0:Rat)<((dn x:Nat):Rat):=by
  have:=zeR x;exact Rat.natCast_pos.2 this
 rw [← e2] at e1;by_cases hl:tms p (dn x) x=[]
 ·have h0:=zfr hp hl;have h1:=zlV p x h0;have h2:sgM (tms p (dn x) x)=0:=by unfold sgM;rw [if_pos hl]
  rw [h1,h2];exact ⟨⟨fun h=>absurd h (by decide),fun h=>absurd h (Rat.lt_irrefl)⟩,⟨fun _=>h0,fun _=>rfl⟩,⟨fun h=>absurd h (by decide),fun h=>absurd h (Rat.lt_irrefl)⟩⟩
 ·have hne:=hs.ne hl;have hnz:¬ ∀ r∈x,r=0:=fun h=>hne (by
   rw [zlV p x h,Rat.mul_zero] at e1;exact Rat.intCast_inj.1 (by rw [e1];rfl))
  unfold sgM;rw [if_neg hl];by_cases hm:0<zkE (tms p (dn x) x)
  ·have h4:(0:Rat)<((zkE (tms p (dn x) x):Int):Rat):=Rat.intCast_pos.2 hm;rw [e1] at h4;have h5:0<mF p x:=(Rat.mul_pos_iff_of_pos_left hpos).1 h4;rw [if_pos hm];exact ⟨⟨fun h=>absurd h (by decide),fun h=>by exfalso;grind⟩,⟨fun h=>absurd h (by decide),fun h=>absurd h hnz⟩,⟨fun _=>h5,fun _=>by decide⟩⟩
  ·have hm2:0 < -zkE (tms p (dn x) x):=(by omega);have h4:(0:Rat)<((-zkE (tms p (dn x) x):Int):Rat):=Rat.intCast_pos.2 hm2;rw [Rat.intCast_neg,e1] at h4;have h4:(0:Rat)<((dn x:Nat):Rat) * (-mF p x):=by
    have e:((dn x:Nat):Rat) * (-mF p x)=-(((dn x:Nat):Rat) * mF p x):=(by grind);rw [e];exact h4
   have h5:0 < -mF p x:=(Rat.mul_pos_iff_of_pos_left hpos).1 h4;have h6:mF p x<0:=(by grind);rw [if_neg hm];exact ⟨⟨fun _=>h6,fun _=>by decide⟩,⟨fun h=>absurd h (by decide),fun h=>absurd h hnz⟩,⟨fun h=>absurd h (by decide),fun h=>by exfalso;grind⟩⟩
theorem zmc {p:List Int}{x y:List Rat}(hp:Pr p x.length)(hxy:x.length=y.length)(hf:∀ q∈zeT x y,Ft 30 q)(e:mF p x=mF p y):x=y:=by
 have hl:=ziW hxy;have hs:=zmb (p:=p) (x:=zeT x y) (by rw [hl];exact hp) hf;have h0:mF p (zeT x y)=0:=by rw [zlU p x y hxy,e];grind
 have hz:∀ r∈zeT x y,r=0:=by
  refine hs.2.1.1 ?_;rw [h0] at hs;have h1:¬ sgM (tms p (dn (zeT x y)) (zeT x y))<0:=fun h=>absurd (hs.1.1 h) Rat.lt_irrefl;have h2:¬ 0<sgM (tms p (dn (zeT x y)) (zeT x y)):=fun h=>absurd (hs.2.2.1 h) Rat.lt_irrefl;omega
 apply List.ext_getElem hxy;intro i h1 h2;have h3:(zeT x y)[i]?=some (x[i] - y[i]):=by
  unfold zeT;rw [List.getElem?_zipWith,List.getElem?_eq_getElem h1,List.getElem?_eq_getElem h2]
 have:=hz _ (List.mem_of_getElem? h3);grind
end
section
def rsN (p:List Int)(x:List Rat):List Rat:=shf (-(flN p x)) x
def zmd (p:List Int)(out:List (List Rat))(x:List Rat):List (List Rat):=if rsN p x=zer p.length∨rsN p x∈out then out else out++[rsN p x]
def zme (p:List Int)(init l:List (List Rat)):List (List Rat):=l.foldl (zmd p) init
theorem zmf (p:List Int)(init l:List (List Rat))(x:List Rat):zme p init (l++[x])=zmd p (zme p init l) x:=by unfold zme;rw [List.foldl_append];rfl
theorem zmg {p:List Int}{init l:List (List Rat)}{k:Nat}{x:List Rat}(h:l[k]?=some x):zme p init (l.take (k+1))=zmd p (zme p init (l.take k)) x:=by
 obtain ⟨hk,rfl⟩:=List.getElem?_eq_some_iff.1 h;rw [List.take_succ_eq_append_getElem hk,zmf]
theorem zmh (p:List Int)(init l:List (List Rat)):(zme p init l).length≤init.length+l.length:=by
 induction l generalizing init with
 | nil=>simp [zme]
 | cons x l ih =>
  have:=ih (zmd p init x)
  show (zme p (zmd p init x) l).length≤_
  have h2:(zmd p init x).length≤init.length+1:=by
   unfold zmd;split <;> simp
  simp only [List.length_cons]
  omega
theorem zmi {p:List Int}(l:List (List Rat)):∀ (init:List (List Rat))(x:List Rat),x∈zme p init l ↔ x∈init∨(x ≠ zer p.length∧∃ y∈l,x=rsN p y):=by
 induction l with
 | nil=>intro init x;simp [zme]
 | cons z l ih =>
  intro init x
  show x∈zme p (zmd p init z) l ↔ _
  rw [ih]
  have hs:x∈zmd p init z ↔ x∈init∨(x ≠ zer p.length∧x=rsN p z):=by
   unfold zmd;split
   ·rename_i h;constructor
    ·exact .inl
    ·rintro (g | ⟨g1,g2⟩)
     ·exact g
     ·subst g2;rcases h with h | h
      ·exact absurd h g1
      ·exact h
   ·rename_i h;rw [List.mem_append,List.mem_singleton];constructor
    ·rintro (g | g)
     ·exact .inl g
     ·subst g;exact .inr ⟨fun e=>h (.inl e),rfl⟩
    ·rintro (g | ⟨_,g⟩)
     ·exact .inl g
     ·exact .inr g
  rw [hs]
  constructor
  ·rintro ((g | ⟨g1,g2⟩) | ⟨g1,y,hy,g2⟩)
   ·exact .inl g
   ·exact .inr ⟨g1,z,List.mem_cons_self ..,g2⟩
   ·exact .inr ⟨g1,y,List.mem_cons_of_mem _ hy,g2⟩
  ·rintro (g | ⟨g1,y,hy,g2⟩)
   ·exact .inl (.inl g)
   ·rcases List.mem_cons.1 hy with rfl | hy
    ·exact .inl (.inr ⟨g1,g2⟩)
    ·exact .inr ⟨g1,y,hy,g2⟩
theorem zmj {p:List Int}(l:List (List Rat)):∀ (init:List (List Rat)),init.Nodup→(zme p init l).Nodup:=by
 induction l with
 | nil=>intro init h;exact h
 | cons z l ih =>
  intro init h
  refine ih _ ?_
  unfold zmd
  split
  ·exact h
  ·rename_i g
   rw [List.nodup_append]
   refine ⟨h,by simp,fun a ha b hb=>?_⟩
   rw [List.mem_singleton] at hb
   subst hb
   rintro rfl
   exact g (.inr ha)
def zmk (p:List Int)(N:List (List Rat)):Prop:=N.Pairwise fun x y=>mF p x<mF p y
theorem zml {p:List Int}:∀ {N M:List (List Rat)},zmk p N→zmk p M→(∀ x,x∈N ↔ x∈M)→N=M
 | [],[],_,_,_=>rfl
 | [],b::M,_,_,h=>by have:=(h b).2 (List.mem_cons_self ..);cases this
 | a::N,[],_,_,h=>by have:=(h a).1 (List.mem_cons_self ..);cases this
 | a::N,b::M,h1,h2,h=>by
  have h1':=h1;have h2':=h2;unfold zmk at h1' h2';rw [List.pairwise_cons] at h1' h2';have e:a=b:=by
   rcases List.mem_cons.1 ((h a).1 (List.mem_cons_self ..)) with e | ha
   ·exact e
   ·rcases List.mem_cons.1 ((h b).2 (List.mem_cons_self ..)) with e | hb
    ·exact e.symm
    ·have g1:=h2'.1 a ha;have g2:=h1'.1 b hb;exfalso;grind
  subst e;rw [zml (N:=N) (M:=M) h1'.2 h2'.2 fun x=>?_];constructor
  ·intro hx;rcases List.mem_cons.1 ((h x).1 (List.mem_cons_of_mem _ hx)) with rfl | g
   ·have:=h1'.1 x hx;exfalso;grind
   ·exact g
  ·intro hx;rcases List.mem_cons.1 ((h x).2 (List.mem_cons_of_mem _ hx)) with rfl | g
   ·have:=h2'.1 x hx;exfalso;grind
   ·exact g
theorem zmm {p:List Int}{N M:List (List Rat)}(h:N.Perm M)(h1:N.Pairwise fun x y=>mF p x≤mF p y)(h2:M.Nodup)(h3:∀ x∈M,∀ y∈M,mF p x=mF p y→x=y):zmk p N:=by
 have hn:N.Nodup:=h.nodup_iff.2 h2;unfold zmk;have:=List.Pairwise.and h1 hn;refine List.Pairwise.imp_of_mem ?_ this;intro a b ha hb ⟨g1,g2⟩;have:mF p a ≠ mF p b:=fun e=>g2 (h3 a (h.mem_iff.1 ha) b (h.mem_iff.1 hb) e);grind
theorem zmn {p:List Int}{x:List Rat}(hp:Pr p x.length)(q:Int):mF p (shf q x)=mF p x+(q:Rat) * (KK:Rat):=by
 have h2:((LG 2 2048:Nat):Rat)=((KK:Int):Rat):=by
  have:((LG 2 2048:Nat):Int)=KK:=by decide +kernel
  rw [← this];rfl
 obtain ⟨a,tl,rfl⟩:=zlZ hp;rcases hp with ⟨rfl,_⟩ | ⟨rfl,_⟩ <;>
 ·simp only [shf,mF,h2];grind
theorem zmo (p:List Int)(n:Nat):mF p (zer n)=0:=zlV p _ fun _ h=>List.eq_of_mem_replicate h
theorem mov {p:List Int}(hp:Pr p p.length):mF p (ov (p.length - 1))=((KK:Int):Rat):=by
 rw [zj1 hp,zmn (by rw [ziV];exact hp),zmo,show ((1:Int):Rat)=1 from rfl];grind
theorem zmp {p:List Int}{x:List Rat}(hp:Pr p x.length):0≤mF p (rsN p x)∧mF p (rsN p x)<((KK:Int):Rat):=by
 unfold rsN;rw [zmn hp];have e1:=zlT (dn x) p x (zeQ x);have e2:zkE (tms p (dn x) x)=zkE (p.zip (fcd (dn x) x)):=(zkV 0 _).2.2;rw [← e2] at e1;have hd:(0:Rat)<((dn x:Nat):Rat):=Rat.natCast_pos.2 (zeR x);have hK:0<KK:=by decide +kernel
 have hKD:0<KK * ((dn x:Nat):Int):=Int.mul_pos hK (by have:=zeR x;omega);have h1:=Int.ediv_mul_le (zkE (tms p (dn x) x)) (show KK * ((dn x:Nat):Int) ≠ 0 by omega);have h2:=Int.lt_ediv_add_one_mul_self (zkE (tms p (dn x) x)) hKD;have hf:flN p x=zkE (tms p (dn x) x) / (KK * ((dn x:Nat):Int)):=rfl;rw [← hf] at h1 h2;have h1:=Rat.intCast_le_intCast.2 h1;have h2:=Rat.intCast_lt_intCast.2 h2;rw [Rat.intCast_mul,Rat.intCast_mul,e1,Rat.intCast_natCast] at h1 h2;rw [Rat.intCast_add] at h2;rw [Rat.intCast_neg];generalize mF p x=m at *;generalize ((flN p x:Int):Rat)=f at *;generalize ((KK:Int):Rat)=k at *;generalize ((dn x:Nat):Rat)=d at *;constructor
 ·have h3:d * (f * k)≤d * m:=by
   have:f * (k * d)=d * (f * k):=(by grind);rw [← this];exact h1
  rcases Classical.em (f * k≤m) with h4 | h4
  ·grind
  ·exfalso;have h5:0<d * (f * k - m):=Rat.mul_pos hd (by grind);grind
 ·have h3:d * m<d * ((f+1) * k):=by
   have:(f+((1:Int):Rat)) * (k * d)=d * ((f+1) * k):=(by rw [show ((1:Int):Rat)=1 from rfl];grind);rw [← this];exact h2
  rcases Classical.em (m<(f+1) * k) with h4 | h4
  ·grind
  ·exfalso;have h5:0≤d * (m - (f+1) * k):=Rat.mul_nonneg (Rat.le_of_lt hd) (by grind);grind
def PlN (p:List Int)(l:List (List Rat))(x:List Rat):Prop:=x=zer p.length∨x=ov (p.length - 1)∨∃ z∈l,x=rsN p z
structure Le (p:List Int)(l:List (List Rat)):Prop where
 pr:Pr p p.length
 len:∀ x∈l,x.length=p.length
 ft:∀ x∈l,∀ q∈x,Ft 30 q
 res:∀ x∈l,∀ q∈rsN p x,Ft 30 q
 dif:∀ x y,PlN p l x→PlN p l y→∀ q∈zeT x y,Ft 30 q
theorem Le.plen {p:List Int}{l:List (List Rat)}(h:Le p l){x:List Rat}(hx:PlN p l x):x.length=p.length:=by
 have:=(zjm h.pr).2;rcases hx with rfl | rfl | ⟨z,hz,rfl⟩
 ·exact ziV _
 ·rw [zit];omega
 ·unfold rsN;rw [zja];exact h.len z hz
theorem Le.inj {p:List Int}{l:List (List Rat)}(h:Le p l){x y:List Rat}(hx:PlN p l x)(hy:PlN p l y)(e:mF p x=mF p y):x=y :=
 zmc (by rw [h.plen hx];exact h.pr) ((h.plen hx).trans (h.plen hy).symm) (h.dif x y hx hy) e
theorem Le.range {p:List Int}{l:List (List Rat)}(h:Le p l){z:List Rat}(hz:z∈l):0≤mF p (rsN p z)∧mF p (rsN p z)<((KK:Int):Rat) :=
 zmp (by rw [h.len z hz];exact h.pr)
def zmq (p:List Int)(l N:List (List Rat)):Prop:=zmk p N∧∀ x,x∈N ↔ x=ov (p.length - 1)∨(x ≠ zer p.length∧∃ y∈l,x=rsN p y)
theorem zmr {p:List Int}{l N M:List (List Rat)}(h1:zmq p l N)(h2:zmq p l M):N=M :=
 zml h1.1 h2.1 fun x=>by rw [h1.2,h2.2]
theorem zms {p:List Int}{l N:List (List Rat)}(h:Le p l)(hp:N.Perm (zme p [ov (p.length - 1)] l))(hs:N.Pairwise fun x y=>mF p x≤mF p y):zmq p l N:=by
 have hin:∀ x∈zme p [ov (p.length - 1)] l,x=zer p.length∨x=ov (p.length - 1)∨∃ z∈l,x=rsN p z:=fun x hx=>by
  rcases (zmi l _ x).1 hx with e | ⟨_,g⟩
  ·exact .inr (.inl (by simpa using e))
  ·exact .inr (.inr g)
 refine ⟨zmm hp hs (zmj _ _ (by simp)) fun x hx y hy e=>h.inj (hin x hx) (hin y hy) e,fun x=>?_⟩;rw [hp.mem_iff,zmi];simp
theorem zmt {p:List Int}{l N:List (List Rat)}(h:Le p l)(hp:N.Perm (zme p [] l))(hs:N.Pairwise fun x y=>mF p x≤mF p y):zmq p l (N++[ov (p.length - 1)]):=by
 have hin:∀ x∈zme p [] l,x ≠ zer p.length∧∃ z∈l,x=rsN p z:=fun x hx=>by
  rcases (zmi l _ x).1 hx with e | g
  ·cases e
  ·exact g
 have hin2:∀ x∈zme p [] l,x=zer p.length∨x=ov (p.length - 1)∨∃ z∈l,x=rsN p z:=fun x hx=>.inr (.inr (hin x hx).2);have h1:=zmm hp hs (zmj _ _ (by simp)) fun x hx y hy e=>h.inj (hin2 x hx) (hin2 y hy) e;refine ⟨?_,fun x=>?_⟩
 ·unfold zmk;rw [List.pairwise_append];refine ⟨h1,by simp,fun a ha b hb=>?_⟩;rw [List.mem_singleton] at hb;subst hb;obtain ⟨_,z,hz,e⟩:=hin a (hp.mem_iff.1 ha);rw [e,mov h.pr];exact (h.range hz).2
 ·rw [List.mem_append,hp.mem_iff,zmi];simp;constructor
  ·rintro (g | g)
   ·exact .inr g
   ·exact .inl g
  ·rintro (g | g)
   ·exact .inr g
   ·exact .inl g
end
end Go.Proofs.YtoehmpbipbbffaaGreatDoor
