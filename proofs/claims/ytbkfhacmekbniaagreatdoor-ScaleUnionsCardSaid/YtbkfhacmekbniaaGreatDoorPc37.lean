/- Walks: the law ScaleUnions. -/
import Derived.Test.YtbkfhacmekbniaaGreatDoorPc21
import Derived.Test.YtbkfhacmekbniaaGreatDoorPc33
import Derived.Test.YtbkfhacmekbniaaGreatDoorPc34
import Derived.Test.YtbkfhacmekbniaaGreatDoorPc20
import Derived.Test.YtbkfhacmekbniaaGreatDoorPc35
import Derived.Test.YtbkfhacmekbniaaGreatDoorPc36
import Derived.Deep.MidRow
import Derived.Deep.DeepCutAuto
set_option maxRecDepth 100000
set_option maxHeartbeats 8000000
namespace Go.Proofs.YtbkfhacmekbniaaGreatDoor
open Go.RowKit Go.Lib Go.Shelf
attribute [local go_sem] Oper.semAt_some
theorem zqP {w:World}{x y:Value}{p:List Int}{rs:List Qw}(h:ScV w (.agg #[x,y]) p rs):Sl w x (zak p)∧RdM w y rs:=by
 obtain ⟨vp,vn,e,h1,h2⟩:=h;injection e with e;simp only [Array.mk.injEq,List.cons.injEq,and_true] at e;obtain ⟨rfl,rfl⟩:=e;exact ⟨h1,h2⟩
theorem zqQ {w:World}{i j:Nat}{o:Obj}(e:i=j)(h:w.heap[i]?=some o):w.heap[j]?=some o:=e ▸ h
def zqR (W:World)(p:List Int)(L:List (List Rat))(v11:Value)(wx:World):Prop:=∃ bk a c b d,∃ out:List Qw,v11=.pointer (some ⟨bk,0,none⟩)∧zjy 36 wx bk (.slice a p.length c) (.slice b out.length d)∧ScV wx (.agg #[.slice a p.length c,.slice b out.length d]) p out∧zn8 p L (out.map Qw.x)∧Ext W wx
theorem zqS {p:List Int}{o1 o2:List Qw}(hN:Wd p (o1.map Qw.x))(hM:Wd p (o2.map Qw.x))(h1:o1.length≤9)(h2:o2.length≤9)(W:World)(v1 v2:Value)(rs1 rs2:List Qw)(g1:ScV W v1 p rs1)(g2:ScV W v2 p rs2)(e1:zn8 p ((o1++o2).map Qw.x) (rs1.map Qw.x))(e2:zn8 p ((o1++o2).map Qw.x) (rs2.map Qw.x))(hp:p.length≤3) :
  Calls Tryz.prog 14 #[v1,v2] W fun e w'=>e=.returned (.bool true)∧Ext W w':=by
 have hu:=zn9 e1 e2;rw [List.map_append] at e1 e2;have hs:∀ {rs:List Qw},zn8 p (o1.map Qw.x++o2.map Qw.x) (rs.map Qw.x)→rs.length≤1000∧∀ r∈rs,r.x.length≤1000:=fun {rs} e=>by
  have hm:=zp7 hN hM e;have nU:(rs.map Qw.x).Nodup:=e.1.imp fun h e=>by rw [e] at h;exact Rat.lt_irrefl h
  have hl:=zjb nU (M:=o1.map Qw.x++o2.map Qw.x) fun x hx=>List.mem_append.2 ((hm x).1 hx);rw [List.length_append,List.length_map,List.length_map,List.length_map] at hl;refine ⟨by omega,fun r hr=>?_⟩;rcases (hm r.x).1 (List.mem_map_of_mem hr) with g | g
  ·rw [hN.len _ g];omega
  ·rw [hM.len _ g];omega
 have h:=zj4 v1 v2 p p rs1 rs2 W g1 g2 (by omega) (by omega) (hs e1).1 (hs e2).1 (hs e1).2 (hs e2).2;rw [decide_eq_true hu,decide_eq_true rfl] at h;exact h
theorem zqT {p:List Int}{o1 o2 rs2:List Qw}(hN:Wd p (o1.map Qw.x))(hM:Wd p (o2.map Qw.x))(e2:zn8 p ((o1++o2).map Qw.x) (rs2.map Qw.x)):(inB o1 o2=true∧rs2.length=o2.length)∨(inB o1 o2=false∧¬ (rs2.length:Int)=(o2.length:Int)):=by
 rw [List.map_append] at e2;have h:=zp8 hN hM e2;rw [List.length_map,List.length_map,← zp9] at h
 cases hb:inB o1 o2
 ·right;refine ⟨rfl,fun e=>?_⟩;have:=h.1 (by omega);rw [hb] at this
  cases this
 ·exact .inl ⟨rfl,h.2 hb⟩
theorem zqU {p:List Int}{o1 o2:List Qw}(hN:Wd p (o1.map Qw.x))(hM:Wd p (o2.map Qw.x)){out:List Qw}(e:zn8 p ((o1++o2).map Qw.x) (out.map Qw.x)):∀ r∈out,r.x ≠ []:=fun r hr e0=>by
 rw [List.map_append] at e;have h0:=(ziM hN.pr).2;have hl:r.x.length=p.length:=by
  rcases (zp7 hN hM e r.x).1 (List.mem_map_of_mem hr) with g | g
  ·exact hN.len _ g
  ·exact hM.len _ g
 rw [e0,List.length_nil] at hl;omega
theorem zqV {W V:World}{p:List Int}{L:List (List Rat)}{bk:Nat}{a b:Option Addr}{c d:Nat}{out:List Qw}(hB:V.heap[bk]?=some (.cells #[.slice none 0 0,.slice none 0 0] 36))(hle:W.heap.size≤bk)(hs:ScV V (.agg #[.slice a p.length c,.slice b out.length d]) p out)(hf:∀ r∈out,r.x ≠ [])(hC:zn8 p L (out.map Qw.x))(hE:Ext W V) :
  zqR W p L (.pointer (some ⟨bk,0,none⟩)) ((V.setCell ⟨bk,0,none⟩ (.slice a p.length c)).setCell ⟨bk,1,none⟩ (.slice b out.length d)) :=
 ⟨bk,a,c,b,d,out,rfl,zjy.put hB _ _,zli.scV hB hs hf _ _,hC,(hE.setCell (p:=⟨bk,0,none⟩) hle _).setCell (p:=⟨bk,1,none⟩) hle _⟩
theorem zqW {W V:World}{p:List Int}{L:List (List Rat)}{a b:Option Addr}{c d:Nat}{out:List Qw}(hs:ScV V (.agg #[.slice a p.length c,.slice b out.length d]) p out)(hC:zn8 p L (out.map Qw.x))(hE:Ext W V) :
  zqR W p L (.pointer (some ⟨V.heap.size,0,none⟩)) (V.alloc (.cells #[.slice a p.length c,.slice b out.length d] 36)) :=
 ⟨V.heap.size,a,c,b,d,out,rfl,zjy.new _ _ _ _,hs.ext ((Ext.refl V).alloc _),hC,hE.alloc _⟩
theorem zqX (a b:Wl)(w:World)(he:Env w)(ha:a.Ok)(hb:b.Ok)(hrv:zgm w) :
  Calls Tryz.prog 5 #[a.v,b.v] w fun e w'=>e=.returned (.bool true)∧Ext w w':=by
 have hkn:=fun W (hE:Ext w W)=>zqM W (hrv.ext hE) (he.ext hE);have hma:=fun W (hE:Ext w W)=>zqO a W (hrv.ext hE) (he.ext hE) ha;have hmb:=fun W (hE:Ext w W)=>zqO b W (hrv.ext hE) (he.ext hE) hb;have hun:=Tryz.underlying26;have hia:=zkX a;have hib:=zkX b;obtain ⟨W0,hW0⟩:∃ W0,W0=(w.alloc (.cells a.cs 26)).alloc (.cells b.cs 26):=⟨_,rfl⟩;have hE0:Ext w W0:=by rw [hW0];exact ((Ext.refl w).alloc _).alloc _
 have hra:∀ W,Ext W0 W→W.rangeAt w.heap.size 0 a.cs.toList:=fun W h=>zkW a w W (((Ext.refl _).alloc (.cells b.cs 26)).trans (hW0 ▸ h));have hrb:∀ W,Ext W0 W→W.rangeAt (w.heap.size+1) 0 b.cs.toList:=fun W h=>by
  have:=zkW b (w.alloc (.cells a.cs 26)) W (hW0 ▸ h);rwa [World.size_alloc] at this
 have Hkn:=hid hkn;have Hma:=hid hma;have Hmb:=hid hmb;have Hun:=hid hun;have Hia:=hid hia;have Hib:=hid hib;have HE0:=hid hE0;have He:=hid he;have Hrv:=hid hrv;have Hra:=hid hra;have Hrb:=hid hrb;clear hkn hma hmb hun hia hib hE0 he ha hb hra hrb hrv;have hva:a.v=.agg a.cs:=rfl;have hvb:b.v=.agg b.cs:=rfl;have Hva:=hid hva;have Hvb:=hid hvb;rw [hva,hvb];clear hva hvb;have hca:Wl.cs a=#[.bool a.three,.int .u8 a.kind,.int .u8 a.num,.int .i8 (a.xs 0).a,.int .i8 (a.xs 0).b,.int .i8 (a.xs 0).c,.int .i8 (a.xs 1).a,.int .i8 (a.xs 1).b,.int .i8 (a.xs 1).c,.int .i8 (a.xs 2).a,.int .i8 (a.xs 2).b,.int .i8 (a.xs 2).c,.int .i8 (a.xs 3).a,.int .i8 (a.xs 3).b,.int .i8 (a.xs 3).c,.int .i8 (a.xs 4).a,.int .i8 (a.xs 4).b,.int .i8 (a.xs 4).c,.int .i8 (a.xs 5).a,.int .i8 (a.xs 5).b,.int .i8 (a.xs 5).c,.int .i8 (a.xs 6).a,.int .i8 (a.xs 6).b,.int .i8 (a.xs 6).c,.int .i8 (a.xs 7).a,.int .i8 (a.xs 7).b,.int .i8 (a.xs 7).c]:=rfl;have hcb:Wl.cs b=#[.bool b.three,.int .u8 b.kind,.int .u8 b.num,.int .i8 (b.xs 0).a,.int .i8 (b.xs 0).b,.int .i8 (b.xs 0).c,.int .i8 (b.xs 1).a,.int .i8 (b.xs 1).b,.int .i8 (b.xs 1).c,.int .i8 (b.xs 2).a,.int .i8 (b.xs 2).b,.int .i8 (b.xs 2).c,.int .i8 (b.xs 3).a,.int .i8 (b.xs 3).b,.int .i8 (b.xs 3).c,.int .i8 (b.xs 4).a,.int .i8 (b.xs 4).b,.int .i8 (b.xs 4).c,.int .i8 (b.xs 5).a,.int .i8 (b.xs 5).b,.int .i8 (b.xs 5).c,.int .i8 (b.xs 6).a,.int .i8 (b.xs 6).b,.int .i8 (b.xs 6).c,.int .i8 (b.xs 7).a,.int .i8 (b.xs 7).b,.int .i8 (b.xs 7).c]:=rfl;rw [hca,hcb];go_enter Tryz.func5,Tryz.ntmps5
 rw [← hca,← hcb];go_wp2_with fail
 rw [← hca,← hcb,← hW0];refine (Hkn.out _ HE0.out).mono ?_;rintro e w1 ⟨rfl,hx1⟩;have Hx1:=hid hx1;clear hx1;go_upto_region 3 with (fail)
 clear hca hcb;have hma1:∀ W,Ext w W→Calls Tryz.prog 16 #[.agg a.cs.toList.toArray] W fun e w'=>∃ v out,e=.returned v∧ScV w' v a.p out∧ziY a.p a.sizes (out.map Qw.x)∧Ext W w':=fun W hE=>Hma.out W hE;have hmb1:∀ W,Ext w W→Calls Tryz.prog 16 #[.agg b.cs.toList.toArray] W fun e w'=>∃ v out,e=.returned v∧ScV w' v b.p out∧ziY b.p b.sizes (out.map Qw.x)∧Ext W w':=fun W hE=>Hmb.out W hE;clear Hma Hmb;have Hma:=hid hma1;have Hmb:=hid hmb1;clear hma1 hmb1;go_cut [5,6] (fun v7 v8 wx=>zlj W0 a b v7 v8 wx)
 case first =>
  -- @@TWO@@
  refine zfT 6 (fun w'=>Ext W0 w'∧w'.rangeAt w.heap.size 0 a.cs.toList∧w'.rangeAt (w.heap.size+1) 0 b.cs.toList) (by kernel_rfl) ⟨Hx1.out.drew,Hra.out _ (Hx1.out.drew),Hrb.out _ (Hx1.out.drew)⟩ (fun hHeld=>?_)
  refine zfP (i:=0) (v:=.agg a.cs.toList.toArray) rfl (by kernel_rfl) (by kernel_rfl) (by kernel_rfl) (by kernel_rfl) (fun _ _ _ h=>h) (yieldsIf_load_mid (by rfl) 26 (.tmp 2) rfl w.heap.size 0 rfl a.cs.toList _ (fun w h=>h.2.1) Hun.out rfl Hia.out) hHeld ?_
  refine zfP (i:=2) (v:=.agg b.cs.toList.toArray) rfl (by kernel_rfl) (by kernel_rfl) (by kernel_rfl) (by kernel_rfl) (fun _ _ _ h=>h) (yieldsIf_load_mid (by rfl) 26 (.tmp 3) rfl (w.heap.size+1) 0 rfl b.cs.toList _ (fun w h=>h.2.2) Hun.out rfl Hib.out) hHeld ?_
  have HX:=hid Hx1.out.drew
  refine zlq (i:=1) (k:=4) (m:=5) (by kernel_rfl) rfl rfl rfl (fun K hK=>?_) (fun K hK=>?_) (fun K hK=>?_)
  ·skip
   go_simp
   go_at_call 16
   refine (Hma.out _ (HE0.out.trans HX.out)).mono ?_
   rintro e9 V1 ⟨va,o1,rfl,hs9,hc9,hx9⟩
   obtain ⟨a1,c1,b1,d1,rfl,hs9⟩:=zj1 hs9
   have HX:=hid (HX.out.trans hx9);have HA:=hid hs9;have HcA:=hid hc9
   clear hs9 hc9 hx9
   refine hK.out _ _ ⟨HX.out,Hra.out _ (HX.out),Hrb.out _ (HX.out)⟩ (fun hHeld=>?_)
   clear hK K
   refine zlq (i:=3) (k:=4) (m:=5) (by kernel_rfl) rfl rfl rfl (fun K hK=>?_) (fun K hK=>?_) (fun K hK=>?_)
   ·skip
    go_simp
    go_at_call 16
    refine (Hmb.out _ (HE0.out.trans HX.out)).mono ?_
    rintro e9 V2 ⟨vb,o2,rfl,hs9,hc9,hx9⟩
    obtain ⟨a2,c2,b2,d2,rfl,hs9⟩:=zj1 hs9
    have HX:=hid (HX.out.trans hx9);have HB:=hid hs9;have HcB:=hid hc9
    have HA:=hid (HA.out.ext hx9)
    clear hs9 hc9 hx9
    refine hK.out _ _ ⟨HX.out,Hra.out _ (HX.out),Hrb.out _ (HX.out)⟩ (fun hHeld=>?_)
    clear hK K
    refine zlp (i:=4) (k:=5) (by kernel_rfl) rfl rfl (fun K hK=>?_) (fun K hK=>?_)
    ·skip
     go_simp
     have H7:Hid (zli (V2.alloc (.cells #[.slice none 0 0,.slice none 0 0] 36)) (V2.heap.size)):=hid (by have h:=zjy.new 36 V2 (.slice none 0 0) (.slice none 0 0);first | exact h | (rw [World.size_alloc] at h;exact h))
     have HL7:Hid (W0.heap.size≤V2.heap.size):=hid (by have h:=HX.out.size;first | exact h | (rw [World.size_alloc] at h;exact h))
     have HA:=hid (HA.out.ext ((Ext.refl V2).alloc (.cells #[.slice none 0 0,.slice none 0 0] 36)))
     have HB:=hid (HB.out.ext ((Ext.refl V2).alloc (.cells #[.slice none 0 0,.slice none 0 0] 36)))
     have HX:=hid (HX.out.alloc (.cells #[.slice none 0 0,.slice none 0 0] 36))
     refine hK.out _ _ ⟨HX.out,Hra.out _ (HX.out),Hrb.out _ (HX.out)⟩ (fun hHeld=>?_)
     clear hK K
     refine zfQ (i:=5) (by kernel_rfl) rfl (fun K hK=>?_)
     go_simp
     have H8:Hid (zli ((V2.alloc (.cells #[.slice none 0 0,.slice none 0 0] 36)).alloc (.cells #[.slice none 0 0,.slice none 0 0] 36)) (V2.heap.size+1)):=hid (by have h:=zjy.new 36 (V2.alloc (.cells #[.slice none 0 0,.slice none 0 0] 36)) (.slice none 0 0) (.slice none 0 0);first | exact h | (rw [World.size_alloc] at h;exact h))
     have HL8:Hid (W0.heap.size≤V2.heap.size+1):=hid (by have h:=HX.out.size;first | exact h | (rw [World.size_alloc] at h;exact h))
     have hlt:V2.heap.size<V2.heap.size+1:=by have h:=zjy.lt H7.out;first | exact h | (rw [World.size_alloc] at h;exact h)
     have Hne:Hid (V2.heap.size ≠ V2.heap.size+1):=hid (by omega)
     have H7:=hid (zjy.ext ((Ext.refl (V2.alloc (.cells #[.slice none 0 0,.slice none 0 0] 36))).alloc (.cells #[.slice none 0 0,.slice none 0 0] 36)) H7.out)
     clear hlt
     have HA:=hid (HA.out.ext ((Ext.refl (V2.alloc (.cells #[.slice none 0 0,.slice none 0 0] 36))).alloc (.cells #[.slice none 0 0,.slice none 0 0] 36)))
     have HB:=hid (HB.out.ext ((Ext.refl (V2.alloc (.cells #[.slice none 0 0,.slice none 0 0] 36))).alloc (.cells #[.slice none 0 0,.slice none 0 0] 36)))
     have HX:=hid (HX.out.alloc (.cells #[.slice none 0 0,.slice none 0 0] 36))
     refine hK.out _ _ ⟨HX.out,Hra.out _ (HX.out),Hrb.out _ (HX.out)⟩ (fun hHeld=>?_)
     clear hK K
     have hU7:=H7.out;have hU8:=H8.out;have hUa:=HA.out;have hUb:=HB.out;have hUx:=HX.out;have hlo7:=HL7.out;have hlo8:=HL8.out;have hne78:=Hne.out
     clear H7 H8 HA HB HX
     generalize hU:((V2.alloc (.cells #[.slice none 0 0,.slice none 0 0] 36)).alloc (.cells #[.slice none 0 0,.slice none 0 0] 36))=U at *
     clear hU
     have hfin:=zll (W:=W0) hU7 hU8 hne78 hlo7 hlo8 hUa hUb HcA.out HcB.out hUx
     have h8b:zli ((U.setCell ⟨V2.heap.size,0,none⟩ (.slice a1 a.p.length c1)).setCell ⟨V2.heap.size,1,none⟩ (.slice b1 o1.length d1)) (V2.heap.size+1):=zjy.past hU8 (Ne.symm hne78) _ _
     have k0:=zjy.c0 hU7;have k1:=zjy.c1 hU7;have z0:=zjy.fz hU7 0;have z1:=zjy.fz hU7 1
     have Hfin:=hid hfin;have H8b:=hid h8b;have HU7:=hid hU7
     clear hfin h8b hU7 hU8 hUa hUb hUx
     refine zfR (i:=6) (by kernel_rfl) (by decide) rfl (fun K hK=>?_)
     go_simp
     refine hK.out _ _ ?_
     clear hK K k0 k1 z0 z1 hHeld
     generalize hU2:(U.setCell ⟨V2.heap.size,0,none⟩ (.slice a1 a.p.length c1)).setCell ⟨V2.heap.size,1,none⟩ (.slice b1 o1.length d1)=U2 at *
     have k0:=zjy.c0 H8b.out;have k1:=zjy.c1 H8b.out;have z0:=zjy.fz H8b.out 0;have z1:=zjy.fz H8b.out 1
     refine zfR (i:=7) (by kernel_rfl) (by decide) rfl (fun K hK=>?_)
     go_simp
     refine hK.out _ _ ?_
     clear hK K k0 k1 z0 z1
     refine zfS (by kernel_rfl) ?_
     go_wp2_with fail
     go_meet
     exact Hfin.out
    ·skip
     go_simp
     have H8:Hid (zli (V2.alloc (.cells #[.slice none 0 0,.slice none 0 0] 36)) (V2.heap.size)):=hid (by have h:=zjy.new 36 V2 (.slice none 0 0) (.slice none 0 0);first | exact h | (rw [World.size_alloc] at h;exact h))
     have HL8:Hid (W0.heap.size≤V2.heap.size):=hid (by have h:=HX.out.size;first | exact h | (rw [World.size_alloc] at h;exact h))
     have HA:=hid (HA.out.ext ((Ext.refl V2).alloc (.cells #[.slice none 0 0,.slice none 0 0] 36)))
     have HB:=hid (HB.out.ext ((Ext.refl V2).alloc (.cells #[.slice none 0 0,.slice none 0 0] 36)))
     have HX:=hid (HX.out.alloc (.cells #[.slice none 0 0,.slice none 0 0] 36))
     refine hK.out _ _ ⟨HX.out,Hra.out _ (HX.out),Hrb.out _ (HX.out)⟩ (fun hHeld=>?_)
     clear hK K
     refine zfQ (i:=4) (by kernel_rfl) rfl (fun K hK=>?_)
     go_simp
     have H7:Hid (zli ((V2.alloc (.cells #[.slice none 0 0,.slice none 0 0] 36)).alloc (.cells #[.slice none 0 0,.slice none 0 0] 36)) (V2.heap.size+1)):=hid (by have h:=zjy.new 36 (V2.alloc (.cells #[.slice none 0 0,.slice none 0 0] 36)) (.slice none 0 0) (.slice none 0 0);first | exact h | (rw [World.size_alloc] at h;exact h))
     have HL7:Hid (W0.heap.size≤V2.heap.size+1):=hid (by have h:=HX.out.size;first | exact h | (rw [World.size_alloc] at h;exact h))
     have hlt:V2.heap.size<V2.heap.size+1:=by have h:=zjy.lt H8.out;first | exact h | (rw [World.size_alloc] at h;exact h)
     have Hne:Hid (V2.heap.size+1 ≠ V2.heap.size):=hid (by omega)
     have H8:=hid (zjy.ext ((Ext.refl (V2.alloc (.cells #[.slice none 0 0,.slice none 0 0] 36))).alloc (.cells #[.slice none 0 0,.slice none 0 0] 36)) H8.out)
     clear hlt
     have HA:=hid (HA.out.ext ((Ext.refl (V2.alloc (.cells #[.slice none 0 0,.slice none 0 0] 36))).alloc (.cells #[.slice none 0 0,.slice none 0 0] 36)))
     have HB:=hid (HB.out.ext ((Ext.refl (V2.alloc (.cells #[.slice none 0 0,.slice none 0 0] 36))).alloc (.cells #[.slice none 0 0,.slice none 0 0] 36)))
     have HX:=hid (HX.out.alloc (.cells #[.slice none 0 0,.slice none 0 0] 36))
     refine hK.out _ _ ⟨HX.out,Hra.out _ (HX.out),Hrb.out _ (HX.out)⟩ (fun hHeld=>?_)
     clear hK K
     have hU7:=H7.out;have hU8:=H8.out;have hUa:=HA.out;have hUb:=HB.out;have hUx:=HX.out;have hlo7:=HL7.out;have hlo8:=HL8.out;have hne78:=Hne.out
     clear H7 H8 HA HB HX
     generalize hU:((V2.alloc (.cells #[.slice none 0 0,.slice none 0 0] 36)).alloc (.cells #[.slice none 0 0,.slice none 0 0] 36))=U at *
     clear hU
     have hfin:=zll (W:=W0) hU7 hU8 hne78 hlo7 hlo8 hUa hUb HcA.out HcB.out hUx
     have h8b:zli ((U.setCell ⟨V2.heap.size+1,0,none⟩ (.slice a1 a.p.length c1)).setCell ⟨V2.heap.size+1,1,none⟩ (.slice b1 o1.length d1)) (V2.heap.size):=zjy.past hU8 (Ne.symm hne78) _ _
     have k0:=zjy.c0 hU7;have k1:=zjy.c1 hU7;have z0:=zjy.fz hU7 0;have z1:=zjy.fz hU7 1
     have Hfin:=hid hfin;have H8b:=hid h8b;have HU7:=hid hU7
     clear hfin h8b hU7 hU8 hUa hUb hUx
     refine zfR (i:=6) (by kernel_rfl) (by decide) rfl (fun K hK=>?_)
     go_simp
     refine hK.out _ _ ?_
     clear hK K k0 k1 z0 z1 hHeld
     generalize hU2:(U.setCell ⟨V2.heap.size+1,0,none⟩ (.slice a1 a.p.length c1)).setCell ⟨V2.heap.size+1,1,none⟩ (.slice b1 o1.length d1)=U2 at *
     have k0:=zjy.c0 H8b.out;have k1:=zjy.c1 H8b.out;have z0:=zjy.fz H8b.out 0;have z1:=zjy.fz H8b.out 1
     refine zfR (i:=7) (by kernel_rfl) (by decide) rfl (fun K hK=>?_)
     go_simp
     refine hK.out _ _ ?_
     clear hK K k0 k1 z0 z1
     refine zfS (by kernel_rfl) ?_
     go_wp2_with fail
     go_meet
     exact Hfin.out
   ·skip
    go_simp
    have H7:Hid (zli (V1.alloc (.cells #[.slice none 0 0,.slice none 0 0] 36)) (V1.heap.size)):=hid (by have h:=zjy.new 36 V1 (.slice none 0 0) (.slice none 0 0);first | exact h | (rw [World.size_alloc] at h;exact h))
    have HL7:Hid (W0.heap.size≤V1.heap.size):=hid (by have h:=HX.out.size;first | exact h | (rw [World.size_alloc] at h;exact h))
    have HA:=hid (HA.out.ext ((Ext.refl V1).alloc (.cells #[.slice none 0 0,.slice none 0 0] 36)))
    have HX:=hid (HX.out.alloc (.cells #[.slice none 0 0,.slice none 0 0] 36))
    refine hK.out _ _ ⟨HX.out,Hra.out _ (HX.out),Hrb.out _ (HX.out)⟩ (fun hHeld=>?_)
    clear hK K
    refine zlp (i:=3) (k:=5) (by kernel_rfl) rfl rfl (fun K hK=>?_) (fun K hK=>?_)
    ·skip
     go_simp
     go_at_call 16
     refine (Hmb.out _ (HE0.out.trans HX.out)).mono ?_
     rintro e9 V3 ⟨vb,o2,rfl,hs9,hc9,hx9⟩
     obtain ⟨a2,c2,b2,d2,rfl,hs9⟩:=zj1 hs9
     have HX:=hid (HX.out.trans hx9);have HB:=hid hs9;have HcB:=hid hc9
     have HA:=hid (HA.out.ext hx9)
     have H7:=hid (zjy.ext hx9 H7.out)
     clear hs9 hc9 hx9
     refine hK.out _ _ ⟨HX.out,Hra.out _ (HX.out),Hrb.out _ (HX.out)⟩ (fun hHeld=>?_)
     clear hK K
     refine zfQ (i:=5) (by kernel_rfl) rfl (fun K hK=>?_)
     go_simp
     have H8:Hid (zli (V3.alloc (.cells #[.slice none 0 0,.slice none 0 0] 36)) (V3.heap.size)):=hid (by have h:=zjy.new 36 V3 (.slice none 0 0) (.slice none 0 0);first | exact h | (rw [World.size_alloc] at h;exact h))
     have HL8:Hid (W0.heap.size≤V3.heap.size):=hid (by have h:=HX.out.size;first | exact h | (rw [World.size_alloc] at h;exact h))
     have hlt:V1.heap.size<V3.heap.size:=by have h:=zjy.lt H7.out;first | exact h | (rw [World.size_alloc] at h;exact h)
     have Hne:Hid (V1.heap.size ≠ V3.heap.size):=hid (by omega)
     have H7:=hid (zjy.ext ((Ext.refl V3).alloc (.cells #[.slice none 0 0,.slice none 0 0] 36)) H7.out)
     clear hlt
     have HA:=hid (HA.out.ext ((Ext.refl V3).alloc (.cells #[.slice none 0 0,.slice none 0 0] 36)))
     have HB:=hid (HB.out.ext ((Ext.refl V3).alloc (.cells #[.slice none 0 0,.slice none 0 0] 36)))
     have HX:=hid (HX.out.alloc (.cells #[.slice none 0 0,.slice none 0 0] 36))
     refine hK.out _ _ ⟨HX.out,Hra.out _ (HX.out),Hrb.out _ (HX.out)⟩ (fun hHeld=>?_)
     clear hK K
     have hU7:=H7.out;have hU8:=H8.out;have hUa:=HA.out;have hUb:=HB.out;have hUx:=HX.out;have hlo7:=HL7.out;have hlo8:=HL8.out;have hne78:=Hne.out
     clear H7 H8 HA HB HX
     generalize hU:(V3.alloc (.cells #[.slice none 0 0,.slice none 0 0] 36))=U at *
     clear hU
     have hfin:=zll (W:=W0) hU7 hU8 hne78 hlo7 hlo8 hUa hUb HcA.out HcB.out hUx
     have h8b:zli ((U.setCell ⟨V1.heap.size,0,none⟩ (.slice a1 a.p.length c1)).setCell ⟨V1.heap.size,1,none⟩ (.slice b1 o1.length d1)) (V3.heap.size):=zjy.past hU8 (Ne.symm hne78) _ _
     have k0:=zjy.c0 hU7;have k1:=zjy.c1 hU7;have z0:=zjy.fz hU7 0;have z1:=zjy.fz hU7 1
     have Hfin:=hid hfin;have H8b:=hid h8b;have HU7:=hid hU7
     clear hfin h8b hU7 hU8 hUa hUb hUx
     refine zfR (i:=6) (by kernel_rfl) (by decide) rfl (fun K hK=>?_)
     go_simp
     refine hK.out _ _ ?_
     clear hK K k0 k1 z0 z1 hHeld
     generalize hU2:(U.setCell ⟨V1.heap.size,0,none⟩ (.slice a1 a.p.length c1)).setCell ⟨V1.heap.size,1,none⟩ (.slice b1 o1.length d1)=U2 at *
     have k0:=zjy.c0 H8b.out;have k1:=zjy.c1 H8b.out;have z0:=zjy.fz H8b.out 0;have z1:=zjy.fz H8b.out 1
     refine zfR (i:=7) (by kernel_rfl) (by decide) rfl (fun K hK=>?_)
     go_simp
     refine hK.out _ _ ?_
     clear hK K k0 k1 z0 z1
     refine zfS (by kernel_rfl) ?_
     go_wp2_with fail
     go_meet
     exact Hfin.out
    ·skip
     go_simp
     have H8:Hid (zli ((V1.alloc (.cells #[.slice none 0 0,.slice none 0 0] 36)).alloc (.cells #[.slice none 0 0,.slice none 0 0] 36)) (V1.heap.size+1)):=hid (by have h:=zjy.new 36 (V1.alloc (.cells #[.slice none 0 0,.slice none 0 0] 36)) (.slice none 0 0) (.slice none 0 0);first | exact h | (rw [World.size_alloc] at h;exact h))
     have HL8:Hid (W0.heap.size≤V1.heap.size+1):=hid (by have h:=HX.out.size;first | exact h | (rw [World.size_alloc] at h;exact h))
     have hlt:V1.heap.size<V1.heap.size+1:=by have h:=zjy.lt H7.out;first | exact h | (rw [World.size_alloc] at h;exact h)
     have Hne:Hid (V1.heap.size ≠ V1.heap.size+1):=hid (by omega)
     have H7:=hid (zjy.ext ((Ext.refl (V1.alloc (.cells #[.slice none 0 0,.slice none 0 0] 36))).alloc (.cells #[.slice none 0 0,.slice none 0 0] 36)) H7.out)
     clear hlt
     have HA:=hid (HA.out.ext ((Ext.refl (V1.alloc (.cells #[.slice none 0 0,.slice none 0 0] 36))).alloc (.cells #[.slice none 0 0,.slice none 0 0] 36)))
     have HX:=hid (HX.out.alloc (.cells #[.slice none 0 0,.slice none 0 0] 36))
     refine hK.out _ _ ⟨HX.out,Hra.out _ (HX.out),Hrb.out _ (HX.out)⟩ (fun hHeld=>?_)
     clear hK K
     refine zfQ (i:=3) (by kernel_rfl) rfl (fun K hK=>?_)
     go_simp
     go_at_call 16
     refine (Hmb.out _ (HE0.out.trans HX.out)).mono ?_
     rintro e9 V4 ⟨vb,o2,rfl,hs9,hc9,hx9⟩
     obtain ⟨a2,c2,b2,d2,rfl,hs9⟩:=zj1 hs9
     have HX:=hid (HX.out.trans hx9);have HB:=hid hs9;have HcB:=hid hc9
     have HA:=hid (HA.out.ext hx9)
     have H7:=hid (zjy.ext hx9 H7.out)
     have H8:=hid (zjy.ext hx9 H8.out)
     clear hs9 hc9 hx9
     refine hK.out _ _ ⟨HX.out,Hra.out _ (HX.out),Hrb.out _ (HX.out)⟩ (fun hHeld=>?_)
     clear hK K
     have hU7:=H7.out;have hU8:=H8.out;have hUa:=HA.out;have hUb:=HB.out;have hUx:=HX.out;have hlo7:=HL7.out;have hlo8:=HL8.out;have hne78:=Hne.out
     clear H7 H8 HA HB HX
     generalize hU:V4=U at *
     clear hU
     have hfin:=zll (W:=W0) hU7 hU8 hne78 hlo7 hlo8 hUa hUb HcA.out HcB.out hUx
     have h8b:zli ((U.setCell ⟨V1.heap.size,0,none⟩ (.slice a1 a.p.length c1)).setCell ⟨V1.heap.size,1,none⟩ (.slice b1 o1.length d1)) (V1.heap.size+1):=zjy.past hU8 (Ne.symm hne78) _ _
     have k0:=zjy.c0 hU7;have k1:=zjy.c1 hU7;have z0:=zjy.fz hU7 0;have z1:=zjy.fz hU7 1
     have Hfin:=hid hfin;have H8b:=hid h8b;have HU7:=hid hU7
     clear hfin h8b hU7 hU8 hUa hUb hUx
     refine zfR (i:=6) (by kernel_rfl) (by decide) rfl (fun K hK=>?_)
     go_simp
     refine hK.out _ _ ?_
     clear hK K k0 k1 z0 z1 hHeld
     generalize hU2:(U.setCell ⟨V1.heap.size,0,none⟩ (.slice a1 a.p.length c1)).setCell ⟨V1.heap.size,1,none⟩ (.slice b1 o1.length d1)=U2 at *
     have k0:=zjy.c0 H8b.out;have k1:=zjy.c1 H8b.out;have z0:=zjy.fz H8b.out 0;have z1:=zjy.fz H8b.out 1
     refine zfR (i:=7) (by kernel_rfl) (by decide) rfl (fun K hK=>?_)
     go_simp
     refine hK.out _ _ ?_
     clear hK K k0 k1 z0 z1
     refine zfS (by kernel_rfl) ?_
     go_wp2_with fail
     go_meet
     exact Hfin.out
   ·skip
    go_simp
    have H8:Hid (zli (V1.alloc (.cells #[.slice none 0 0,.slice none 0 0] 36)) (V1.heap.size)):=hid (by have h:=zjy.new 36 V1 (.slice none 0 0) (.slice none 0 0);first | exact h | (rw [World.size_alloc] at h;exact h))
    have HL8:Hid (W0.heap.size≤V1.heap.size):=hid (by have h:=HX.out.size;first | exact h | (rw [World.size_alloc] at h;exact h))
    have HA:=hid (HA.out.ext ((Ext.refl V1).alloc (.cells #[.slice none 0 0,.slice none 0 0] 36)))
    have HX:=hid (HX.out.alloc (.cells #[.slice none 0 0,.slice none 0 0] 36))
    refine hK.out _ _ ⟨HX.out,Hra.out _ (HX.out),Hrb.out _ (HX.out)⟩ (fun hHeld=>?_)
    clear hK K
    refine zlp (i:=3) (k:=4) (by kernel_rfl) rfl rfl (fun K hK=>?_) (fun K hK=>?_)
    ·skip
     go_simp
     go_at_call 16
     refine (Hmb.out _ (HE0.out.trans HX.out)).mono ?_
     rintro e9 V5 ⟨vb,o2,rfl,hs9,hc9,hx9⟩
     obtain ⟨a2,c2,b2,d2,rfl,hs9⟩:=zj1 hs9
     have HX:=hid (HX.out.trans hx9);have HB:=hid hs9;have HcB:=hid hc9
     have HA:=hid (HA.out.ext hx9)
     have H8:=hid (zjy.ext hx9 H8.out)
     clear hs9 hc9 hx9
     refine hK.out _ _ ⟨HX.out,Hra.out _ (HX.out),Hrb.out _ (HX.out)⟩ (fun hHeld=>?_)
     clear hK K
     refine zfQ (i:=4) (by kernel_rfl) rfl (fun K hK=>?_)
     go_simp
     have H7:Hid (zli (V5.alloc (.cells #[.slice none 0 0,.slice none 0 0] 36)) (V5.heap.size)):=hid (by have h:=zjy.new 36 V5 (.slice none 0 0) (.slice none 0 0);first | exact h | (rw [World.size_alloc] at h;exact h))
     have HL7:Hid (W0.heap.size≤V5.heap.size):=hid (by have h:=HX.out.size;first | exact h | (rw [World.size_alloc] at h;exact h))
     have hlt:V1.heap.size<V5.heap.size:=by have h:=zjy.lt H8.out;first | exact h | (rw [World.size_alloc] at h;exact h)
     have Hne:Hid (V5.heap.size ≠ V1.heap.size):=hid (by omega)
     have H8:=hid (zjy.ext ((Ext.refl V5).alloc (.cells #[.slice none 0 0,.slice none 0 0] 36)) H8.out)
     clear hlt
     have HA:=hid (HA.out.ext ((Ext.refl V5).alloc (.cells #[.slice none 0 0,.slice none 0 0] 36)))
     have HB:=hid (HB.out.ext ((Ext.refl V5).alloc (.cells #[.slice none 0 0,.slice none 0 0] 36)))
     have HX:=hid (HX.out.alloc (.cells #[.slice none 0 0,.slice none 0 0] 36))
     refine hK.out _ _ ⟨HX.out,Hra.out _ (HX.out),Hrb.out _ (HX.out)⟩ (fun hHeld=>?_)
     clear hK K
     have hU7:=H7.out;have hU8:=H8.out;have hUa:=HA.out;have hUb:=HB.out;have hUx:=HX.out;have hlo7:=HL7.out;have hlo8:=HL8.out;have hne78:=Hne.out
     clear H7 H8 HA HB HX
     generalize hU:(V5.alloc (.cells #[.slice none 0 0,.slice none 0 0] 36))=U at *
     clear hU
     have hfin:=zll (W:=W0) hU7 hU8 hne78 hlo7 hlo8 hUa hUb HcA.out HcB.out hUx
     have h8b:zli ((U.setCell ⟨V5.heap.size,0,none⟩ (.slice a1 a.p.length c1)).setCell ⟨V5.heap.size,1,none⟩ (.slice b1 o1.length d1)) (V1.heap.size):=zjy.past hU8 (Ne.symm hne78) _ _
     have k0:=zjy.c0 hU7;have k1:=zjy.c1 hU7;have z0:=zjy.fz hU7 0;have z1:=zjy.fz hU7 1
     have Hfin:=hid hfin;have H8b:=hid h8b;have HU7:=hid hU7
     clear hfin h8b hU7 hU8 hUa hUb hUx
     refine zfR (i:=6) (by kernel_rfl) (by decide) rfl (fun K hK=>?_)
     go_simp
     refine hK.out _ _ ?_
     clear hK K k0 k1 z0 z1 hHeld
     generalize hU2:(U.setCell ⟨V5.heap.size,0,none⟩ (.slice a1 a.p.length c1)).setCell ⟨V5.heap.size,1,none⟩ (.slice b1 o1.length d1)=U2 at *
     have k0:=zjy.c0 H8b.out;have k1:=zjy.c1 H8b.out;have z0:=zjy.fz H8b.out 0;have z1:=zjy.fz H8b.out 1
     refine zfR (i:=7) (by kernel_rfl) (by decide) rfl (fun K hK=>?_)
     go_simp
     refine hK.out _ _ ?_
     clear hK K k0 k1 z0 z1
     refine zfS (by kernel_rfl) ?_
     go_wp2_with fail
     go_meet
     exact Hfin.out
    ·skip
     go_simp
     have H7:Hid (zli ((V1.alloc (.cells #[.slice none 0 0,.slice none 0 0] 36)).alloc (.cells #[.slice none 0 0,.slice none 0 0] 36)) (V1.heap.size+1)):=hid (by have h:=zjy.new 36 (V1.alloc (.cells #[.slice none 0 0,.slice none 0 0] 36)) (.slice none 0 0) (.slice none 0 0);first | exact h | (rw [World.size_alloc] at h;exact h))
     have HL7:Hid (W0.heap.size≤V1.heap.size+1):=hid (by have h:=HX.out.size;first | exact h | (rw [World.size_alloc] at h;exact h))
     have hlt:V1.heap.size<V1.heap.size+1:=by have h:=zjy.lt H8.out;first | exact h | (rw [World.size_alloc] at h;exact h)
     have Hne:Hid (V1.heap.size+1 ≠ V1.heap.size):=hid (by omega)
     have H8:=hid (zjy.ext ((Ext.refl (V1.alloc (.cells #[.slice none 0 0,.slice none 0 0] 36))).alloc (.cells #[.slice none 0 0,.slice none 0 0] 36)) H8.out)
     clear hlt
     have HA:=hid (HA.out.ext ((Ext.refl (V1.alloc (.cells #[.slice none 0 0,.slice none 0 0] 36))).alloc (.cells #[.slice none 0 0,.slice none 0 0] 36)))
     have HX:=hid (HX.out.alloc (.cells #[.slice none 0 0,.slice none 0 0] 36))
     refine hK.out _ _ ⟨HX.out,Hra.out _ (HX.out),Hrb.out _ (HX.out)⟩ (fun hHeld=>?_)
     clear hK K
     refine zfQ (i:=3) (by kernel_rfl) rfl (fun K hK=>?_)
     go_simp
     go_at_call 16
     refine (Hmb.out _ (HE0.out.trans HX.out)).mono ?_
     rintro e9 V6 ⟨vb,o2,rfl,hs9,hc9,hx9⟩
     obtain ⟨a2,c2,b2,d2,rfl,hs9⟩:=zj1 hs9
     have HX:=hid (HX.out.trans hx9);have HB:=hid hs9;have HcB:=hid hc9
     have HA:=hid (HA.out.ext hx9)
     have H7:=hid (zjy.ext hx9 H7.out)
     have H8:=hid (zjy.ext hx9 H8.out)
     clear hs9 hc9 hx9
     refine hK.out _ _ ⟨HX.out,Hra.out _ (HX.out),Hrb.out _ (HX.out)⟩ (fun hHeld=>?_)
     clear hK K
     have hU7:=H7.out;have hU8:=H8.out;have hUa:=HA.out;have hUb:=HB.out;have hUx:=HX.out;have hlo7:=HL7.out;have hlo8:=HL8.out;have hne78:=Hne.out
     clear H7 H8 HA HB HX
     generalize hU:V6=U at *
     clear hU
     have hfin:=zll (W:=W0) hU7 hU8 hne78 hlo7 hlo8 hUa hUb HcA.out HcB.out hUx
     have h8b:zli ((U.setCell ⟨V1.heap.size+1,0,none⟩ (.slice a1 a.p.length c1)).setCell ⟨V1.heap.size+1,1,none⟩ (.slice b1 o1.length d1)) (V1.heap.size):=zjy.past hU8 (Ne.symm hne78) _ _
     have k0:=zjy.c0 hU7;have k1:=zjy.c1 hU7;have z0:=zjy.fz hU7 0;have z1:=zjy.fz hU7 1
     have Hfin:=hid hfin;have H8b:=hid h8b;have HU7:=hid hU7
     clear hfin h8b hU7 hU8 hUa hUb hUx
     refine zfR (i:=6) (by kernel_rfl) (by decide) rfl (fun K hK=>?_)
     go_simp
     refine hK.out _ _ ?_
     clear hK K k0 k1 z0 z1 hHeld
     generalize hU2:(U.setCell ⟨V1.heap.size+1,0,none⟩ (.slice a1 a.p.length c1)).setCell ⟨V1.heap.size+1,1,none⟩ (.slice b1 o1.length d1)=U2 at *
     have k0:=zjy.c0 H8b.out;have k1:=zjy.c1 H8b.out;have z0:=zjy.fz H8b.out 0;have z1:=zjy.fz H8b.out 1
     refine zfR (i:=7) (by kernel_rfl) (by decide) rfl (fun K hK=>?_)
     go_simp
     refine hK.out _ _ ?_
     clear hK K k0 k1 z0 z1
     refine zfS (by kernel_rfl) ?_
     go_wp2_with fail
     go_meet
     exact Hfin.out
  ·skip
   go_simp
   have H7:Hid (zli (w1.drew.alloc (.cells #[.slice none 0 0,.slice none 0 0] 36)) (w1.heap.size)):=hid (by have h:=zjy.new 36 w1.drew (.slice none 0 0) (.slice none 0 0);first | exact h | (rw [World.size_alloc] at h;exact h))
   have HL7:Hid (W0.heap.size≤w1.heap.size):=hid (by have h:=HX.out.size;first | exact h | (rw [World.size_alloc] at h;exact h))
   have HX:=hid (HX.out.alloc (.cells #[.slice none 0 0,.slice none 0 0] 36))
   refine hK.out _ _ ⟨HX.out,Hra.out _ (HX.out),Hrb.out _ (HX.out)⟩ (fun hHeld=>?_)
   clear hK K
   refine zlp (i:=1) (k:=5) (by kernel_rfl) rfl rfl (fun K hK=>?_) (fun K hK=>?_)
   ·skip
    go_simp
    go_at_call 16
    refine (Hma.out _ (HE0.out.trans HX.out)).mono ?_
    rintro e9 V7 ⟨va,o1,rfl,hs9,hc9,hx9⟩
    obtain ⟨a1,c1,b1,d1,rfl,hs9⟩:=zj1 hs9
    have HX:=hid (HX.out.trans hx9);have HA:=hid hs9;have HcA:=hid hc9
    have H7:=hid (zjy.ext hx9 H7.out)
    clear hs9 hc9 hx9
    refine hK.out _ _ ⟨HX.out,Hra.out _ (HX.out),Hrb.out _ (HX.out)⟩ (fun hHeld=>?_)
    clear hK K
    refine zlp (i:=3) (k:=5) (by kernel_rfl) rfl rfl (fun K hK=>?_) (fun K hK=>?_)
    ·skip
     go_simp
     go_at_call 16
     refine (Hmb.out _ (HE0.out.trans HX.out)).mono ?_
     rintro e9 V8 ⟨vb,o2,rfl,hs9,hc9,hx9⟩
     obtain ⟨a2,c2,b2,d2,rfl,hs9⟩:=zj1 hs9
     have HX:=hid (HX.out.trans hx9);have HB:=hid hs9;have HcB:=hid hc9
     have HA:=hid (HA.out.ext hx9)
     have H7:=hid (zjy.ext hx9 H7.out)
     clear hs9 hc9 hx9
     refine hK.out _ _ ⟨HX.out,Hra.out _ (HX.out),Hrb.out _ (HX.out)⟩ (fun hHeld=>?_)
     clear hK K
     refine zfQ (i:=5) (by kernel_rfl) rfl (fun K hK=>?_)
     go_simp
     have H8:Hid (zli (V8.alloc (.cells #[.slice none 0 0,.slice none 0 0] 36)) (V8.heap.size)):=hid (by have h:=zjy.new 36 V8 (.slice none 0 0) (.slice none 0 0);first | exact h | (rw [World.size_alloc] at h;exact h))
     have HL8:Hid (W0.heap.size≤V8.heap.size):=hid (by have h:=HX.out.size;first | exact h | (rw [World.size_alloc] at h;exact h))
     have hlt:w1.heap.size<V8.heap.size:=by have h:=zjy.lt H7.out;first | exact h | (rw [World.size_alloc] at h;exact h)
     have Hne:Hid (w1.heap.size ≠ V8.heap.size):=hid (by omega)
     have H7:=hid (zjy.ext ((Ext.refl V8).alloc (.cells #[.slice none 0 0,.slice none 0 0] 36)) H7.out)
     clear hlt
     have HA:=hid (HA.out.ext ((Ext.refl V8).alloc (.cells #[.slice none 0 0,.slice none 0 0] 36)))
     have HB:=hid (HB.out.ext ((Ext.refl V8).alloc (.cells #[.slice none 0 0,.slice none 0 0] 36)))
     have HX:=hid (HX.out.alloc (.cells #[.slice none 0 0,.slice none 0 0] 36))
     refine hK.out _ _ ⟨HX.out,Hra.out _ (HX.out),Hrb.out _ (HX.out)⟩ (fun hHeld=>?_)
     clear hK K
     have hU7:=H7.out;have hU8:=H8.out;have hUa:=HA.out;have hUb:=HB.out;have hUx:=HX.out;have hlo7:=HL7.out;have hlo8:=HL8.out;have hne78:=Hne.out
     clear H7 H8 HA HB HX
     generalize hU:(V8.alloc (.cells #[.slice none 0 0,.slice none 0 0] 36))=U at *
     clear hU
     have hfin:=zll (W:=W0) hU7 hU8 hne78 hlo7 hlo8 hUa hUb HcA.out HcB.out hUx
     have h8b:zli ((U.setCell ⟨w1.heap.size,0,none⟩ (.slice a1 a.p.length c1)).setCell ⟨w1.heap.size,1,none⟩ (.slice b1 o1.length d1)) (V8.heap.size):=zjy.past hU8 (Ne.symm hne78) _ _
     have k0:=zjy.c0 hU7;have k1:=zjy.c1 hU7;have z0:=zjy.fz hU7 0;have z1:=zjy.fz hU7 1
     have Hfin:=hid hfin;have H8b:=hid h8b;have HU7:=hid hU7
     clear hfin h8b hU7 hU8 hUa hUb hUx
     refine zfR (i:=6) (by kernel_rfl) (by decide) rfl (fun K hK=>?_)
     go_simp
     refine hK.out _ _ ?_
     clear hK K k0 k1 z0 z1 hHeld
     generalize hU2:(U.setCell ⟨w1.heap.size,0,none⟩ (.slice a1 a.p.length c1)).setCell ⟨w1.heap.size,1,none⟩ (.slice b1 o1.length d1)=U2 at *
     have k0:=zjy.c0 H8b.out;have k1:=zjy.c1 H8b.out;have z0:=zjy.fz H8b.out 0;have z1:=zjy.fz H8b.out 1
     refine zfR (i:=7) (by kernel_rfl) (by decide) rfl (fun K hK=>?_)
     go_simp
     refine hK.out _ _ ?_
     clear hK K k0 k1 z0 z1
     refine zfS (by kernel_rfl) ?_
     go_wp2_with fail
     go_meet
     exact Hfin.out
    ·skip
     go_simp
     have H8:Hid (zli (V7.alloc (.cells #[.slice none 0 0,.slice none 0 0] 36)) (V7.heap.size)):=hid (by have h:=zjy.new 36 V7 (.slice none 0 0) (.slice none 0 0);first | exact h | (rw [World.size_alloc] at h;exact h))
     have HL8:Hid (W0.heap.size≤V7.heap.size):=hid (by have h:=HX.out.size;first | exact h | (rw [World.size_alloc] at h;exact h))
     have hlt:w1.heap.size<V7.heap.size:=by have h:=zjy.lt H7.out;first | exact h | (rw [World.size_alloc] at h;exact h)
     have Hne:Hid (w1.heap.size ≠ V7.heap.size):=hid (by omega)
     have H7:=hid (zjy.ext ((Ext.refl V7).alloc (.cells #[.slice none 0 0,.slice none 0 0] 36)) H7.out)
     clear hlt
     have HA:=hid (HA.out.ext ((Ext.refl V7).alloc (.cells #[.slice none 0 0,.slice none 0 0] 36)))
     have HX:=hid (HX.out.alloc (.cells #[.slice none 0 0,.slice none 0 0] 36))
     refine hK.out _ _ ⟨HX.out,Hra.out _ (HX.out),Hrb.out _ (HX.out)⟩ (fun hHeld=>?_)
     clear hK K
     refine zfQ (i:=3) (by kernel_rfl) rfl (fun K hK=>?_)
     go_simp
     go_at_call 16
     refine (Hmb.out _ (HE0.out.trans HX.out)).mono ?_
     rintro e9 V9 ⟨vb,o2,rfl,hs9,hc9,hx9⟩
     obtain ⟨a2,c2,b2,d2,rfl,hs9⟩:=zj1 hs9
     have HX:=hid (HX.out.trans hx9);have HB:=hid hs9;have HcB:=hid hc9
     have HA:=hid (HA.out.ext hx9)
     have H7:=hid (zjy.ext hx9 H7.out)
     have H8:=hid (zjy.ext hx9 H8.out)
     clear hs9 hc9 hx9
     refine hK.out _ _ ⟨HX.out,Hra.out _ (HX.out),Hrb.out _ (HX.out)⟩ (fun hHeld=>?_)
     clear hK K
     have hU7:=H7.out;have hU8:=H8.out;have hUa:=HA.out;have hUb:=HB.out;have hUx:=HX.out;have hlo7:=HL7.out;have hlo8:=HL8.out;have hne78:=Hne.out
     clear H7 H8 HA HB HX
     generalize hU:V9=U at *
     clear hU
     have hfin:=zll (W:=W0) hU7 hU8 hne78 hlo7 hlo8 hUa hUb HcA.out HcB.out hUx
     have h8b:zli ((U.setCell ⟨w1.heap.size,0,none⟩ (.slice a1 a.p.length c1)).setCell ⟨w1.heap.size,1,none⟩ (.slice b1 o1.length d1)) (V7.heap.size):=zjy.past hU8 (Ne.symm hne78) _ _
     have k0:=zjy.c0 hU7;have k1:=zjy.c1 hU7;have z0:=zjy.fz hU7 0;have z1:=zjy.fz hU7 1
     have Hfin:=hid hfin;have H8b:=hid h8b;have HU7:=hid hU7
     clear hfin h8b hU7 hU8 hUa hUb hUx
     refine zfR (i:=6) (by kernel_rfl) (by decide) rfl (fun K hK=>?_)
     go_simp
     refine hK.out _ _ ?_
     clear hK K k0 k1 z0 z1 hHeld
     generalize hU2:(U.setCell ⟨w1.heap.size,0,none⟩ (.slice a1 a.p.length c1)).setCell ⟨w1.heap.size,1,none⟩ (.slice b1 o1.length d1)=U2 at *
     have k0:=zjy.c0 H8b.out;have k1:=zjy.c1 H8b.out;have z0:=zjy.fz H8b.out 0;have z1:=zjy.fz H8b.out 1
     refine zfR (i:=7) (by kernel_rfl) (by decide) rfl (fun K hK=>?_)
     go_simp
     refine hK.out _ _ ?_
     clear hK K k0 k1 z0 z1
     refine zfS (by kernel_rfl) ?_
     go_wp2_with fail
     go_meet
     exact Hfin.out
   ·skip
    go_simp
    have H8:Hid (zli ((w1.drew.alloc (.cells #[.slice none 0 0,.slice none 0 0] 36)).alloc (.cells #[.slice none 0 0,.slice none 0 0] 36)) (w1.heap.size+1)):=hid (by have h:=zjy.new 36 (w1.drew.alloc (.cells #[.slice none 0 0,.slice none 0 0] 36)) (.slice none 0 0) (.slice none 0 0);first | exact h | (rw [World.size_alloc] at h;exact h))
    have HL8:Hid (W0.heap.size≤w1.heap.size+1):=hid (by have h:=HX.out.size;first | exact h | (rw [World.size_alloc] at h;exact h))
    have hlt:w1.heap.size<w1.heap.size+1:=by have h:=zjy.lt H7.out;first | exact h | (rw [World.size_alloc] at h;exact h)
    have Hne:Hid (w1.heap.size ≠ w1.heap.size+1):=hid (by omega)
    have H7:=hid (zjy.ext ((Ext.refl (w1.drew.alloc (.cells #[.slice none 0 0,.slice none 0 0] 36))).alloc (.cells #[.slice none 0 0,.slice none 0 0] 36)) H7.out)
    clear hlt
    have HX:=hid (HX.out.alloc (.cells #[.slice none 0 0,.slice none 0 0] 36))
    refine hK.out _ _ ⟨HX.out,Hra.out _ (HX.out),Hrb.out _ (HX.out)⟩ (fun hHeld=>?_)
    clear hK K
    refine zfQ (i:=1) (by kernel_rfl) rfl (fun K hK=>?_)
    go_simp
    go_at_call 16
    refine (Hma.out _ (HE0.out.trans HX.out)).mono ?_
    rintro e9 V10 ⟨va,o1,rfl,hs9,hc9,hx9⟩
    obtain ⟨a1,c1,b1,d1,rfl,hs9⟩:=zj1 hs9
    have HX:=hid (HX.out.trans hx9);have HA:=hid hs9;have HcA:=hid hc9
    have H7:=hid (zjy.ext hx9 H7.out)
    have H8:=hid (zjy.ext hx9 H8.out)
    clear hs9 hc9 hx9
    refine hK.out _ _ ⟨HX.out,Hra.out _ (HX.out),Hrb.out _ (HX.out)⟩ (fun hHeld=>?_)
    clear hK K
    refine zfQ (i:=3) (by kernel_rfl) rfl (fun K hK=>?_)
    go_simp
    go_at_call 16
    refine (Hmb.out _ (HE0.out.trans HX.out)).mono ?_
    rintro e9 V11 ⟨vb,o2,rfl,hs9,hc9,hx9⟩
    obtain ⟨a2,c2,b2,d2,rfl,hs9⟩:=zj1 hs9
    have HX:=hid (HX.out.trans hx9);have HB:=hid hs9;have HcB:=hid hc9
    have HA:=hid (HA.out.ext hx9)
    have H7:=hid (zjy.ext hx9 H7.out)
    have H8:=hid (zjy.ext hx9 H8.out)
    clear hs9 hc9 hx9
    refine hK.out _ _ ⟨HX.out,Hra.out _ (HX.out),Hrb.out _ (HX.out)⟩ (fun hHeld=>?_)
    clear hK K
    have hU7:=H7.out;have hU8:=H8.out;have hUa:=HA.out;have hUb:=HB.out;have hUx:=HX.out;have hlo7:=HL7.out;have hlo8:=HL8.out;have hne78:=Hne.out
    clear H7 H8 HA HB HX
    generalize hU:V11=U at *
    clear hU
    have hfin:=zll (W:=W0) hU7 hU8 hne78 hlo7 hlo8 hUa hUb HcA.out HcB.out hUx
    have h8b:zli ((U.setCell ⟨w1.heap.size,0,none⟩ (.slice a1 a.p.length c1)).setCell ⟨w1.heap.size,1,none⟩ (.slice b1 o1.length d1)) (w1.heap.size+1):=zjy.past hU8 (Ne.symm hne78) _ _
    have k0:=zjy.c0 hU7;have k1:=zjy.c1 hU7;have z0:=zjy.fz hU7 0;have z1:=zjy.fz hU7 1
    have Hfin:=hid hfin;have H8b:=hid h8b;have HU7:=hid hU7
    clear hfin h8b hU7 hU8 hUa hUb hUx
    refine zfR (i:=6) (by kernel_rfl) (by decide) rfl (fun K hK=>?_)
    go_simp
    refine hK.out _ _ ?_
    clear hK K k0 k1 z0 z1 hHeld
    generalize hU2:(U.setCell ⟨w1.heap.size,0,none⟩ (.slice a1 a.p.length c1)).setCell ⟨w1.heap.size,1,none⟩ (.slice b1 o1.length d1)=U2 at *
    have k0:=zjy.c0 H8b.out;have k1:=zjy.c1 H8b.out;have z0:=zjy.fz H8b.out 0;have z1:=zjy.fz H8b.out 1
    refine zfR (i:=7) (by kernel_rfl) (by decide) rfl (fun K hK=>?_)
    go_simp
    refine hK.out _ _ ?_
    clear hK K k0 k1 z0 z1
    refine zfS (by kernel_rfl) ?_
    go_wp2_with fail
    go_meet
    exact Hfin.out
  ·skip
   go_simp
   have H8:Hid (zli (w1.drew.alloc (.cells #[.slice none 0 0,.slice none 0 0] 36)) (w1.heap.size)):=hid (by have h:=zjy.new 36 w1.drew (.slice none 0 0) (.slice none 0 0);first | exact h | (rw [World.size_alloc] at h;exact h))
   have HL8:Hid (W0.heap.size≤w1.heap.size):=hid (by have h:=HX.out.size;first | exact h | (rw [World.size_alloc] at h;exact h))
   have HX:=hid (HX.out.alloc (.cells #[.slice none 0 0,.slice none 0 0] 36))
   refine hK.out _ _ ⟨HX.out,Hra.out _ (HX.out),Hrb.out _ (HX.out)⟩ (fun hHeld=>?_)
   clear hK K
   refine zlp (i:=1) (k:=4) (by kernel_rfl) rfl rfl (fun K hK=>?_) (fun K hK=>?_)
   ·skip
    go_simp
    go_at_call 16
    refine (Hma.out _ (HE0.out.trans HX.out)).mono ?_
    rintro e9 V12 ⟨va,o1,rfl,hs9,hc9,hx9⟩
    obtain ⟨a1,c1,b1,d1,rfl,hs9⟩:=zj1 hs9
    have HX:=hid (HX.out.trans hx9);have HA:=hid hs9;have HcA:=hid hc9
    have H8:=hid (zjy.ext hx9 H8.out)
    clear hs9 hc9 hx9
    refine hK.out _ _ ⟨HX.out,Hra.out _ (HX.out),Hrb.out _ (HX.out)⟩ (fun hHeld=>?_)
    clear hK K
    refine zlp (i:=3) (k:=4) (by kernel_rfl) rfl rfl (fun K hK=>?_) (fun K hK=>?_)
    ·skip
     go_simp
     go_at_call 16
     refine (Hmb.out _ (HE0.out.trans HX.out)).mono ?_
     rintro e9 V13 ⟨vb,o2,rfl,hs9,hc9,hx9⟩
     obtain ⟨a2,c2,b2,d2,rfl,hs9⟩:=zj1 hs9
     have HX:=hid (HX.out.trans hx9);have HB:=hid hs9;have HcB:=hid hc9
     have HA:=hid (HA.out.ext hx9)
     have H8:=hid (zjy.ext hx9 H8.out)
     clear hs9 hc9 hx9
     refine hK.out _ _ ⟨HX.out,Hra.out _ (HX.out),Hrb.out _ (HX.out)⟩ (fun hHeld=>?_)
     clear hK K
     refine zfQ (i:=4) (by kernel_rfl) rfl (fun K hK=>?_)
     go_simp
     have H7:Hid (zli (V13.alloc (.cells #[.slice none 0 0,.slice none 0 0] 36)) (V13.heap.size)):=hid (by have h:=zjy.new 36 V13 (.slice none 0 0) (.slice none 0 0);first | exact h | (rw [World.size_alloc] at h;exact h))
     have HL7:Hid (W0.heap.size≤V13.heap.size):=hid (by have h:=HX.out.size;first | exact h | (rw [World.size_alloc] at h;exact h))
     have hlt:w1.heap.size<V13.heap.size:=by have h:=zjy.lt H8.out;first | exact h | (rw [World.size_alloc] at h;exact h)
     have Hne:Hid (V13.heap.size ≠ w1.heap.size):=hid (by omega)
     have H8:=hid (zjy.ext ((Ext.refl V13).alloc (.cells #[.slice none 0 0,.slice none 0 0] 36)) H8.out)
     clear hlt
     have HA:=hid (HA.out.ext ((Ext.refl V13).alloc (.cells #[.slice none 0 0,.slice none 0 0] 36)))
     have HB:=hid (HB.out.ext ((Ext.refl V13).alloc (.cells #[.slice none 0 0,.slice none 0 0] 36)))
     have HX:=hid (HX.out.alloc (.cells #[.slice none 0 0,.slice none 0 0] 36))
     refine hK.out _ _ ⟨HX.out,Hra.out _ (HX.out),Hrb.out _ (HX.out)⟩ (fun hHeld=>?_)
     clear hK K
     have hU7:=H7.out;have hU8:=H8.out;have hUa:=HA.out;have hUb:=HB.out;have hUx:=HX.out;have hlo7:=HL7.out;have hlo8:=HL8.out;have hne78:=Hne.out
     clear H7 H8 HA HB HX
     generalize hU:(V13.alloc (.cells #[.slice none 0 0,.slice none 0 0] 36))=U at *
     clear hU
     have hfin:=zll (W:=W0) hU7 hU8 hne78 hlo7 hlo8 hUa hUb HcA.out HcB.out hUx
     have h8b:zli ((U.setCell ⟨V13.heap.size,0,none⟩ (.slice a1 a.p.length c1)).setCell ⟨V13.heap.size,1,none⟩ (.slice b1 o1.length d1)) (w1.heap.size):=zjy.past hU8 (Ne.symm hne78) _ _
     have k0:=zjy.c0 hU7;have k1:=zjy.c1 hU7;have z0:=zjy.fz hU7 0;have z1:=zjy.fz hU7 1
     have Hfin:=hid hfin;have H8b:=hid h8b;have HU7:=hid hU7
     clear hfin h8b hU7 hU8 hUa hUb hUx
     refine zfR (i:=6) (by kernel_rfl) (by decide) rfl (fun K hK=>?_)
     go_simp
     refine hK.out _ _ ?_
     clear hK K k0 k1 z0 z1 hHeld
     generalize hU2:(U.setCell ⟨V13.heap.size,0,none⟩ (.slice a1 a.p.length c1)).setCell ⟨V13.heap.size,1,none⟩ (.slice b1 o1.length d1)=U2 at *
     have k0:=zjy.c0 H8b.out;have k1:=zjy.c1 H8b.out;have z0:=zjy.fz H8b.out 0;have z1:=zjy.fz H8b.out 1
     refine zfR (i:=7) (by kernel_rfl) (by decide) rfl (fun K hK=>?_)
     go_simp
     refine hK.out _ _ ?_
     clear hK K k0 k1 z0 z1
     refine zfS (by kernel_rfl) ?_
     go_wp2_with fail
     go_meet
     exact Hfin.out
    ·skip
     go_simp
     have H7:Hid (zli (V12.alloc (.cells #[.slice none 0 0,.slice none 0 0] 36)) (V12.heap.size)):=hid (by have h:=zjy.new 36 V12 (.slice none 0 0) (.slice none 0 0);first | exact h | (rw [World.size_alloc] at h;exact h))
     have HL7:Hid (W0.heap.size≤V12.heap.size):=hid (by have h:=HX.out.size;first | exact h | (rw [World.size_alloc] at h;exact h))
     have hlt:w1.heap.size<V12.heap.size:=by have h:=zjy.lt H8.out;first | exact h | (rw [World.size_alloc] at h;exact h)
     have Hne:Hid (V12.heap.size ≠ w1.heap.size):=hid (by omega)
     have H8:=hid (zjy.ext ((Ext.refl V12).alloc (.cells #[.slice none 0 0,.slice none 0 0] 36)) H8.out)
     clear hlt
     have HA:=hid (HA.out.ext ((Ext.refl V12).alloc (.cells #[.slice none 0 0,.slice none 0 0] 36)))
     have HX:=hid (HX.out.alloc (.cells #[.slice none 0 0,.slice none 0 0] 36))
     refine hK.out _ _ ⟨HX.out,Hra.out _ (HX.out),Hrb.out _ (HX.out)⟩ (fun hHeld=>?_)
     clear hK K
     refine zfQ (i:=3) (by kernel_rfl) rfl (fun K hK=>?_)
     go_simp
     go_at_call 16
     refine (Hmb.out _ (HE0.out.trans HX.out)).mono ?_
     rintro e9 V14 ⟨vb,o2,rfl,hs9,hc9,hx9⟩
     obtain ⟨a2,c2,b2,d2,rfl,hs9⟩:=zj1 hs9
     have HX:=hid (HX.out.trans hx9);have HB:=hid hs9;have HcB:=hid hc9
     have HA:=hid (HA.out.ext hx9)
     have H7:=hid (zjy.ext hx9 H7.out)
     have H8:=hid (zjy.ext hx9 H8.out)
     clear hs9 hc9 hx9
     refine hK.out _ _ ⟨HX.out,Hra.out _ (HX.out),Hrb.out _ (HX.out)⟩ (fun hHeld=>?_)
     clear hK K
     have hU7:=H7.out;have hU8:=H8.out;have hUa:=HA.out;have hUb:=HB.out;have hUx:=HX.out;have hlo7:=HL7.out;have hlo8:=HL8.out;have hne78:=Hne.out
     clear H7 H8 HA HB HX
     generalize hU:V14=U at *
     clear hU
     have hfin:=zll (W:=W0) hU7 hU8 hne78 hlo7 hlo8 hUa hUb HcA.out HcB.out hUx
     have h8b:zli ((U.setCell ⟨V12.heap.size,0,none⟩ (.slice a1 a.p.length c1)).setCell ⟨V12.heap.size,1,none⟩ (.slice b1 o1.length d1)) (w1.heap.size):=zjy.past hU8 (Ne.symm hne78) _ _
     have k0:=zjy.c0 hU7;have k1:=zjy.c1 hU7;have z0:=zjy.fz hU7 0;have z1:=zjy.fz hU7 1
     have Hfin:=hid hfin;have H8b:=hid h8b;have HU7:=hid hU7
     clear hfin h8b hU7 hU8 hUa hUb hUx
     refine zfR (i:=6) (by kernel_rfl) (by decide) rfl (fun K hK=>?_)
     go_simp
     refine hK.out _ _ ?_
     clear hK K k0 k1 z0 z1 hHeld
     generalize hU2:(U.setCell ⟨V12.heap.size,0,none⟩ (.slice a1 a.p.length c1)).setCell ⟨V12.heap.size,1,none⟩ (.slice b1 o1.length d1)=U2 at *
     have k0:=zjy.c0 H8b.out;have k1:=zjy.c1 H8b.out;have z0:=zjy.fz H8b.out 0;have z1:=zjy.fz H8b.out 1
     refine zfR (i:=7) (by kernel_rfl) (by decide) rfl (fun K hK=>?_)
     go_simp
     refine hK.out _ _ ?_
     clear hK K k0 k1 z0 z1
     refine zfS (by kernel_rfl) ?_
     go_wp2_with fail
     go_meet
     exact Hfin.out
   ·skip
    go_simp
    have H7:Hid (zli ((w1.drew.alloc (.cells #[.slice none 0 0,.slice none 0 0] 36)).alloc (.cells #[.slice none 0 0,.slice none 0 0] 36)) (w1.heap.size+1)):=hid (by have h:=zjy.new 36 (w1.drew.alloc (.cells #[.slice none 0 0,.slice none 0 0] 36)) (.slice none 0 0) (.slice none 0 0);first | exact h | (rw [World.size_alloc] at h;exact h))
    have HL7:Hid (W0.heap.size≤w1.heap.size+1):=hid (by have h:=HX.out.size;first | exact h | (rw [World.size_alloc] at h;exact h))
    have hlt:w1.heap.size<w1.heap.size+1:=by have h:=zjy.lt H8.out;first | exact h | (rw [World.size_alloc] at h;exact h)
    have Hne:Hid (w1.heap.size+1 ≠ w1.heap.size):=hid (by omega)
    have H8:=hid (zjy.ext ((Ext.refl (w1.drew.alloc (.cells #[.slice none 0 0,.slice none 0 0] 36))).alloc (.cells #[.slice none 0 0,.slice none 0 0] 36)) H8.out)
    clear hlt
    have HX:=hid (HX.out.alloc (.cells #[.slice none 0 0,.slice none 0 0] 36))
    refine hK.out _ _ ⟨HX.out,Hra.out _ (HX.out),Hrb.out _ (HX.out)⟩ (fun hHeld=>?_)
    clear hK K
    refine zfQ (i:=1) (by kernel_rfl) rfl (fun K hK=>?_)
    go_simp
    go_at_call 16
    refine (Hma.out _ (HE0.out.trans HX.out)).mono ?_
    rintro e9 V15 ⟨va,o1,rfl,hs9,hc9,hx9⟩
    obtain ⟨a1,c1,b1,d1,rfl,hs9⟩:=zj1 hs9
    have HX:=hid (HX.out.trans hx9);have HA:=hid hs9;have HcA:=hid hc9
    have H7:=hid (zjy.ext hx9 H7.out)
    have H8:=hid (zjy.ext hx9 H8.out)
    clear hs9 hc9 hx9
    refine hK.out _ _ ⟨HX.out,Hra.out _ (HX.out),Hrb.out _ (HX.out)⟩ (fun hHeld=>?_)
    clear hK K
    refine zfQ (i:=3) (by kernel_rfl) rfl (fun K hK=>?_)
    go_simp
    go_at_call 16
    refine (Hmb.out _ (HE0.out.trans HX.out)).mono ?_
    rintro e9 V16 ⟨vb,o2,rfl,hs9,hc9,hx9⟩
    obtain ⟨a2,c2,b2,d2,rfl,hs9⟩:=zj1 hs9
    have HX:=hid (HX.out.trans hx9);have HB:=hid hs9;have HcB:=hid hc9
    have HA:=hid (HA.out.ext hx9)
    have H7:=hid (zjy.ext hx9 H7.out)
    have H8:=hid (zjy.ext hx9 H8.out)
    clear hs9 hc9 hx9
    refine hK.out _ _ ⟨HX.out,Hra.out _ (HX.out),Hrb.out _ (HX.out)⟩ (fun hHeld=>?_)
    clear hK K
    have hU7:=H7.out;have hU8:=H8.out;have hUa:=HA.out;have hUb:=HB.out;have hUx:=HX.out;have hlo7:=HL7.out;have hlo8:=HL8.out;have hne78:=Hne.out
    clear H7 H8 HA HB HX
    generalize hU:V16=U at *
    clear hU
    have hfin:=zll (W:=W0) hU7 hU8 hne78 hlo7 hlo8 hUa hUb HcA.out HcB.out hUx
    have h8b:zli ((U.setCell ⟨w1.heap.size+1,0,none⟩ (.slice a1 a.p.length c1)).setCell ⟨w1.heap.size+1,1,none⟩ (.slice b1 o1.length d1)) (w1.heap.size):=zjy.past hU8 (Ne.symm hne78) _ _
    have k0:=zjy.c0 hU7;have k1:=zjy.c1 hU7;have z0:=zjy.fz hU7 0;have z1:=zjy.fz hU7 1
    have Hfin:=hid hfin;have H8b:=hid h8b;have HU7:=hid hU7
    clear hfin h8b hU7 hU8 hUa hUb hUx
    refine zfR (i:=6) (by kernel_rfl) (by decide) rfl (fun K hK=>?_)
    go_simp
    refine hK.out _ _ ?_
    clear hK K k0 k1 z0 z1 hHeld
    generalize hU2:(U.setCell ⟨w1.heap.size+1,0,none⟩ (.slice a1 a.p.length c1)).setCell ⟨w1.heap.size+1,1,none⟩ (.slice b1 o1.length d1)=U2 at *
    have k0:=zjy.c0 H8b.out;have k1:=zjy.c1 H8b.out;have z0:=zjy.fz H8b.out 0;have z1:=zjy.fz H8b.out 1
    refine zfR (i:=7) (by kernel_rfl) (by decide) rfl (fun K hK=>?_)
    go_simp
    refine hK.out _ _ ?_
    clear hK K k0 k1 z0 z1
    refine zfS (by kernel_rfl) ?_
    go_wp2_with fail
    go_meet
    exact Hfin.out
  -- @@END@@
 case rest =>
  obtain ⟨p7,p8,a1,c1,b1,d1,a2,c2,b2,d2,o1,o2,rfl,rfl,hb7,hb8,hs1,hs2,hc1,hc2,hx3⟩:=hcut
  have hwa:=zkY a hc1
  have hwb:=zkY b hc2
  have hna:=zlh a hc1
  have hnb:=zlh b hc2
  have hpa:=hwa.pos
  have hpb:=hwb.pos
  rw [List.length_map] at hna hnb hpa hpb
  have hla:a.p.length=2∨a.p.length=3:=by rcases a.pw with e | e <;> rw [e] <;> simp
  have hlb:b.p.length=2∨b.p.length=3:=by rcases b.pw with e | e <;> rw [e] <;> simp
  have hwE:=HE0.out.trans hx3
  have hf1:=zqP hs1
  have hf2:=zqP hs2
  have heq:=fun W (hE:Ext wc W)=>zj2 _ _ a.p b.p W (hE.sl hf1.1) (hE.sl hf2.1) (by omega) (by omega)
  have hSQ:∀ W,Ext wc W→Ext wc W∧W.cell? ⟨p7,0,none⟩=some (.slice a1 a.p.length c1)∧W.cell? ⟨p7,1,none⟩=some (.slice b1 o1.length d1)∧W.cell? ⟨p8,0,none⟩=some (.slice a2 b.p.length c2)∧W.cell? ⟨p8,1,none⟩=some (.slice b2 o2.length d2):=fun W hE=>⟨hE,(hb7.ext hE).c0,(hb7.ext hE).c1,(hb8.ext hE).c0,(hb8.ext hE).c1⟩
  have HSQ:=hid hSQ;have HwE:=hid hwE
  by_cases hpq:a.p=b.p
  ·have hwb2:Wd a.p (o2.map Qw.x):=by rw [hpq];exact hwb
   have hL:Le a.p ((o1++o2).map Qw.x):=by rw [List.map_append];exact zp6 hwa hwb2
   have hun:=zpy _ _ a.p b.p o1 o2 wc (He.out.ext hwE) hs1 hs2 hwa hwb hpq hL (Hrv.out.ext hwE) (by omega)
   have hwi:=fun W (hE:Ext wc W)=>zne _ _ a.p b.p o1 o2 W (He.out.ext (hwE.trans hE)) (hs1.ext hE) (hs2.ext hE) hwa hwb hpq
   rw [decide_eq_true hpq] at heq
   have hoc:=fun W (hE:Ext wc W)=>zki (.slice a1 a.p.length c1) a.p W (He.out.ext (hwE.trans hE)) (hE.sl hf1.1) (by omega) (by omega)
   have hcat:=fun W g (hE:Ext wc W)(k0:W.cell? ⟨g,0,none⟩=some _)(k1:W.cell? ⟨g,1,none⟩=some _)=>zmX g (.slice b1 o1.length d1) (.slice b2 o2.length d2) o1 o2 W k0 k1 (hE.rdM hf1.2) (hE.rdM hf2.2) (by omega) (by omega) (by omega) (by omega)
   have hcol:=fun W u vb W2 (hE:Ext wc W)(hE2:Ext W W2)(hu:W2.ownsRow W.heap.size 32 1 u (o1.length+o2.length) (qwc (o1++o2)))(hvb:Rd W2 vb (ov (a.p.length - 1)))=>zqr (.slice a1 a.p.length c1) vb u a.p (o1++o2) W2 (He.out.ext (hwE.trans (hE.trans hE2))) ((hE.trans hE2).sl hf1.1) hvb ⟨zai hu,fun r hr=>(hE.trans hE2).rd ((List.mem_append.1 hr).elim (hf1.2.2 r) (hf2.2.2 r))⟩ hL (Hrv.out.ext (hwE.trans (hE.trans hE2))) (by rw [List.length_append];omega)
   have hsa:=fun W v1 v2 rs1 rs2 (h1:ScV W v1 a.p rs1)(h2:ScV W v2 a.p rs2)(e1:zn8 a.p ((o1++o2).map Qw.x) (rs1.map Qw.x))(e2:zn8 a.p ((o1++o2).map Qw.x) (rs2.map Qw.x))=>zqS hwa hwb2 hna hnb W v1 v2 rs1 rs2 h1 h2 e1 e2 (by omega)
   have hin:=fun rs2 (e2:zn8 a.p ((o1++o2).map Qw.x) (rs2.map Qw.x))=>zqT hwa hwb2 (rs2:=rs2) e2
   have hnz:=fun out (e2:zn8 a.p ((o1++o2).map Qw.x) (out.map Qw.x))=>zqU hwa hwb2 (out:=out) e2
   have Hnz:=hid hnz;clear hnz
   have Hun2:=hid hun;have Hwi:=hid hwi;have Heq:=hid heq;have Hoc:=hid hoc;have Hcat:=hid hcat;have Hcol:=hid hcol;have Hsa:=hid hsa;have Hin:=hid hin;have Hf1:=hid hf1.1
   clear hSQ hun hwi heq hoc hcat hcol hsa hin hwE hs1 hs2 hb7 hb8 hwa hwb hwb2 hL hc1 hc2 hx3 hf1 hf2 Hra Hrb Hma Hmb Hun Hia Hib Hva Hvb hW0 HE0 Hx1 Hkn hpq
   generalize inB o1 o2=B at *
   obtain ⟨_,q0,q1,r0,r1⟩:=HSQ.out wc (Ext.refl wc)
   go_wp2_with fail
   refine Hun2.out.mono ?_
   rintro e w4 ⟨u4,out4,rfl,ho4,hC4,hx4⟩
   obtain ⟨a4,c4,b4,d4,rfl,hs4⟩:=zj1 ho4.scV
   have hb4:=zjy.new 36 w4 (.slice a4 a.p.length c4) (.slice b4 out4.length d4)
   have hE4:=(Ext.refl w4).alloc (.cells #[.slice a4 a.p.length c4,.slice b4 out4.length d4] 36)
   obtain ⟨_,q0,q1,r0,r1⟩:=HSQ.out _ (hx4.trans hE4)
   have hwi4:=Hwi.out _ (hx4.trans hE4)
   have Hb4:=hid hb4;have HY4:=hid (hx4.trans hE4);have Hwi4:=hid hwi4;have Hs4:=hid (hs4.ext hE4);have HC4:=hid hC4
   clear hb4 hE4 hx4 hwi4 ho4 hs4 hC4
   go_wp2_with fail
   refine Hwi4.out.mono ?_
   rintro e w5 ⟨rfl,hx5⟩
   obtain ⟨_,q0,q1,r0,r1⟩:=HSQ.out _ (HY4.out.trans hx5)
   have heq5:=Heq.out _ (HY4.out.trans hx5)
   have HY5:=hid (HY4.out.trans hx5);have H45:=hid hx5;have Heq5:=hid heq5
   clear hx5 heq5
   go_wp2_with fail
   refine Heq5.out.mono ?_
   rintro e w6 ⟨rfl,hx6⟩
   have HY6:=hid (HY5.out.trans hx6);have H46:=hid (H45.out.trans hx6)
   have hS6:∀ W,Ext w6 W→Ext w6 W∧W.cell? ⟨p7,0,none⟩=some (.slice a1 a.p.length c1)∧W.cell? ⟨p7,1,none⟩=some (.slice b1 o1.length d1)∧W.cell? ⟨p8,0,none⟩=some (.slice a2 b.p.length c2)∧W.cell? ⟨p8,1,none⟩=some (.slice b2 o2.length d2):=fun W h=>by
    obtain ⟨_,h1,h2,h3,h4⟩:=HSQ.out _ (HY6.out.trans h);exact ⟨h,h1,h2,h3,h4⟩
   have hSa:∀ X o,(Ext w6 X∧X.cell? ⟨p7,0,none⟩=some (.slice a1 a.p.length c1)∧X.cell? ⟨p7,1,none⟩=some (.slice b1 o1.length d1)∧X.cell? ⟨p8,0,none⟩=some (.slice a2 b.p.length c2)∧X.cell? ⟨p8,1,none⟩=some (.slice b2 o2.length d2))→(Ext w6 (X.alloc o)∧(X.alloc o).cell? ⟨p7,0,none⟩=some (.slice a1 a.p.length c1)∧(X.alloc o).cell? ⟨p7,1,none⟩=some (.slice b1 o1.length d1)∧(X.alloc o).cell? ⟨p8,0,none⟩=some (.slice a2 b.p.length c2)∧(X.alloc o).cell? ⟨p8,1,none⟩=some (.slice b2 o2.length d2)):=fun X o h=>hS6 _ (h.1.alloc _)
   have HS6:=hid hS6;have HSa:=hid hSa
   clear hSa
   clear hx6 hS6 q0 q1 r0 r1
   obtain ⟨_,q0,q1,r0,r1⟩:=HS6.out _ (Ext.refl w6)
   go_upto_region 8 with (fail)
   go_cut [11] (fun v11 wx=>zqR w6 a.p ((o1++o2).map Qw.x) v11 wx)
   case first =>
    clear q0 q1 r0 r1
    go_region_held3 (fun w'=>Ext w6 w'∧w'.cell? ⟨p7,0,none⟩=some (.slice a1 a.p.length c1)∧w'.cell? ⟨p7,1,none⟩=some (.slice b1 o1.length d1)∧w'.cell? ⟨p8,0,none⟩=some (.slice a2 b.p.length c2)∧w'.cell? ⟨p8,1,none⟩=some (.slice b2 o2.length d2))
      (first | (with_reducible assumption) | exact HS6.out _ (Ext.refl w6).drew | exact HSa.out _ _ (by with_reducible assumption) | exact HS6.out _ ((HEC.out.setCell (p:=⟨_,0,none⟩) HB.out.2 _).setCell (p:=⟨_,1,none⟩) HB.out.2 _))
      (first
       | (go_at_call 10
          refine (Hoc.out _ (HY6.out.trans (And.left (by with_reducible assumption)))).mono ?_
          rintro e9 VA ⟨u9,rfl,ho,hxa⟩
          have hEA:Ext w6 VA:=Ext.trans (And.left (by with_reducible assumption)) hxa
          have hSA:=HS6.out _ hEA
          obtain ⟨ao,co,rfl,_,_,_⟩:=ho.rd.parts
          first
            | (have hxx:Ext ((w6.alloc (.cells #[.slice b1 o1.length d1,.slice b2 o2.length d2] 34)).alloc (.cells #[.slice none 0 0,.slice none 0 0] 36)).drew VA:=(by with_reducible exact hxa);have HR:Hid (VA.heap[w6.heap.size]?=some (.cells #[.slice b1 o1.length d1,.slice b2 o2.length d2] 34)):=hid (((((Ext.refl _).alloc (.cells #[.slice none 0 0,.slice none 0 0] 36)).drew).trans hxx).heap (World.alloc_heap_new w6 _));have HB:Hid (VA.heap[w6.heap.size+1]?=some (.cells #[.slice none 0 0,.slice none 0 0] 36)∧w6.heap.size≤w6.heap.size+1):=hid ⟨zqQ (World.size_alloc _ _) ((((Ext.refl _).drew).trans hxx).heap (World.alloc_heap_new (w6.alloc (.cells #[.slice b1 o1.length d1,.slice b2 o2.length d2] 34)) _)),Nat.le_succ _⟩)
            | (have hxx:Ext ((w6.alloc (.cells #[.slice none 0 0,.slice none 0 0] 36)).alloc (.cells #[.slice b1 o1.length d1,.slice b2 o2.length d2] 34)).drew VA:=(by with_reducible exact hxa);have HB:Hid (VA.heap[w6.heap.size]?=some (.cells #[.slice none 0 0,.slice none 0 0] 36)∧w6.heap.size≤w6.heap.size):=hid ⟨((((Ext.refl _).alloc (.cells #[.slice b1 o1.length d1,.slice b2 o2.length d2] 34)).drew).trans hxx).heap (World.alloc_heap_new w6 _),Nat.le_refl _⟩;have HR:Hid (VA.heap[w6.heap.size+1]?=some (.cells #[.slice b1 o1.length d1,.slice b2 o2.length d2] 34)):=hid (zqQ (World.size_alloc _ _) ((((Ext.refl _).drew).trans hxx).heap (World.alloc_heap_new (w6.alloc (.cells #[.slice none 0 0,.slice none 0 0] 36)) _))))
            | (have hxx:Ext (w6.alloc (.cells #[.slice b1 o1.length d1,.slice b2 o2.length d2] 34)).drew VA:=(by with_reducible exact hxa);have HR:Hid (VA.heap[w6.heap.size]?=some (.cells #[.slice b1 o1.length d1,.slice b2 o2.length d2] 34)):=hid ((((Ext.refl _).drew).trans hxx).heap (World.alloc_heap_new w6 _)))
            | (have hxx:Ext (w6.alloc (.cells #[.slice none 0 0,.slice none 0 0] 36)).drew VA:=(by with_reducible exact hxa);have HB:Hid (VA.heap[w6.heap.size]?=some (.cells #[.slice none 0 0,.slice none 0 0] 36)∧w6.heap.size≤w6.heap.size):=hid ⟨(((Ext.refl _).drew).trans hxx).heap (World.alloc_heap_new w6 _),Nat.le_refl _⟩)
            | (have hxx:Ext w6.drew VA:=(by with_reducible exact hxa))
          have HoA:=hid ho.rd;have HEA:=hid hEA
          try clear hxx
          clear hxa hEA ho)
       | (go_at_call 32
          first
            | (have hk:((VA.alloc (.cells #[.slice b1 o1.length d1,.slice b2 o2.length d2] 34)).alloc (.cells #[.slice none 0 0,.slice none 0 0] 36)).heap[VA.heap.size]?=some (.cells #[.slice b1 o1.length d1,.slice b2 o2.length d2] 34):=((Ext.refl _).alloc (.cells #[.slice none 0 0,.slice none 0 0] 36)).heap (World.alloc_heap_new VA _);have hcc:=Hcat.out ((VA.alloc (.cells #[.slice b1 o1.length d1,.slice b2 o2.length d2] 34)).alloc (.cells #[.slice none 0 0,.slice none 0 0] 36)) (VA.heap.size) (HY6.out.trans (And.left (by with_reducible assumption))) (zjy.c0 (T:=34) hk) (zjy.c1 (T:=34) hk);refine hcc.mono ?_;rintro e9 VB ⟨u8,rfl,hu,hxb⟩;have hAB:Ext VA VB:=(((Ext.refl VA).alloc (.cells #[.slice b1 o1.length d1,.slice b2 o2.length d2] 34)).alloc (.cells #[.slice none 0 0,.slice none 0 0] 36)).trans hxb;have HB:Hid (VB.heap[VA.heap.size+1]?=some (.cells #[.slice none 0 0,.slice none 0 0] 36)∧w6.heap.size≤VA.heap.size+1):=hid ⟨zqQ (World.size_alloc _ _) (hxb.heap (World.alloc_heap_new (VA.alloc (.cells #[.slice b1 o1.length d1,.slice b2 o2.length d2] 34)) _)),Nat.le_succ_of_le HEA.out.size⟩)
            | (have hk:((VA.alloc (.cells #[.slice none 0 0,.slice none 0 0] 36)).alloc (.cells #[.slice b1 o1.length d1,.slice b2 o2.length d2] 34)).heap[VA.heap.size+1]?=some (.cells #[.slice b1 o1.length d1,.slice b2 o2.length d2] 34):=zqQ (World.size_alloc _ _) (World.alloc_heap_new (VA.alloc (.cells #[.slice none 0 0,.slice none 0 0] 36)) _);have hcc:=Hcat.out ((VA.alloc (.cells #[.slice none 0 0,.slice none 0 0] 36)).alloc (.cells #[.slice b1 o1.length d1,.slice b2 o2.length d2] 34)) (VA.heap.size+1) (HY6.out.trans (And.left (by with_reducible assumption))) (zjy.c0 (T:=34) hk) (zjy.c1 (T:=34) hk);refine hcc.mono ?_;rintro e9 VB ⟨u8,rfl,hu,hxb⟩;have hAB:Ext VA VB:=(((Ext.refl VA).alloc (.cells #[.slice none 0 0,.slice none 0 0] 36)).alloc (.cells #[.slice b1 o1.length d1,.slice b2 o2.length d2] 34)).trans hxb;have HB:Hid (VB.heap[VA.heap.size]?=some (.cells #[.slice none 0 0,.slice none 0 0] 36)∧w6.heap.size≤VA.heap.size):=hid ⟨(((Ext.refl _).alloc (.cells #[.slice b1 o1.length d1,.slice b2 o2.length d2] 34)).trans hxb).heap (World.alloc_heap_new VA _),HEA.out.size⟩)
            | (have hk:(VA.alloc (.cells #[.slice b1 o1.length d1,.slice b2 o2.length d2] 34)).heap[VA.heap.size]?=some (.cells #[.slice b1 o1.length d1,.slice b2 o2.length d2] 34):=World.alloc_heap_new VA _;have hcc:=Hcat.out (VA.alloc (.cells #[.slice b1 o1.length d1,.slice b2 o2.length d2] 34)) (VA.heap.size) (HY6.out.trans (And.left (by with_reducible assumption))) (zjy.c0 (T:=34) hk) (zjy.c1 (T:=34) hk);refine hcc.mono ?_;rintro e9 VB ⟨u8,rfl,hu,hxb⟩;have hAB:Ext VA VB:=((Ext.refl VA).alloc (.cells #[.slice b1 o1.length d1,.slice b2 o2.length d2] 34)).trans hxb;first | (have hbn:=(((Ext.refl VA).alloc (.cells #[.slice b1 o1.length d1,.slice b2 o2.length d2] 34)).trans hxb).heap HB.out.1;have HB:=hid (And.intro hbn HB.out.2);clear hbn) | skip)
            | (have hk:=HR.out;have hcc:=Hcat.out VA _ (HY6.out.trans (And.left (by with_reducible assumption))) (zjy.c0 (T:=34) hk) (zjy.c1 (T:=34) hk);refine hcc.mono ?_;rintro e9 VB ⟨u8,rfl,hu,hxb⟩;have hAB:Ext VA VB:=(Ext.refl VA).trans hxb;first | (have hbn:=hxb.heap HB.out.1;have HB:=hid (And.intro hbn HB.out.2);clear hbn) | skip)
            | (have hk:=((Ext.refl VA).alloc (.cells #[.slice none 0 0,.slice none 0 0] 36)).heap HR.out;have hcc:=Hcat.out (VA.alloc (.cells #[.slice none 0 0,.slice none 0 0] 36)) _ (HY6.out.trans (And.left (by with_reducible assumption))) (zjy.c0 (T:=34) hk) (zjy.c1 (T:=34) hk);refine hcc.mono ?_;rintro e9 VB ⟨u8,rfl,hu,hxb⟩;have hAB:Ext VA VB:=((Ext.refl VA).alloc (.cells #[.slice none 0 0,.slice none 0 0] 36)).trans hxb;have HB:Hid (VB.heap[VA.heap.size]?=some (.cells #[.slice none 0 0,.slice none 0 0] 36)∧w6.heap.size≤VA.heap.size):=hid ⟨hxb.heap (World.alloc_heap_new VA _),HEA.out.size⟩)
          have hEB:Ext w6 VB:=HEA.out.trans hAB
          have hSB:=HS6.out _ hEB
          obtain ⟨a8,c8,rfl⟩:=zpv hu
          have hg1:=Hcol.out _ _ _ VB (HY6.out.trans (And.left (by with_reducible assumption))) hxb hu (hAB.rd HoA.out)
          have hg2:=Hcol.out _ _ _ (VB.alloc (.cells #[.slice none 0 0,.slice none 0 0] 36)) (HY6.out.trans (And.left (by with_reducible assumption))) (hxb.alloc _) (hu.alloc _) ((hAB.alloc _).rd HoA.out)
          have hob:Rd VB (.slice ao (ov (a.p.length - 1)).length co) (ov (a.p.length - 1)):=hAB.rd HoA.out
          have HoB:=hid hob;have Hg1:=hid hg1;have Hg2:=hid hg2;have HEB:=hid hEB
          clear hg1 hg2 hEB hob hAB hxb hu hcc hk)
       | (go_at_call 12
          first
            | (with_reducible refine Hg1.out.mono ?_
               rintro e9 VC ⟨vn,out,rfl,hn,hm,hC,hxc⟩
               have hBC:Ext VB VC:=hxc
               first | (have hbn:=hxc.heap HB.out.1;have HB:=hid (And.intro hbn HB.out.2);clear hbn) | skip)
            | (with_reducible refine Hg2.out.mono ?_
               rintro e9 VC ⟨vn,out,rfl,hn,hm,hC,hxc⟩
               have hBC:Ext VB VC:=((Ext.refl VB).alloc _).trans hxc
               have HB:Hid (VC.heap[VB.heap.size]?=some (.cells #[.slice none 0 0,.slice none 0 0] 36)∧w6.heap.size≤VB.heap.size):=hid ⟨hxc.heap (World.alloc_heap_new VB _),HEB.out.size⟩)
          have hEC:Ext w6 VC:=HEB.out.trans hBC
          have hSC:=HS6.out _ hEC
          obtain ⟨a7,c7,rfl⟩:=zpv hn
          have hsc:ScV VC (.agg #[.slice a1 a.p.length c1,.slice a7 out.length c7]) a.p out:=⟨_,_,rfl,(HY6.out.trans hEC).sl Hf1.out,zai hn,fun r hr=>by
            rcases hm r hr with ⟨e1,e2⟩ | e1
            · rw [e1,e2];exact hBC.rd HoB.out
            · exact e1.rd⟩
          first
            | (have hbx:zjy 36 VC _ (.slice none 0 0) (.slice none 0 0):=HB.out.1
               have k0:=hbx.c0;have k1:=hbx.c1;have z0:=hbx.fz 0;have z1:=hbx.fz 1
               clear hbx)
            | skip
          have Hsc:=hid hsc;have HC:=hid hC;have HEC:=hid hEC
          clear hsc hC hEC hn hm hxc hBC))
    all_goals
     first
      | have Hfin:=hid (zqV (L:=(o1++o2).map Qw.x) HB.out.1 HB.out.2 Hsc.out (Hnz.out _ HC.out) HC.out HEC.out)
      | have Hfin:=hid (zqW (L:=(o1++o2).map Qw.x) Hsc.out HC.out HEC.out)
     go_wp2_with fail
     go_meet
     exact Hfin.out
   case rest =>
    obtain ⟨bk,a9,c9,b9,d9,out9,rfl,hb9,hs9,hC9,hx9⟩:=hcut
    have hsame:=Hsa.out wc _ _ out4 out9 (Hs4.out.ext (H46.out.trans hx9)) hs9 HC4.out hC9
    have hin:=Hin.out out9 hC9
    have hb4:=Hb4.out.ext (H46.out.trans hx9)
    obtain ⟨_,q0,q1,r0,r1⟩:=HS6.out _ hx9
    have k0:=hb4.c0;have k1:=hb4.c1;have j0:=hb9.c0;have j1:=hb9.c1
    have Hsame:=hid hsame;have Hb9:=hid hb9;have Hx9:=hid hx9
    have HW:=hid (HwE.out.trans (HY6.out.trans hx9))
    clear hsame hb9 hx9 hs9 hC9 hb4 Hsa Hin Hoc Hcat Hcol Hnz
    rcases hin with ⟨rfl,hlen⟩ | ⟨rfl,hlen⟩
    ·have hbe:((out9.length:Int) == (o2.length:Int))=true:=by rw [hlen];exact beq_self_eq_true _
     clear hlen
     go_wp2_with fail
     refine Hsame.out.mono ?_
     rintro e w9 ⟨rfl,hx⟩
     have m1:=(Hb9.out.ext hx).c1
     obtain ⟨_,_,_,_,n1⟩:=HS6.out _ (Hx9.out.trans hx)
     have HW9:=hid (HW.out.trans hx)
     clear hx q0 q1 r0 r1 k0 k1 j0 j1
     go_wp2_with fail
     go_ret
     exact ⟨rfl,HW9.out⟩
    ·have hbe:((out9.length:Int) == (o2.length:Int))=false:=beq_eq_false_iff_ne.2 hlen
     clear hlen
     go_wp2_with fail
     refine Hsame.out.mono ?_
     rintro e w9 ⟨rfl,hx⟩
     have m1:=(Hb9.out.ext hx).c1
     obtain ⟨_,_,_,_,n1⟩:=HS6.out _ (Hx9.out.trans hx)
     have HW9:=hid (HW.out.trans hx)
     clear hx q0 q1 r0 r1 k0 k1 j0 j1
     go_wp2_with fail
     go_ret
     exact ⟨rfl,HW9.out⟩
  ·have hun:=zpx _ _ a.p b.p o1 o2 wc (He.out.ext hwE) hs1 hs2 hwa hwb hpq
   have hwi:=fun W (hE:Ext wc W)=>znd _ _ a.p b.p o1 o2 W (He.out.ext (hwE.trans hE)) (hs1.ext hE) (hs2.ext hE) hwa hwb hpq
   rw [decide_eq_false hpq] at heq
   have Hun2:=hid hun;have Hwi:=hid hwi;have Heq:=hid heq
   clear hSQ hun hwi heq hwE hs1 hs2 hb7 hb8 hwa hwb hc1 hc2 hx3 hf1 hf2 Hra Hrb Hma Hmb Hun Hia Hib Hva Hvb hW0 HE0 Hx1 Hkn hpq
   generalize hN:o1.length=N at *
   generalize hM:o2.length=M at *
   generalize a.p.length=n1 at *
   generalize b.p.length=n2 at *
   clear hN hM
   obtain ⟨_,q0,q1,r0,r1⟩:=HSQ.out wc (Ext.refl wc)
   go_wp2_with fail
   refine Hun2.out.mono ?_
   rintro e w4 ⟨rfl,hx4⟩
   have hb4:=zjy.new 36 w4 (.slice none 0 0) (.slice none 0 0)
   have hE4:=(Ext.refl w4).alloc (.cells #[.slice none 0 0,.slice none 0 0] 36)
   obtain ⟨_,q0,q1,r0,r1⟩:=HSQ.out _ (hx4.trans hE4)
   have hwi4:=Hwi.out _ (hx4.trans hE4)
   have Hb4:=hid hb4;have HY4:=hid (hx4.trans hE4);have Hwi4:=hid hwi4
   clear hb4 hE4 hx4 hwi4
   go_wp2_with fail
   refine Hwi4.out.mono ?_
   rintro e w5 ⟨rfl,hx5⟩
   obtain ⟨_,q0,q1,r0,r1⟩:=HSQ.out _ (HY4.out.trans hx5)
   have heq5:=Heq.out _ (HY4.out.trans hx5)
   have HY5:=hid (HY4.out.trans hx5);have H45:=hid hx5;have Heq5:=hid heq5
   clear hx5 heq5
   go_wp2_with fail
   refine Heq5.out.mono ?_
   rintro e w6 ⟨rfl,hx6⟩
   have hb6:=Hb4.out.ext (H45.out.trans hx6)
   have k1:=hb6.c1
   have HY6:=hid (HwE.out.trans (HY5.out.trans hx6))
   clear hx6 hb6
   go_wp2_with fail
   go_ret
   exact ⟨rfl,HY6.out⟩
end Go.Proofs.YtbkfhacmekbniaaGreatDoor
