/- Walk: table.reduce. (KEEPALL) -/
import Derived.Test.YtipkdebkdnbieaaGreatDoorPe24
import Derived.Test.YtipkdebkdnbieaaGreatDoorPe13
import Derived.Deep.RegionHeld3
import Derived.Deep.DeepCutAuto
set_option maxRecDepth 100000
set_option maxHeartbeats 4000000
namespace Go.Proofs.YtipkdebkdnbieaaGreatDoor
open Go.RowKit Go.Lib Go.Shelf
def ldZ (l:List Nat):List Int:=l.map fun x:Nat=>(x:Int)
structure RS (W0:World)(B H gs cap M n:Nat)(m:List (List Rat))(ld:List Nat)(du dv v4:Value)(w:World):Prop where
 g:GQ W0 B H gs cap m w
 l:w.ownsRow H 3 1 v4 ld.length (zap (ldZ ld))
 d:zes w H du dv
 ml:m.length=M
 rc:zmW m n
 h0:W0.heap.size≤H
section
variable {W0 w V : World} {B H gs cap M n : Nat} {m : List (List Rat)} {ld : List Nat} {du dv v4 : Value}
theorem RS.ext (h:RS W0 B H gs cap M n m ld du dv v4 w)(hx:Ext w V):RS W0 B H gs cap M n m ld du dv v4 V:=⟨h.g.ext hx,hx.own h.l,h.d.ext hx,h.ml,h.rc,h.h0⟩
theorem RS.x (h:RS W0 B H gs cap M n m ld du dv v4 w):Ext W0 w:=h.g.x
theorem RS.setDet (h:RS W0 B H gs cap M n m ld du dv v4 w)(x y:Value):RS W0 B H gs cap M n m ld x y v4 ((w.setCell ⟨H,0,none⟩ x).setCell ⟨H,1,none⟩ y)∧w.grownBy ((w.setCell ⟨H,0,none⟩ x).setCell ⟨H,1,none⟩ y) (some H):=by
 have g1:=zf7 w ⟨H,0,none⟩ x;have g2:=zf7 (w.setCell ⟨H,0,none⟩ x) ⟨H,1,none⟩ y;have hg:=g1.trans g2;have l1:=zf8 h.d h.l (by decide) 0 x;have d1:zes (w.setCell ⟨H,0,none⟩ x) H x dv:=heap_setCell_same w H 0 _ _ _ h.d;exact ⟨⟨h.g.kept hg (Nat.le_refl _) h.h0,zf8 d1 l1 (by decide) 1 _,h.d.put _ _,h.ml,h.rc,h.h0⟩,hg⟩
theorem RS.low {gi:Nat}{m':List (List Rat)}(h:RS W0 B H gs cap M n m ld du dv v4 w)(hg:w.grownBy V (some gi))(hi:gi<H)(g:GQ W0 B H gs cap m' V)(hm:m'.length=M)(hr:zmW m' n):RS W0 B H gs cap M n m' ld du dv v4 V :=
 ⟨g,zmT h.l hg hi,zmS h.d (Nat.le_refl _) hg hi,hm,hr,h.h0⟩
theorem RS.lead {o:Obj}{v7:Value}{c:Nat}(h:RS W0 B H gs cap M n m ld du dv v4 w)(hown:V.ownsRow H 3 1 v7 (ld.length+1) (zap (ldZ ld)++[.int .i64 c]))(hg:(w.alloc o).grownBy V v4.ownBlock):RS W0 B H gs cap M n m (ld++[c]) du dv v7 V:=by
 have hw:=h.ext ((Ext.refl w).alloc o);have hb:∀ k,v4.ownBlock=some k→H≤k:=fun k hk=>(World.ownsRow.lt h.l k hk).1;have hld:zap (ldZ (ld++[c]))=zap (ldZ ld)++[.int .i64 c]:=by unfold ldZ zap;rw [List.map_append,List.map_append];rfl
 refine ⟨?_,by rw [List.length_append,hld];exact hown,zf5 hw.d hw.l (by decide) hg,h.ml,h.rc,h.h0⟩
 cases hv:v4.ownBlock with
 | none =>
  rw [hv] at hg
  exact hw.g.ext ((Ext.refl _).grown hg fun k hk=>by cases hk)
 | some b =>
  rw [hv] at hg
  exact hw.g.kept hg (hb b hv) h.h0
end
theorem zn0 {c k:Nat}{s sF:RdS}(h:zi9 (List.range' c (k+1)) s=some sF):∃ s',zi8 c s=some s'∧zi9 (List.range' (c+1) k) s'=some sF:=by
 rw [List.range'_succ,zi9] at h
 cases hs:zi8 c s with
 | none=>rw [hs] at h;cases h
 | some s'=>rw [hs] at h;exact ⟨s',rfl,h⟩
theorem zn1 {q:Rat}(h:q=0):(zbj q.num 0 == 0)=true:=by subst h;rfl
theorem zn2 {q:Rat}(h:q ≠ 0):(zbj q.num 0 == 0)=false:=by
 have hn:q.num ≠ 0:=fun e=>h (Rat.num_eq_zero.1 e);unfold zbj;split
 ·rfl
 ·first | rfl | (rw [if_neg hn];rfl)
theorem zn3 {α:Type}{g:List α}{t k:Nat}{r s:α}(hr:g[t]?=some r)(hs:g[k]?=some s):(swp g t k)[t]?=some s:=by
 rw [zix hr hs,zlp hr hs];unfold zln;split
 ·rename_i h;rw [← h] at hs;exact hs
 ·rw [if_pos rfl];exact hs
theorem zn4 {α:Type}(g:List α)(k:Nat):swp g k k=g:=by
 unfold swp;split
 ·rename_i x y hx hy;rw [hx] at hy;obtain rfl:=Option.some.inj hy;obtain ⟨h1,h2⟩:=List.getElem?_eq_some_iff.1 hx;have:g.set k x=g:=by rw [← h2];exact List.set_getElem_self h1
  rw [this,this]
 ·rfl
theorem zn5 {c:Nat}{s s':RdS}(h:zi8 c s=some s'):okM s.m=true∧okQ s.det=true:=by
 unfold zi8 at h;split at h
 ·assumption
 ·cases h
theorem zn6 {c k M:Nat}{m:List (List Rat)}{ld:List Nat}{det:Rat}{s':RdS}(h:zi8 c ⟨m,ld,det⟩=some s')(hk:ld.length=k)(hm:m.length=M)(hf:k+zi4 c (m.drop k)=M):s'=⟨m,ld,0⟩:=by
 have ho:=zn5 h;unfold zi8 at h;dsimp only at h ho;rw [if_pos ho,hk,hm,if_pos hf] at h;exact (Option.some.inj h).symm
theorem zn7 {c k M a:Nat}{m:List (List Rat)}{ld:List Nat}{det:Rat}{s':RdS}(h:zi8 c ⟨m,ld,det⟩=some s')(hk:ld.length=k)(hm:m.length=M)(hf:k+zi4 c (m.drop k)=a)(ha:a ≠ M) :
  s'=⟨zi7 ((swp m k a).set k (zi5 (((swp m k a).getD k []).getD c 0) ((swp m k a).getD k []))) k c M,ld++[c],(if a=k then det else -det) * ((swp m k a).getD k []).getD c 0⟩:=by
 have ho:=zn5 h;unfold zi8 at h;dsimp only at h ho;rw [if_pos ho,hk,hm,hf,if_neg ha] at h;exact (Option.some.inj h).symm
theorem zn8 {α:Type}{l:List α}{k:Nat}{x:α}(h:l[k]?=some x):l.set k x=l:=by
 obtain ⟨h1,h2⟩:=List.getElem?_eq_some_iff.1 h;rw [← h2];exact List.set_getElem_self h1
theorem zn9 {α:Type}{l:List α}{i j:Nat}{x:α}(h:x∈swp l i j):x∈l:=by
 unfold swp at h;split at h
 ·rename_i a b ha hb;rcases List.mem_or_eq_of_mem_set h with g | g
  ·rcases List.mem_or_eq_of_mem_set g with g | g
   ·exact g
   ·rw [g];exact List.mem_of_getElem? hb
  ·rw [g];exact List.mem_of_getElem? ha
 ·exact h
theorem znA {r:List Rat}{n c:Nat}(hr:r.length=n)(hc:c<n):r[c]?=some (r.getD c 0):=by
 rw [List.getD_eq_getElem?_getD,List.getElem?_eq_getElem (by omega)];rfl
theorem znB (W0 w:World)(B gs cap M n:Nat)(m0:List (List Rat))(sF:RdS)(he:Env W0)(h:GQ W0 B w.heap.size gs cap m0 w)(hM:m0.length=M)(hrec:zmW m0 n)(hn:n≤1000)(hM9:M≤1000)(hn0:0<n)(hW:W0.heap.size≤w.heap.size)(hrun:zi9 (List.range n) ⟨m0,[],1⟩=some sF) :
  Calls Tryz.prog 105 #[.slice (some ⟨gs,0,none⟩) M cap,.int .i64 n] w fun e w'=>∃ v s1 s2,e=.returned (.tuple #[v,.agg #[.string s1,.string s2]])∧∃ du dv,RS W0 B w.heap.size gs cap M n sF.m sF.ld du dv v w':=by
 obtain ⟨i0,hi,hz0,hz1,hz2⟩:=info_parts zc1;have hb0:=zes.new w (.string ⟨#[]⟩) (.string ⟨#[]⟩);have hrs:RS W0 B w.heap.size gs cap M n m0 [] (.string ⟨#[]⟩) (.string ⟨#[]⟩) (.slice none 0 0) (w.alloc (.cells #[.string ⟨#[]⟩,.string ⟨#[]⟩] 102)):=⟨h.ext ((Ext.refl w).alloc _),World.ownsRow_nil _ _ _ 1,hb0,hM,hrec,hW⟩;have hone:=znt (w.alloc (.cells #[.string ⟨#[]⟩,.string ⟨#[]⟩] 102));unfold Rv at hone;have Hrs:=hid hrs;have Hone:=hid hone;have He:=hid he;have Hrun:=hid hrun;generalize hH:w.heap.size=H at *;clear hrs hone hb0 h hM hrec hW hrun he;go_enter Tryz.func105,Tryz.ntmps105
 go_wp2_with fail
 refine Hone.out.mono ?_;rintro e w1 ⟨rfl,hx1⟩;have hr1:=Hrs.out.ext hx1;have c0:=hr1.d.c0;have c1:=hr1.d.c1;have z0:=hr1.d.fz 0;have z1:=hr1.d.fz 1;have hst:=(hr1.setDet (.string (I (1:Rat).num)) (.string (I ((1:Rat).den:Int)))).1;have Hst:=hid hst;clear hx1 hr1 hst;go_wp2_with fail
 go_loopw [16,4] (fun v16 v4 wr=>∃ (c:Nat)(s:RdS),v16=.int .i64 c∧c≤n∧s.ld.length≤M∧Hid (RS W0 B H gs cap M n s.m s.ld (.string (I s.det.num)) (.string (I (s.det.den:Int))) v4 wr)∧Hid (zi9 (List.range' c (n - c)) s=some sF)) (fun v16 _ _=>n - (zal v16).toNat)
 case atStart=>exact ⟨0,⟨m0,[],1⟩,rfl,Nat.zero_le _,Nat.zero_le _,Hst,hid (by rw [Nat.sub_zero,← List.range_eq_range'];exact Hrun.out)⟩
 case round =>
  obtain ⟨c,s,rfl,hcn,hlM,HR,HP⟩:=hrel;clear Hst z0 z1 c0 c1;by_cases hc:c<n
  ·obtain ⟨s',hs',hp'⟩:=zn0 (k:=n - (c+1)) (by rw [show n - (c+1)+1=n - c by omega];exact HP.out);obtain ⟨m,ld,det⟩:=s;have hml:=HR.out.ml;dsimp only at hml hlM;obtain ⟨a4,c4,e4⟩:=zc3 HR.out.l;dsimp only at e4;subst e4;have hc1:(0:Int)≤(c:Int):=(by omega);have hc2:(c:Int)<(n:Int):=(by omega);have Hs':=hid hs';have Hp':=hid hp';have Hml:=hid hml;clear hs' hp' HP hml;generalize hk:ld.length=k at *;have Hk:=hid hk;clear hk;obtain ⟨hom,hod⟩:=zn5 Hs'.out;have Hom:=hid hom;have Hod:=hid hod;clear hom hod;have hkM:k≤M:=hlM;clear hlM;go_wp2_with fail
   obtain ⟨wb,hwb⟩:∃ wb,wb=wr:=⟨_,rfl⟩;subst hwb;go_loopw [7] (fun v7 wj=>∃ a:Nat,v7=.int .i64 a∧k≤a∧a≤M∧Hid (k+zi4 c (m.drop k)=a+zi4 c (m.drop a))∧Hid (Ext wb wj)) (fun v7 _=>M - (zal v7).toNat)
   case atStart=>exact ⟨k,rfl,Nat.le_refl _,hkM,hid rfl,hid (Ext.refl _)⟩
   case round =>
    obtain ⟨a,rfl,hka,haM,HF,HE⟩:=hrel;have hR:=HR.out.ext HE.out;by_cases ha:a<M
    ·obtain ⟨r,hr⟩:∃ r,m[a]?=some r:=⟨_,List.getElem?_eq_getElem (by have:=Hml.out;omega)⟩;have hrl:=hR.rc r (List.mem_of_getElem? hr);obtain ⟨gi,ci,hca,hgi,hrow⟩:=hR.g.row hr;obtain ⟨_,hcl,_,_⟩:=hrow wr (Ext.refl _);obtain ⟨h0,h1⟩:=hcl c (r.getD c 0) (znA hrl hc);have hft:=znz Hom.out (List.mem_of_getElem? hr) (List.mem_of_getElem? (znA hrl hc));have hsg:=zeC (r.getD c 0) wr (hft.num (by omega));have hfs:=zmV (c:=c) hr;unfold Rv at hsg;rw [hrl] at hca;have hk1:(0:Int)≤(a:Int):=(by omega);have hk2:(a:Int)<(M:Int):=(by omega);have Hsg:=hid hsg;have Hfs:=hid hfs;have Hr:=hid hr;have Hrl:=hid hrl;clear hsg hfs hr hrl hrow hcl hft hR;by_cases hq:r.getD c 0=0
     ·have hz:=zn1 hq;have Hq:=hid hq;clear hq;generalize zbj (r.getD c 0).num 0=sg at *;generalize I (r.getD c 0).num=sa at *;generalize I (((r.getD c 0).den:Nat):Int)=sb at *;go_wp2_with fail
      refine Hsg.out.mono ?_;rintro e w2 ⟨rfl,hx2⟩;have Hx2:=hid (HE.out.trans hx2);clear hx2 hca h0 h1;go_wp2_with fail
      go_roundw
      case rel =>
       refine ⟨a+1,by go_num,by omega,by omega,hid ?_,Hx2⟩;have:=HF.out;rw [Hfs.out,if_pos Hq.out] at this;omega
      case measure=>simp [zal];omega
     ·have hz:=zn2 hq;have Hq:=hid hq;clear hq;generalize zbj (r.getD c 0).num 0=sg at *;generalize I (r.getD c 0).num=sa at *;generalize I (((r.getD c 0).den:Nat):Int)=sb at *;go_wp2_with fail
      refine Hsg.out.mono ?_;rintro e w2 ⟨rfl,hx2⟩;have Hx2:=hid (HE.out.trans hx2);clear hx2 hca h0 h1;have haM2:((a:Int) == (M:Int))=false:=beq_eq_false_iff_ne.2 (by omega);have hff:k+zi4 c (m.drop k)=a:=by
       have:=HF.out;rw [Hfs.out,if_neg Hq.out] at this;exact this
      have hse:=zn7 Hs'.out Hk.out Hml.out hff (by omega);obtain ⟨rk,hrk⟩:∃ r,m[k]?=some r:=⟨_,List.getElem?_eq_getElem (by have:=Hml.out;omega)⟩;have hpv:(swp m k a)[k]?=some r:=zn3 hrk Hr.out;have hgd:(swp m k a).getD k []=r:=(by rw [List.getD_eq_getElem?_getD,hpv];rfl);rw [hgd] at hse;clear hgd;subst hse;have hsl:(swp m k a).length=M:=(by rw [ziy];exact Hml.out);have hR2:=HR.out.ext Hx2.out;have hsr:zmW (swp m k a) n:=zmW.swp hR2.rc;have hR2:=HR.out.ext Hx2.out;obtain ⟨d1,hd1⟩:∃ d1,d1=(if a=k then det else -det):=⟨_,rfl⟩;rw [← hd1] at Hp';have Hd1:=hid hd1;have HR2:=hid hR2;have Hsl:=hid hsl;have Hsr:=hid hsr;have Hpv:=hid hpv;have Hrk:=hid hrk;clear hd1 hR2 hsl hsr hpv hrk hff Hfs HF hk1 hk2 HE Hs' HR;have hk1:(0:Int)≤(k:Int):=(by omega);have hk2:(k:Int)<(M:Int):=(by omega);have ha1:(0:Int)≤(a:Int):=(by omega);have ha2:(a:Int)<(M:Int):=(by omega);go_upto_if 47 with fail
      go_cut [] (fun wx=>Hid (RS W0 B H gs cap M n (swp m k a) ld (.string (I d1.num)) (.string (I (d1.den:Int))) (.slice a4 k c4) wx))
      case first =>
       by_cases hak:a=k
       ·subst hak;have hbe:((a:Int) != (a:Int))=false:=(by simp);have hdd:d1=det:=(by rw [Hd1.out,if_pos rfl]);go_wp2_with fail
        go_meet
        rw [zn4,hdd];exact HR2
       ·have hbe:((a:Int) != (k:Int))=true:=(by simp;omega);have hak2:¬ k=a:=(by omega);obtain ⟨gi2,ci2,gj,cj,a1,b1,hsw,hgw⟩:=HR2.out.g.swap Hrk.out Hr.out;have hfz:=fun t=>HR2.out.g.frozen t;have hrkl:=HR2.out.rc rk (List.mem_of_getElem? Hrk.out);rw [hrkl] at a1 hsw hgw;rw [Hrl.out] at b1 hsw hgw;have hlow:=HR2.out.low hgw HR2.out.g.gsH hsw Hsl.out Hsr.out;have hng:=fun W=>zeu det W ((zny Hod.out).num (by omega));have hd2:d1=-det:=(by rw [Hd1.out,if_neg hak]);unfold Rv at hng;have Hlow:=hid hlow;have Hng:=hid hng;have Hd2:=hid hd2;clear hlow hng hsw hgw hrkl hd2;go_wp2
        go_region
        have hGZ:=Hlow.out.ext ((Ext.refl _).drew);have HGZ:=hid hGZ;have c0:=hGZ.d.c0;have c1:=hGZ.d.c1;clear hGZ a1 b1 hfz Hlow;go_wp2_with fail
        refine (Hng.out _).mono ?_;rintro e w4 ⟨rfl,hx4⟩;have hR4:=HGZ.out.ext hx4;have c0:=hR4.d.c0;have c1:=hR4.d.c1;have z0:=hR4.d.fz 0;have z1:=hR4.d.fz 1;have hst:=(hR4.setDet (.string (I (-det).num)) (.string (I ((-det).den:Int)))).1;rw [← Hd2.out] at hst;have Hst:=hid hst;clear hx4 hR4 hst;rw [← Hd2.out];go_wp2_with fail
        go_meet
        exact Hst
      case rest =>
       have HR3:=hcut;clear hcut HR2 Hrk Hsl Hsr Hx2 haM2 ha1 ha2 Hsg;have hFt:Ft 1000 (r.getD c 0):=znz Hom.out (List.mem_of_getElem? Hr.out) (List.mem_of_getElem? (znA Hrl.out hc));have hFtd:Ft 1000 d1:=by
        rw [Hd1.out];split
        ·exact zny Hod.out
        ·exact (zny Hod.out).neg
       have hFtr:∀ j q,r[j]?=some q→Ft 1000 q:=fun j q hq=>znz Hom.out (List.mem_of_getElem? Hr.out) (List.mem_of_getElem? hq);have hFtm:∀ t∈swp m k a,∀ q∈t,Ft 1000 q:=fun t ht q hq=>znz Hom.out (zn9 ht) hq;clear Hd1;have hcr:r[c]?=some (r.getD c 0):=znA Hrl.out hc;generalize hm1:swp m k a=m1 at *;generalize hf:r.getD c 0=f at *;have HFt:=hid hFt;have HFtd:=hid hFtd;have HFtr:=hid hFtr;have HFtm:=hid hFtm;have Hcr:=hid hcr;have Hf:=hid hf;clear hm1 hFt hFtd hFtr hFtm hcr hf Hr hka hkM;obtain ⟨gi,ci,hca,hgi,hrow⟩:=HR3.out.g.row Hpv.out;obtain ⟨_,hcl,_,_⟩:=hrow wc (Ext.refl _);obtain ⟨h0,h1⟩:=hcl c f Hcr.out;rw [Hrl.out] at hca;have hc3:(0:Int)≤(c:Int):=(by omega);have hmu:=fun W (hE:Ext wc W)=>ze9 d1 f W (He.out.ext (HR3.out.x.trans hE)) (HFtd.out.mono (by omega)) (HFt.out.mono (by omega));unfold Rv at hmu;have Hmu:=hid hmu;have hnf:=zes.new wc (.string (I f.num)) (.string (I (f.den:Int)));have hHF:H<wc.heap.size:=HR3.out.d.lt;have hR4:=HR3.out.ext ((Ext.refl wc).alloc (.cells #[.string (I f.num),.string (I (f.den:Int))] 102));have c0:=hR4.d.c0;have c1:=hR4.d.c1;have k0:=hnf.c0;have k1:=hnf.c1;have HR4:=hid hR4;have Hnf:=hid hnf;generalize hF:wc.heap.size=F at *;clear hmu hrow hcl hR4 hnf;go_wp2_with fail
       refine (Hmu.out _ ((Ext.refl wc).alloc _)).mono ?_;rintro e w5 ⟨rfl,hx5⟩;clear c0 c1 k0 k1;have hR5:=HR4.out.ext hx5;have hF5:=Hnf.out.ext hx5;have c0:=hR5.d.c0;have c1:=hR5.d.c1;have z0:=hR5.d.fz 0;have z1:=hR5.d.fz 1;obtain ⟨hst,hgst⟩:=hR5.setDet (.string (I (d1 * f).num)) (.string (I ((d1 * f).den:Int)));have hFs:zes ((w5.setCell ⟨H,0,none⟩ (.string (I (d1 * f).num))).setCell ⟨H,1,none⟩ (.string (I ((d1 * f).den:Int)))) F (.string (I f.num)) (.string (I (f.den:Int))):=hF5.past (by omega) _ _;obtain ⟨gi2,ci2,hca2,hgi2,_⟩:=hst.g.row Hpv.out;rw [Hrl.out] at hca2;have Hst:=hid hst;have HFs:=hid hFs;clear hx5 hR5 hF5 hst hgst hFs hca h0 h1 HR4 Hnf HR3 Hmu;go_wp2_with fail
       clear hca2 c0 c1 z0 z1;go_loopw [79] (fun v79 wj=>∃ j:Nat,v79=.int .i64 j∧j≤n∧Hid (RS W0 B H gs cap M n (m1.set k (zmX f r j)) ld (.string (I (d1 * f).num)) (.string (I ((d1 * f).den:Int))) (.slice a4 k c4) wj)∧Hid (zes wj F (.string (I f.num)) (.string (I (f.den:Int))))) (fun v79 _=>n - (zal v79).toNat)
       case atStart =>
        refine ⟨0,rfl,Nat.zero_le _,hid ?_,HFs⟩;rw [zmY,zn8 Hpv.out];exact Hst.out
       case round =>
        clear Hst HFs;obtain ⟨j,rfl,hjn,HR,HB⟩:=hrel;by_cases hjj:j<n
        ·have hkl:k<m1.length:=(List.getElem?_eq_some_iff.1 Hpv.out).1;have hrk:(m1.set k (zmX f r j))[k]?=some (zmX f r j):=(by rw [List.getElem?_set_self hkl]);have hqj:r[j]?=some (r.getD j 0):=znA Hrl.out hjj;have hdl:(zmX f r j).length=n:=(by rw [zmZ];exact Hrl.out);have hqd:=zna (f:=f) hqj;have hsd:=znb (f:=f) hqj;generalize r.getD j 0=q at *;obtain ⟨gj,cj,hca,hgj,hrow⟩:=HR.out.g.row hrk;obtain ⟨_,hcl,_,_⟩:=hrow wr (Ext.refl _);obtain ⟨h0,h1⟩:=hcl j q hqd;rw [hdl] at hca;have c0:=HB.out.c0;have c1:=HB.out.c1;have hfq:=HFtr.out j q hqj;have hdv:=fun W (hE:Ext wr W)=>znx q f W (He.out.ext (HR.out.x.trans hE)) (hfq.mono (by omega)) (HFt.out.mono (by omega)) Hq.out;unfold Rv at hdv;have hj1:(0:Int)≤(j:Int):=(by omega);have hj2:(j:Int)<(n:Int):=(by omega);have Hdv:=hid hdv;have Hrow:=hid hrow;have Hsd:=hid hsd;have Hdl:=hid hdl;clear hdv hrow hcl hqd hsd hqj hfq hrk hkl hdl;generalize hsa:I q.num=sa at *;generalize hsb:I (q.den:Int)=sb at *;generalize hsc:I f.num=sc at *;generalize hse:I (f.den:Int)=se at *;generalize hs1:I (q / f).num=s1 at *;generalize hs2:I ((q / f).den:Int)=s2 at *;have Hs1:=hid hs1;have Hs2:=hid hs2;clear hsa hsb hsc hse hs1 hs2;go_wp2_with fail
         have HA:=hid hca;have HC0:=hid c0;have HC1:=hid c1;have HH0:=hid h0;have HH1:=hid h1;go_region_law (go_simp;go_at_call 151;refine (Hdv.out _ ((Ext.refl wr).drew)).mono ?_;rintro e9 VA ⟨rfl,hxa⟩;have hEA:=((Ext.refl wr).drew).trans hxa;have hca2:=hEA.cell HA.out;obtain ⟨_,_,hzz,hset⟩:=Hrow.out VA hEA;have hz0:=hzz (j * 2);have hz1:=hzz (j * 2+1);have Hset:=hid hset;have HEA:=hid hEA;have hq0:=hEA.cell HH0.out;have hq1:=hEA.cell HH1.out;clear hxa hEA hzz hset)
         all_goals
          obtain ⟨hg9,hgr⟩:=Hset.out j (q / f) (by rw [Hdl.out];exact hjj);rw [Hsd.out,List.set_set,Hs1.out,Hs2.out] at hg9;rw [Hs1.out,Hs2.out] at hgr;have hml9:(m1.set k (zmX f r (j+1))).length=M:=(by rw [List.length_set,← HR.out.ml,List.length_set]);have hrc9:zmW (m1.set k (zmX f r (j+1))) n:=by
           have:=HR.out.rc.set (i:=k) (r:=zmX f r (j+1)) (by rw [zmZ];exact Hrl.out);rwa [List.set_set] at this
          have hR9:=(HR.out.ext HEA.out).low hgr hgj hg9 hml9 hrc9;have hB9:=zmS (HB.out.ext HEA.out) (by omega) hgr hgj;have HR9:=hid hR9;have HB9:=hid hB9;clear hca h0 h1 c0 c1 hca2 hz0 hz1 hq0 hq1 hg9 hgr hml9 hrc9 hR9 hB9;generalize (VA.setCell ⟨gj,j * 2,none⟩ (.string s1)).setCell ⟨gj,j * 2+1,none⟩ (.string s2)=V9 at *;go_wp2_with fail
          go_roundw
          case rel=>exact ⟨j+1,by go_num,hjj,HR9,HB9⟩
          case measure=>simp [zal];omega
        ·obtain rfl:j=n:=by omega
         have hR6:=HR.out;have hdA:zmX f r j=zi5 f r:=(by rw [← znc,Hrl.out]);rw [hdA] at hR6;have hkl:k<m1.length:=(List.getElem?_eq_some_iff.1 Hpv.out).1;have hp2:(m1.set k (zi5 f r))[k]?=some (zi5 f r):=(by rw [List.getElem?_set_self hkl]);have hpo:∀ i t,(m1.set k (zi5 f r))[i]?=some t→i ≠ k→∀ q∈t,Ft 1000 q:=fun i t ht hik q hq=>by
          rw [List.getElem?_set_ne (fun e=>hik e.symm)] at ht;exact HFtm.out t (List.mem_of_getElem? ht) q hq
         have hpk:∀ q∈zi5 f r,Ft 2000 q:=fun q hq=>by
          unfold zi5 at hq;obtain ⟨x,hx,rfl⟩:=List.mem_map.1 hq;obtain ⟨i,hi⟩:=List.mem_iff_getElem?.1 hx;exact znw (HFtr.out i x hi) HFt.out Hq.out
         have hdl2:(zi5 f r).length=j:=(by unfold zi5;rw [List.length_map];exact Hrl.out);have hp':=Hp'.out;have hnj:¬ (j:Int)<(j:Int):=(by omega);generalize hm2:m1.set k (zi5 f r)=m2 at *;generalize zi5 f r=rp at *;generalize d1 * f=d2 at *;have HR6:=hid hR6;have HP2:=hid hp2;have Hpo:=hid hpo;have Hpk:=hid hpk;have Hdl2:=hid hdl2;have HP':=hid hp';clear hR6 hp2 hpo hpk hdl2 hp' Hp' HR hdA hkl hm2 HFtr HFtm HFtd HFt Hcr Hpv HB;go_wp2_with fail
         go_loopw [103] (fun v103 wj=>∃ i:Nat,v103=.int .i64 i∧i≤M∧Hid (RS W0 B H gs cap M j (zi7 m2 k c i) ld (.string (I d2.num)) (.string (I (d2.den:Int))) (.slice a4 k c4) wj)) (fun v103 _=>M - (zal v103).toNat)
         case atStart=>exact ⟨0,rfl,Nat.zero_le _,hid (by rw [znk];exact HR6.out)⟩
         case round =>
          obtain ⟨i,rfl,hiM,HR⟩:=hrel;by_cases hil:i<M
          ·have hm2l:m2.length=M:=HR6.out.ml;obtain ⟨t,ht⟩:∃ r,m2[i]?=some r:=⟨_,List.getElem?_eq_getElem (by omega)⟩;have htl:=HR6.out.rc t (List.mem_of_getElem? ht);have hct:=znm (k:=k) (c:=c) ht;have hx:=znA htl hc;have hgx:t.getD c 0=t.getD c 0:=rfl;have hset:=fun hik:i ≠ k=>znp (c:=c) ht hik;have hskip:=fun h0:t.getD c 0=0=>znq ht HP2.out (by rw [htl,Hdl2.out]) h0;have hsame:=fun hik:i=k=>zno (m:=m2) (c:=c) hik;have hkr:=znn (c:=c) (n:=i) HP2.out;rw [show m2.getD k []=rp by rw [List.getD_eq_getElem?_getD,HP2.out];rfl] at hset;generalize t.getD c 0=x at *;obtain ⟨gi,ci,hca,hgi,hrow⟩:=HR.out.g.row hct;obtain ⟨_,hcl,_,_⟩:=hrow wr (Ext.refl _);obtain ⟨h0,h1⟩:=hcl c x hx;rw [htl] at hca;have hi1:(0:Int)≤(i:Int):=(by omega);have hi2:(i:Int)<(M:Int):=(by omega);have hc3:(0:Int)≤(c:Int):=(by omega);have hnt:=zes.new wr (.string (I x.num)) (.string (I (x.den:Int)));have hHT:H<wr.heap.size:=HR.out.d.lt;have k0:=hnt.c0;have k1:=hnt.c1;have hRa:=HR.out.ext ((Ext.refl wr).alloc (.cells #[.string (I x.num),.string (I (x.den:Int))] 102));have Hset:=hid hset;have Hskip:=hid hskip;have Hsame:=hid hsame;have Ht:=hid ht;have Htl:=hid htl;have Hct:=hid hct;have Hx:=hid hx;have Hkr:=hid hkr;have Hnt:=hid hnt;have HRa:=hid hRa;have Hm2l:=hid hm2l;generalize hT:wr.heap.size=T at *;clear hset hskip hsame ht htl hct hx hkr hnt hRa hrow hcl hgx hm2l;by_cases hik:i=k
           ·have hsm:=Hsame.out hik;have Hsm:=hid hsm;subst hik;have hbe:((i:Int) == (i:Int))=true:=beq_self_eq_true _;clear hsm;go_wp2_with fail
            go_roundw
            case rel=>exact ⟨i+1,by go_num,hil,hid (by rw [Hsm.out];exact HRa.out)⟩
            case measure=>simp [zal];omega
           ·have hbe:((i:Int) == (k:Int))=false:=beq_eq_false_iff_ne.2 (by omega);have hfx:=Hpo.out i t Ht.out hik x (List.mem_of_getElem? Hx.out);have hsg:=zeC x (wr.alloc (.cells #[.string (I x.num),.string (I (x.den:Int))] 102)) (hfx.num (by omega));unfold Rv at hsg;have Hsg:=hid hsg;have Hfx:=hid hfx;clear hsg hfx;by_cases hx0:x=0
            ·have hz:=zn1 hx0;have hsk:=Hskip.out hx0;have Hsk:=hid hsk;clear hsk hx0;generalize zbj x.num 0=sg at *;go_wp2_with fail
             refine Hsg.out.mono ?_;rintro e w8 ⟨rfl,hx8⟩;have HR8:=hid (HRa.out.ext hx8);clear hx8 hca h0 h1 k0 k1;go_wp2_with fail
             go_roundw
             case rel=>exact ⟨i+1,by go_num,hil,hid (by rw [Hsk.out];exact HR8.out)⟩
             case measure=>simp [zal];omega
            ·have hz:=zn2 hx0;clear hx0;generalize zbj x.num 0=sg at *;go_wp2_with fail
             refine Hsg.out.mono ?_;rintro e w8 ⟨rfl,hx8⟩;have HR8:=hid (HRa.out.ext hx8);have HT8:=hid (Hnt.out.ext hx8);have hca8:=(((Ext.refl wr).alloc (.cells #[.string (I x.num),.string (I (x.den:Int))] 102)).trans hx8).cell hca;clear hx8 hca h0 h1 k0 k1;go_wp2_with fail
             clear hca8;go_loopw [126] (fun v126 wj=>∃ q:Nat,v126=.int .i64 q∧q≤j∧Hid (RS W0 B H gs cap M j ((zi7 m2 k c i).set i (znd t rp x q)) ld (.string (I d2.num)) (.string (I (d2.den:Int))) (.slice a4 k c4) wj)∧Hid (zes wj T (.string (I x.num)) (.string (I (x.den:Int))))) (fun v126 _=>j - (zal v126).toNat)
             case atStart=>exact ⟨0,rfl,Nat.zero_le _,hid (by rw [zne,zn8 Hct.out];exact HR8.out),HT8⟩
             case round =>
              clear HR8 HT8;obtain ⟨q,rfl,hqj,HR9,HB9⟩:=hrel;by_cases hqq:q<j
              ·have hil2:i<(zi7 m2 k c i).length:=(by rw [znl,Hm2l.out];exact hil);have hri:((zi7 m2 k c i).set i (znd t rp x q))[i]?=some (znd t rp x q):=(by rw [List.getElem?_set_self hil2]);have hrk:((zi7 m2 k c i).set i (znd t rp x q))[k]?=some rp:=(by rw [List.getElem?_set_ne hik];exact Hkr.out);have htq:=znA Htl.out hqq;have hpq:=znA Hdl2.out hqq;have hsl:(znd t rp x q).length=j:=(by rw [znf];exact Htl.out);have hsa:=zng (t:=rp) (f:=x) htq;have hss:=znh (f:=x) htq hpq;generalize t.getD q 0=y at *;generalize rp.getD q 0=z at *;obtain ⟨ga,ca,hca,hga,hrowa⟩:=HR9.out.g.row hri;obtain ⟨gb,cb,hcb,hgb,hrowb⟩:=HR9.out.g.row hrk;obtain ⟨_,hcla,_,_⟩:=hrowa wr (Ext.refl _);obtain ⟨_,hclb,_,_⟩:=hrowb wr (Ext.refl _);obtain ⟨h0,h1⟩:=hcla q y hsa;obtain ⟨p0,p1⟩:=hclb q z hpq;rw [hsl] at hca;rw [Hdl2.out] at hcb;have c0:=HB9.out.c0;have c1:=HB9.out.c1;have hfy:=Hpo.out i t Ht.out hik y (List.mem_of_getElem? htq);have hfz:=Hpk.out z (List.mem_of_getElem? hpq);have hmu:=fun W (hE:Ext wr W)=>ze9 x z W (He.out.ext (HR9.out.x.trans hE)) (Hfx.out.mono (by omega)) (hfz.mono (by omega));have hsu:=fun W (hE:Ext wr W)=>zeA y (x * z) W (He.out.ext (HR9.out.x.trans hE)) (hfy.mono (by omega)) ((zip Hfx.out hfz).mono (by omega));unfold Rv at hmu hsu;have hq1:(0:Int)≤(q:Int):=(by omega);have hq2:(q:Int)<(j:Int):=(by omega);have hk1:(0:Int)≤(k:Int):=(by omega);have hk2:(k:Int)<(M:Int):=(by omega);have Hmu:=hid hmu;have Hsu:=hid hsu;have Hrow:=hid hrowa;have Hss:=hid hss;have Hsl:=hid hsl;clear hmu hsu hrowa hrowb hcla hclb hri hrk htq hpq hsl hsa hss hfy hfz hil2;generalize hsa:I y.num=sa at *;generalize hsb:I (y.den:Int)=sb at *;generalize hsc:I x.num=sc at *;generalize hse:I (x.den:Int)=se at *;generalize hsz:I z.num=sz at *;generalize hsy:I (z.den:Int)=sy at *;generalize hs1:I (x * z).num=s1 at *;generalize hs2:I ((x * z).den:Int)=s2 at *;generalize hs3:I (y - x * z).num=s3 at *;generalize hs4:I ((y - x * z).den:Int)=s4 at *;have Hs3:=hid hs3;have Hs4:=hid hs4;clear hsa hsb hsc hse hsz hsy hs1 hs2 hs3 hs4;go_wp2_with fail
               refine zih 23 (fun w'=>Ext wr w'∧w'.cell? ⟨gs,i,none⟩=some (.slice (some ⟨ga,0,none⟩) j ca)∧w'.cell? ⟨gs,k,none⟩=some (.slice (some ⟨gb,0,none⟩) j cb)∧w'.cell? ⟨ga,q * 2,none⟩=some (.string sa)∧w'.cell? ⟨ga,q * 2+1,none⟩=some (.string sb)∧w'.cell? ⟨gb,q * 2,none⟩=some (.string sz)∧w'.cell? ⟨gb,q * 2+1,none⟩=some (.string sy)∧w'.cell? ⟨T,0,none⟩=some (.string sc)∧w'.cell? ⟨T,1,none⟩=some (.string se)) (by kernel_rfl) (⟨(Ext.refl wr).drew,hca,hcb,h0,h1,p0,p1,c0,c1⟩) (fun hHeld=>?_);refine zid (i:=0) (v:=?vb0) rfl (by kernel_rfl) (by kernel_rfl) (by kernel_rfl) (by kernel_rfl) (fun _ _ _ h=>h) (Or.inl ⟨by rfl,?yb0⟩) hHeld ?rb0
               case yb0=>(intro w hSw;(try dsimp only at hSw);go_simp;try with_reducible rfl)
               case rb0 =>
               refine zid (i:=1) (v:=?vb1) rfl (by kernel_rfl) (by kernel_rfl) (by kernel_rfl) (by kernel_rfl) (fun _ _ _ h=>h) (Or.inl ⟨by rfl,?yb1⟩) hHeld ?rb1
               case yb1=>(intro w hSw;(try dsimp only at hSw);go_simp;try with_reducible rfl)
               case rb1 =>
               refine zid (i:=2) (v:=?vb2) rfl (by kernel_rfl) (by kernel_rfl) (by kernel_rfl) (by kernel_rfl) (fun _ _ _ h=>h) (Or.inl ⟨by rfl,?yb2⟩) hHeld ?rb2
               case yb2=>(intro w hSw;(try dsimp only at hSw);go_simp;try with_reducible rfl)
               case rb2 =>
               refine zid (i:=3) (v:=?vb3) rfl (by kernel_rfl) (by kernel_rfl) (by kernel_rfl) (by kernel_rfl) (fun _ _ _ h=>h) (Or.inl ⟨by rfl,?yb3⟩) hHeld ?rb3
               case yb3=>(intro w hSw;(try dsimp only at hSw);go_simp;try with_reducible rfl)
               case rb3 =>
               refine zid (i:=4) (v:=?vb4) rfl (by kernel_rfl) (by kernel_rfl) (by kernel_rfl) (by kernel_rfl) (fun _ _ _ h=>h) (Or.inl ⟨by rfl,?yb4⟩) hHeld ?rb4
               case yb4=>(intro w hSw;(try dsimp only at hSw);go_simp;try with_reducible rfl)
               case rb4 =>
               refine zid (i:=5) (v:=?vb5) rfl (by kernel_rfl) (by kernel_rfl) (by kernel_rfl) (by kernel_rfl) (fun _ _ _ h=>h) (Or.inl ⟨by rfl,?yb5⟩) hHeld ?rb5
               case yb5=>(intro w hSw;(try dsimp only at hSw);go_simp;try with_reducible rfl)
               case rb5 =>
               refine zid (i:=6) (v:=?vb6) rfl (by kernel_rfl) (by kernel_rfl) (by kernel_rfl) (by kernel_rfl) (fun _ _ _ h=>h) (Or.inl ⟨by rfl,?yb6⟩) hHeld ?rb6
               case yb6=>(intro w hSw;(try dsimp only at hSw);go_simp;try with_reducible rfl)
               case rb6 =>
               refine zid (i:=7) (v:=?vb7) rfl (by kernel_rfl) (by kernel_rfl) (by kernel_rfl) (by kernel_rfl) (fun _ _ _ h=>h) (Or.inl ⟨by rfl,?yb7⟩) hHeld ?rb7
               case yb7=>(intro w hSw;(try dsimp only at hSw);go_simp;try with_reducible rfl)
               case rb7 =>
               refine zid (i:=8) (v:=?vb8) rfl (by kernel_rfl) (by kernel_rfl) (by kernel_rfl) (by kernel_rfl) (fun _ _ _ h=>h) (Or.inl ⟨by rfl,?yb8⟩) hHeld ?rb8
               case yb8=>(intro w hSw;(try dsimp only at hSw);go_simp;try with_reducible rfl)
               case rb8 =>
               refine zid (i:=9) (v:=?vb9) rfl (by kernel_rfl) (by kernel_rfl) (by kernel_rfl) (by kernel_rfl) (fun _ _ _ h=>h) (Or.inl ⟨by rfl,?yb9⟩) hHeld ?rb9
               case yb9=>(intro w hSw;(try dsimp only at hSw);go_simp;try with_reducible rfl)
               case rb9 =>
               refine zid (i:=10) (v:=?vb10) rfl (by kernel_rfl) (by kernel_rfl) (by kernel_rfl) (by kernel_rfl) (fun _ _ _ h=>h) (Or.inl ⟨by rfl,?yb10⟩) hHeld ?rb10
               case yb10=>(intro w hSw;(try dsimp only at hSw);go_simp;try with_reducible rfl)
               case rb10 =>
               refine zid (i:=11) (v:=?vb11) rfl (by kernel_rfl) (by kernel_rfl) (by kernel_rfl) (by kernel_rfl) (fun _ _ _ h=>h) (Or.inl ⟨by rfl,?yb11⟩) hHeld ?rb11
               case yb11=>(intro w hSw;(try dsimp only at hSw);go_simp;try with_reducible rfl)
               case rb11 =>
               refine zid (i:=12) (v:=?vb12) rfl (by kernel_rfl) (by kernel_rfl) (by kernel_rfl) (by kernel_rfl) (fun _ _ _ h=>h) (Or.inl ⟨by rfl,?yb12⟩) hHeld ?rb12
               case yb12=>(intro w hSw;(try dsimp only at hSw);go_simp;try with_reducible rfl)
               case rb12 =>
               refine zid (i:=13) (v:=?vb13) rfl (by kernel_rfl) (by kernel_rfl) (by kernel_rfl) (by kernel_rfl) (fun _ _ _ h=>h) (Or.inl ⟨by rfl,?yb13⟩) hHeld ?rb13
               case yb13=>(intro w hSw;(try dsimp only at hSw);go_simp;try with_reducible rfl)
               case rb13 =>
               refine zid (i:=14) (v:=?vb14) rfl (by kernel_rfl) (by kernel_rfl) (by kernel_rfl) (by kernel_rfl) (fun _ _ _ h=>h) (Or.inl ⟨by rfl,?yb14⟩) hHeld ?rb14
               case yb14=>(intro w hSw;(try dsimp only at hSw);go_simp;try with_reducible rfl)
               case rb14 =>
               refine zid (i:=15) (v:=?vb15) rfl (by kernel_rfl) (by kernel_rfl) (by kernel_rfl) (by kernel_rfl) (fun _ _ _ h=>h) (Or.inl ⟨by rfl,?yb15⟩) hHeld ?rb15
               case yb15=>(intro w hSw;(try dsimp only at hSw);go_simp;try with_reducible rfl)
               case rb15 =>
               refine zid (i:=16) (v:=?vb16) rfl (by kernel_rfl) (by kernel_rfl) (by kernel_rfl) (by kernel_rfl) (fun _ _ _ h=>h) (Or.inl ⟨by rfl,?yb16⟩) hHeld ?rb16
               case yb16=>(intro w hSw;(try dsimp only at hSw);go_simp;try with_reducible rfl)
               case rb16 =>
               refine zid (i:=17) (v:=?vb17) rfl (by kernel_rfl) (by kernel_rfl) (by kernel_rfl) (by kernel_rfl) (fun _ _ _ h=>h) (Or.inl ⟨by rfl,?yb17⟩) hHeld ?rb17
               case yb17=>(intro w hSw;(try dsimp only at hSw);go_simp;try with_reducible rfl)
               case rb17 =>
               refine zid (i:=18) (v:=?vb18) rfl (by kernel_rfl) (by kernel_rfl) (by kernel_rfl) (by kernel_rfl) (fun _ _ _ h=>h) (Or.inl ⟨by rfl,?yb18⟩) hHeld ?rb18
               case yb18=>(intro w hSw;(try dsimp only at hSw);go_simp;try with_reducible rfl)
               case rb18 =>
               refine zid (i:=19) (v:=?vb19) rfl (by kernel_rfl) (by kernel_rfl) (by kernel_rfl) (by kernel_rfl) (fun _ _ _ h=>h) (Or.inl ⟨by rfl,?yb19⟩) hHeld ?rb19
               case yb19=>(intro w hSw;(try dsimp only at hSw);go_simp;try with_reducible rfl)
               case rb19 =>
               refine zie (i:=20) (by kernel_rfl) rfl (fun K hK=>?_);go_simp
               go_at_call 150
               refine (Hmu.out _ ((Ext.refl wr).drew)).mono ?_;rintro e9 VA ⟨rfl,hxa⟩;have hEA:=((Ext.refl wr).drew).trans hxa;clear hxa;refine hK.out _ _ (⟨hEA,hEA.cell hca,hEA.cell hcb,hEA.cell h0,hEA.cell h1,hEA.cell p0,hEA.cell p1,hEA.cell c0,hEA.cell c1⟩) (fun hHeld=>?_);clear hK K;refine zie (i:=21) (by kernel_rfl) rfl (fun K hK=>?_);go_simp
               go_at_call 152
               refine (Hsu.out _ hEA).mono ?_;rintro e9 VB ⟨rfl,hxb⟩;have hEB:=hEA.trans hxb;obtain ⟨_,_,hzz,hset⟩:=Hrow.out VB hEB;have hz0:=hzz (q * 2);have hz1:=hzz (q * 2+1);have Hset:=hid hset;have HEB:=hid hEB;have hq0:=hEB.cell h0;have hq1:=hEB.cell h1;clear hzz hset hxb;refine hK.out _ _ (⟨hEB,hEB.cell hca,hEB.cell hcb,hEB.cell h0,hEB.cell h1,hEB.cell p0,hEB.cell p1,hEB.cell c0,hEB.cell c1⟩) (fun hHeld=>?_);clear hK K;refine zid (i:=22) (v:=?vb22) rfl (by kernel_rfl) (by kernel_rfl) (by kernel_rfl) (by kernel_rfl) (fun _ _ _ h=>h) (Or.inl ⟨by rfl,?yb22⟩) hHeld ?rb22
               case yb22=>(intro w hSw;(try dsimp only at hSw);go_simp;try with_reducible rfl)
               case rb22 =>
               refine zif (i:=23) (by kernel_rfl) (by decide) rfl (fun K hK=>?_);go_simp
               refine hK.out _ _ ?_;clear hK K;refine zig (by kernel_rfl) ?_;obtain ⟨hg9,hgr⟩:=Hset.out q (y - x * z) (by rw [Hsl.out];exact hqq);rw [Hss.out,List.set_set,Hs3.out,Hs4.out] at hg9;rw [Hs3.out,Hs4.out] at hgr;have hml9:((zi7 m2 k c i).set i (znd t rp x (q+1))).length=M:=(by rw [List.length_set,znl];exact Hm2l.out);have hrc9:zmW ((zi7 m2 k c i).set i (znd t rp x (q+1))) j:=by
                have:=HR9.out.rc.set (i:=i) (r:=znd t rp x (q+1)) (by rw [znf];exact Htl.out);rwa [List.set_set] at this
               have hR10:=(HR9.out.ext HEB.out).low hgr hga hg9 hml9 hrc9;have hB10:=zmS (HB9.out.ext HEB.out) (by omega) hgr hga;have HR10:=hid hR10;have HB10:=hid hB10;clear hHeld hEA hEB hca hcb h0 h1 p0 p1 c0 c1 hz0 hz1 hq0 hq1 hg9 hgr hml9 hrc9 hR10 hB10;generalize (VB.setCell ⟨ga,q * 2,none⟩ (.string s3)).setCell ⟨ga,q * 2+1,none⟩ (.string s4)=V9 at *;go_wp2_with fail
               go_roundw
               case rel=>exact ⟨q+1,by go_num,hqq,HR10,HB10⟩
               case measure=>simp [zal];omega
              ·have hqj2:q=j:=(by omega);subst hqj2;have hR9:=HR9.out;have hnq:¬ (q:Int)<(q:Int):=(by omega);have hsa:znd t rp x q=zi6 t rp x:=(by rw [← zni x (by rw [Htl.out,Hdl2.out]),Htl.out]);rw [hsa,Hset.out hik] at hR9;have HR10:=hid hR9;clear hR9 hsa;go_wp2_with fail
               go_roundw
               case rel=>exact ⟨i+1,by go_num,hil,HR10⟩
               case measure=>simp [zal];omega
          ·have hii:i=M:=(by omega);subst hii;have hqo:=HR.out.l;rw [Hk.out] at hqo;have hm3:k+1≤maxLen:=(by unfold maxLen;omega);have hm4:(k+1) * 8≤140737488355328:=(by omega);have hbase:H≤wr.heap.size:=Nat.le_of_lt HR.out.d.lt;have hni:¬ (i:Int)<(i:Int):=(by omega);go_wp2_with (at_builtin;refine wpList_append_own _ rfl _ _ 27 rfl H 3 i0 (.int .i64 0) 1 8 Tryz.underlying27 hi hz0 hz1 hz2 rfl (by decide) _ _ _ rfl (hqo.alloc _) ⟨wr.heap.size,0,none⟩ 1 1 [.int .i64 c] rfl rfl (cell_one_new _ _ _) (by simp [Value.oneCell']) hm3 hm4 (by rw [World.size_alloc];omega) ?_;intro v7 V7 hown7 hgrow7 _)
           go_roundw
           case rel=>exact ⟨c+1,⟨zi7 m2 k c i,ld++[c],d2⟩,by go_num,hc,(by show (ld++[c]).length≤_;rw [List.length_append,Hk.out,List.length_singleton];omega),hid (HR.out.lead (by rw [Hk.out];exact hown7) hgrow7),HP'⟩
           case measure=>simp [zal];omega
    ·have haM1:a=M:=(by omega);subst haM1;have haM3:((a:Int) == (a:Int))=true:=beq_self_eq_true _;have hff:k+zi4 c (m.drop k)=a:=by
      have:=HF.out;rw [zmU (a:=a) (by rw [Hml.out];exact Nat.le_refl _)] at this;exact this
     have hse:=zn6 Hs'.out Hk.out Hml.out hff;subst hse;have hzr:=znu wr;unfold Rv at hzr;have Hzr:=hid hzr;have HR3:=hid hR;clear hzr hR HF HE HR Hs';go_wp2_with fail
     refine Hzr.out.mono ?_;rintro e w3 ⟨rfl,hx3⟩;have hR3:=HR3.out.ext hx3;have c0:=hR3.d.c0;have c1:=hR3.d.c1;have z0:=hR3.d.fz 0;have z1:=hR3.d.fz 1;have hst:=(hR3.setDet (.string (I (0:Rat).num)) (.string (I ((0:Rat).den:Int)))).1;have Hst:=hid hst;clear hx3 hR3 hst;go_wp2_with fail
     go_roundw
     case rel=>exact ⟨c+1,⟨m,ld,0⟩,by go_num,hc,(by show ld.length≤_;rw [Hk.out];exact hkM),Hst,Hp'⟩
     case measure=>simp [zal];omega
  ·have hcc:¬ (c:Int)<(n:Int):=(by omega);have hp:=HP.out;rw [show n - c=0 by omega] at hp;obtain rfl:s=sF:=by simpa [zi9] using hp
   have hR:=HR.out;obtain ⟨a4,c4,e4⟩:=zc3 hR.l;subst e4;have c0:=hR.d.c0;have c1:=hR.d.c1;have z0:=hR.d.fz 0;have z1:=hR.d.fz 1;have hfin:=(hR.setDet (.string (I s.det.num)) (.string (I (s.det.den:Int)))).1.ext ((Ext.refl _).drew);have hd0:=hfin.d.c0;have hd1:=hfin.d.c1;have Hfin:=hid hfin;clear hR hfin;generalize I s.det.num=sa at *;generalize I (s.det.den:Int)=sb at *;go_wp2
   go_region
   go_wp2_with fail
   exact bodyPost_ret (v:=.tuple #[.slice a4 s.ld.length c4,.agg #[.string sa,.string sb]]) (by simp [results,Tryz.results105,go_sem,hd0,hd1]) rfl ⟨_,_,_,rfl,_,_,Hfin.out⟩
end Go.Proofs.YtipkdebkdnbieaaGreatDoor
