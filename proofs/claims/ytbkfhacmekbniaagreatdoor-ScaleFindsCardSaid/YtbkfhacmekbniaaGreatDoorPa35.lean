/- Walks: law 31's add, times, less and reduce at numbers of any length. (Printed by wip/lbig.py.) Plain: how great the floor over the octave is; the rest; which note Find finds (law ScaleFinds). Walk: law 31's far. -/
import Derived.Test.YtbkfhacmekbniaaGreatDoorPa34
import Derived.Test.YtbkfhacmekbniaaGreatDoorPa22
import Derived.Test.YtbkfhacmekbniaaGreatDoorPa29
import Derived.Test.YtbkfhacmekbniaaGreatDoorPa30
import Derived.Test.YtbkfhacmekbniaaGreatDoorPa12
import Derived.Shelf.Strconv.ErrVarAll
set_option maxRecDepth 100000
set_option maxHeartbeats 1000000
namespace Go.Proofs.YtbkfhacmekbniaaGreatDoor
section
open Go.RowKit Go.Lib Go.Shelf
attribute [local go_sem] Oper.semAt_some
theorem zoO {k:Nat}{r:Rat}(h:Ft k r):Ft k (r * -1):=by
 have e:r * -1=-r:=by grind
 rw [e];exact h.neg
theorem zoP : ∀ {x y:List Rat}{q:Int},zeV x (zeW y (q:Rat))=zeU x (zeW y ((-q:Int):Rat))
 | [],y,_=>by simp [zeU,zeV]
 | a::x,[],_=>by simp [zeU,zeV,zeW]
 | a::x,b::y,q=>by
  have ih:=zoP (x:=x) (y:=y) (q:=q);unfold zeU zeV zeW at ih ⊢;rw [List.map_cons,List.map_cons,List.zipWith_cons_cons,List.zipWith_cons_cons,ih];congr 1;rw [Rat.intCast_neg];grind
theorem zoQ {n:Nat}{q:Int}(hk:Ft 200 ((q:Int):Rat)):∀ r∈zeW (ov n) (q:Rat),Ft 400 r:=fun r hr=>by
 unfold zeW at hr;obtain ⟨s,hs,rfl⟩:=List.mem_map.1 hr;obtain ⟨i,hi⟩:=List.getElem?_of_mem hs;rcases ziA hi with ⟨_,rfl⟩ | ⟨_,rfl⟩
 ·rw [Rat.one_mul];exact hk.mono (by omega)
 ·rw [Rat.zero_mul];exact zhW.mono (by omega)
theorem zoR (va vb:Value)(x y:List Rat)(w:World)(he:Env w)(ha:Rd w va x)(hb:Rd w vb y)(hl:x.length=y.length)(hx9:x.length≤1000)(hx:∀ r∈x,Ft 400 r)(hy:∀ r∈y,Ft 400 r) :
  Calls Tryz.prog 62 #[va,vb] w fun e w'=>∃ u,e=.returned u∧zf6 w' w.heap.size u (zeU x y)∧Ext w w':=by
 obtain ⟨i0,hi,hz0,hz1,hz2⟩:=info_parts zf7;have had:=fun (a b:Rat)(h:a∈x)(k:b∈y) W (hE:Ext w W)=>zoN a b W (he.ext hE) (hx a h) (hy b k);obtain ⟨aa,ca,rfl,_,_,hca⟩:=ha.parts;obtain ⟨ab,cb,rfl,_,_,hcb⟩:=hb.parts;have hzl:(zeU x y).length=x.length:=by unfold zeU;rw [List.length_zipWith,← hl,Nat.min_self]
 have hnx:∀ k,k<x.length→∃ a b,x[k]?=some a∧y[k]?=some b∧a∈x∧b∈y:=fun k hk=>⟨_,_,List.getElem?_eq_getElem hk,List.getElem?_eq_getElem (by omega),List.getElem_mem _,List.getElem_mem _⟩;rw [← hl];generalize hn:x.length=n at *;have Had:=hid had;have Hca:=hid hca;have Hcb:=hid hcb;have Hzl:=hid hzl;have Hnx:=hid hnx;clear ha hb he hx hy had hca hcb hzl hnx hl hn;go_enter Tryz.func62,Tryz.ntmps62
 go_wp2_with fail
 go_loopw [5,6,9] (fun v5 v6 v9 wr=>∃ k:Nat,v9=.int .i64 k∧k≤n∧wr.ownsRow w.heap.size 60 2 v5 k (rcs ((zeU x y).take k))∧Hid (Ext w wr)) (fun _ _ v9 _=>n - (zag v9).toNat)
 case atStart=>exact ⟨0,rfl,Nat.zero_le _,World.ownsRow_nil w _ _ 2,hid (Ext.refl _)⟩
 case round =>
  obtain ⟨k,rfl,hk,ho,HE⟩:=hrel;obtain ⟨a5,c5,rfl⟩:=zel ho;by_cases hkn:k<n
  ·obtain ⟨a,b,hxa,hyb,hma,hmb⟩:=Hnx.out k hkn;obtain ⟨ba,oa,rfl,h0,h1⟩:=Hca.out k a hxa;obtain ⟨bb,ob,rfl,h2,h3⟩:=Hcb.out k b hyb;have htk:=zgU hxa hyb;have hcl:=fun W (hE:Ext w W)=>Had.out a b hma hmb W hE;unfold Rv at hcl;generalize hs1:I (a+b).num=s1 at *;generalize hs2:I (((a+b).den:Nat):Int)=s2 at *;have hrn:rcs ((zeU x y).take (k+1))=rcs ((zeU x y).take k)++[.string s1,.string s2]:=(by rw [htk,zf3,hs1,hs2]);have Hrn:=hid hrn;clear hrn hs1 hs2 htk;generalize I a.num=sa at *;generalize I (a.den:Int)=sc at *;generalize I b.num=sb at *;generalize I (b.den:Int)=sd at *;have hk0:(0:Int)≤(k:Int):=(by omega);have hk1:(k:Int)<(n:Int):=(by omega);have c0:=HE.out.cell h0;have c1:=HE.out.cell h1;have c2:=HE.out.cell h2;have c3:=HE.out.cell h3;have hm3:k+1≤maxLen:=(by unfold maxLen;omega);have hm4:(k+1) * 32≤140737488355328:=(by omega);have hS:=fun W (h:Ext w W)=>(⟨h,h.cell h0,h.cell h1,h.cell h2,h.cell h3⟩:Ext w W∧W.cell? _=_∧W.cell? _=_∧W.cell? _=_∧W.cell? _=_);have HS:=hid hS;have Hcl:=hid hcl;have Ho:=hid ho;clear hS hcl ho h0 h1 h2 h3 hxa hyb hma hmb;go_wp2_with fail
   go_region_held3 (fun w'=>Ext w w'∧w'.cell? ⟨ba,oa+k * 2,none⟩=some (.string sa)∧w'.cell? ⟨ba,oa+k * 2+1,none⟩=some (.string sc)∧w'.cell? ⟨bb,ob+k * 2,none⟩=some (.string sb)∧w'.cell? ⟨bb,ob+k * 2+1,none⟩=some (.string sd))
    (first | with_reducible exact HS.out _ HEV.out | with_reducible exact HS.out _ (HEA.out.alloc _) | with_reducible exact HS.out _ HEA.out | with_reducible exact HS.out _ HE.out.drew)
    (first
     | (have hpv:=HEA;clear hpv;refine step_append_lies _ rfl (.tmp 12) (.tmp 22) 32 rfl w.heap.size 60 i0 (.agg #[.string ByteArray.empty,.string ByteArray.empty]) 2 32 Tryz.underlying32 hi hz0 hz1 hz2 rfl (by decide) (.slice a5 k c5) k (rcs ((zeU x y).take k)) (by simp [Act.eval]) (HoA.out.alloc _) ⟨VA.heap.size,0,none⟩ 1 1 [.string s1,.string s2] (by simp [Act.eval]) rfl (zgT VA _ _ _) (by simp [Value.oneCell']) (by decide) hm3 hm4 (HEA.out.alloc (.cells #[.string s1,.string s2] 60)).size _ rfl ?_;intro g1 cc1 V1 hown1 hgrow1 hat1 hlt1;have HEV:=hid ((HEA.out.alloc _).grown hgrow1 fun j hj=>(World.ownsRow.lt (HoA.out.alloc (.cells #[.string s1,.string s2] 60)) j hj).1);have Hown1:=hid hown1;clear hown1 hgrow1 hat1 hlt1)
     | (go_at_call 92;refine (Hcl.out _ HE.out.drew).mono ?_;rintro e9 VA ⟨rfl,hxa⟩;have HEA:=hid (HE.out.drew.trans hxa);have HoA:=hid ((((Ext.refl wr).drew).trans hxa).own Ho.out);clear hxa))
   all_goals
    clear c0 c1 c2 c3;go_wp2_with fail
    go_roundw
    case rel=>exact ⟨k+1,by go_num,by omega,by rw [Hrn.out];exact Hown1.out,HEV⟩
    case measure=>simp [zag];omega
  ·obtain rfl:n=k:=by omega
   rw [List.take_of_length_le (by rw [Hzl.out];exact Nat.le_refl _)] at ho;have Ho:=hid ho;clear ho;go_wp2
   go_ret
   exact ⟨_,rfl,by unfold zf6;rw [Hzl.out];exact Ho.out,HE.out⟩
theorem zoS (va:Value)(x:List Rat)(q:Rat)(w:World)(he:Env w)(ha:Rd w va x)(hx9:x.length≤1000)(hx:∀ r∈x,Ft 400 r)(hq:Ft 400 q) :
  Calls Tryz.prog 48 #[va,Rv q] w fun e w'=>∃ u,e=.returned u∧zf6 w' w.heap.size u (zeW x q)∧Ext w w':=by
 obtain ⟨i0,hi,hz0,hz1,hz2⟩:=info_parts zf7;have had:=fun (a:Rat)(h:a∈x) W (hE:Ext w W)=>zoM a q W (he.ext hE) (hx a h) hq;obtain ⟨aa,ca,rfl,_,_,hca⟩:=ha.parts;have hzl:(zeW x q).length=x.length:=by unfold zeW;rw [List.length_map]
 have hnx:∀ k,k<x.length→∃ a,x[k]?=some a∧a∈x:=fun k hk=>⟨_,List.getElem?_eq_getElem hk,List.getElem_mem _⟩;have hbx:=zdV.new 60 w (.string (I q.num)) (.string (I (q.den:Int)));unfold Rv at had ⊢;generalize I q.num=sb at *;generalize I (q.den:Int)=sd at *;have hE0:Ext w (w.alloc (.cells #[.string sb,.string sd] 60)):=(Ext.refl w).alloc _;have hsz:(w.alloc (.cells #[.string sb,.string sd] 60)).heap.size=w.heap.size+1:=World.size_alloc ..;generalize hn:x.length=n at *;have Had:=hid had;have Hca:=hid hca;have Hzl:=hid hzl;have Hnx:=hid hnx;have HE0:=hid hE0;have Hbx:=hid hbx;have Hsz:=hid hsz;clear ha he hx hq had hca hzl hnx hn hE0 hbx hsz;go_enter Tryz.func48,Tryz.ntmps48
 go_wp2_with fail
 generalize hV:w.alloc (.cells #[.string sb,.string sd] 60)=V at *;go_loopw [5,6,9] (fun v5 v6 v9 wr=>∃ k:Nat,v9=.int .i64 k∧k≤n∧wr.ownsRow V.heap.size 60 2 v5 k (rcs ((zeW x q).take k))∧Hid (Ext V wr)) (fun _ _ v9 _=>n - (zag v9).toNat)
 case atStart=>exact ⟨0,rfl,Nat.zero_le _,World.ownsRow_nil V _ _ 2,hid (Ext.refl _)⟩
 case round =>
  obtain ⟨k,rfl,hk,ho,HE⟩:=hrel;obtain ⟨a5,c5,rfl⟩:=zel ho;by_cases hkn:k<n
  ·obtain ⟨a,hxa,hma⟩:=Hnx.out k hkn;obtain ⟨ba,oa,rfl,h0,h1⟩:=Hca.out k a hxa;have htk:=zgV q hxa;have hcl:=fun W (hE:Ext w W)=>Had.out a hma W hE;generalize hs1:I (a * q).num=s1 at *;generalize hs2:I (((a * q).den:Nat):Int)=s2 at *;have hrn:rcs ((zeW x q).take (k+1))=rcs ((zeW x q).take k)++[.string s1,.string s2]:=(by rw [htk,zf3,hs1,hs2]);have Hrn:=hid hrn;clear hrn hs1 hs2 htk;generalize I a.num=sa at *;generalize I (a.den:Int)=sc at *;have hk0:(0:Int)≤(k:Int):=(by omega);have hk1:(k:Int)<(n:Int):=(by omega);have h0:=HE0.out.cell h0;have h1:=HE0.out.cell h1;have c0:=HE.out.cell h0;have c1:=HE.out.cell h1;have c2:=(Hbx.out.ext HE.out).c0;have c3:=(Hbx.out.ext HE.out).c1;have hm3:k+1≤maxLen:=(by unfold maxLen;omega);have hm4:(k+1) * 32≤140737488355328:=(by omega);have hS:=fun W (h:Ext V W)=>(⟨h,h.cell h0,h.cell h1,(Hbx.out.ext h).c0,(Hbx.out.ext h).c1⟩:Ext V W∧W.cell? _=_∧W.cell? _=_∧W.cell? _=_∧W.cell? _=_);have HS:=hid hS;have Hcl:=hid hcl;have Ho:=hid ho;clear hS hcl ho h0 h1 hxa hma;go_wp2_with fail
   go_region_held3 (fun w'=>Ext V w'∧w'.cell? ⟨ba,oa+k * 2,none⟩=some (.string sa)∧w'.cell? ⟨ba,oa+k * 2+1,none⟩=some (.string sc)∧w'.cell? ⟨w.heap.size,0,none⟩=some (.string sb)∧w'.cell? ⟨w.heap.size,1,none⟩=some (.string sd))
    (first | with_reducible exact HS.out _ HEV.out | with_reducible exact HS.out _ (HEA.out.alloc _) | with_reducible exact HS.out _ HEA.out | with_reducible exact HS.out _ HE.out.drew)
    (first
     | (have hpv:=HEA;clear hpv;refine step_append_lies _ rfl (.tmp 12) (.tmp 19) 32 rfl V.heap.size 60 i0 (.agg #[.string ByteArray.empty,.string ByteArray.empty]) 2 32 Tryz.underlying32 hi hz0 hz1 hz2 rfl (by decide) (.slice a5 k c5) k (rcs ((zeW x q).take k)) (by simp [Act.eval]) (HoA.out.alloc _) ⟨VA.heap.size,0,none⟩ 1 1 [.string s1,.string s2] (by simp [Act.eval]) rfl (zgT VA _ _ _) (by simp [Value.oneCell']) (by decide) hm3 hm4 (HEA.out.alloc (.cells #[.string s1,.string s2] 60)).size _ rfl ?_;intro g1 cc1 V1 hown1 hgrow1 hat1 hlt1;have HEV:=hid ((HEA.out.alloc _).grown hgrow1 fun j hj=>(World.ownsRow.lt (HoA.out.alloc (.cells #[.string s1,.string s2] 60)) j hj).1);have Hown1:=hid hown1;clear hown1 hgrow1 hat1 hlt1)
     | (go_at_call 83;refine (Hcl.out _ (HE0.out.trans HE.out.drew)).mono ?_;rintro e9 VA ⟨rfl,hxa⟩;have HEA:=hid (HE.out.drew.trans hxa);have HoA:=hid ((((Ext.refl wr).drew).trans hxa).own Ho.out);clear hxa))
   all_goals
    clear c0 c1 c2 c3;go_wp2_with fail
    go_roundw
    case rel=>exact ⟨k+1,by go_num,by omega,by rw [Hrn.out];exact Hown1.out,HEV⟩
    case measure=>simp [zag];omega
  ·obtain rfl:n=k:=by omega
   rw [List.take_of_length_le (by rw [Hzl.out];exact Nat.le_refl _)] at ho;have Ho:=hid ho;clear ho;go_wp2
   go_ret
   exact ⟨_,rfl,zah (by rw [Hzl.out];exact Ho.out) HE0.out.size,HE0.out.trans HE.out⟩
theorem zoT (va vb:Value)(x y:List Rat)(w:World)(he:Env w)(ha:Rd w va x)(hb:Rd w vb y)(hl:x.length=y.length)(hx9:x.length≤1000)(hx:∀ r∈x,Ft 400 r)(hy:∀ r∈y,Ft 400 r) :
  Calls Tryz.prog 25 #[va,vb] w fun e w'=>∃ u,e=.returned u∧zf6 w' w.heap.size u (zeV x y)∧Ext w w':=by
 have hof:=fun W (hE:Ext w W)=>zgP (-1) 1 W (he.ext hE) (by decide) (by decide) (by decide);rw [zha] at hof;have hti:=fun W (hE:Ext w W)=>zoS vb y (-1) W (he.ext hE) (hE.rd hb) (by omega) hy zit;have had:=fun W vc (hE:Ext w W)(hc:Rd W vc (zeW y (-1)))=>zoR va vc x (zeW y (-1)) W (he.ext hE) (hE.rd ha) hc (by unfold zeW;rw [List.length_map];exact hl) hx9 hx (fun r hr=>by
  unfold zeW at hr;obtain ⟨s,hs,rfl⟩:=List.mem_map.1 hr;exact zoO (hy s hs))
 rw [zhb] at had;obtain ⟨aa,ca,rfl,_,_,_⟩:=ha.parts;obtain ⟨ab,cb,rfl,_,_,_⟩:=hb.parts;rw [hl] at *;generalize y.length=n at *;unfold Rv at hof hti;generalize I (-1:Rat).num=s1 at *;generalize I (((-1:Rat).den:Nat):Int)=s2 at *;have Hof:=hid hof;have Hti:=hid hti;have Had:=hid had;clear ha hb he hx hy hof hti had hl;go_enter Tryz.func25,Tryz.ntmps25
 go_wp2_with fail
 refine (Hof.out w (Ext.refl w)).mono ?_;rintro e w1 ⟨rfl,hx1⟩;have Hx1:=hid hx1;clear hx1;go_wp2_with fail
 refine (Hti.out w1 Hx1.out).mono ?_;rintro e w2 ⟨u2,rfl,ho2,hx2⟩;obtain ⟨a2,c2,rfl,_,_,_⟩:=ho2.rd.parts;have had2:=Had.out w2 _ (Hx1.out.trans hx2) ho2.rd;have Had2:=hid had2;have Hx2:=hid (Hx1.out.trans hx2);clear had2 hx2 ho2;generalize (zeW y (-1)).length=n2 at *;go_wp2_with fail
 refine Had2.out.mono ?_;rintro e w3 ⟨u3,rfl,ho3,hx3⟩;have Ho3:=hid (ho3.mono Hx2.out.size);have Hx3:=hid (Hx2.out.trans hx3);clear ho3 hx3;go_wp2
 go_ret
 exact ⟨_,rfl,Ho3.out,Hx3.out⟩
theorem zoU (vp vb vx:Value)(p:List Int)(a0:Rat)(tl:List Rat)(w:World)(he:Env w)(hp:Sl w vp (zak p))(hb:Rd w vb (ov tl.length))(hxv:Rd w vx (a0::tl))(hpe:zee p=0)(hpr:Pr p (tl.length+1))(hf:∀ q∈a0::tl,Ft 30 q)(hrv:zhf w)(hk:Ft 200 ((flN p (a0::tl):Int):Rat)) :
  Calls Tryz.prog 20 #[vp,vb,vx] w fun e w'=>∃ u,e=.returned (.tuple #[u,.string (I (flN p (a0::tl)))])∧zf6 w' w.heap.size u (zeU (a0::tl) (zeW (ov tl.length) ((-flN p (a0::tl):Int):Rat)))∧Ext w w':=by
 have hpl3:tl.length≤2:=by rcases hpr with ⟨_,h⟩ | ⟨_,h⟩ <;> omega
 have hfl:=fun W (hE:Ext w W)=>znp vp vx vb p a0 tl W (he.ext hE) (hE.sl hp) (hE.rd hxv) (hE.rd hb) hpe hpr hf (hrv.ext hE);have hti:=fun W (hE:Ext w W)=>zoS vb (ov tl.length) ((flN p (a0::tl):Int):Rat) W (he.ext hE) (hE.rd hb) (by rw [ziF];omega) (fun r hr=>(ziE r hr).mono (by omega)) (hk.mono (by omega));rw [zfB] at hti;have hle:=fun W vc (hE:Ext w W)(hc:Rd W vc (zeW (ov tl.length) ((flN p (a0::tl):Int):Rat)))=>zoT vx vc (a0::tl) (zeW (ov tl.length) ((flN p (a0::tl):Int):Rat)) W (he.ext hE) (hE.rd hxv) hc (by unfold zeW;rw [List.length_map,ziF];rfl) (by rw [List.length_cons];omega) (fun r hr=>(hf r hr).mono (by omega)) (zoQ hk);rw [zoP] at hle;generalize hzz:zeU (a0::tl) (zeW (ov tl.length) ((-flN p (a0::tl):Int):Rat))=zz at *;clear hzz;have hne:((I (flN p (a0::tl))).toList == [])=false:=by
  have h1:=zbq (flN p (a0::tl));have h2:0<(I (flN p (a0::tl))).size:=by
   rcases (by omega:flN p (a0::tl)<0∨0≤flN p (a0::tl)) with g | g
   ·obtain ⟨m,hm⟩:∃ m:Nat,flN p (a0::tl)=-(m:Int):=⟨(flN p (a0::tl)).natAbs,by omega⟩;rw [hm,zbp m (by omega)];omega
   ·obtain ⟨m,hm⟩:∃ m:Nat,flN p (a0::tl)=(m:Int):=⟨(flN p (a0::tl)).toNat,by omega⟩;rw [hm,zav,zau];exact nDigits_pos m
  cases h3:(I (flN p (a0::tl))).toList with
  | nil =>
   exfalso
   have:(I (flN p (a0::tl))).data.toList=[]:=by rw [← Lib.toList_data];exact h3
   have h4:(I (flN p (a0::tl))).size=0:=by
    show (I (flN p (a0::tl))).data.size=0;rw [← Array.length_toList,this];rfl
   omega
  | cons a t=>rfl
 have hne2:¬ (I (flN p (a0::tl))).toList=[]:=fun e=>by rw [e] at hne;simp at hne
 obtain ⟨ap,cp,rfl,_,_,_⟩:=hp.parts;obtain ⟨ab,cb,rfl,_,_,_⟩:=hb.parts;obtain ⟨ax,cx,rfl,_,_,_⟩:=hxv.parts;generalize (zak p).length=n1 at *;generalize (ov tl.length).length=n2 at *;generalize (a0::tl).length=n3 at *;generalize I (flN p (a0::tl))=s at *;have Hfl:=hid hfl;have Hti:=hid hti;have Hle:=hid hle;clear he hp hb hxv hfl hti hle hpe hpr hf hrv hk hpl3;go_enter Tryz.func20,Tryz.ntmps20
 go_wp2_with fail
 refine (Hfl.out w (Ext.refl w)).mono ?_;rintro e w1 ⟨rfl,hx1⟩;have Hx1:=hid hx1;clear hx1;go_wp2_with fail
 refine (Hti.out w1 Hx1.out).mono ?_;rintro e w2 ⟨u2,rfl,ho2,hx2⟩;obtain ⟨a2,c2,rfl,_,_,_⟩:=ho2.rd.parts;have hle2:=Hle.out w2 _ (Hx1.out.trans hx2) ho2.rd;have Hle2:=hid hle2;have Hx2:=hid (Hx1.out.trans hx2);clear hle2 hx2 ho2;generalize (zeW (ov tl.length) ((flN p (a0::tl):Int):Rat)).length=n4 at *;go_wp2_with fail
 refine Hle2.out.mono ?_;rintro e w3 ⟨u3,rfl,ho3,hx3⟩;have Ho3:=hid (ho3.mono Hx2.out.size);have Hx3:=hid (Hx2.out.trans hx3);clear ho3 hx3;go_wp2
 go_ret2
 exact ⟨_,rfl,Ho3.out,Hx3.out⟩
end
section
open Go.RowKit Go.Lib
theorem zoV {A B C K L M5 D H M:Int}(hK:0<K)(hH:0≤H)(hD:1≤D)(hA:-H≤A∧A≤H)(hB:-H≤B∧B≤H)(hC:-H≤C∧C≤H)(hL0:0≤L)(hL:L≤2 * K)(h50:0≤M5)(h5:M5≤3 * K)(hM:M=A * K+B * L+C * M5):-(6 * H)≤M / (K * D)∧M / (K * D)≤6 * H:=by
 have hKD:0<K * D:=Int.mul_pos hK (by omega);have a1:=Int.mul_le_mul_of_nonneg_right hA.2 (Int.le_of_lt hK);have a2:=Int.mul_le_mul_of_nonneg_right hA.1 (Int.le_of_lt hK);have b1:=Int.mul_le_mul_of_nonneg_right hB.2 hL0;have b2:=Int.mul_le_mul_of_nonneg_right hB.1 hL0;have c1:=Int.mul_le_mul_of_nonneg_right hC.2 h50;have c2:=Int.mul_le_mul_of_nonneg_right hC.1 h50;have l1:=Int.mul_le_mul_of_nonneg_left hL hH;have l2:=Int.mul_le_mul_of_nonneg_left h5 hH;have d1:H * K≤H * (K * D):=Int.mul_le_mul_of_nonneg_left (by have:=Int.mul_le_mul_of_nonneg_left hD (Int.le_of_lt hK);omega) hH;rw [Int.neg_mul] at a2 b2 c2;rw [show H * (2 * K)=2 * (H * K) by rw [← Int.mul_assoc,Int.mul_comm H 2,Int.mul_assoc]] at l1;rw [show H * (3 * K)=3 * (H * K) by rw [← Int.mul_assoc,Int.mul_comm H 3,Int.mul_assoc]] at l2;constructor
 ·apply Int.le_ediv_of_mul_le hKD;rw [Int.neg_mul,Int.mul_assoc];omega
 ·apply Int.ediv_le_of_le_mul hKD;rw [Int.mul_assoc];omega
theorem zoW {p:List Int}{a:Rat}{tl:List Rat}(hp:Pr p (a::tl).length)(hf:∀ q∈a::tl,Ft 30 q):(flN p (a::tl)).natAbs≤6 * HH:=by
 obtain ⟨hw,_⟩:=znn hp hf;obtain ⟨B,C,hM,-,hbd,-⟩:=zmt hp (dn (a::tl));obtain ⟨hB,hC⟩:=hbd HH fun r hr=>hw r (List.mem_cons_of_mem _ hr);have hA:=hw a (List.mem_cons_self ..);have e1:zmd (tms p (dn (a::tl)) (a::tl))=zmd (p.zip (fcd (dn (a::tl)) (a::tl))):=(zmu 0 _).2.2;have hK:0<KK:=by decide +kernel
 have h3:(L3:Int)≤2 * KK:=by decide +kernel
 have h5:(L5:Int)≤3 * KK:=by decide +kernel
 have hd:=zeT (a::tl);unfold flN;rw [e1];have:=zoV (H:=(HH:Int)) (D:=((dn (a::tl):Nat):Int)) hK (by omega) (by omega) (by omega) (by omega) (by omega) (by omega) h3 (by omega) h5 hM;omega
theorem zoX {q:Int}(h:q.natAbs≤6 * HH):Ft 200 ((q:Int):Rat):=by
 have h1:6 * HH<10 ^ 122:=by decide +kernel
 refine ⟨?_,?_⟩
 ·rw [Rat.num_intCast];exact Nat.le_trans (Dec.nDigits_le (k:=122) (by decide) (Nat.lt_of_le_of_lt h h1)) (by decide)
 ·rw [Rat.den_intCast];exact Dec.nDigits_le (by decide) (by decide)
theorem zoY {q:Int}(h:q.natAbs≤6 * HH):Fit q:=by
 have:=(zoX h).1;rw [Rat.num_intCast] at this;exact Nat.le_trans this (by decide)
theorem zoZ {a:Rat}{tl:List Rat}{q:Int}(hf:∀ r∈a::tl,Ft 30 r)(hk:Ft 200 ((q:Int):Rat)):∀ r∈zeU (a::tl) (zeW (ov tl.length) ((q:Int):Rat)),Ft 231 r:=by
 intro r hr;obtain ⟨i,hi⟩:=List.getElem?_of_mem hr;unfold zeU at hi;rw [List.getElem?_zipWith] at hi
 cases hx:(a::tl)[i]? with
 | none=>rw [hx] at hi;cases hi
 | some x =>
  cases hy:(zeW (ov tl.length) ((q:Int):Rat))[i]? with
  | none=>rw [hx,hy] at hi;cases hi
  | some y =>
   rw [hx,hy] at hi
   obtain rfl:=Option.some.inj hi
   have hx2:=hf x (List.mem_of_getElem? hx)
   have hy2:Ft 200 y:=by
    unfold zeW at hy;rw [List.getElem?_map] at hy
    cases ho:(ov tl.length)[i]? with
    | none=>rw [ho] at hy;cases hy
    | some s =>
     rw [ho] at hy
     obtain rfl:=Option.some.inj hy
     rcases ziA ho with ⟨_,rfl⟩ | ⟨_,rfl⟩
     ·show Ft 200 (1 * ((q:Int):Rat));rw [Rat.one_mul];exact hk
     ·show Ft 200 (0 * ((q:Int):Rat));rw [Rat.zero_mul];exact zhW.mono (by omega)
   exact (zhR hx2 hy2).mono (by omega)
theorem zpa {a:Rat}{tl:List Rat}{q:Int}:zeU (a::tl) (zeW (ov tl.length) ((-q:Int):Rat))=shf (-q) (a::tl):=by
 have hc:∀ (x y:List Rat),zeU x y=zeU y x:=fun x y=>by unfold zeU;rw [List.zipWith_comm];congr 1;funext a b;exact Rat.add_comm _ _
 rw [hc,zjD,show tl.length+1=(a::tl).length from rfl,zjE]
theorem Wd.fin_nt {p:List Int}{N:List (List Rat)}(h:Wd p N){i:Nat}(hi:i≤N.length){a:Rat}{tl:List Rat}{q:Int}(hx:zeU (a::tl) (zeW (ov tl.length) ((-q:Int):Rat))=zat p N i):nt p N (q * (N.length:Int)+i)=a::tl:=by
 rw [zpa] at hx;rw [Int.add_comm,h.nt_shift,h.nt_low hi,← hx,zj6,show -q+q=0 by omega,zj7]
theorem Wd.idx_two {p:List Int}{rs:List Qw}(h:Wd p (rs.map Qw.x)){y:List Rat}{z z2:Int}{q0:Qw}(hq:q0.x=zer p.length)(hz:zkt (fun t=>decide (y=t)) rs z)(hz2:zkt (fun t=>decide (t=y)) (q0::rs) z2) :
  (z=-1∧y ≠ zer p.length∧z2=-1)∨(z2=z+1∧0≤z2∧z2≤rs.length∧y=zat p (rs.map Qw.x) z2.toNat):=by
 have hat:∀ k r,rs[k]?=some r→r.x=zat p (rs.map Qw.x) (k+1):=fun k r hr=>by
  unfold zat;rw [List.getElem?_cons_succ,List.getElem?_map,hr];rfl
 have h0:zat p (rs.map Qw.x) 0=zer p.length:=rfl;have hlen:(rs.map Qw.x).length=rs.length:=List.length_map ..;have hne:∀ k,k<rs.length→zer p.length ≠ zat p (rs.map Qw.x) (k+1):=fun k hk e=>by
  have:=h.zlt (i:=0) (j:=k+1) (by omega) (by omega);rw [h0,← e] at this;exact absurd this (Rat.lt_irrefl)
 rcases hz2 with ⟨rfl,hall⟩ | ⟨k,r,rfl,hk,hP,hb⟩
 ·have hy0:=hall q0 (List.mem_cons_self ..);rw [hq] at hy0;rcases hz with ⟨rfl,_⟩ | ⟨k,r,rfl,hk,hP,_⟩
  ·exact .inl ⟨rfl,fun e=>(of_decide_eq_false hy0) e.symm,rfl⟩
  ·have:=hall r (List.mem_cons_of_mem _ (List.mem_of_getElem? hk));exact absurd (of_decide_eq_true hP).symm (of_decide_eq_false this)
 ·right;have hkl:=(List.getElem?_eq_some_iff.1 hk).1;rw [List.length_cons] at hkl;have hyr:=of_decide_eq_true hP;rcases hz with ⟨rfl,hall⟩ | ⟨j,s,rfl,hj,hQ,hc⟩
  ·cases k with
   | zero =>
    obtain rfl:=Option.some.inj hk
    refine ⟨by omega,by omega,by omega,?_⟩
    rw [← hyr,hq]
    rfl
   | succ k =>
    rw [List.getElem?_cons_succ] at hk
    have:=hall r (List.mem_of_getElem? hk)
    exact absurd hyr.symm (of_decide_eq_false this)
  ·have hjl:=(List.getElem?_eq_some_iff.1 hj).1;have hys:=of_decide_eq_true hQ;have hys2:=hat j s hj;have hkj:k=j+1:=by
    rcases Nat.lt_trichotomy k (j+1) with g | g | g
    ·cases k with
     | zero =>
      obtain rfl:=Option.some.inj hk
      exact absurd (by rw [← hq,hyr,hys,hys2]) (hne j hjl)
     | succ k =>
      rw [List.getElem?_cons_succ] at hk
      have hm:r∈rs.take j:=by
       obtain ⟨h1,rfl⟩:=List.getElem?_eq_some_iff.1 hk;rw [List.mem_take_iff_getElem];exact ⟨k,by omega,rfl⟩
      exact absurd hyr.symm (of_decide_eq_false (hc r hm))
    ·exact g
    ·have hm:s∈(q0::rs).take k:=by
      obtain ⟨h1,rfl⟩:=List.getElem?_eq_some_iff.1 hj;rw [List.mem_take_iff_getElem];exact ⟨j+1,by rw [List.length_cons];omega,rfl⟩
     exact absurd hys.symm (of_decide_eq_false (hb s hm))
   subst hkj;refine ⟨by omega,by omega,by omega,?_⟩;rw [hys,hys2];rfl
def zpb (q at_ n:Int):Bool:=decide (2000000<q∨q < -2000000) || decide (q * n+at_ < -1000000∨1000000<q * n+at_)
theorem zpc {n:Nat}{i q:Int}{z:Bool}(h:(findA n i q z).2=false):(findA n i q z).1=0∧((i=0∧z=false)∨zpb q i n=true):=by
 unfold findA at h ⊢;unfold zpb;split at h
 ·rename_i h1;rw [if_pos h1];exact ⟨rfl,.inl h1⟩
 ·rename_i h1;rw [if_neg h1];split at h
  ·rename_i h2;rw [if_pos h2];exact ⟨rfl,.inr (by rw [decide_eq_true h2];rfl)⟩
  ·rename_i h2;rw [if_neg h2];split at h
   ·rename_i h3;rw [if_pos h3];exact ⟨rfl,.inr (by rw [decide_eq_true h3,Bool.or_true])⟩
   ·cases h
theorem zpd {n:Nat}{i q:Int}{z:Bool}(h:(findA n i q z).2=true):(findA n i q z).1=q * (n:Int)+i∧¬ (i=0∧z=false)∧-1000000≤q * (n:Int)+i∧q * (n:Int)+i≤1000000:=by
 unfold findA at h ⊢;split at h
 ·cases h
 ·rename_i h1;rw [if_neg h1];split at h
  ·cases h
  ·rename_i h2;rw [if_neg h2];split at h
   ·cases h
   ·rename_i h3;rw [if_neg h3];exact ⟨rfl,h1,by omega,by omega⟩
end
section
open Go.RowKit Go.Lib Go.Shelf
attribute [local go_sem] Oper.semAt_some
theorem zpe (z:Int)(w:World)(hr:zhf w)(h:z < -9223372036854775808∨9223372036854775808≤z)(hf:Fit z) :
  Calls Tryz.prog 63 #[.string (I z)] w fun e w'=>∃ n tt N,e=.returned (.tuple #[.int .i64 n,.iface tt (.pointer (some ⟨N,0,none⟩))])∧Ext w w':=by
 have hs:(I z).size≤281474976710656:=by
  have:=zbH z hf;omega
 obtain ⟨tp,p,hv⟩:=hr;have hp:=Any.strconv_Atoi_range_var Tryz.lAtoi (I z) hs (zhh z h) tp p w hv;exact hp.mono fun e w' ⟨N,h,_,_,hb⟩=>⟨_,_,N,h,hb⟩
theorem zpf {q:Int}{n:Nat}(h:-2000000≤q∧q≤2000000)(hn:n≤60):-120000000≤q * (n:Int)∧q * (n:Int)≤120000000:=by
 have h1:(q * (n:Int)).natAbs≤2000000 * 60:=by rw [Int.natAbs_mul,Int.natAbs_natCast];exact Nat.mul_le_mul (by omega) hn
 omega
theorem zpg (q:Int)(a n:Nat)(w:World)(hrv:zhf w)(hf:Fit q)(ha:a≤60)(hn:n≤60) :
  Calls Tryz.prog 27 #[.string (I q),.int .i64 (a:Int),.int .i64 (n:Int)] w fun e w'=>e=.returned (.bool (zpb q a n))∧Ext w w':=by
 unfold zpb;rcases Classical.em (-9223372036854775808≤q∧q≤9223372036854775807) with hq | hq
 ·have h:=zaB q hq.1 hq.2 w;generalize I q=s at *;clear hf hrv;by_cases h1:2000000<q
  ·have h1b:decide (2000000<q∨q < -2000000)=true:=decide_eq_true (.inl h1);rw [h1b,Bool.true_or];have H:=hid h;clear h hq h1b;go_enter Tryz.func27,Tryz.ntmps27
   go_wp2_with fail
   refine H.out.mono ?_;rintro e w1 ⟨rfl,hx⟩;have Hx:=hid hx;clear hx;go_wp2
   go_ret
   exact ⟨rfl,Hx.out⟩
  ·by_cases h2:q < -2000000
   ·have h1b:decide (2000000<q∨q < -2000000)=true:=decide_eq_true (.inr h2);rw [h1b,Bool.true_or];have H:=hid h;clear h hq h1b;go_enter Tryz.func27,Tryz.ntmps27
    go_wp2_with fail
    refine H.out.mono ?_;rintro e w1 ⟨rfl,hx⟩;have Hx:=hid hx;clear hx;go_wp2
    go_ret
    exact ⟨rfl,Hx.out⟩
   ·have h1b:decide (2000000<q∨q < -2000000)=false:=decide_eq_false (by omega);rw [h1b,Bool.false_or];have hm:=zpf (q:=q) (n:=n) (by omega) hn;obtain ⟨hm1,hm2⟩:=hm;have hw1:IntKind.i64.wrap (q * (n:Int))=q * (n:Int):=IntWalk.i64_in _ (by omega);have hw2:IntKind.i64.wrap (q * (n:Int)+(a:Int))=q * (n:Int)+(a:Int):=IntWalk.i64_in _ (by omega);have H:=hid h;clear h hq h1b;by_cases h3:q * (n:Int)+(a:Int) < -1000000
    ·rw [decide_eq_true (.inl h3)];go_enter Tryz.func27,Tryz.ntmps27
     go_wp2_with fail
     refine H.out.mono ?_;rintro e w1 ⟨rfl,hx⟩;have Hx:=hid hx;clear hx;go_wp2
     go_ret
     exact ⟨rfl,Hx.out⟩
    ·by_cases h4:1000000<q * (n:Int)+(a:Int)
     ·rw [decide_eq_true (.inr h4)];go_enter Tryz.func27,Tryz.ntmps27
      go_wp2_with fail
      refine H.out.mono ?_;rintro e w1 ⟨rfl,hx⟩;have Hx:=hid hx;clear hx;go_wp2
      go_ret
      exact ⟨rfl,Hx.out⟩
     ·rw [decide_eq_false (by omega)];go_enter Tryz.func27,Tryz.ntmps27
      go_wp2_with fail
      refine H.out.mono ?_;rintro e w1 ⟨rfl,hx⟩;have Hx:=hid hx;clear hx;have e:(decide (q * (n:Int)+(a:Int) < -1000000) || decide (1000000<q * (n:Int)+(a:Int)))=false:=(by rw [decide_eq_false (by omega),decide_eq_false (by omega)];rfl);have E:=hid e;clear e;go_wp2
      go_ret
      exact ⟨congrArg (fun b=>Ending.returned (.bool b)) E.out,Hx.out⟩
 ·have h:=zpe q w hrv (by omega) hf;have h1b:decide (2000000<q∨q < -2000000)=true:=decide_eq_true (by omega);rw [h1b,Bool.true_or];generalize I q=s at *;have H:=hid h;clear h hq h1b hf hrv;go_enter Tryz.func27,Tryz.ntmps27
  go_wp2_with fail
  refine H.out.mono ?_;rintro e w1 ⟨n1,tt,N,rfl,hx⟩;have Hx:=hid hx;clear hx;go_wp2
  go_ret
  exact ⟨rfl,Hx.out⟩
end
end Go.Proofs.YtbkfhacmekbniaaGreatDoor
