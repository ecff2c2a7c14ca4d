/- Walks: law 31's add, times, less and reduce at numbers of any length. (Printed by wip/lbig.py.) Plain: how great the floor over the octave is; the rest; which note Find finds (law ScaleFinds). Walk: scale.collect of at most 2001 sizes, by the linear form of 2048 bits. (Printed by wip/colln.py.) -/
import Derived.Test.YtoehmpbipbbffaaGreatDoorPa32
import Derived.Test.YtoehmpbipbbffaaGreatDoorPa18
import Derived.Test.YtoehmpbipbbffaaGreatDoorPa23
import Derived.Test.YtoehmpbipbbffaaGreatDoorPa27
import Derived.Test.YtoehmpbipbbffaaGreatDoorPa30
set_option maxRecDepth 100000
set_option maxHeartbeats 800000
namespace Go.Proofs.YtoehmpbipbbffaaGreatDoor
section
open Go.RowKit Go.Lib Go.Shelf
attribute [local go_sem] Oper.semAt_some
theorem zoR {k:Nat}{r:Rat}(h:Ft k r):Ft k (r * -1):=by
 have e:r * -1=-r:=by grind
 rw [e];exact h.neg
theorem zoS : ∀ {x y:List Rat}{q:Int},zeT x (zeU y (q:Rat))=zeS x (zeU y ((-q:Int):Rat))
 | [],y,_=>by simp [zeS,zeT]
 | a::x,[],_=>by simp [zeS,zeT,zeU]
 | a::x,b::y,q=>by
  have ih:=zoS (x:=x) (y:=y) (q:=q);unfold zeS zeT zeU at ih ⊢;rw [List.map_cons,List.map_cons,List.zipWith_cons_cons,List.zipWith_cons_cons,ih];congr 1;rw [Rat.intCast_neg];grind
theorem zoT {n:Nat}{q:Int}(hk:Ft 200 ((q:Int):Rat)):∀ r∈zeU (ov n) (q:Rat),Ft 400 r:=fun r hr=>by
 unfold zeU at hr;obtain ⟨s,hs,rfl⟩:=List.mem_map.1 hr;obtain ⟨i,hi⟩:=List.getElem?_of_mem hs;rcases zio hi with ⟨_,rfl⟩ | ⟨_,rfl⟩
 ·rw [Rat.one_mul];exact hk.mono (by omega)
 ·rw [Rat.zero_mul];exact zhA.mono (by omega)
theorem zoU (va vb:Value)(x y:List Rat)(w:World)(he:Env w)(ha:Rd w va x)(hb:Rd w vb y)(hl:x.length=y.length)(hx9:x.length≤1000)(hx:∀ r∈x,Ft 400 r)(hy:∀ r∈y,Ft 400 r) :
  Calls Tryz.prog 58 #[va,vb] w fun e w'=>∃ u,e=.returned u∧zf4 w' w.heap.size u (zeS x y)∧Ext w w':=by
 obtain ⟨i0,hi,hz0,hz1,hz2⟩:=info_parts zf5;have had:=fun (a b:Rat)(h:a∈x)(k:b∈y) W (hE:Ext w W)=>zoQ a b W (he.ext hE) (hx a h) (hy b k);obtain ⟨aa,ca,rfl,_,_,hca⟩:=ha.parts;obtain ⟨ab,cb,rfl,_,_,hcb⟩:=hb.parts;have hzl:(zeS x y).length=x.length:=by unfold zeS;rw [List.length_zipWith,← hl,Nat.min_self]
 have hnx:∀ k,k<x.length→∃ a b,x[k]?=some a∧y[k]?=some b∧a∈x∧b∈y:=fun k hk=>⟨_,_,List.getElem?_eq_getElem hk,List.getElem?_eq_getElem (by omega),List.getElem_mem _,List.getElem_mem _⟩;rw [← hl];generalize hn:x.length=n at *;have Had:=hid had;have Hca:=hid hca;have Hcb:=hid hcb;have Hzl:=hid hzl;have Hnx:=hid hnx;clear ha hb he hx hy had hca hcb hzl hnx hl hn;go_enter Tryz.func58,Tryz.ntmps58
 go_wp2_with fail
 go_loopw [5,6,9] (fun v5 v6 v9 wr=>∃ k:Nat,v9=.int .i64 k∧k≤n∧wr.ownsRow w.heap.size 57 2 v5 k (rcs ((zeS x y).take k))∧Hid (Ext w wr)) (fun _ _ v9 _=>n - (zag v9).toNat)
 case atStart=>exact ⟨0,rfl,Nat.zero_le _,World.ownsRow_nil w _ _ 2,hid (Ext.refl _)⟩
 case round =>
  obtain ⟨k,rfl,hk,ho,HE⟩:=hrel;obtain ⟨a5,c5,rfl⟩:=zel ho;by_cases hkn:k<n
  ·obtain ⟨a,b,hxa,hyb,hma,hmb⟩:=Hnx.out k hkn;obtain ⟨ba,oa,rfl,h0,h1⟩:=Hca.out k a hxa;obtain ⟨bb,ob,rfl,h2,h3⟩:=Hcb.out k b hyb;have htk:=zgF hxa hyb;have hcl:=fun W (hE:Ext w W)=>Had.out a b hma hmb W hE;unfold Rv at hcl;generalize hs1:I (a+b).num=s1 at *;generalize hs2:I (((a+b).den:Nat):Int)=s2 at *;have hrn:rcs ((zeS x y).take (k+1))=rcs ((zeS x y).take k)++[.string s1,.string s2]:=(by rw [htk,zf1,hs1,hs2]);have Hrn:=hid hrn;clear hrn hs1 hs2 htk;generalize I a.num=sa at *;generalize I (a.den:Int)=sc at *;generalize I b.num=sb at *;generalize I (b.den:Int)=sd at *;have hk0:(0:Int)≤(k:Int):=(by omega);have hk1:(k:Int)<(n:Int):=(by omega);have c0:=HE.out.cell h0;have c1:=HE.out.cell h1;have c2:=HE.out.cell h2;have c3:=HE.out.cell h3;have hm3:k+1≤maxLen:=(by unfold maxLen;omega);have hm4:(k+1) * 32≤140737488355328:=(by omega);have hS:=fun W (h:Ext w W)=>(⟨h,h.cell h0,h.cell h1,h.cell h2,h.cell h3⟩:Ext w W∧W.cell? _=_∧W.cell? _=_∧W.cell? _=_∧W.cell? _=_);have HS:=hid hS;have Hcl:=hid hcl;have Ho:=hid ho;clear hS hcl ho h0 h1 h2 h3 hxa hyb hma hmb;go_wp2_with fail
   go_region_held3 (fun w'=>Ext w w'∧w'.cell? ⟨ba,oa+k * 2,none⟩=some (.string sa)∧w'.cell? ⟨ba,oa+k * 2+1,none⟩=some (.string sc)∧w'.cell? ⟨bb,ob+k * 2,none⟩=some (.string sb)∧w'.cell? ⟨bb,ob+k * 2+1,none⟩=some (.string sd))
    (first | with_reducible exact HS.out _ HEV.out | with_reducible exact HS.out _ (HEA.out.alloc _) | with_reducible exact HS.out _ HEA.out | with_reducible exact HS.out _ HE.out.drew)
    (first
     | (have hpv:=HEA;clear hpv;refine step_append_lies _ rfl (.tmp 12) (.tmp 22) 32 rfl w.heap.size 57 i0 (.agg #[.string ByteArray.empty,.string ByteArray.empty]) 2 32 Tryz.underlying32 hi hz0 hz1 hz2 rfl (by decide) (.slice a5 k c5) k (rcs ((zeS x y).take k)) (by simp [Act.eval]) (HoA.out.alloc _) ⟨VA.heap.size,0,none⟩ 1 1 [.string s1,.string s2] (by simp [Act.eval]) rfl (zgE VA _ _ _) (by simp [Value.oneCell']) (by decide) hm3 hm4 (HEA.out.alloc (.cells #[.string s1,.string s2] 57)).size _ rfl ?_;intro g1 cc1 V1 hown1 hgrow1 hat1 hlt1;have HEV:=hid ((HEA.out.alloc _).grown hgrow1 fun j hj=>(World.ownsRow.lt (HoA.out.alloc (.cells #[.string s1,.string s2] 57)) j hj).1);have Hown1:=hid hown1;clear hown1 hgrow1 hat1 hlt1)
     | (go_at_call 88;refine (Hcl.out _ HE.out.drew).mono ?_;rintro e9 VA ⟨rfl,hxa⟩;have HEA:=hid (HE.out.drew.trans hxa);have HoA:=hid ((((Ext.refl wr).drew).trans hxa).own Ho.out);clear hxa))
   all_goals
    clear c0 c1 c2 c3;go_wp2_with fail
    go_roundw
    case rel=>exact ⟨k+1,by go_num,by omega,by rw [Hrn.out];exact Hown1.out,HEV⟩
    case measure=>simp [zag];omega
  ·obtain rfl:n=k:=by omega
   rw [List.take_of_length_le (by rw [Hzl.out];exact Nat.le_refl _)] at ho;have Ho:=hid ho;clear ho;go_wp2
   go_ret
   exact ⟨_,rfl,by unfold zf4;rw [Hzl.out];exact Ho.out,HE.out⟩
theorem zoV (va:Value)(x:List Rat)(q:Rat)(w:World)(he:Env w)(ha:Rd w va x)(hx9:x.length≤1000)(hx:∀ r∈x,Ft 400 r)(hq:Ft 400 q) :
  Calls Tryz.prog 34 #[va,Rv q] w fun e w'=>∃ u,e=.returned u∧zf4 w' w.heap.size u (zeU x q)∧Ext w w':=by
 obtain ⟨i0,hi,hz0,hz1,hz2⟩:=info_parts zf5;have had:=fun (a:Rat)(h:a∈x) W (hE:Ext w W)=>zoP a q W (he.ext hE) (hx a h) hq;obtain ⟨aa,ca,rfl,_,_,hca⟩:=ha.parts;have hzl:(zeU x q).length=x.length:=by unfold zeU;rw [List.length_map]
 have hnx:∀ k,k<x.length→∃ a,x[k]?=some a∧a∈x:=fun k hk=>⟨_,List.getElem?_eq_getElem hk,List.getElem_mem _⟩;have hbx:=zdV.new 57 w (.string (I q.num)) (.string (I (q.den:Int)));unfold Rv at had ⊢;generalize I q.num=sb at *;generalize I (q.den:Int)=sd at *;have hE0:Ext w (w.alloc (.cells #[.string sb,.string sd] 57)):=(Ext.refl w).alloc _;have hsz:(w.alloc (.cells #[.string sb,.string sd] 57)).heap.size=w.heap.size+1:=World.size_alloc ..;generalize hn:x.length=n at *;have Had:=hid had;have Hca:=hid hca;have Hzl:=hid hzl;have Hnx:=hid hnx;have HE0:=hid hE0;have Hbx:=hid hbx;have Hsz:=hid hsz;clear ha he hx hq had hca hzl hnx hn hE0 hbx hsz;go_enter Tryz.func34,Tryz.ntmps34
 go_wp2_with fail
 generalize hV:w.alloc (.cells #[.string sb,.string sd] 57)=V at *;go_loopw [5,6,9] (fun v5 v6 v9 wr=>∃ k:Nat,v9=.int .i64 k∧k≤n∧wr.ownsRow V.heap.size 57 2 v5 k (rcs ((zeU x q).take k))∧Hid (Ext V wr)) (fun _ _ v9 _=>n - (zag v9).toNat)
 case atStart=>exact ⟨0,rfl,Nat.zero_le _,World.ownsRow_nil V _ _ 2,hid (Ext.refl _)⟩
 case round =>
  obtain ⟨k,rfl,hk,ho,HE⟩:=hrel;obtain ⟨a5,c5,rfl⟩:=zel ho;by_cases hkn:k<n
  ·obtain ⟨a,hxa,hma⟩:=Hnx.out k hkn;obtain ⟨ba,oa,rfl,h0,h1⟩:=Hca.out k a hxa;have htk:=zgG q hxa;have hcl:=fun W (hE:Ext w W)=>Had.out a hma W hE;generalize hs1:I (a * q).num=s1 at *;generalize hs2:I (((a * q).den:Nat):Int)=s2 at *;have hrn:rcs ((zeU x q).take (k+1))=rcs ((zeU x q).take k)++[.string s1,.string s2]:=(by rw [htk,zf1,hs1,hs2]);have Hrn:=hid hrn;clear hrn hs1 hs2 htk;generalize I a.num=sa at *;generalize I (a.den:Int)=sc at *;have hk0:(0:Int)≤(k:Int):=(by omega);have hk1:(k:Int)<(n:Int):=(by omega);have h0:=HE0.out.cell h0;have h1:=HE0.out.cell h1;have c0:=HE.out.cell h0;have c1:=HE.out.cell h1;have c2:=(Hbx.out.ext HE.out).c0;have c3:=(Hbx.out.ext HE.out).c1;have hm3:k+1≤maxLen:=(by unfold maxLen;omega);have hm4:(k+1) * 32≤140737488355328:=(by omega);have hS:=fun W (h:Ext V W)=>(⟨h,h.cell h0,h.cell h1,(Hbx.out.ext h).c0,(Hbx.out.ext h).c1⟩:Ext V W∧W.cell? _=_∧W.cell? _=_∧W.cell? _=_∧W.cell? _=_);have HS:=hid hS;have Hcl:=hid hcl;have Ho:=hid ho;clear hS hcl ho h0 h1 hxa hma;go_wp2_with fail
   go_region_held3 (fun w'=>Ext V w'∧w'.cell? ⟨ba,oa+k * 2,none⟩=some (.string sa)∧w'.cell? ⟨ba,oa+k * 2+1,none⟩=some (.string sc)∧w'.cell? ⟨w.heap.size,0,none⟩=some (.string sb)∧w'.cell? ⟨w.heap.size,1,none⟩=some (.string sd))
    (first | with_reducible exact HS.out _ HEV.out | with_reducible exact HS.out _ (HEA.out.alloc _) | with_reducible exact HS.out _ HEA.out | with_reducible exact HS.out _ HE.out.drew)
    (first
     | (have hpv:=HEA;clear hpv;refine step_append_lies _ rfl (.tmp 12) (.tmp 19) 32 rfl V.heap.size 57 i0 (.agg #[.string ByteArray.empty,.string ByteArray.empty]) 2 32 Tryz.underlying32 hi hz0 hz1 hz2 rfl (by decide) (.slice a5 k c5) k (rcs ((zeU x q).take k)) (by simp [Act.eval]) (HoA.out.alloc _) ⟨VA.heap.size,0,none⟩ 1 1 [.string s1,.string s2] (by simp [Act.eval]) rfl (zgE VA _ _ _) (by simp [Value.oneCell']) (by decide) hm3 hm4 (HEA.out.alloc (.cells #[.string s1,.string s2] 57)).size _ rfl ?_;intro g1 cc1 V1 hown1 hgrow1 hat1 hlt1;have HEV:=hid ((HEA.out.alloc _).grown hgrow1 fun j hj=>(World.ownsRow.lt (HoA.out.alloc (.cells #[.string s1,.string s2] 57)) j hj).1);have Hown1:=hid hown1;clear hown1 hgrow1 hat1 hlt1)
     | (go_at_call 63;refine (Hcl.out _ (HE0.out.trans HE.out.drew)).mono ?_;rintro e9 VA ⟨rfl,hxa⟩;have HEA:=hid (HE.out.drew.trans hxa);have HoA:=hid ((((Ext.refl wr).drew).trans hxa).own Ho.out);clear hxa))
   all_goals
    clear c0 c1 c2 c3;go_wp2_with fail
    go_roundw
    case rel=>exact ⟨k+1,by go_num,by omega,by rw [Hrn.out];exact Hown1.out,HEV⟩
    case measure=>simp [zag];omega
  ·obtain rfl:n=k:=by omega
   rw [List.take_of_length_le (by rw [Hzl.out];exact Nat.le_refl _)] at ho;have Ho:=hid ho;clear ho;go_wp2
   go_ret
   exact ⟨_,rfl,zah (by rw [Hzl.out];exact Ho.out) HE0.out.size,HE0.out.trans HE.out⟩
theorem zoW (va vb:Value)(x y:List Rat)(w:World)(he:Env w)(ha:Rd w va x)(hb:Rd w vb y)(hl:x.length=y.length)(hx9:x.length≤1000)(hx:∀ r∈x,Ft 400 r)(hy:∀ r∈y,Ft 400 r) :
  Calls Tryz.prog 28 #[va,vb] w fun e w'=>∃ u,e=.returned u∧zf4 w' w.heap.size u (zeT x y)∧Ext w w':=by
 have hof:=fun W (hE:Ext w W)=>zgC (-1) 1 W (he.ext hE) (by decide) (by decide) (by decide);rw [zgH] at hof;have hti:=fun W (hE:Ext w W)=>zoV vb y (-1) W (he.ext hE) (hE.rd hb) (by omega) hy zhX;have had:=fun W vc (hE:Ext w W)(hc:Rd W vc (zeU y (-1)))=>zoU va vc x (zeU y (-1)) W (he.ext hE) (hE.rd ha) hc (by unfold zeU;rw [List.length_map];exact hl) hx9 hx (fun r hr=>by
  unfold zeU at hr;obtain ⟨s,hs,rfl⟩:=List.mem_map.1 hr;exact zoR (hy s hs))
 rw [zgI] at had;obtain ⟨aa,ca,rfl,_,_,_⟩:=ha.parts;obtain ⟨ab,cb,rfl,_,_,_⟩:=hb.parts;rw [hl] at *;generalize y.length=n at *;unfold Rv at hof hti;generalize I (-1:Rat).num=s1 at *;generalize I (((-1:Rat).den:Nat):Int)=s2 at *;have Hof:=hid hof;have Hti:=hid hti;have Had:=hid had;clear ha hb he hx hy hof hti had hl;go_enter Tryz.func28,Tryz.ntmps28
 go_wp2_with fail
 refine (Hof.out w (Ext.refl w)).mono ?_;rintro e w1 ⟨rfl,hx1⟩;have Hx1:=hid hx1;clear hx1;go_wp2_with fail
 refine (Hti.out w1 Hx1.out).mono ?_;rintro e w2 ⟨u2,rfl,ho2,hx2⟩;obtain ⟨a2,c2,rfl,_,_,_⟩:=ho2.rd.parts;have had2:=Had.out w2 _ (Hx1.out.trans hx2) ho2.rd;have Had2:=hid had2;have Hx2:=hid (Hx1.out.trans hx2);clear had2 hx2 ho2;generalize (zeU y (-1)).length=n2 at *;go_wp2_with fail
 refine Had2.out.mono ?_;rintro e w3 ⟨u3,rfl,ho3,hx3⟩;have Ho3:=hid (ho3.mono Hx2.out.size);have Hx3:=hid (Hx2.out.trans hx3);clear ho3 hx3;go_wp2
 go_ret
 exact ⟨_,rfl,Ho3.out,Hx3.out⟩
theorem zoX (vp vb vx:Value)(p:List Int)(a0:Rat)(tl:List Rat)(w:World)(he:Env w)(hp:Sl w vp (zak p))(hb:Rd w vb (ov tl.length))(hxv:Rd w vx (a0::tl))(hpe:zee p=0)(hpr:Pr p (tl.length+1))(hf:∀ q∈a0::tl,Ft 30 q)(hrv:zgJ w)(hk:Ft 200 ((flN p (a0::tl):Int):Rat)) :
  Calls Tryz.prog 27 #[vp,vb,vx] w fun e w'=>∃ u,e=.returned (.tuple #[u,.string (I (flN p (a0::tl)))])∧zf4 w' w.heap.size u (zeS (a0::tl) (zeU (ov tl.length) ((-flN p (a0::tl):Int):Rat)))∧Ext w w':=by
 have hpl3:tl.length≤2:=by rcases hpr with ⟨_,h⟩ | ⟨_,h⟩ <;> omega
 have hfl:=fun W (hE:Ext w W)=>zlQ vp vx vb p a0 tl W (he.ext hE) (hE.sl hp) (hE.rd hxv) (hE.rd hb) hpe hpr hf (hrv.ext hE);have hti:=fun W (hE:Ext w W)=>zoV vb (ov tl.length) ((flN p (a0::tl):Int):Rat) W (he.ext hE) (hE.rd hb) (by rw [zit];omega) (fun r hr=>(zis r hr).mono (by omega)) (hk.mono (by omega));rw [zf9] at hti;have hle:=fun W vc (hE:Ext w W)(hc:Rd W vc (zeU (ov tl.length) ((flN p (a0::tl):Int):Rat)))=>zoW vx vc (a0::tl) (zeU (ov tl.length) ((flN p (a0::tl):Int):Rat)) W (he.ext hE) (hE.rd hxv) hc (by unfold zeU;rw [List.length_map,zit];rfl) (by rw [List.length_cons];omega) (fun r hr=>(hf r hr).mono (by omega)) (zoT hk);rw [zoS] at hle;generalize hzz:zeS (a0::tl) (zeU (ov tl.length) ((-flN p (a0::tl):Int):Rat))=zz at *;clear hzz;have hne:((I (flN p (a0::tl))).toList == [])=false:=by
  have h1:=zbq (flN p (a0::tl));have h2:0<(I (flN p (a0::tl))).size:=by
   rcases (by omega:flN p (a0::tl)<0∨0≤flN p (a0::tl)) with g | g
   ·obtain ⟨m,hm⟩:∃ m:Nat,flN p (a0::tl)=-(m:Int):=⟨(flN p (a0::tl)).natAbs,by omega⟩;rw [hm,zbp m (by omega)];omega
   ·obtain ⟨m,hm⟩:∃ m:Nat,flN p (a0::tl)=(m:Int):=⟨(flN p (a0::tl)).toNat,by omega⟩;rw [hm,zav,zau];exact nDigits_pos m
  cases h3:(I (flN p (a0::tl))).toList with
  | nil =>
   exfalso
   have:(I (flN p (a0::tl))).data.toList=[]:=by rw [← Lib.toList_data];exact h3
   have h4:(I (flN p (a0::tl))).size=0:=by
    show (I (flN p (a0::tl))).data.size=0;rw [← Array.length_toList,this];rfl
   omega
  | cons a t=>rfl
 have hne2:¬ (I (flN p (a0::tl))).toList=[]:=fun e=>by rw [e] at hne;simp at hne
 obtain ⟨ap,cp,rfl,_,_,_⟩:=hp.parts;obtain ⟨ab,cb,rfl,_,_,_⟩:=hb.parts;obtain ⟨ax,cx,rfl,_,_,_⟩:=hxv.parts;generalize (zak p).length=n1 at *;generalize (ov tl.length).length=n2 at *;generalize (a0::tl).length=n3 at *;generalize I (flN p (a0::tl))=s at *;have Hfl:=hid hfl;have Hti:=hid hti;have Hle:=hid hle;clear he hp hb hxv hfl hti hle hpe hpr hf hrv hk hpl3;go_enter Tryz.func27,Tryz.ntmps27
 go_wp2_with fail
 refine (Hfl.out w (Ext.refl w)).mono ?_;rintro e w1 ⟨rfl,hx1⟩;have Hx1:=hid hx1;clear hx1;go_wp2_with fail
 refine (Hti.out w1 Hx1.out).mono ?_;rintro e w2 ⟨u2,rfl,ho2,hx2⟩;obtain ⟨a2,c2,rfl,_,_,_⟩:=ho2.rd.parts;have hle2:=Hle.out w2 _ (Hx1.out.trans hx2) ho2.rd;have Hle2:=hid hle2;have Hx2:=hid (Hx1.out.trans hx2);clear hle2 hx2 ho2;generalize (zeU (ov tl.length) ((flN p (a0::tl):Int):Rat)).length=n4 at *;go_wp2_with fail
 refine Hle2.out.mono ?_;rintro e w3 ⟨u3,rfl,ho3,hx3⟩;have Ho3:=hid (ho3.mono Hx2.out.size);have Hx3:=hid (Hx2.out.trans hx3);clear ho3 hx3;go_wp2
 go_ret2
 exact ⟨_,rfl,Ho3.out,Hx3.out⟩
end
section
open Go.RowKit Go.Lib
theorem zoY {A B C K L M5 D H M:Int}(hK:0<K)(hH:0≤H)(hD:1≤D)(hA:-H≤A∧A≤H)(hB:-H≤B∧B≤H)(hC:-H≤C∧C≤H)(hL0:0≤L)(hL:L≤2 * K)(h50:0≤M5)(h5:M5≤3 * K)(hM:M=A * K+B * L+C * M5):-(6 * H)≤M / (K * D)∧M / (K * D)≤6 * H:=by
 have hKD:0<K * D:=Int.mul_pos hK (by omega);have a1:=Int.mul_le_mul_of_nonneg_right hA.2 (Int.le_of_lt hK);have a2:=Int.mul_le_mul_of_nonneg_right hA.1 (Int.le_of_lt hK);have b1:=Int.mul_le_mul_of_nonneg_right hB.2 hL0;have b2:=Int.mul_le_mul_of_nonneg_right hB.1 hL0;have c1:=Int.mul_le_mul_of_nonneg_right hC.2 h50;have c2:=Int.mul_le_mul_of_nonneg_right hC.1 h50;have l1:=Int.mul_le_mul_of_nonneg_left hL hH;have l2:=Int.mul_le_mul_of_nonneg_left h5 hH;have d1:H * K≤H * (K * D):=Int.mul_le_mul_of_nonneg_left (by have:=Int.mul_le_mul_of_nonneg_left hD (Int.le_of_lt hK);omega) hH;rw [Int.neg_mul] at a2 b2 c2;rw [show H * (2 * K)=2 * (H * K) by rw [← Int.mul_assoc,Int.mul_comm H 2,Int.mul_assoc]] at l1;rw [show H * (3 * K)=3 * (H * K) by rw [← Int.mul_assoc,Int.mul_comm H 3,Int.mul_assoc]] at l2;constructor
 ·apply Int.le_ediv_of_mul_le hKD;rw [Int.neg_mul,Int.mul_assoc];omega
 ·apply Int.ediv_le_of_le_mul hKD;rw [Int.mul_assoc];omega
theorem zoZ {p:List Int}{a:Rat}{tl:List Rat}(hp:Pr p (a::tl).length)(hf:∀ q∈a::tl,Ft 30 q):(flN p (a::tl)).natAbs≤6 * HH:=by
 obtain ⟨hw,_⟩:=zlO hp hf;obtain ⟨B,C,hM,-,hbd,-⟩:=zkU hp (dn (a::tl));obtain ⟨hB,hC⟩:=hbd HH fun r hr=>hw r (List.mem_cons_of_mem _ hr);have hA:=hw a (List.mem_cons_self ..);have e1:zkE (tms p (dn (a::tl)) (a::tl))=zkE (p.zip (fcd (dn (a::tl)) (a::tl))):=(zkV 0 _).2.2;have hK:0<KK:=by decide +kernel
 have h3:(L3:Int)≤2 * KK:=by decide +kernel
 have h5:(L5:Int)≤3 * KK:=by decide +kernel
 have hd:=zeR (a::tl);unfold flN;rw [e1];have:=zoY (H:=(HH:Int)) (D:=((dn (a::tl):Nat):Int)) hK (by omega) (by omega) (by omega) (by omega) (by omega) (by omega) h3 (by omega) h5 hM;omega
theorem zpa {q:Int}(h:q.natAbs≤6 * HH):Ft 200 ((q:Int):Rat):=by
 have h1:6 * HH<10 ^ 122:=by decide +kernel
 refine ⟨?_,?_⟩
 ·rw [Rat.num_intCast];exact Nat.le_trans (Dec.nDigits_le (k:=122) (by decide) (Nat.lt_of_le_of_lt h h1)) (by decide)
 ·rw [Rat.den_intCast];exact Dec.nDigits_le (by decide) (by decide)
theorem zpb {q:Int}(h:q.natAbs≤6 * HH):Fit q:=by
 have:=(zpa h).1;rw [Rat.num_intCast] at this;exact Nat.le_trans this (by decide)
theorem zpc {a:Rat}{tl:List Rat}{q:Int}:zeS (a::tl) (zeU (ov tl.length) ((-q:Int):Rat))=shf (-q) (a::tl):=by
 have hc:∀ (x y:List Rat),zeS x y=zeS y x:=fun x y=>by unfold zeS;rw [List.zipWith_comm];congr 1;funext a b;exact Rat.add_comm _ _
 rw [hc,zji,show tl.length+1=(a::tl).length from rfl,zjj]
end
section
open Go.RowKit Go.Lib Go.Shelf
attribute [local go_sem] Oper.semAt_some
def zpd (W:World)(p:List Int)(l:List (List Rat))(k:Nat)(v:Value)(wr:World):Prop:=∃ out:List Qw,QwM wr W.heap.size W.heap.size v out∧out.map Qw.x=zme p [] (l.take k)∧out.length≤k∧Ext W wr
theorem zpd.skip {W wr w':World}{p:List Int}{l:List (List Rat)}{k:Nat}{v:Value}{x:List Rat}{out:List Qw}(hq:QwM wr W.heap.size W.heap.size v out)(hm:out.map Qw.x=zme p [] (l.take k))(hl:out.length≤k)(hE:Ext W wr)(hx:Ext wr w')(hr:l[k]?=some x)(hs:rsN p x=zer p.length∨rsN p x∈out.map Qw.x):zpd W p l (k+1) v w' :=
 ⟨out,hx.qwM hq,by rw [zmg hr,zmd,if_pos (by rw [← hm];exact hs)];exact hm,by omega,hE.trans hx⟩
theorem zpd.more {W wr V:World}{p:List Int}{l:List (List Rat)}{k:Nat}{v v7 u:Value}{x:List Rat}{out:List Qw}{o:Obj}(hE:Ext W wr)(hq:QwM wr W.heap.size W.heap.size v out)(hm:out.map Qw.x=zme p [] (l.take k))(hl:out.length≤k)(hr:l[k]?=some x)(hs:¬ (rsN p x=zer p.length∨rsN p x∈out.map Qw.x))(ho:zf4 wr W.heap.size u (rsN p x))
  (hown:V.ownsRow W.heap.size 32 1 v7 (out.length+1) (qwc out++[u])) (hgrow:(wr.alloc o).grownBy V v.ownBlock):zpd W p l (k+1) v7 V:=by
 have:=QwM.more (r:=⟨_,u,zf8 ho.rd⟩) hE hq ho hown hgrow;exact ⟨_,this.1,by rw [zmg hr,zmd,if_neg (by rw [← hm];exact hs),List.map_append,hm];rfl,by rw [List.length_append];simp;omega,this.2⟩
theorem zpe {p:List Int}{l:List (List Rat)}{out:List Qw}{ord:List Nat}{getX:Nat→List Rat}(h:Le p l)(hperm:ord.Perm (List.range out.length))(hsort:ord.Pairwise fun i k=>zo2 p out i≤zo2 p out k)(hfull:out.map Qw.x=zme p [] l)(hg:getX=fun i=>((out[i]?).map Qw.x).getD []):zmq p l (ord.map getX++[ov (p.length - 1)]):=by
 have e:(List.range out.length).map getX=out.map Qw.x:=by
  apply List.ext_getElem?;intro i;rw [List.getElem?_map,List.getElem?_map,hg];rcases Nat.lt_or_ge i out.length with g | g
  ·rw [List.getElem?_range g,List.getElem?_eq_getElem g];simp [g]
  ·rw [List.getElem?_eq_none (by simpa using g),List.getElem?_eq_none g];rfl
 refine zmt h ?_ ?_
 ·rw [← hfull,← e];exact hperm.map getX
 ·rw [List.pairwise_map];refine hsort.imp fun {a b} g=>?_;rw [hg];exact g
def zpf (w:World)(p:List Int)(l:List (List Rat))(e:Ending)(w':World):Prop :=
 (60≤(zme p [] l).length∧e=.returned (.tuple #[.agg #[.slice none 0 0,.slice none 0 0],.int .i64 4])∧Ext w w')∨((zme p [] l).length<60∧∃ v out,e=.returned (.tuple #[v,.int .i64 0])∧ScO w' w.heap.size v p out∧zmq p l (out.map Qw.x)∧Ext w w')
theorem zpg (vp vb vl:Value)(p:List Int)(rs:List Qw)(w:World)(he:Env w)(hp:Sl w vp (zak p))(hb:Rd w vb (ov (p.length - 1)))(hl:RdM w vl rs)(hL:Le p (rs.map Qw.x))(hrv:zgJ w)(hn9:rs.length≤2001) :
  Calls Tryz.prog 23 #[vp,vb,vl] w fun e w'=>zpf w p (rs.map Qw.x) e w':=by
 obtain ⟨j0,hj,hy0,hy1,hy2⟩:=info_parts zf6;have hpe:zee p=0∧p.length≤100∧0<p.length:=by rcases hL.pr with ⟨e,_⟩ | ⟨e,_⟩ <;> rw [e] <;> decide
 have hz:=fun W (hE:Ext w W)=>zhT vp p W (he.ext hE) (hE.sl hp) hpe.1;have hred:=fun (r:Qw)(hr:r∈rs) W (hE:Ext w W)=>(show Calls Tryz.prog 41 #[vp,vb,r.u] W fun e w'=>∃ g,e=.returned (.tuple #[.slice (some ⟨g,0,none⟩) p.length p.length,.string (I (flN p r.x)),.int .i64 0])∧zf4 w' W.heap.size (.slice (some ⟨g,0,none⟩) p.length p.length) (rsN p r.x)∧Ext W w' from by
  have hm:=List.mem_map_of_mem (f:=Qw.x) hr;have hx:=hL.len _ hm;obtain ⟨a,tl,e⟩:=zlZ (p:=p) (x:=r.x) (by rw [hx];exact hL.pr);have hrd:=hE.rd (hl.2 r hr);have hft:=hL.ft _ hm;have hre:=hL.res _ hm;rw [e] at hrd hft hx hre ⊢;have hlt:tl.length=p.length - 1:=by rw [List.length_cons] at hx;omega
  have hpr1:Pr p (tl.length+1):=by rw [← List.length_cons (a:=a),hx];exact hL.pr
  have hb2:=zoZ hpr1 hft;unfold rsN at hre ⊢;rw [← zpc] at hre ⊢;exact zlS vp r.u vb p a tl W (he.ext hE) (hE.sl hp) hrd (hE.rd (by rw [hlt];exact hb)) hpe.1 hpr1 hft (hrv.ext hE) ((zpa (by rw [Int.natAbs_neg];exact hb2)).mono (by omega)) (zpb hb2) hre)
 have hrl:∀ r∈rs,(rsN p r.x).length=p.length:=fun r hr=>by unfold rsN;rw [zja];exact hL.len _ (List.mem_map_of_mem hr)
 have heq:=fun W va vb x y (ha:Rd W va x)(hb:Rd W vb y)(hx:x.length=p.length)(hy:y.length=p.length)=>zj8 va vb x y W ha hb (by omega) (by omega);have hcon:=fun W bx va x v out (h0:W.cell? ⟨bx,0,none⟩=some va)(ha:Rd W va x)(hx:x.length=p.length)(hv:RdM W v out)(ho:out.length≤2001)(hol:∀ r∈out,r.x.length=p.length)=>zjH 51 #[.pointer (some ⟨bx,0,none⟩)] v out (fun y=>decide (x=y)) W hv.1 (by omega) zjM (fun W2 hE r hr=>zjL va r.u x r.x bx W2 (hE.cell h0) (hE.rd ha) (hE.rd (hv.2 r hr)) (by omega) (by have:=hol r hr;omega));have hone:=fun (r:Qw)(hr:r∈rs)=>(hl.2 r hr).parts;have hlen:=fun (r:Qw)(hr:r∈rs)=>hL.len _ (List.mem_map_of_mem (f:=Qw.x) hr);obtain ⟨ap,cp,rfl,_,_,_⟩:=hp.parts;obtain ⟨ab,cb,rfl,_,_,_⟩:=hb.parts;obtain ⟨al,cl,rfl,_,_,hc⟩:=hl.1.parts;rw [zam] at *;rw [zf7] at *;have hovl:(ov (p.length - 1)).length=p.length:=by rw [zit];omega
 simp only [hovl] at hred hb ⊢;generalize hn:rs.length=n at *;have Hn:=hid hn;have hE0:Ext w (w.alloc (.cells #[.slice none 0 0,.slice none 0 0] 36)):=(Ext.refl w).alloc _;have b0:=zdV.new 36 w (.slice none 0 0) (.slice none 0 0);have Hp:=hid hp;have Hb:=hid hb;have Hl:=hid hl;have HL:=hid hL;have He:=hid he;have Hrv:=hid hrv;have Hpe:=hid hpe;have Hz:=hid hz;have Hred:=hid hred;have Hrl:=hid hrl;have Heq:=hid heq;have Hcon:=hid hcon;have Hone:=hid hone;have Hlen:=hid hlen;have Hc:=hid hc;have HE0:=hid hE0;have B0:=hid b0;clear hp hb hl hL he hrv hpe hz hred hrl heq hcon hone hlen hc hE0 b0 hovl hn;go_enter Tryz.func23,Tryz.ntmps23
 go_wp2_with fail
 refine (Hz.out _ HE0.out).mono ?_;rintro e w1 ⟨rfl,hoz,hx1⟩;obtain ⟨gz,hgz⟩:∃ g,g=(w.alloc (.cells #[.slice none 0 0,.slice none 0 0] 36)).heap.size:=⟨_,rfl⟩;rw [← hgz] at hoz ⊢;clear hgz;have Hoz:=hid hoz.rd;have Hx1:=hid hx1;have Hx1w:=hid hx1;clear hoz hx1;go_wp2_with fail
 go_loopw [10,12,13,14,15,28] (fun v10 v12 v13 v14 v15 v28 wr=>∃ k:Nat,v28=.int .i64 k∧k≤n∧zpd w1 p (rs.map Qw.x) k v10 wr) (fun _ _ _ _ _ v28 _=>n - (zag v28).toNat)
 case atStart=>exact ⟨0,rfl,Nat.zero_le _,⟨[],QwM.nil _ _ _,rfl,Nat.le_refl _,Ext.refl _⟩⟩
 case round =>
  obtain ⟨k,rfl,hk,⟨out,hq,hmq,hlq,hE⟩⟩:=hrel;obtain ⟨a10,c10,rfl⟩:=zel hq.1;have hEw:=(HE0.out.trans Hx1.out).trans hE;by_cases hkn:k<n
  ·obtain ⟨r,hr⟩:∃ r,rs[k]?=some r:=⟨_,List.getElem?_eq_getElem (by rw [Hn.out];exact hkn)⟩;have hmem:=List.mem_of_getElem? hr;obtain ⟨b,off,rfl,hc0⟩:=Hc.out k r.u (by unfold qwc;rw [List.getElem?_map,hr];rfl);obtain ⟨ar,cr,hru,_,_,_⟩:=Hone.out r hmem;have hcu:=hEw.cell hc0;have hrl:r.x.length=p.length:=Hlen.out r hmem;rw [hru,hrl] at hcu;have hrd:=Hred.out r hmem wr hEw;rw [hru,hrl] at hrd;have hrrl:=Hrl.out r hmem;have hrx:(rs.map Qw.x)[k]?=some r.x:=(by rw [List.getElem?_map,hr];rfl);have hol:∀ s∈out,s.x.length=p.length:=fun s hs=>by
    have h1:=List.mem_map_of_mem (f:=Qw.x) hs;rw [hmq] at h1;rcases (zmi _ _ _).1 h1 with e | ⟨_,z,hz,e⟩
    ·cases e
    ·rw [e];unfold rsN;rw [zja];exact HL.out.len z (List.mem_of_mem_take hz)
   have hk0:(0:Int)≤(k:Int):=(by omega);have hk1:(k:Int)<(n:Int):=(by omega);generalize I (flN p r.x)=sfl at *;have Hrd:=hid hrd;have Hrrl:=hid hrrl;have Hrx:=hid hrx;have Hol:=hid hol;have Hq:=hid hq;have Hmq:=hid hmq;have Hlq:=hid hlq;have HE:=hid hE;have HEw:=hid hEw;clear hrd hrrl hrx hol hq hmq hE hEw hrl hru hc0 hmem hr;go_wp2_with fail
   refine Hrd.out.mono ?_;rintro e w3 ⟨g3,rfl,ho3,hx3⟩;have hbx:(w3.alloc (.cells #[.slice (some ⟨g3,0,none⟩) p.length p.length] 32)).cell? ⟨w3.heap.size,0,none⟩=some (.slice (some ⟨g3,0,none⟩) p.length p.length):=(by unfold World.cell?;rw [World.alloc_heap_new w3 _];rfl);have hE4:Ext wr (w3.alloc (.cells #[.slice (some ⟨g3,0,none⟩) p.length p.length] 32)):=hx3.alloc _;have ho4:zf4 (w3.alloc (.cells #[.slice (some ⟨g3,0,none⟩) p.length p.length] 32)) w1.heap.size (.slice (some ⟨g3,0,none⟩) p.length p.length) (rsN p r.x):=(((Ext.refl w3).alloc _).ownQ ho3).mono HE.out.size;have heq4:=Heq.out _ _ (.slice (some ⟨gz,0,none⟩) p.length p.length) _ _ ho4.rd ((HE.out.trans hE4).rd Hoz.out) Hrrl.out List.length_replicate;have Hbx:=hid hbx;have Ho4:=hid ho4;have HE4:=hid hE4;have Heq4:=hid heq4;clear hx3 ho3 hE4 hcu hbx ho4 heq4;go_wp2_with fail
   generalize hW4:w3.alloc (.cells #[.slice (some ⟨g3,0,none⟩) p.length p.length] 32)=W4 at *;refine Heq4.out.mono ?_;rintro e w5 ⟨rfl,hx5⟩;have hb5:=hx5.cell Hbx.out;have hE5:=HE4.out.trans hx5;have ho5:=hx5.ownQ Ho4.out;by_cases hzr:rsN p r.x=List.replicate p.length 0
   ·rw [decide_eq_true hzr];have Hzr:=hid hzr;have HE5:=hid hE5;clear hzr hb5 hE5 ho5 hx5;go_wp2_with fail
    go_roundw
    case rel=>exact ⟨k+1,by go_num,by omega,zpd.skip Hq.out Hmq.out Hlq.out HE.out HE5.out Hrx.out (.inl Hzr.out)⟩
    case measure=>simp [zag];omega
   ·rw [decide_eq_false hzr];have hcn:=Hcon.out w5 w3.heap.size _ (rsN p r.x) _ out hb5 ho5.rd Hrrl.out (hE5.rdM Hq.out.rd) (by omega) Hol.out;have Hzr:=hid hzr;have HE5:=hid hE5;have Ho5:=hid ho5;have Hcn:=hid hcn;have Hb5:=hid hb5;clear hzr hb5 hE5 ho5 hx5 hcn;go_wp2_with fail
    refine Hcn.out.mono ?_;rintro e w6 ⟨rfl,hx6⟩;have hE6:=HE5.out.trans hx6;have ho6:=hx6.ownQ Ho5.out;have hb6:=hx6.cell Hb5.out;have hany:(out.any fun y=>decide (rsN p r.x=y.x))=decide (rsN p r.x∈out.map Qw.x):=by
     rw [Bool.eq_iff_iff,List.any_eq_true,decide_eq_true_eq,List.mem_map];constructor
     ·rintro ⟨y,hy,e⟩;exact ⟨y,hy,(of_decide_eq_true e).symm⟩
     ·rintro ⟨y,hy,e⟩;exact ⟨y,hy,decide_eq_true e.symm⟩
    rw [hany];clear hany;by_cases hin:rsN p r.x∈out.map Qw.x
    ·rw [decide_eq_true hin];have Hin:=hid hin;have HE6:=hid hE6;clear hin hb6 hE6 ho6 hx6;go_wp2_with fail
     go_roundw
     case rel=>exact ⟨k+1,by go_num,by omega,zpd.skip Hq.out Hmq.out Hlq.out HE.out HE6.out Hrx.out (.inr Hin.out)⟩
     case measure=>simp [zag];omega
    ·rw [decide_eq_false hin];have hq6:=hE6.qwM Hq.out;have hqo:=hq6.1;have hE16:=HE.out.trans hE6;have hbase:=hE16.size;have hm3:out.length+1≤maxLen:=(by unfold maxLen;omega);have hm4:(out.length+1) * 24≤140737488355328:=(by omega);have Hin:=hid hin;have HE16:=hid hE16;have Hq6:=hid hq6;have Ho6:=hid ho6;clear hin hE6 ho6 hx6 hE16 hq6;go_wp2_with (at_builtin;refine wpList_append_own _ rfl _ _ 34 rfl w1.heap.size 32 j0 (.slice none 0 0) 1 24 Tryz.underlying34 hj hy0 hy1 hy2 rfl (by decide) _ _ _ rfl (hqo.alloc _) ⟨w6.heap.size,0,none⟩ 1 1 [.slice (some ⟨g3,0,none⟩) p.length p.length] rfl rfl (cell_one_new _ _ _) (by simp [Value.oneCell']) hm3 hm4 (by rw [World.size_alloc];omega) ?_;intro v7 V7 hown7 hgrow7 _)
     go_roundw
     case rel=>exact ⟨k+1,by go_num,by omega,zpd.more HE16.out Hq6.out Hmq.out Hlq.out Hrx.out (fun h=>h.elim Hzr.out Hin.out) Ho6.out hown7 hgrow7⟩
     case measure=>simp [zag];omega
  ·obtain rfl:n=k:=by omega
   have hall:∀ x∈out.map Qw.x,PlN p (rs.map Qw.x) x:=fun x hx=>by
    rw [hmq] at hx;rcases (zmi _ _ _).1 hx with e | ⟨_,z,hz,e⟩
    ·cases e
    ·exact .inr (.inr ⟨z,List.mem_of_mem_take hz,e⟩)
   have hfull:out.map Qw.x=zme p [] (rs.map Qw.x):=(by rw [hmq,List.take_of_length_le (by rw [List.length_map,Hn.out];exact Nat.le_refl _)]);have hcount:out.length=(zme p [] (rs.map Qw.x)).length:=(by rw [← hfull,List.length_map]);have Hcount:=hid hcount;clear hcount;by_cases h60:60≤out.length
   ·have t60:(60:Int)≤(out.length:Int):=(by omega);have hE16:=Hx1w.out.trans hE;have hK:K0 36 w wr w.heap.size:=⟨HE0.out.trans hE16,_,_,B0.out.ext hE16⟩;have k0:=hK.res.c0;have k1:=hK.res.c1;have z0:=hK.res.fz 0;have z1:=hK.res.fz 1;have HK:=hid hK;have HE:=hid hE;have HEw:=hid hEw;have Hq:=hid hq;have Hfull:=hid hfull;have Hmq:=hid hmq;have Hlq:=hid hlq;clear hK hE hE16 hEw hq hfull hmq hlq hall;go_wp2_with fail
    obtain ⟨hb6,hx6⟩:=HK.out.fin (Nat.le_refl _) (.slice none 0 0) (.slice none 0 0);have hd0:=hb6.c0;have hd1:=hb6.c1;exact bodyPost_ret (v:=.tuple #[.agg #[.slice none 0 0,.slice none 0 0],.int .i64 4]) (by simp [results,Tryz.results23,go_sem,hd0,hd1]) rfl (.inl ⟨by rw [← Hcount.out];exact h60,rfl,hx6⟩)
   have h60b:out.length<60:=(by omega);have hso:=zo5 (.slice ap p.length cp) (.slice a10 out.length c10) p out wr (He.out.ext hEw) (hEw.sl Hp.out) hq.rd (HL.out.cmpN hall) (Hrv.out.ext hEw) (by omega);have hcl:=fun W (hE:Ext w W)=>zjA (.slice ap p.length cp) p W (hE.sl Hp.out) (by have:=Hpe.out.2.1;omega) (by intro e;have:=Hpe.out.2.2;rw [e] at this;cases this);have hcq:=fun W (hE:Ext w W)=>zj9 (.slice ab p.length cb) (ov (p.length - 1)) W (hE.rd Hb.out) (by rw [zit];have:=Hpe.out.2.1;omega) (by unfold ov;simp);have t60:¬ (60:Int)≤(out.length:Int):=(by omega);have Hso:=hid hso;have Hfull:=hid hfull;have Hq:=hid hq;have Hlq:=hid hlq;have HE:=hid hE;have HEw:=hid hEw;have Hcl:=hid hcl;have Hcq:=hid hcq;clear hso hfull hq hmq hE hEw hcl hcq hall;go_wp2_with fail
   refine Hso.out.mono ?_;rintro e w5 ⟨u5,ord,rfl,hord,hx5⟩;obtain ⟨hoo,hperm,hsort⟩:=hord;obtain ⟨ao,co,rfl⟩:=zel hoo;have Hslo:=hid (zai hoo);have Hx5:=hid hx5;have Hperm:=hid hperm;have Hsort:=hid hsort;have hcl5:=Hcl.out w5 (HEw.out.trans hx5);have Hcl5:=hid hcl5;clear hoo hx5 hperm hsort hcl5;go_wp2_with fail
   refine Hcl5.out.mono ?_;rintro e w6 ⟨u6,rfl,ho6,hx6⟩;obtain ⟨a6,c6,rfl⟩:=zel ho6;have hE56:=Hx5.out.trans hx6;have Hx6:=hid (HE.out.trans hE56);have Ho6:=hid (zah ho6 (HEw.out.trans Hx5.out).size);have Hq6:=hid (hE56.qwM Hq.out);have Hslo6:=hid (hx6.sl Hslo.out);have HEw6:=hid (HEw.out.trans hE56);clear hx6 ho6 hE56;have hb7:=zdV.new 36 w6 (.slice a6 p.length c6) (.slice none 0 0);have Hb7:=hid hb7;clear hb7;have h6x:Ext w6 (w6.alloc (.cells #[.slice a6 p.length c6,.slice none 0 0] 36)):=(Ext.refl w6).alloc _;have H6x:=hid h6x;clear h6x;have hordl:ord.length=out.length:=(by have:=Hperm.out.length_eq;rwa [List.length_range] at this);have Hordl:=hid hordl;clear hordl;obtain ⟨getX,hgetX⟩:∃ getX:Nat→List Rat,getX=fun i=>((out[i]?).map Qw.x).getD []:=⟨_,rfl⟩;have HgetX:=hid hgetX;clear hgetX;go_wp2_with fail
   go_loopw [20,78] (fun v20 v78 wr=>∃ k:Nat,v78=.int .i64 k∧k≤out.length∧NtR w1.heap.size w6 w6.heap.size (.slice a6 p.length c6) ((ord.take k).map getX) wr) (fun _ v78 _=>out.length - (zag v78).toNat)
   case atStart=>exact ⟨0,rfl,Nat.zero_le _,.slice none 0 0,[],Hb7.out,QwM.nil _ _ _,rfl,H6x.out⟩
   case round =>
    obtain ⟨k,rfl,hk,⟨vn,nts,hbn,hqn,hmn,hEn⟩⟩:=hrel;by_cases hkm:k<out.length
    ·obtain ⟨i,hi⟩:∃ i,ord[k]?=some i:=⟨_,List.getElem?_eq_getElem (by rw [Hordl.out];exact hkm)⟩;have him:i<out.length:=by
      have:=Hperm.out.mem_iff.1 (List.mem_of_getElem? hi);rwa [List.mem_range] at this
     obtain ⟨s,hs⟩:∃ s,out[i]?=some s:=⟨_,List.getElem?_eq_getElem him⟩;obtain ⟨ao',co',e1,_,_,hco⟩:=Hslo6.out.parts;injection e1 with e1 e2 e3;subst e1;obtain ⟨bo,oo,rfl,hco1⟩:=hco k (.int .i64 i) (by unfold zjC;rw [List.getElem?_map,hi];rfl);obtain ⟨an',cn',f1,_,_,hcn⟩:=(zai Hq6.out.1).parts;injection f1 with f1 f2 f3;subst f1;obtain ⟨bn,on,rfl,hcn1⟩:=hcn i s.u (by unfold qwc;rw [List.getElem?_map,hs];rfl);have hso:=hEn.ownQ (Hq6.out.2 s (List.mem_of_getElem? hs));obtain ⟨as',cs,hsu,_,_,_⟩:=hso.rd.parts;rw [hsu] at hso hcn1;have c1:=hEn.cell hco1;have c2:=hEn.cell hcn1;obtain ⟨avn,cvn,rfl⟩:=zel hqn.1;have hkx:(ord.take (k+1)).map getX=(ord.take k).map getX++[s.x]:=by
      obtain ⟨hl1,e⟩:=List.getElem?_eq_some_iff.1 hi;rw [List.take_succ_eq_append_getElem hl1,List.map_append,e,HgetX.out];simp [hs]
     have hnl:nts.length=k:=by
      have:=congrArg List.length hmn;rw [List.length_map,List.length_map,List.length_take,Hordl.out] at this;omega
     have q0:=hbn.c0;have q1:=hbn.c1;have hk0:(0:Int)≤(k:Int):=(by omega);have hk1:(k:Int)<(out.length:Int):=(by omega);have hi0:(0:Int)≤(i:Int):=(by omega);have hi1:(i:Int)<(out.length:Int):=(by omega);have hm3:k+1≤maxLen:=(by unfold maxLen;omega);have hm4:(k+1) * 24≤140737488355328:=(by omega);have hqo:=hqn.1;rw [hnl] at hqo q1;have hbk:=hbn;rw [hnl] at hbk;have Hbk:=hid hbk;have H6c:=hid hcn1;have hqk:=hqn;rw [hnl] at hqk;have Hqk:=hid hqk;clear hqk;clear hbk;have hbase:=hEn.size;have z1:=hbn.fz 1;generalize s.x.length=sl at *;have Hkx:=hid hkx;have Hbn:=hid hbn;have Hqn:=hid hqn;have Hmn:=hid hmn;have HEn:=hid hEn;have Hso:=hid hso;have Hnl:=hid hnl;have Hqo:=hid hqo;clear hkx hbn hqn hmn hEn hso hnl hqo hco hcn hco1 hcn1 hi hs him hsu f2 f3 e2 e3;go_wp2_with fail
     have q1a:=(((Ext.refl wr).drew).alloc (.cells #[.slice as' sl cs] 32)).cell q1;have q1b:=((Ext.refl wr).drew).cell q1;have hs2:w6.heap.size≤(wr.drew.alloc (.cells #[.slice as' sl cs] 32)).heap.size:=((HEn.out.drew).alloc _).size;have q1c:=((Ext.refl wr).alloc (.cells #[.slice as' sl cs] 32)).drew.cell q1;go_region_law (first
       | (refine step_append_lies _ rfl (.tmp 83) (.tmp 88) 34 rfl w6.heap.size 32 j0 (.slice none 0 0) 1 24 Tryz.underlying34 hj hy0 hy1 hy2 rfl (by decide) (.slice avn k cvn) k (qwc nts) (by simp [Act.eval]) ((((Ext.refl wr).drew).own Hqo.out).alloc _) ⟨wr.heap.size,0,none⟩ 1 1 [.slice as' sl cs] (by simp [Act.eval]) rfl (cell_one_new wr.drew _ _) (by simp [Value.oneCell']) (by decide) hm3 hm4 hs2 _ rfl ?_;intro g1 cc1 V1 hown1 hgrow1 hat1 hlt1;have HA:=hid ((HEn.out.drew.alloc _).grown hgrow1 fun k hk=>(World.ownsRow.lt ((((Ext.refl wr).drew).own Hqo.out).alloc (.cells #[.slice as' sl cs] 32)) k hk).1);have hbV:zdV 36 V1 w6.heap.size (.slice a6 p.length c6) (.slice avn k cvn):=zgf ((((Ext.refl wr).drew).alloc _).heap Hbk.out) ((((Ext.refl wr).drew).own Hqo.out).alloc (.cells #[.slice as' sl cs] 32)) (by decide) hgrow1;have d1:=hbV.c1;have e1:=hbV.fz 1;have Hown1:=hid hown1;have Hgrow1:=hid hgrow1;clear hown1 hgrow1 hat1 hlt1 hbV))
     all_goals
      have hR:=NtR.more (W6:=w6) (W:=wr.drew) (v7:=.slice (some ⟨g1,0,none⟩) (k+1) cc1) (Nat.le_refl _) (zdV.ext ((Ext.refl wr).drew) Hbk.out) (((Ext.refl wr).drew).qwM Hqk.out) Hmn.out HEn.out.drew (((Ext.refl wr).drew).ownQ Hso.out) (by rw [Hnl.out];exact Hown1.out) Hgrow1.out;rw [← Hkx.out] at hR;have HR:=hid hR;clear hR d1 e1 q0 q1 q1a q1b q1c hs2 z1 c1 c2;generalize V1.setCell ⟨w6.heap.size,1,none⟩ (.slice (some ⟨g1,0,none⟩) (k+1) cc1)=V2 at *;go_wp2_with fail
      go_roundw
      case rel=>exact ⟨k+1,by go_num,by omega,HR.out⟩
      case measure=>simp [zag];omega
    ·have hkm2:k=out.length:=(by omega);have hnl:nts.length=k:=by
      have:=congrArg List.length hmn;rw [List.length_map,List.length_map,List.length_take,Hordl.out] at this;omega
     have hEwr:=HEw6.out.trans hEn;have hcq:=Hcq.out wr.drew hEwr.drew;obtain ⟨avn,cvn,rfl⟩:=zel hqn.1;have hqk:=hqn;rw [hnl] at hqk;have hqo:=hqn.1;rw [hnl] at hqo;have hbk:=hbn;rw [hnl] at hbk;have q0:=hbk.c0;have q1:=hbk.c1;have q1d:=((Ext.refl wr).drew).cell q1;have hm3:k+1≤maxLen:=(by unfold maxLen;omega);have hm4:(k+1) * 24≤140737488355328:=(by omega);have Hcqd:=hid hcq;have Hqk:=hid hqk;have Hqo:=hid hqo;have Hbk:=hid hbk;have Hnl:=hid hnl;have HEn:=hid hEn;have Hmn:=hid hmn;have Hkm2:=hid hkm2;have HEwr:=hid hEwr;clear hcq hqk hqo hbk hnl hEn hmn hqn hbn hkm2 hEwr;go_wp2_with fail
     go_region_law (first
      | (go_simp;go_at_call 39;refine Hcqd.out.mono ?_;rintro e V1 ⟨u1,rfl,ho1,hx1⟩;obtain ⟨a1,cc0,rfl,_,_,_⟩:=ho1.rd.parts;have hbV:=(zdV.ext ((Ext.refl wr).drew) Hbk.out).ext hx1;have r1:=hbV.c1;have r2:=((Ext.refl V1).alloc (.cells #[.slice a1 (ov (p.length - 1)).length cc0] 32)).cell r1;have Ho1:=hid (ho1.mono (Hx6.out.trans HEn.out.drew).size);have Hx1:=hid hx1;have HbV:=hid hbV;clear hx1 ho1 hbV)
      | (refine step_append_lies _ rfl (.tmp 93) (.tmp 96) 34 rfl w6.heap.size 32 j0 (.slice none 0 0) 1 24 Tryz.underlying34 hj hy0 hy1 hy2 rfl (by decide) (.slice avn k cvn) k (qwc nts) (by simp [Act.eval]) ((((Ext.refl wr).drew.trans Hx1.out).own Hqo.out).alloc _) ⟨V1.heap.size,0,none⟩ 1 1 [.slice a1 (ov (p.length - 1)).length cc0] (by simp [Act.eval]) rfl (cell_one_new V1 _ _) (by simp [Value.oneCell']) (by decide) hm3 hm4 ((HEn.out.drew.trans Hx1.out).alloc (.cells #[.slice a1 (ov (p.length - 1)).length cc0] 32)).size _ rfl ?_;intro g1 cc1 V2 hown1 hgrow1 hat1 hlt1;have hbV:zdV 36 V2 w6.heap.size (.slice a6 p.length c6) (.slice avn k cvn):=zgf (((Ext.refl V1).alloc _).heap HbV.out) ((((Ext.refl wr).drew.trans Hx1.out).own Hqo.out).alloc (.cells #[.slice a1 (ov (p.length - 1)).length cc0] 32)) (by decide) hgrow1;have d1:=hbV.c1;have e1:=hbV.fz 1;have HbV2:=hid hbV;have Hown1:=hid hown1;have Hgrow1:=hid hgrow1;clear hown1 hgrow1 hat1 hlt1 hbV))
     all_goals
      have hR:=NtR.more (W6:=w6) (W:=V1) (v7:=.slice (some ⟨g1,0,none⟩) (k+1) cc1) (Nat.le_refl _) HbV.out (((Ext.refl wr).drew.trans Hx1.out).qwM Hqk.out) Hmn.out (HEn.out.drew.trans Hx1.out) Ho1.out (by rw [Hnl.out];exact Hown1.out) Hgrow1.out;obtain ⟨vn,nt2,hb3,hq3,hm3',hE3⟩:=hR;have hd:=hb3.c1;have hsc:vn=.slice (some ⟨g1,0,none⟩) (k+1) cc1:=by
       have h2:=(HbV2.out.put1 (.slice (some ⟨g1,0,none⟩) (k+1) cc1)).c1;rw [hd] at h2;exact Option.some.inj h2
      subst hsc;have hE16:=Hx1w.out.trans (Hx6.out.trans hE3);have hK:K0 36 w (V2.setCell ⟨w6.heap.size,1,none⟩ (.slice (some ⟨g1,0,none⟩) (k+1) cc1)) w.heap.size:=⟨HE0.out.trans hE16,_,_,B0.out.ext hE16⟩;have hol:=Hpe.out.2.2;have ho3:=hE3.own Ho6.out;have hbr:=B0.out.ext hE16;have r0:=hb3.c0;have k0:=hK.res.c0;have k1:=hK.res.c1;have z0:=hK.res.fz 0;have z1:=hK.res.fz 1;have hfin:=hK.fin (Nat.le_refl _) (.slice a6 p.length c6) (.slice (some ⟨g1,0,none⟩) (k+1) cc1);have hq4:=(hq3.set hbr 0 (.slice a6 p.length c6)).set (zdV.put0 hbr (.slice a6 p.length c6)) 1 (.slice (some ⟨g1,0,none⟩) (k+1) cc1);have ho4:=zgi (zdV.put0 hbr (.slice a6 p.length c6)) (zgi hbr ho3 (by decide) 0 (.slice a6 p.length c6)) (by decide) 1 (.slice (some ⟨g1,0,none⟩) (k+1) cc1);have Hfin:=hid hfin;have Hq4:=hid hq4;have Ho4:=hid ho4;have Hm3:=hid hm3';clear hb3 hq3 hm3' hE3 hE16 hK ho3 hbr hfin hq4 ho4 q0 q1 q1d d1 e1;generalize V2.setCell ⟨w6.heap.size,1,none⟩ (.slice (some ⟨g1,0,none⟩) (k+1) cc1)=V3 at *;go_wp2_with fail
      obtain ⟨hb5,hx5⟩:=Hfin.out;have hd0:=hb5.c0;have hd1:=hb5.c1;have hown:w.heap.size≤w1.heap.size:=(HE0.out.trans Hx1w.out).size;have hown6:w.heap.size≤w6.heap.size:=HEw6.out.size;exact bodyPost_ret (v:=.tuple #[.agg #[.slice a6 p.length c6,.slice (some ⟨g1,0,none⟩) (k+1) cc1],.int .i64 0]) (by simp [results,Tryz.results23,go_sem,hd0,hd1]) rfl (.inr ⟨by rw [← Hcount.out];exact h60b,_,nt2,rfl,⟨_,_,rfl,Ho4.out,Hq4.out.mono hown hown6⟩,by
       rw [Hm3.out,List.take_of_length_le (by rw [Hordl.out,← Hkm2.out];exact Nat.le_refl _)];exact zpe HL.out Hperm.out Hsort.out Hfull.out HgetX.out,hx5⟩)
end
end Go.Proofs.YtoehmpbipbbffaaGreatDoor
