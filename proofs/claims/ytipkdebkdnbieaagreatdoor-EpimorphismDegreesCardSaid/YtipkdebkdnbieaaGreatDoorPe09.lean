/- Walks: size's number, short, result, check, Check, CheckAll, zero, Zero. Regions that draw their order: a load is taken first although the last operations of the region store into its cell. (The library's law of held regions asks its condition behind the last store too.) -/
import Derived.Test.YtipkdebkdnbieaaGreatDoorPe08
import Derived.Lib.OwnBridge
import Derived.OrdersHeld
import Derived.StillTail
import Derived.Deep.RegionHeld3
import Derived.Test.YtipkdebkdnbieaaGreatDoorPe00
set_option maxRecDepth 100000
set_option maxHeartbeats 2000000
namespace Go.Proofs.YtipkdebkdnbieaaGreatDoor
section
open Go.RowKit Go.Lib
theorem zfi (n:Int):Rv (n:Rat)=.agg #[.string (I n),.string ⟨#[49]⟩]:=by
 unfold Rv;rw [Rat.num_intCast,Rat.den_intCast,za2,zbs]
theorem zfj (n:Int)(w:World)(he:Env w)(h0:-9223372036854775808≤n)(h1:n≤9223372036854775807) :
  Calls Tryz.prog 57 #[.int .i64 n] w fun e w'=>e=.returned (Rv (n:Rat))∧Ext w w':=by
 have ho:=fun W (h:Ext w W)=>zaQ n h0 h1 W (he.ext h);rw [zfi];generalize I n=s at *;have b2:=zes.new w (.string ⟨#[]⟩) (.string ⟨#[]⟩);have hE:Ext w (w.alloc (.cells #[.string ⟨#[]⟩,.string ⟨#[]⟩] 102)):=(Ext.refl _).alloc _;have hk:Kp0 w (w.alloc (.cells #[.string ⟨#[]⟩,.string ⟨#[]⟩] 102)) w.heap.size:=⟨hE,_,_,b2⟩;clear b2 he;have Ho:=hid ho;have HE:=hid hE;have Hk:=hid hk;clear ho hE hk;go_enter Tryz.func57,Tryz.ntmps57
 go_wp2_with fail
 refine (Ho.out _ HE.out).mono ?_;rintro e W4 ⟨rfl,hxa⟩;have hkk:=Hk.out.ext hxa;have Hkk:=hid hkk;clear hkk;clear hxa;have hc0:=(Hkk.out).res.c0;have hc1:=(Hkk.out).res.c1;have hz0:=(Hkk.out).res.fz 0;have hz1:=(Hkk.out).res.fz 1;obtain ⟨hb,hfx⟩:=(Hkk.out).fin (by omega) (.string s) (.string ⟨#[49]⟩);have Hb:=hid hb;have Hfx:=hid hfx;clear hb hfx;go_wp2_with fail
 have hd0:=Hb.out.c0;have hd1:=Hb.out.c1;exact bodyPost_ret (v:=.agg #[.string s,.string ⟨#[49]⟩]) (by simp [results,Tryz.results57,go_sem,hd0,hd1]) rfl ⟨rfl,Hfx.out⟩
def zfk (r:Rat):Bool:=decide (nDigits r.num.natAbs≤30) && decide (nDigits r.den≤30)
theorem zfl {r:Rat}(h:Ft 30 r):zfk r=true:=by unfold zfk;rw [decide_eq_true h.1,decide_eq_true h.2];rfl
theorem zfm (r:Rat)(w:World)(hr:Ft 100000 r) :
  Calls Tryz.prog 120 #[Rv r] w fun e w'=>e=.returned (.bool (zfk r))∧Ext w w':=by
 have ha:=fun W=>zd6 r.num W (hr.num (by omega));have s1:=zep r.num.natAbs;have s2:=zep r.den;have hE:Ext w (w.alloc (.cells #[.string (I r.num),.string (I (r.den:Int))] 102)):=(Ext.refl _).alloc _;have b1:=zes.new w (.string (I r.num)) (.string (I (r.den:Int)));unfold zfk Rv;generalize hu:nDigits r.num.natAbs=u at *;generalize hv:nDigits r.den=v at *;generalize I ((r.num.natAbs:Nat):Int)=sm at *;generalize I r.num=sa at *;generalize I (r.den:Int)=sb at *;clear hr hu hv;by_cases h1:u≤30
 ·have t1:(sm.size:Int)≤30:=by omega
  by_cases h2:v≤30
  ·have t2:(sb.size:Int)≤30:=(by omega);rw [decide_eq_true h1,decide_eq_true h2];clear h1 h2;have Ha:=hid ha;have HE:=hid hE;have B1:=hid b1;have S1:=hid s1;have S2:=hid s2;clear ha hE b1 s1 s2;go_enter Tryz.func120,Tryz.ntmps120
   go_wp2_with fail
   refine (Ha.out _).mono ?_;rintro e w1 ⟨rfl,hx1⟩;have Hx1:=hid hx1;clear hx1;have hc1:=(B1.out.ext Hx1.out).c1;go_wp2
   go_ret
   exact ⟨rfl,HE.out.trans Hx1.out⟩
  ·have t2:¬ (sb.size:Int)≤30:=(by omega);have t3:(30:Int)<(sb.size:Int):=(by omega);rw [decide_eq_true h1,decide_eq_false h2];clear h1 h2;have Ha:=hid ha;have HE:=hid hE;have B1:=hid b1;have S1:=hid s1;have S2:=hid s2;clear ha hE b1 s1 s2;go_enter Tryz.func120,Tryz.ntmps120
   go_wp2_with fail
   refine (Ha.out _).mono ?_;rintro e w1 ⟨rfl,hx1⟩;have Hx1:=hid hx1;clear hx1;have hc1:=(B1.out.ext Hx1.out).c1;go_wp2
   go_ret
   exact ⟨zeG (by rw [decide_eq_false (by omega)];rfl),HE.out.trans Hx1.out⟩
 ·have t1:¬ (sm.size:Int)≤30:=by omega
  have t3:(30:Int)<(sm.size:Int):=by omega
  rw [decide_eq_false h1];clear h1;have Ha:=hid ha;have HE:=hid hE;have B1:=hid b1;have S1:=hid s1;have S2:=hid s2;clear ha hE b1 s1 s2;go_enter Tryz.func120,Tryz.ntmps120
  go_wp2_with fail
  refine (Ha.out _).mono ?_;rintro e w1 ⟨rfl,hx1⟩;have Hx1:=hid hx1;clear hx1;go_wp2
  go_ret
  exact ⟨by simp,HE.out.trans Hx1.out⟩
theorem zfn (vp v:Value)(p:List Int)(x:List Rat)(w:World)(he:Env w)(hp:Sl w vp (zap p))(hv:Rd w v x)(hpl:p.length≤1000)(hlen:x.length=p.length)(hx:∀ r∈x,Ft 30 r) :
  Calls Tryz.prog 88 #[vp,v] w fun e w'=>e=.returned (.int .i64 0)∧Ext w w':=by
 obtain ⟨ap,cp,rfl,_,_,_⟩:=hp.parts;obtain ⟨a,c,rfl,_,_,hc⟩:=hv.parts;rw [zar,← hlen];have hl:x.length≤1000:=by omega
 clear hv hp;have hck:=fun (r:Rat)(h:r∈x) W (hE:Ext w W)=>zeO r W (he.ext hE) ((hx r h).mono (by omega));have hsh:=fun (r:Rat)(h:r∈x) W=>by
  have h1:=zfm r W ((hx r h).mono (by omega));rw [zfl (hx r h)] at h1;exact h1
 clear hx he hlen hpl;have Hc:=hid hc;have Hck:=hid hck;have Hsh:=hid hsh;clear hc hck hsh;go_enter Tryz.func88,Tryz.ntmps88
 go_wp2_with fail
 go_loopw [6,14] (fun v6 v14 wr=>∃ k:Nat,v14=.int .i64 k∧k≤x.length∧Ext w wr) (fun _ v14 _=>x.length - (zal v14).toNat)
 case atStart=>exact ⟨0,rfl,Nat.zero_le _,Ext.refl _⟩
 case round =>
  obtain ⟨k,rfl,hk,hE⟩:=hrel;have HE:=hid hE;clear hE;by_cases hkl:k<x.length
  ·obtain ⟨r,hr⟩:∃ r,x[k]?=some r:=⟨_,List.getElem?_eq_getElem hkl⟩;obtain ⟨b,off,rfl,hc0,hc1⟩:=Hc.out k r hr;have h0:=HE.out.cell hc0;have h1:=HE.out.cell hc1;have hr0:=Hck.out r (List.mem_of_getElem? hr);have hr1:=Hsh.out r (List.mem_of_getElem? hr);have hk0:(0:Int)≤(k:Int):=(by omega);have hk1:(k:Int)<(x.length:Int):=(by omega);unfold Rv at hr0 hr1;have hEb:Ext w (wr.alloc (.cells #[.string (I r.num),.string (I (r.den:Int))] 102)):=HE.out.alloc _;have b1:=zes.new wr (.string (I r.num)) (.string (I (r.den:Int)));generalize I r.num=sa at *;generalize I (r.den:Int)=sb at *;clear hc0 hc1;have Hr0:=hid hr0;have Hr1:=hid hr1;have Hr:=hid hr;have HEb:=hid hEb;have B1:=hid b1;clear hr0 hr1 hr hEb b1;go_wp2_with fail
   refine (Hr0.out _ HEb.out).mono ?_;rintro e W2 ⟨rfl,hx2⟩;have hb2:=B1.out.ext hx2;have g0:=hb2.c0;have g1:=hb2.c1;have Hx2:=hid (HEb.out.trans hx2);clear hx2 hb2;go_wp2_with fail
   refine (Hr1.out _).mono ?_;rintro e W3 ⟨rfl,hx3⟩;have Hx3:=hid (Hx2.out.trans hx3);clear hx3;go_wp2_with fail
   go_roundw
   case rel=>exact ⟨k+1,by go_num,by omega,Hx3.out⟩
   case measure=>simp [zal];omega
  ·obtain rfl:k=x.length:=by omega
   go_wp2
   go_ret
   exact ⟨rfl,HE.out⟩
theorem zfo (vp vl:Value)(p:List Int)(rs:List Qw)(w:World)(he:Env w)(hp:Sl w vp (zap p))(hv:RdM w vl rs)(hpe:zcw p=0)(hll:rs.length≤1000)(hx:∀ r∈rs,r.x.length=p.length∧∀ q∈r.x,Ft 30 q) :
  Calls Tryz.prog 89 #[vp,vl] w fun e w'=>e=.returned (.int .i64 0)∧Ext w w':=by
 have hpl:=(zc0 hpe).2.1;have h1:=zcx vp p w hp (by omega);rw [hpe] at h1;obtain ⟨hs,hr⟩:=hv;have hck:=fun (r:Qw)(h:r∈rs) W (hE:Ext w W)=>zfn vp r.u p r.x W (he.ext hE) (hE.sl hp) (hE.rd (hr r h)) (by omega) (hx r h).1 (hx r h).2;obtain ⟨ap,cp,rfl,_,_,_⟩:=hp.parts;obtain ⟨a,c,rfl,_,_,hc⟩:=hs.parts;rw [zfg];have hone:=fun (r:Qw)(h:r∈rs)=>(hr r h).parts;clear hp hx he hs hr;have H1:=hid h1;have Hck:=hid hck;have Hc:=hid hc;have Hone:=hid hone;clear h1 hck hc hone;go_enter Tryz.func89,Tryz.ntmps89
 go_wp2_with fail
 refine H1.out.mono ?_;rintro e W ⟨rfl,rfl⟩;go_wp2_with fail
 go_loopw [7,8,16] (fun v7 v8 v16 wr=>∃ k:Nat,v16=.int .i64 k∧k≤rs.length∧Ext w wr) (fun _ _ v16 _=>rs.length - (zal v16).toNat)
 case atStart=>exact ⟨0,rfl,Nat.zero_le _,Ext.refl _⟩
 case round =>
  obtain ⟨k,rfl,hk,hE⟩:=hrel;have HE:=hid hE;clear hE;by_cases hkl:k<rs.length
  ·obtain ⟨r,hr⟩:∃ r,rs[k]?=some r:=⟨_,List.getElem?_eq_getElem hkl⟩;obtain ⟨b,off,rfl,hc0⟩:=Hc.out k r.u (by unfold qwc;rw [List.getElem?_map,hr];rfl);have h0:=HE.out.cell hc0;have hr0:=Hck.out r (List.mem_of_getElem? hr) wr HE.out;obtain ⟨ax,cx,ex,_⟩:=Hone.out r (List.mem_of_getElem? hr);rw [ex] at h0 hr0;have hk0:(0:Int)≤(k:Int):=(by omega);have hk1:(k:Int)<(rs.length:Int):=(by omega);clear hc0 ex;have Hr0:=hid hr0;have Hr:=hid hr;clear hr0 hr;go_wp2_with fail
   refine Hr0.out.mono ?_;rintro e W2 ⟨rfl,hx2⟩;have Hx2:=hid (HE.out.trans hx2);clear hx2;go_wp2_with fail
   go_roundw
   case rel=>exact ⟨k+1,by go_num,by omega,Hx2.out⟩
   case measure=>simp [zal];omega
  ·obtain rfl:k=rs.length:=by omega
   go_wp2
   go_ret
   exact ⟨rfl,HE.out⟩
end
section
section
variable {P : Program} {ops : Array Oper} {Q : Exit → Act → World → Prop} {md : Region.Mode} {S : World → Prop} {z : Nat}
def zfp (P:Program)(md:Region.Mode)(ops:Array Oper)(Q:Exit→Act→World→Prop)(S:World→Prop)(z:Nat):Nat→Array Bool→Act→World→Prop
 | 0,ls,a,w=>Region.ready md ops ls=[]∧Q .normal a w
 | f+1,ls,a,w=>(Region.ready md ops ls=[]→Q .normal a w)∧∀ i∈Region.ready md ops ls,wpOp P ops Q i (fun a' w'=>(i<z→S w')∧zfp P md ops Q S z f (ls.setIfInBounds i true) a' w') a w
theorem zfp.any : ∀ {f:Nat}{ls:Array Bool}{a:Act}{w:World},zfp P md ops Q S z f ls a w→wpAny P md ops Q f ls a w
 | 0,_,_,_,h=>h
 | _+1,_,_,_,h=>⟨h.1,fun i hi=>wpOp_mono (fun _ _ g=>zfp.any g.2) (h.2 i hi)⟩
def wB (md:Region.Mode)(ops:Array Oper):Nat→Nat→Nat→Bool
 | 0,j,i=>Region.waitsFor md ops j i
 | f+1,j,i=>Region.waitsFor md ops j i || (List.range ops.size).any fun k=>Region.waitsFor md ops j k && wB md ops f k i
def zB (md:Region.Mode)(ops:Array Oper)(z i:Nat):Bool:=(List.range ops.size).all fun j=>decide (j<z) || wB md ops 4 j i
def Clo (md:Region.Mode)(ops:Array Oper)(ls:Array Bool):Prop:=∀ j oj,ops[j]?=some oj→ls.getD j false=true→∀ e∈oj.after,Region.binds md e=true→ls.getD e.on false=true
def zfq (md:Region.Mode)(ops:Array Oper)(ls:Array Bool):Bool:=(List.range ops.size).all fun j=>match ops[j]? with | some oj=>!ls.getD j false || oj.after.all fun e=>!Region.binds md e || ls.getD e.on false | none=>true
theorem zfr {ls:Array Bool}(h:zfq md ops ls=true):Clo md ops ls:=fun j oj hj hl e he hb=>by
 have h1:=List.all_eq_true.1 h j (List.mem_range.2 (Array.getElem?_eq_some_iff.1 hj).1);rw [hj] at h1;simp only [hl,Bool.not_true,Bool.false_or] at h1;have h2:=Array.all_eq_true'.1 h1 e he;simpa [hb] using h2
theorem zfs {i:Nat}{ls:Array Bool}(h:Clo md ops ls)(hi:i∈Region.ready md ops ls):Clo md ops (ls.setIfInBounds i true):=fun j oj hj hl e he hb=>by
 obtain ⟨_,oi,hoi,hall⟩:=mem_ready.1 hi;by_cases q:i=j
 ·subst q;obtain rfl:oj=oi:=Option.some.inj (hj.symm.trans hoi);exact getD_set_true (hall e he hb)
 ·rw [getD_set_ne false q] at hl;exact getD_set_true (h j oj hj hl e he hb)
theorem zft {i:Nat}{ls:Array Bool}(hc:Clo md ops ls)(hun:ls.getD i true=false):∀ (f j:Nat)(oj:Oper),wB md ops f j i=true→ops[j]?=some oj→(∀ e∈oj.after,Region.binds md e=true→ls.getD e.on false=true)→False
 | f,j,oj,h,hj,hall=>by
  have one:∀ k,Region.waitsFor md ops j k=true→ls.getD k false=true:=fun k hk=>by
   obtain ⟨o,ho,e,he,hb,hon⟩:=Region.waitsFor_spec hk;obtain rfl:o=oj:=Option.some.inj (ho.symm.trans hj);rw [← hon];exact hall e he hb
  have dir:Region.waitsFor md ops j i=true→False:=fun hk=>by
   have:=one i hk;rw [getD_both hun] at this
   cases this
  match f,h with
  | 0,h=>exact dir h
  | f+1,h =>
   unfold wB at h
   rw [Bool.or_eq_true] at h
   rcases h with h | h
   ·exact dir h
   ·obtain ⟨k,hk,h2⟩:=List.any_eq_true.1 h
    rw [Bool.and_eq_true] at h2
    obtain ⟨ok,hok⟩:∃ ok,ops[k]?=some ok:=⟨_,Array.getElem?_eq_getElem (List.mem_range.1 hk)⟩
    exact zft hc hun f k ok h2.2 hok (hc k ok hok (one k h2.1))
theorem zfu {i j:Nat}{oj:Oper}{ls:Array Bool}(hz:zB md ops z i=true)(hc:Clo md ops ls)(hj:ops[j]?=some oj)(hall:∀ e∈oj.after,Region.binds md e=true→ls.getD e.on false=true)(hun:ls.getD i true=false):j<z:=by
 have h1:=List.all_eq_true.1 hz j (List.mem_range.2 (Array.getElem?_eq_some_iff.1 hj).1);rw [Bool.or_eq_true,decide_eq_true_eq] at h1;rcases h1 with h1 | h1
 ·exact h1
 ·exact (zft hc hun 4 j oj h1 hj hall).elim
theorem zfv {i:Nat}{oi:Oper}{v:Value}(hi:ops[i]?=some oi)(hs:Region.noSelect ops=true)(hz:zB md ops z i=true)(hQ:∀ c a w,Q (.panic c) (a.put oi.dst v) w→Q (.panic c) a w) :
  ∀ (f:Nat)(ls:Array Bool)(a:Act)(w:World),(∀ j oj,ops[j]?=some oj→j ≠ i→ls.getD j true=false→(∀ e∈oj.after,Region.binds md e=true→e.on ≠ i)→oi.apart ops oj=true)→Clo md ops ls →
   i∈Region.ready md ops ls→YieldsIf P ops S oi v a→S w→zfp P md ops Q S z f (ls.setIfInBounds i true) (a.put oi.dst v) w→zfp P md ops Q S z (f+1) ls a w:=by
 have hsel:=Region.noSelect_spec hs;intro f;induction f with
 | zero =>
  intro ls a w _ _ hr hy hS h
  refine ⟨fun e=>absurd hr (by rw [e];exact fun k=>by cases k),fun j hj=>?_⟩
  by_cases e:j=i
  ·rw [e]
   exact hy.wpOp hi hS ⟨fun _=>hS,h⟩
  ·have g:=ready_mono hj e
   rw [h.1] at g
   cases g
 | succ f ih =>
  intro ls a w hap hc hr hy hS h
  refine ⟨fun e=>absurd hr (by rw [e];exact fun k=>by cases k),fun j hj=>?_⟩
  by_cases e:j=i
  ·rw [e]
   exact hy.wpOp hi hS ⟨fun _=>hS,h⟩
  ·obtain ⟨hju,oj,hoj,hall⟩:=mem_ready.1 hj
   have hiu:=(mem_ready.1 hr).1
   have hjz:=zfu hz hc hoj hall hiu
   have hno:∀ e∈oj.after,Region.binds md e=true→e.on ≠ i:=fun e he hb k=>by
    have:=hall e he hb;rw [k,getD_both hiu] at this
    cases this
   have h2:=wpOp_putIf hoj (hap j oj hoj e hju hno) (fun cs b=>hsel i oi cs b hi) (fun cs b=>hsel j oj cs b hoj) hQ hy (h.2 j (ready_mono hj e))
   refine wpOp_mono (fun a' w' g=>⟨fun _=>g.2.1 hjz,ih (ls.setIfInBounds j true) a' w' (fun k ok hk hki hku hkn=>?_) (zfs hc hj) (ready_mono hr (Ne.symm e)) g.1 (g.2.1 hjz) ?_⟩) h2
   ·refine hap k ok hk hki ?_ hkn
    by_cases q:j=k
    ·rw [← q];exact hju
    ·rw [getD_set_ne true q] at hku;exact hku
   ·rw [Array.setIfInBounds_comm _ _ e]
    exact g.2.2
theorem zfw {i:Nat}{oi:Oper}{v:Value}{f:Nat}{ls:Array Bool}{a:Act}{w:World}(hi:ops[i]?=some oi)(hs:Region.noSelect ops=true)(hf:Region.free md ops ls i=true)(hr:(Region.ready md ops ls).contains i=true)(hz:(zB md ops z i && zfq md ops ls)=true)
  (hQ:∀ c a w,Q (.panic c) (a.put oi.dst v) w→Q (.panic c) a w) (hy:YieldsIf P ops S oi v a) (hS:S w) (h:zfp P md ops Q S z f (ls.setIfInBounds i true) (a.put oi.dst v) w):zfp P md ops Q S z (f+1) ls a w :=
 zfv hi hs (Bool.and_eq_true _ _ ▸ hz).1 hQ f ls a w (Region.free_spec hi hf) (zfr (Bool.and_eq_true _ _ ▸ hz).2) (by simpa using hr) hy hS h
theorem zfx {i:Nat}{o:Oper}{f:Nat}{ls:Array Bool}{a:Act}{w:World}(hr:Region.ready md ops ls=[i])(ho:ops[i]?=some o)
  (h:∀ K:Act→World→Prop,Shut (∀ a w,S w→(S w→zfp P md ops Q S z f (ls.setIfInBounds i true) a w)→K a w)→if Region.wanted o (yielded ops a.tmps)=true then Oper.wp P o a w K Q else K (a.put o.dst undef) w):zfp P md ops Q S z (f+1) ls a w:=by
 refine ⟨fun e=>(by rw [hr] at e;cases e),fun j hj=>?_⟩;rw [hr,List.mem_singleton] at hj;subst hj;exact wpOp_step ho fun K hK=>h K fun a w hS g=>hK a w ⟨fun _=>hS,g hS⟩
theorem zfy {i:Nat}{o:Oper}{f:Nat}{ls:Array Bool}{a:Act}{w:World}(hr:Region.ready md ops ls=[i])(hz:z≤i)(ho:ops[i]?=some o)
  (h:∀ K:Act→World→Prop,Shut (∀ a w,zfp P md ops Q S z f (ls.setIfInBounds i true) a w→K a w)→if Region.wanted o (yielded ops a.tmps)=true then Oper.wp P o a w K Q else K (a.put o.dst undef) w):zfp P md ops Q S z (f+1) ls a w:=by
 refine ⟨fun e=>(by rw [hr] at e;cases e),fun j hj=>?_⟩;rw [hr,List.mem_singleton] at hj;subst hj;exact wpOp_step ho fun K hK=>h K fun a w g=>hK a w ⟨fun k=>absurd k (by omega),g⟩
theorem zfz {f:Nat}{ls:Array Bool}{a:Act}{w:World}(hr:Region.ready md ops ls=[])(h:Q .normal a w):zfp P md ops Q S z f ls a w:=by
 cases f with
 | zero=>exact ⟨hr,h⟩
 | succ f=>exact ⟨fun _=>h,fun i hi=>by rw [hr] at hi;cases hi⟩
theorem zf0 {id:Nat}{a:Act}{w:World}(z:Nat)(S:World→Prop)(hm:P.follows .mixedOrders=true)(hS:S w.drew)(h:S w.drew→zfp P .any ops Q S z ops.size (Array.replicate ops.size false) a w.drew):(Code.region id ops true).wp P Q a w :=
 wp_region_any hm (zfp.any (h hS))
end
end
end Go.Proofs.YtipkdebkdnbieaaGreatDoor
