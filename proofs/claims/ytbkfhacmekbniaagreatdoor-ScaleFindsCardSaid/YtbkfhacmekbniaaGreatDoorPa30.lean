/- Walk: scale.Steps of a right scale. Plain: the notes of a scale at large indices; Find of a note is its index. Plain: numerals in parts of nine digits, as the reference joins them. -/
import Derived.Test.YtbkfhacmekbniaaGreatDoorPa18
import Derived.Deep.RegionHeld3
import Derived.Test.YtbkfhacmekbniaaGreatDoorPa20
import Derived.Test.YtbkfhacmekbniaaGreatDoorPa19
import Derived.Test.YtbkfhacmekbniaaGreatDoorPa24
import Derived.Test.YtbkfhacmekbniaaGreatDoorPa29
import Derived.Test.YtbkfhacmekbniaaGreatDoorPa17
import Derived.Test.YtbkfhacmekbniaaGreatDoorPa01
set_option maxRecDepth 100000
set_option maxHeartbeats 4000000
namespace Go.Proofs.YtbkfhacmekbniaaGreatDoor
section
open Go.RowKit Go.Lib
attribute [local go_sem] Oper.semAt_some
def stQ (n:Nat)(rs:List Qw)(k:Nat):List Rat:=zeV (((rs[k]?).map Qw.x).getD []) (zjl n rs k)
def zn0 (n:Nat)(rs:List Qw)(k:Nat):List (List Rat):=(List.range k).map (stQ n rs)
theorem zn1 (n:Nat)(rs:List Qw)(k:Nat):zn0 n rs (k+1)=zn0 n rs k++[stQ n rs k]:=by unfold zn0;rw [List.range_succ,List.map_append];rfl
def zn2 (w:World)(n:Nat)(rs:List Qw)(k:Nat)(u:Value)(wr:World):Prop:=∃ out:List Qw,QwM wr w.heap.size w.heap.size u out∧out.map Qw.x=zn0 n rs k∧out.length=k∧Ext w wr
theorem zn2.more {w W V:World}{o:Obj}{n k:Nat}{rs:List Qw}{v5 v7 u:Value}{out:List Qw}(hE:Ext w W)(h:QwM W w.heap.size w.heap.size v5 out)(hm:out.map Qw.x=zn0 n rs k)(hl:out.length=k)(hr:zf6 W w.heap.size u (stQ n rs k)) 
  (hown:V.ownsRow w.heap.size 32 1 v7 (k+1) (qwc out++[u])) (hgrow:(W.alloc o).grownBy V v5.ownBlock):zn2 w n rs (k+1) v7 V:=by
 subst hl;have:=QwM.more (r:=⟨_,u,zfA hr.rd⟩) hE h hr hown hgrow;exact ⟨_,this.1,by rw [List.map_append,hm,zn1];rfl,by rw [List.length_append];rfl,this.2⟩
theorem zn3 (v:Value)(p:List Int)(rs:List Qw)(w:World)(he:Env w)(hv:ScV w v p rs)(h:zjm p rs)(hp0:0<p.length)(hres:∀ k,k<rs.length→∀ q∈stQ p.length rs k,Ft 30 q) :
  Calls Tryz.prog 34 #[v] w fun e w'=>∃ u,e=.returned (.tuple #[u,.int .i64 0])∧zn2 w p.length rs rs.length u w':=by
 obtain ⟨j0,hj,hy0,hy1,hy2⟩:=info_parts zf8;have h60:=h.most;have h1:=fun W (hE:Ext w W)=>zjn v p rs W (he.ext hE) (hv.ext hE) h;have hcl:=fun W u x (hx:Rd W u x)(hl:x.length=p.length)=>zkl u x W hx (by have:=h.few;omega) (by intro e;rw [e] at hl;simp at hl;omega);obtain ⟨vp,vn,rfl,hp,hs,hm⟩:=hv;have hsub:=fun (k:Nat)(r s:Qw)(hr:rs[k+1]?=some r)(hs:rs[k]?=some s) W (hE:Ext w W)=>ziu vp r.u s.u p r.x s.x W (he.ext hE) (hE.sl hp) (hE.rd (hm r (List.mem_of_getElem? hr))) (hE.rd (hm s (List.mem_of_getElem? hs))) h.pe (h.len r (List.mem_of_getElem? hr)) (h.len s (List.mem_of_getElem? hs)) (h.ft r (List.mem_of_getElem? hr)) (h.ft s (List.mem_of_getElem? hs)) (by
  have:=hres (k+1) (List.getElem?_eq_some_iff.1 hr).1;unfold stQ zjl at this;rw [if_neg (by omega),hr,Nat.add_sub_cancel,hs] at this;exact this)
 have hst0:∀ r,rs[0]?=some r→stQ p.length rs 0=r.x:=fun r hr=>by
  unfold stQ zjl;rw [if_pos rfl,hr];show zeV r.x (List.replicate p.length 0)=r.x;rw [← h.len r (List.mem_of_getElem? hr)];exact zj2 r.x
 have hst1:∀ k r s,rs[k+1]?=some r→rs[k]?=some s→stQ p.length rs (k+1)=zeV r.x s.x:=fun k r s hr hs=>by
  unfold stQ zjl;rw [if_neg (by omega),hr,Nat.add_sub_cancel,hs];rfl
 have hln:=h.len;have hone:=fun (r:Qw)(hr:r∈rs)=>(hm r hr).parts;have hrd:=fun (r:Qw)(hr:r∈rs) W (hE:Ext w W)=>hE.rd (hm r hr);obtain ⟨ap,cp,rfl,_,_,_⟩:=hp.parts;obtain ⟨an,cn,rfl,_,_,hc⟩:=hs.parts;rw [zam] at *;rw [zf9] at *;generalize hn:rs.length=n at *;have Hn:=hid hn;have bx:(w.alloc (.cells #[.slice ap p.length cp,.slice an n cn] 36)).heap[w.heap.size]?=some (.cells #[.slice ap p.length cp,.slice an n cn] 36 (0,0)):=World.alloc_heap_new w _;have hE0:Ext w (w.alloc (.cells #[.slice ap p.length cp,.slice an n cn] 36)):=(Ext.refl w).alloc _;have hbox:∀ W,Ext (w.alloc (.cells #[.slice ap p.length cp,.slice an n cn] 36)) W→W.cell? ⟨w.heap.size,0,none⟩=some (.slice ap p.length cp)∧W.cell? ⟨w.heap.size,1,none⟩=some (.slice an n cn):=fun W hE=>by
  have hb:=hE.heap bx;unfold World.cell?;dsimp only;rw [hb];exact ⟨rfl,rfl⟩
 clear hp hs hm he h bx hres hn;have H1:=hid h1;have Hcl:=hid hcl;have Hsub:=hid hsub;have Hst0:=hid hst0;have Hst1:=hid hst1;have Hln:=hid hln;have Hone:=hid hone;have Hrd:=hid hrd;have Hc:=hid hc;have HE0:=hid hE0;have Hbox:=hid hbox;clear h1 hcl hsub hst0 hst1 hln hone hrd hc hE0 hbox;go_enter Tryz.func34,Tryz.ntmps34
 go_wp2_with fail
 refine (H1.out _ HE0.out).mono ?_;rintro e w1 ⟨rfl,hx1⟩;obtain ⟨q0,q1⟩:=Hbox.out w1 hx1;have Hx1:=hid hx1;clear hx1;go_wp2_with fail
 go_loopw [5,6,7,8,17] (fun v5 v6 v7 v8 v17 wr=>∃ k:Nat,v17=.int .i64 k∧k≤n∧zn2 w1 p.length rs k v5 wr) (fun _ _ _ _ v17 _=>n - (zag v17).toNat)
 case atStart=>exact ⟨0,rfl,Nat.zero_le _,⟨[],QwM.nil _ _ _,rfl,rfl,Ext.refl _⟩⟩
 case round =>
  clear q0 q1;obtain ⟨k,rfl,hk,⟨out,hq,hmq,hlq,hE⟩⟩:=hrel;have hEw:=(HE0.out.trans Hx1.out).trans hE;obtain ⟨a5,c5,rfl⟩:=zel hq.1;rw [hlq] at hq;rw [hlq];by_cases hkn:k<n
  ·obtain ⟨r,hr⟩:∃ r,rs[k]?=some r:=⟨_,List.getElem?_eq_getElem (by rw [Hn.out];exact hkn)⟩;have hmem:=List.mem_of_getElem? hr;obtain ⟨b,off,rfl,hc0⟩:=Hc.out k r.u (by unfold qwc;rw [List.getElem?_map,hr];rfl);obtain ⟨ar,cr,hru,_,_,_⟩:=Hone.out r hmem;have hcu:=hEw.cell hc0;have hrl:r.x.length=p.length:=Hln.out r hmem;rw [hru,hrl] at hcu;have hrr:=Hrd.out r hmem wr hEw;rw [hru,hrl] at hrr;have hk0:(0:Int)≤(k:Int):=(by omega);have hk1:(k:Int)<(n:Int):=(by omega);have hm3:k+1≤maxLen:=(by unfold maxLen;omega);have hm4:(k+1) * 24≤140737488355328:=(by omega);have hqo:=hq.1;rw [hlq] at hqo;obtain ⟨q0,q1⟩:=Hbox.out wr (Hx1.out.trans hE);by_cases hkz:0<k
   ·obtain ⟨j,hkj⟩:∃ j,k=j+1:=⟨k - 1,by omega⟩;obtain ⟨s,hs⟩:∃ s,rs[j]?=some s:=⟨_,List.getElem?_eq_getElem (by rw [Hn.out];omega)⟩;have hsm:=List.mem_of_getElem? hs;obtain ⟨b',off',e',hc2⟩:=Hc.out j s.u (by unfold qwc;rw [List.getElem?_map,hs];rfl)
    cases e'
    obtain ⟨as',cs,hsu,_,_,_⟩:=Hone.out s hsm;have hsl:s.x.length=p.length:=Hln.out s hsm;have hcs:=hEw.cell hc2;rw [hsu,hsl] at hcs;have hst:stQ p.length rs k=zeV r.x s.x:=by
     subst hkj;exact Hst1.out j r s hr hs
    have hsb:=fun W (hx:Ext wr W)=>Hsub.out j r s (by rw [← hkj];exact hr) hs W (hEw.trans hx);rw [hru,hsu,hrl,hsl] at hsb;have hsxl:(zeV r.x s.x).length=p.length:=(zj1 (hrl.trans hsl.symm)).trans hrl;have hclo:=fun W g ho=>Hcl.out W (.slice (some ⟨g,0,none⟩) p.length p.length) (zeV r.x s.x) ho hsxl;have hz1:(0:Int)<(k:Int):=(by omega);have hwj:IntKind.i64.wrap ((k:Int) - 1)=(j:Int):=(by rw [IntKind.wrap_i64];omega);have hj0:(0:Int)≤(j:Int):=(by omega);have hj1:(j:Int)<(n:Int):=(by omega);have Hsb:=hid hsb;have Hclo:=hid hclo;have Hst:=hid hst;have Hq:=hid hq;have Hmq:=hid hmq;have Hlq:=hid hlq;have HEw:=hid hEw;have HE:=hid hE;have Hkj:=hid hkj;have Hsxl:=hid hsxl;clear hsb hclo hst hq hmq hlq hEw hE hrr hc0 hc2 hr hs hmem hsm hrl hsl hru hsu hqo hkj hsxl;go_wp2_with fail
    go_region_held3 (fun w'=>Ext wr w'∧w'.cell? ⟨w.heap.size,0,none⟩=some (.slice ap p.length cp)∧w'.cell? ⟨w.heap.size,1,none⟩=some (.slice (some ⟨b,off,none⟩) n cn)∧w'.cell? ⟨b,off+j,none⟩=some (.slice as' p.length cs))
     (first | (with_reducible assumption) | exact ⟨(Ext.refl wr).drew,q0,q1,hcs⟩)
     (first | (go_at_call 69;refine (Hsb.out _ (And.left (by assumption))).mono ?_;rintro e9 VA ⟨g2,rfl,ho2,hxa⟩;have hEA:=((Ext.refl wr).drew).trans hxa;have hS2:Ext wr VA∧VA.cell? ⟨w.heap.size,0,none⟩=some (.slice ap p.length cp)∧VA.cell? ⟨w.heap.size,1,none⟩=some (.slice (some ⟨b,off,none⟩) n cn)∧VA.cell? ⟨b,off+j,none⟩=some (.slice as' p.length cs):=⟨hEA,hEA.cell q0,hEA.cell q1,hEA.cell hcs⟩;have HEA:=hid hEA;have Ho2:=hid ho2.rd;clear hxa hEA ho2))
    all_goals
     clear hS2 q0 q1 hcs hcu;have hcl2:=Hclo.out VA _ Ho2.out;have Hcl2:=hid hcl2;clear hcl2;go_wp2_with fail
     refine Hcl2.out.mono ?_;rintro e W3 ⟨u3,rfl,ho3,hx3⟩;have hrd3:=ho3.rd;obtain ⟨a3,c3,rfl,_,_,_⟩:=hrd3.parts;have hx13:=HEA.out.trans hx3;have hq3:=hx13.qwM Hq.out;have hE3:=HE.out.trans hx13;have hqo:=hq3.1;rw [Hlq.out] at hqo;have hbase:=hE3.size;have ho4:zf6 W3 w1.heap.size (.slice a3 (zeV r.x s.x).length c3) (zeV r.x s.x):=ho3.mono (HE.out.trans HEA.out).size;have Ho3:=hid ho4;have Hq3:=hid hq3;have HE3:=hid hE3;rw [Hsxl.out] at Ho3;rw [Hsxl.out];clear ho3 ho4 hx3 hx13 hrd3 hq3 hE3;go_wp2_with (at_builtin;refine wpList_append_own _ rfl _ _ 34 rfl w1.heap.size 32 j0 (.slice none 0 0) 1 24 Tryz.underlying34 hj hy0 hy1 hy2 rfl (by decide) _ _ _ rfl (hqo.alloc _) ⟨W3.heap.size,0,none⟩ 1 1 [.slice a3 p.length c3] rfl rfl (cell_one_new _ _ _) (by simp [Value.oneCell']) hm3 hm4 (by rw [World.size_alloc];omega) ?_;intro v7 V7 hown7 hgrow7 _)
     go_roundw
     case rel=>exact ⟨k+1,by go_num,by omega,zn2.more HE3.out Hq3.out Hmq.out Hlq.out (by rw [Hst.out];exact Ho3.out) hown7 hgrow7⟩
     case measure=>simp [zag];omega
   ·have hst:stQ p.length rs k=r.x:=by
     obtain rfl:k=0:=by omega
     exact Hst0.out r hr
    have hz1:¬ (0:Int)<(k:Int):=(by omega);have hclo:=Hcl.out wr _ r.x hrr hrl;have Hclo:=hid hclo;have Hst:=hid hst;have Hq:=hid hq;have Hmq:=hid hmq;have Hlq:=hid hlq;have HEw:=hid hEw;have HE:=hid hE;clear hclo hst hq hmq hlq hEw hE hrr hc0 hr hmem hrl hru hqo;go_wp2_with fail
    refine Hclo.out.mono ?_;rintro e W3 ⟨u3,rfl,ho3,hx3⟩;have hrd3:=ho3.rd;obtain ⟨a3,c3,rfl,_,_,_⟩:=hrd3.parts;have hq3:=hx3.qwM Hq.out;have hE3:=HE.out.trans hx3;have hqo:=hq3.1;rw [Hlq.out] at hqo;have hbase:=hE3.size;have Ho3:=hid (ho3.mono HE.out.size);have Hq3:=hid hq3;have HE3:=hid hE3;clear ho3 hx3 hrd3 hq3 hE3 q0 q1 hcu;go_wp2_with (at_builtin;refine wpList_append_own _ rfl _ _ 34 rfl w1.heap.size 32 j0 (.slice none 0 0) 1 24 Tryz.underlying34 hj hy0 hy1 hy2 rfl (by decide) _ _ _ rfl (hqo.alloc _) ⟨W3.heap.size,0,none⟩ 1 1 [.slice a3 r.x.length c3] rfl rfl (cell_one_new _ _ _) (by simp [Value.oneCell']) hm3 hm4 (by rw [World.size_alloc];omega) ?_;intro v7 V7 hown7 hgrow7 _)
    go_roundw
    case rel=>exact ⟨k+1,by go_num,by omega,zn2.more HE3.out Hq3.out Hmq.out Hlq.out (by rw [Hst.out];exact Ho3.out) hown7 hgrow7⟩
    case measure=>simp [zag];omega
  ·obtain rfl:n=k:=by omega
   have Hq:=hid hq;have Hmq:=hid hmq;have Hlq:=hid hlq;have HEw:=hid hEw;clear hq hmq hlq hEw;go_wp2
   go_ret2
   exact ⟨_,rfl,_,Hq.out.mono (HE0.out.trans Hx1.out).size (HE0.out.trans Hx1.out).size,Hmq.out,Hlq.out,HEw.out⟩
end
section
section
variable {p : List Int} {N : List (List Rat)} (h : Wd p N)
include h
end
theorem Wd.findA {p:List Int}{N:List (List Rat)}(h:Wd p N){k:Int}(hk0:-1000000≤k)(hk1:k≤1000000){i:Nat}(hi:k % (N.length:Int)=i)(hil:i<N.length)(he:k=k / (N.length:Int) * (N.length:Int)+i) :
  findA N.length (i:Int) (k / (N.length:Int)) (decide (zat p N i=List.replicate p.length 0))=(k,true):=by
 have h0:=h.pos;have hq:=zi3 (a:=k) (b:=(N.length:Int)) (m:=1000000) (by omega) hk0 hk1 (by omega);have h1:¬ ((i:Int)=0∧decide (zat p N i=List.replicate p.length 0)=false):=by
  rintro ⟨e,g⟩;obtain rfl:i=0:=by omega
  have:=of_decide_eq_false g;exact this rfl
 rw [znx h1 (by omega) (by omega),← he]
end
section
open Go.RowKit Go.Lib
theorem zn4 : ∀ {a b:List UInt8},Dec.Dig a→Dec.Dig b→a.length=b.length→Dec.val 0 a=Dec.val 0 b→a=b
 | [],[],_,_,_,_=>rfl
 | [],_::_,_,_,h,_=>by cases h
 | _::_,[],_,_,h,_=>by cases h
 | c::a,d::b,ha,hb,hl,hv=>by
  have hc:=ha c (List.mem_cons_self ..);have hd:=hb d (List.mem_cons_self ..);have ha':Dec.Dig a:=fun x hx=>ha x (List.mem_cons_of_mem _ hx);have hb':Dec.Dig b:=fun x hx=>hb x (List.mem_cons_of_mem _ hx);have hl':a.length=b.length:=by simpa using hl
  have h1:=Dec.val_lt a ha';have h2:=Dec.val_lt b hb';rw [Dec.val_cons,Dec.val_cons,Dec.val_acc a,Dec.val_acc b,← hl',Nat.mul_zero,Nat.zero_add,Nat.zero_add] at hv;rw [← hl'] at h2;have e:Dec.dv c=Dec.dv d:=by
   have k1:(Dec.dv c * 10 ^ a.length+Dec.val 0 a) / 10 ^ a.length=Dec.dv c:=by
    rw [Nat.mul_comm,Nat.mul_add_div (Nat.pos_of_ne_zero (by simp)),Nat.div_eq_of_lt h1,Nat.add_zero]
   have k2:(Dec.dv d * 10 ^ a.length+Dec.val 0 b) / 10 ^ a.length=Dec.dv d:=by
    rw [Nat.mul_comm,Nat.mul_add_div (Nat.pos_of_ne_zero (by simp)),Nat.div_eq_of_lt h2,Nat.add_zero]
   rw [← k1,← k2,hv]
  have e2:c=d:=by
   unfold Dec.dv at e;apply UInt8.toNat_inj.1;omega
  rw [e] at hv;rw [e2,zn4 ha' hb' hl' (by omega)]
theorem zn5 {n k:Nat}(h1:10 ^ k≤n)(h2:n<10 ^ (k+1)):nDigits n=k+1:=by
 have a:=Dec.nDigits_le (n:=n) (k:=k+1) (by omega) h2;have b:¬ nDigits n≤k:=fun h=>by
  have:=lt_pow_nDigits n;have:=Nat.pow_le_pow_right (n:=10) (by decide) h;omega
 omega
theorem zn6 {h l:Nat}(hh:0<h)(hl:l<1000000000):decDigits (h * 1000000000+l)=decDigits h++(List.replicate (9 - nDigits l) 48++decDigits l):=by
 have hd9:=Dec.nDigits_le (n:=l) (k:=9) (by decide) hl;have hz:∀ k:Nat,Dec.Dig (List.replicate k 48):=fun k c hc=>by rw [(List.mem_replicate.1 hc).2];decide
 have hv:∀ k acc:Nat,Dec.val acc (List.replicate k 48)=acc * 10 ^ k:=fun k=>by
  induction k with
  | zero=>intro acc;rw [List.replicate_zero,Dec.val_nil,Nat.pow_zero,Nat.mul_one]
  | succ k ih =>
   intro acc
   rw [List.replicate_succ,Dec.val_cons,ih,show Dec.dv 48=0 from rfl,Nat.add_zero,Nat.pow_succ,Nat.mul_comm 10 acc,Nat.mul_assoc,Nat.mul_comm 10]
 refine zn4 (Dec.dig_dec _) (Dec.dig_append (Dec.dig_dec _) (Dec.dig_append (hz _) (Dec.dig_dec _))) ?_ ?_
 ·simp only [List.length_append,List.length_replicate,decDigits_length];have a:=lt_pow_nDigits h;have b:=Dec.pow_le_of_nDigits h (by omega);have hn:=nDigits_pos h;have e:(10:Nat) ^ (nDigits h - 1+9)=10 ^ (nDigits h - 1) * 1000000000:=by rw [Nat.pow_add]
  have e2:(10:Nat) ^ (nDigits h+9)=10 ^ nDigits h * 1000000000:=by rw [Nat.pow_add]
  have h1:10 ^ (nDigits h - 1+9)≤h * 1000000000+l:=by
   rw [e];exact Nat.le_trans (Nat.mul_le_mul_right 1000000000 b) (Nat.le_add_right _ _)
  have h2:h * 1000000000+l<10 ^ (nDigits h - 1+9+1):=by
   rw [show nDigits h - 1+9+1=nDigits h+9 by omega,e2];have h3:h * 1000000000+l<(h+1) * 1000000000:=by
    rw [Nat.add_mul,Nat.one_mul];exact Nat.add_lt_add_left hl _
   exact Nat.lt_of_lt_of_le h3 (Nat.mul_le_mul_right 1000000000 a)
  clear e e2;rw [zn5 h1 h2];omega
 ·rw [Dec.val_dec,Dec.val_append,Dec.val_dec,Dec.val_append,hv,Dec.val_acc,decDigits_length,Dec.val_dec,Nat.mul_assoc,← Nat.pow_add,show 9 - nDigits l+nDigits l=9 by omega]
end
end Go.Proofs.YtbkfhacmekbniaaGreatDoor
