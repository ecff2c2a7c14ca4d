/- Walk: scale.Steps of a right scale. Plain: a world's scale has at most nine notes; the steps as differences of its notes. A scale that reads goes on reading when a fresh box of a scale is filled; where the modes of a scale are another scale. As XHeldX, under names that do not clash with XRndH. Plain: binary logarithms of 3 and 5 to 2048 bits, as the program finds them; no whole sum of them with factors of few digits comes near zero. (Printed in part by wip/mkdigp.py.) -/
import Derived.Test.YtbkfhacmekbniaaGreatDoorPc15
import Derived.Deep.DeepCutAuto
import Derived.Deep.RegionHeld3
import Derived.Test.YtbkfhacmekbniaaGreatDoorPc17
import Derived.Test.YtbkfhacmekbniaaGreatDoorPc16
import Derived.Test.YtbkfhacmekbniaaGreatDoorPc20
import Derived.Test.YtbkfhacmekbniaaGreatDoorPc18
import Derived.Test.YtbkfhacmekbniaaGreatDoorPc08
set_option maxRecDepth 100000
set_option maxHeartbeats 4000000
namespace Go.Proofs.YtbkfhacmekbniaaGreatDoor
section
open Go.RowKit Go.Lib
attribute [local go_sem] Oper.semAt_some
def stQ (n:Nat)(rs:List Qw)(k:Nat):List Rat:=ze2 (((rs[k]?).map Qw.x).getD []) (zis n rs k)
def zla (n:Nat)(rs:List Qw)(k:Nat):List (List Rat):=(List.range k).map (stQ n rs)
theorem zlb (n:Nat)(rs:List Qw)(k:Nat):zla n rs (k+1)=zla n rs k++[stQ n rs k]:=by unfold zla;rw [List.range_succ,List.map_append];rfl
def zlc (w:World)(n:Nat)(rs:List Qw)(k:Nat)(u:Value)(wr:World):Prop:=∃ out:List Qw,QwM wr w.heap.size w.heap.size u out∧out.map Qw.x=zla n rs k∧out.length=k∧Ext w wr
theorem zlc.more {w W V:World}{o:Obj}{n k:Nat}{rs:List Qw}{v5 v7 u:Value}{out:List Qw}(hE:Ext w W)(h:QwM W w.heap.size w.heap.size v5 out)(hm:out.map Qw.x=zla n rs k)(hl:out.length=k)(hr:zfw W w.heap.size u (stQ n rs k)) 
  (hown:V.ownsRow w.heap.size 32 1 v7 (k+1) (qwc out++[u])) (hgrow:(W.alloc o).grownBy V v5.ownBlock):zlc w n rs (k+1) v7 V:=by
 subst hl;have:=QwM.more (r:=⟨_,u,zf0 hr.rd⟩) hE h hr hown hgrow;exact ⟨_,this.1,by rw [List.map_append,hm,zlb];rfl,by rw [List.length_append];rfl,this.2⟩
theorem zld (v:Value)(p:List Int)(rs:List Qw)(w:World)(he:Env w)(hv:ScV w v p rs)(h:zit p rs)(hp0:0<p.length)(hres:∀ k,k<rs.length→∀ q∈stQ p.length rs k,Ft 30 q) :
  Calls Tryz.prog 34 #[v] w fun e w'=>∃ u,e=.returned (.tuple #[u,.int .i64 0])∧zlc w p.length rs rs.length u w':=by
 obtain ⟨j0,hj,hy0,hy1,hy2⟩:=info_parts zfy;have h60:=h.most;have h1:=fun W (hE:Ext w W)=>ziu v p rs W (he.ext hE) (hv.ext hE) h;have hcl:=fun W u x (hx:Rd W u x)(hl:x.length=p.length)=>zjj u x W hx (by have:=h.few;omega) (by intro e;rw [e] at hl;simp at hl;omega);obtain ⟨vp,vn,rfl,hp,hs,hm⟩:=hv;have hsub:=fun (k:Nat)(r s:Qw)(hr:rs[k+1]?=some r)(hs:rs[k]?=some s) W (hE:Ext w W)=>zh1 vp r.u s.u p r.x s.x W (he.ext hE) (hE.sl hp) (hE.rd (hm r (List.mem_of_getElem? hr))) (hE.rd (hm s (List.mem_of_getElem? hs))) h.pe (h.len r (List.mem_of_getElem? hr)) (h.len s (List.mem_of_getElem? hs)) (h.ft r (List.mem_of_getElem? hr)) (h.ft s (List.mem_of_getElem? hs)) (by
  have:=hres (k+1) (List.getElem?_eq_some_iff.1 hr).1;unfold stQ zis at this;rw [if_neg (by omega),hr,Nat.add_sub_cancel,hs] at this;exact this)
 have hst0:∀ r,rs[0]?=some r→stQ p.length rs 0=r.x:=fun r hr=>by
  unfold stQ zis;rw [if_pos rfl,hr];show ze2 r.x (List.replicate p.length 0)=r.x;rw [← h.len r (List.mem_of_getElem? hr)];exact zi7 r.x
 have hst1:∀ k r s,rs[k+1]?=some r→rs[k]?=some s→stQ p.length rs (k+1)=ze2 r.x s.x:=fun k r s hr hs=>by
  unfold stQ zis;rw [if_neg (by omega),hr,Nat.add_sub_cancel,hs];rfl
 have hln:=h.len;have hone:=fun (r:Qw)(hr:r∈rs)=>(hm r hr).parts;have hrd:=fun (r:Qw)(hr:r∈rs) W (hE:Ext w W)=>hE.rd (hm r hr);obtain ⟨ap,cp,rfl,_,_,_⟩:=hp.parts;obtain ⟨an,cn,rfl,_,_,hc⟩:=hs.parts;rw [zam] at *;rw [zfz] at *;generalize hn:rs.length=n at *;have Hn:=hid hn;have bx:(w.alloc (.cells #[.slice ap p.length cp,.slice an n cn] 36)).heap[w.heap.size]?=some (.cells #[.slice ap p.length cp,.slice an n cn] 36 (0,0)):=World.alloc_heap_new w _;have hE0:Ext w (w.alloc (.cells #[.slice ap p.length cp,.slice an n cn] 36)):=(Ext.refl w).alloc _;have hbox:∀ W,Ext (w.alloc (.cells #[.slice ap p.length cp,.slice an n cn] 36)) W→W.cell? ⟨w.heap.size,0,none⟩=some (.slice ap p.length cp)∧W.cell? ⟨w.heap.size,1,none⟩=some (.slice an n cn):=fun W hE=>by
  have hb:=hE.heap bx;unfold World.cell?;dsimp only;rw [hb];exact ⟨rfl,rfl⟩
 clear hp hs hm he h bx hres hn;have H1:=hid h1;have Hcl:=hid hcl;have Hsub:=hid hsub;have Hst0:=hid hst0;have Hst1:=hid hst1;have Hln:=hid hln;have Hone:=hid hone;have Hrd:=hid hrd;have Hc:=hid hc;have HE0:=hid hE0;have Hbox:=hid hbox;clear h1 hcl hsub hst0 hst1 hln hone hrd hc hE0 hbox;go_enter Tryz.func34,Tryz.ntmps34
 go_wp2_with fail
 refine (H1.out _ HE0.out).mono ?_;rintro e w1 ⟨rfl,hx1⟩;obtain ⟨q0,q1⟩:=Hbox.out w1 hx1;have Hx1:=hid hx1;clear hx1;go_wp2_with fail
 go_loopw [5,6,7,8,17] (fun v5 v6 v7 v8 v17 wr=>∃ k:Nat,v17=.int .i64 k∧k≤n∧zlc w1 p.length rs k v5 wr) (fun _ _ _ _ v17 _=>n - (zag v17).toNat)
 case atStart=>exact ⟨0,rfl,Nat.zero_le _,⟨[],QwM.nil _ _ _,rfl,rfl,Ext.refl _⟩⟩
 case round =>
  clear q0 q1;obtain ⟨k,rfl,hk,⟨out,hq,hmq,hlq,hE⟩⟩:=hrel;have hEw:=(HE0.out.trans Hx1.out).trans hE;obtain ⟨a5,c5,rfl⟩:=zfl hq.1;rw [hlq] at hq;rw [hlq];by_cases hkn:k<n
  ·obtain ⟨r,hr⟩:∃ r,rs[k]?=some r:=⟨_,List.getElem?_eq_getElem (by rw [Hn.out];exact hkn)⟩;have hmem:=List.mem_of_getElem? hr;obtain ⟨b,off,rfl,hc0⟩:=Hc.out k r.u (by unfold qwc;rw [List.getElem?_map,hr];rfl);obtain ⟨ar,cr,hru,_,_,_⟩:=Hone.out r hmem;have hcu:=hEw.cell hc0;have hrl:r.x.length=p.length:=Hln.out r hmem;rw [hru,hrl] at hcu;have hrr:=Hrd.out r hmem wr hEw;rw [hru,hrl] at hrr;have hk0:(0:Int)≤(k:Int):=(by omega);have hk1:(k:Int)<(n:Int):=(by omega);have hm3:k+1≤maxLen:=(by unfold maxLen;omega);have hm4:(k+1) * 24≤140737488355328:=(by omega);have hqo:=hq.1;rw [hlq] at hqo;obtain ⟨q0,q1⟩:=Hbox.out wr (Hx1.out.trans hE);by_cases hkz:0<k
   ·obtain ⟨j,hkj⟩:∃ j,k=j+1:=⟨k - 1,by omega⟩;obtain ⟨s,hs⟩:∃ s,rs[j]?=some s:=⟨_,List.getElem?_eq_getElem (by rw [Hn.out];omega)⟩;have hsm:=List.mem_of_getElem? hs;obtain ⟨b',off',e',hc2⟩:=Hc.out j s.u (by unfold qwc;rw [List.getElem?_map,hs];rfl)
    cases e'
    obtain ⟨as',cs,hsu,_,_,_⟩:=Hone.out s hsm;have hsl:s.x.length=p.length:=Hln.out s hsm;have hcs:=hEw.cell hc2;rw [hsu,hsl] at hcs;have hst:stQ p.length rs k=ze2 r.x s.x:=by
     subst hkj;exact Hst1.out j r s hr hs
    have hsb:=fun W (hx:Ext wr W)=>Hsub.out j r s (by rw [← hkj];exact hr) hs W (hEw.trans hx);rw [hru,hsu,hrl,hsl] at hsb;have hsxl:(ze2 r.x s.x).length=p.length:=(zi6 (hrl.trans hsl.symm)).trans hrl;have hclo:=fun W g ho=>Hcl.out W (.slice (some ⟨g,0,none⟩) p.length p.length) (ze2 r.x s.x) ho hsxl;have hz1:(0:Int)<(k:Int):=(by omega);have hwj:IntKind.i64.wrap ((k:Int) - 1)=(j:Int):=(by rw [IntKind.wrap_i64];omega);have hj0:(0:Int)≤(j:Int):=(by omega);have hj1:(j:Int)<(n:Int):=(by omega);have Hsb:=hid hsb;have Hclo:=hid hclo;have Hst:=hid hst;have Hq:=hid hq;have Hmq:=hid hmq;have Hlq:=hid hlq;have HEw:=hid hEw;have HE:=hid hE;have Hkj:=hid hkj;have Hsxl:=hid hsxl;clear hsb hclo hst hq hmq hlq hEw hE hrr hc0 hc2 hr hs hmem hsm hrl hsl hru hsu hqo hkj hsxl;go_wp2_with fail
    go_region_held3 (fun w'=>Ext wr w'∧w'.cell? ⟨w.heap.size,0,none⟩=some (.slice ap p.length cp)∧w'.cell? ⟨w.heap.size,1,none⟩=some (.slice (some ⟨b,off,none⟩) n cn)∧w'.cell? ⟨b,off+j,none⟩=some (.slice as' p.length cs))
     (first | (with_reducible assumption) | exact ⟨(Ext.refl wr).drew,q0,q1,hcs⟩)
     (first | (go_at_call 69;refine (Hsb.out _ (And.left (by assumption))).mono ?_;rintro e9 VA ⟨g2,rfl,ho2,hxa⟩;have hEA:=((Ext.refl wr).drew).trans hxa;have hS2:Ext wr VA∧VA.cell? ⟨w.heap.size,0,none⟩=some (.slice ap p.length cp)∧VA.cell? ⟨w.heap.size,1,none⟩=some (.slice (some ⟨b,off,none⟩) n cn)∧VA.cell? ⟨b,off+j,none⟩=some (.slice as' p.length cs):=⟨hEA,hEA.cell q0,hEA.cell q1,hEA.cell hcs⟩;have HEA:=hid hEA;have Ho2:=hid ho2.rd;clear hxa hEA ho2))
    all_goals
     clear hS2 q0 q1 hcs hcu;have hcl2:=Hclo.out VA _ Ho2.out;have Hcl2:=hid hcl2;clear hcl2;go_wp2_with fail
     refine Hcl2.out.mono ?_;rintro e W3 ⟨u3,rfl,ho3,hx3⟩;have hrd3:=ho3.rd;obtain ⟨a3,c3,rfl,_,_,_⟩:=hrd3.parts;have hx13:=HEA.out.trans hx3;have hq3:=hx13.qwM Hq.out;have hE3:=HE.out.trans hx13;have hqo:=hq3.1;rw [Hlq.out] at hqo;have hbase:=hE3.size;have ho4:zfw W3 w1.heap.size (.slice a3 (ze2 r.x s.x).length c3) (ze2 r.x s.x):=ho3.mono (HE.out.trans HEA.out).size;have Ho3:=hid ho4;have Hq3:=hid hq3;have HE3:=hid hE3;rw [Hsxl.out] at Ho3;rw [Hsxl.out];clear ho3 ho4 hx3 hx13 hrd3 hq3 hE3;go_wp2_with (at_builtin;refine wpList_append_own _ rfl _ _ 34 rfl w1.heap.size 32 j0 (.slice none 0 0) 1 24 Tryz.underlying34 hj hy0 hy1 hy2 rfl (by decide) _ _ _ rfl (hqo.alloc _) ⟨W3.heap.size,0,none⟩ 1 1 [.slice a3 p.length c3] rfl rfl (cell_one_new _ _ _) (by simp [Value.oneCell']) hm3 hm4 (by rw [World.size_alloc];omega) ?_;intro v7 V7 hown7 hgrow7 _)
     go_roundw
     case rel=>exact ⟨k+1,by go_num,by omega,zlc.more HE3.out Hq3.out Hmq.out Hlq.out (by rw [Hst.out];exact Ho3.out) hown7 hgrow7⟩
     case measure=>simp [zag];omega
   ·have hst:stQ p.length rs k=r.x:=by
     obtain rfl:k=0:=by omega
     exact Hst0.out r hr
    have hz1:¬ (0:Int)<(k:Int):=(by omega);have hclo:=Hcl.out wr _ r.x hrr hrl;have Hclo:=hid hclo;have Hst:=hid hst;have Hq:=hid hq;have Hmq:=hid hmq;have Hlq:=hid hlq;have HEw:=hid hEw;have HE:=hid hE;clear hclo hst hq hmq hlq hEw hE hrr hc0 hr hmem hrl hru hqo;go_wp2_with fail
    refine Hclo.out.mono ?_;rintro e W3 ⟨u3,rfl,ho3,hx3⟩;have hrd3:=ho3.rd;obtain ⟨a3,c3,rfl,_,_,_⟩:=hrd3.parts;have hq3:=hx3.qwM Hq.out;have hE3:=HE.out.trans hx3;have hqo:=hq3.1;rw [Hlq.out] at hqo;have hbase:=hE3.size;have Ho3:=hid (ho3.mono HE.out.size);have Hq3:=hid hq3;have HE3:=hid hE3;clear ho3 hx3 hrd3 hq3 hE3 q0 q1 hcu;go_wp2_with (at_builtin;refine wpList_append_own _ rfl _ _ 34 rfl w1.heap.size 32 j0 (.slice none 0 0) 1 24 Tryz.underlying34 hj hy0 hy1 hy2 rfl (by decide) _ _ _ rfl (hqo.alloc _) ⟨W3.heap.size,0,none⟩ 1 1 [.slice a3 r.x.length c3] rfl rfl (cell_one_new _ _ _) (by simp [Value.oneCell']) hm3 hm4 (by rw [World.size_alloc];omega) ?_;intro v7 V7 hown7 hgrow7 _)
    go_roundw
    case rel=>exact ⟨k+1,by go_num,by omega,zlc.more HE3.out Hq3.out Hmq.out Hlq.out (by rw [Hst.out];exact Ho3.out) hown7 hgrow7⟩
    case measure=>simp [zag];omega
  ·obtain rfl:n=k:=by omega
   have Hq:=hid hq;have Hmq:=hid hmq;have Hlq:=hid hlq;have HEw:=hid hEw;clear hq hmq hlq hEw;go_wp2
   go_ret2
   exact ⟨_,rfl,_,Hq.out.mono (HE0.out.trans Hx1.out).size (HE0.out.trans Hx1.out).size,Hmq.out,Hlq.out,HEw.out⟩
end
section
theorem zle {p:List Int}{l M:List (List Rat)}(hM:ziY p l M){z0:List Rat}(hz:z0∈l)(h0:rst p z0=zer p.length):M.length≤l.length:=by
 have hnd:M.Nodup:=hM.1.imp fun {a b} g e=>by rw [e] at g;grind
 have hs:M ⊆ ov (p.length - 1)::(l.erase z0).map (rst p):=fun x hx=>by
  rcases (hM.2 x).1 hx with e | ⟨g0,y,hy,e⟩
  ·rw [e];exact List.mem_cons_self ..
  ·refine List.mem_cons_of_mem _ ?_;rw [e];refine List.mem_map_of_mem ((List.mem_erase_of_ne fun k=>g0 ?_).2 hy);rw [e,k,h0]
 have h1:=zjb hnd hs;have h2:=List.length_erase_of_mem hz;have h3:=List.length_pos_of_mem hz;rw [List.length_cons,List.length_map] at h1;omega
theorem zlf {p:List Int}{l M:List (List Rat)}(hM:ziY p l M):M.length≤l.length+1:=by
 have hnd:M.Nodup:=hM.1.imp fun {a b} g e=>by rw [e] at g;grind
 have hs:M ⊆ ov (p.length - 1)::l.map (rst p):=fun x hx=>by
  rcases (hM.2 x).1 hx with e | ⟨g0,y,hy,e⟩
  ·rw [e];exact List.mem_cons_self ..
  ·exact List.mem_cons_of_mem _ (by rw [e];exact List.mem_map_of_mem hy)
 have h1:=zjb hnd hs;rw [List.length_cons,List.length_map] at h1;exact h1
theorem zlg {p:List Int}{x:List Rat}(hx:x.length=p.length):ze3 x ((0:Int):Rat)=zer p.length:=by
 unfold ze3 zer;rw [← hx];refine List.ext_getElem (by simp) fun i h1 h2=>?_;rw [List.getElem_map,List.getElem_replicate];exact Rat.mul_zero _
theorem zlh (a:Wl){M:List (List Rat)}(hM:ziY a.p a.sizes M):M.length≤9:=by
 have hw:=zkY a hM;have hn:=a.n9;have hpw:=a.pw;have hp:=(ziM hpw.pr).2;by_cases h0:a.kind % 3=0
 ·have hs:a.sizes=zkb (ze3 (ov (a.p.length - 1)) (mkRat 1 a.n)) 1 a.n:=by unfold Wl.sizes;rw [if_pos h0]
  have hl:a.sizes.length=a.n:=by rw [hs,zkd]
  have hm:ov (a.p.length - 1)∈a.sizes:=by
   rw [hs];unfold zkb;refine List.mem_map.2 ⟨a.n - 1,List.mem_range.2 (by omega),?_⟩;rw [zkG hpw a.n,show (1:Int)+((a.n - 1:Nat):Int)=(a.n:Int) by omega];have e:((a.n:Int):Rat) / (a.n:Rat)=1:=by
    show ((a.n:Nat):Rat) / (a.n:Rat)=1;rw [Rat.div_def,Rat.mul_inv_cancel _ (zkB hn.1)]
   rcases hpw with e2 | e2 <;> rw [e2]
   ·rw [zk8,e];rfl
   ·rw [zk9,e];rfl
  have:=zle hM hm hw.zov;omega
 ·by_cases h1:a.kind % 3=1
  ·have hs:a.sizes=zkb (szW a.p.length (a.xs 0)) 0 a.n:=(by unfold Wl.sizes;rw [if_neg h0,if_pos h1]);have hl:a.sizes.length=a.n:=(by rw [hs,zkd]);have hm:zer a.p.length∈a.sizes:=by
    rw [hs];unfold zkb;refine List.mem_map.2 ⟨0,List.mem_range.2 hn.1,?_⟩;exact zlg (zks _ _)
   have:=zle hM hm (hw.zlow hw.pos);omega
  ·have hs:a.sizes=(List.range (min a.n 8)).map fun i=>szW a.p.length (a.xs i):=(by unfold Wl.sizes;rw [if_neg h0,if_neg h1]);have hl:a.sizes.length=min a.n 8:=(by rw [hs,List.length_map,List.length_range]);have:=zlf hM;omega
end
section
open Go.RowKit Go.Lib Go.Shelf
def zli (w:World)(c:Nat):Prop:=zjy 36 w c (.slice none 0 0) (.slice none 0 0)
theorem zli.cell {w:World}{c:Nat}(h:zli w c){ad:Addr}{u:Value}(hu:w.cell? ad=some u)(hn:u ≠ .slice none 0 0)(x y:Value):((w.setCell ⟨c,0,none⟩ x).setCell ⟨c,1,none⟩ y).cell? ad=some u:=by
 have n0:ad ≠ ⟨c,0,none⟩:=fun e=>hn (by rw [e,zjy.c0 h] at hu;exact (Option.some.inj hu).symm);have n1:ad ≠ ⟨c,1,none⟩:=fun e=>hn (by rw [e,zjy.c1 h] at hu;exact (Option.some.inj hu).symm);rw [World.cell?_setCell_other _ _ _ _ (Ne.symm n1),World.cell?_setCell_other _ _ _ _ (Ne.symm n0)];exact hu
theorem zli.sl {w:World}{c:Nat}(h:zli w c){v:Value}{xs:List Value}(hs:Sl w v xs)(hn:∀ u∈xs,u ≠ .slice none 0 0)(x y:Value):Sl ((w.setCell ⟨c,0,none⟩ x).setCell ⟨c,1,none⟩ y) v xs:=by
 rcases hs with g | ⟨b,off,cap,hv,h1,h2,hc⟩
 ·exact .inl g
 ·exact .inr ⟨b,off,cap,hv,h1,h2,fun i u hu=>h.cell (hc i u hu) (hn u (List.mem_of_getElem? hu)) x y⟩
theorem zli.rd {w:World}{c:Nat}(h:zli w c){v:Value}{z:List Rat}(hs:Rd w v z)(x y:Value):Rd ((w.setCell ⟨c,0,none⟩ x).setCell ⟨c,1,none⟩ y) v z:=by
 rcases hs with g | ⟨b,off,cap,hv,h1,h2,hc⟩
 ·exact .inl g
 ·exact .inr ⟨b,off,cap,hv,h1,h2,fun i r hr=>⟨h.cell (hc i r hr).1 (by simp) x y,h.cell (hc i r hr).2 (by simp) x y⟩⟩
theorem zli.scV {w:World}{c:Nat}(h:zli w c){v:Value}{p:List Int}{rs:List Qw}(hs:ScV w v p rs)(hl:∀ r∈rs,r.x ≠ [])(x y:Value):ScV ((w.setCell ⟨c,0,none⟩ x).setCell ⟨c,1,none⟩ y) v p rs:=by
 obtain ⟨vp,vn,e,h1,h2,h3⟩:=hs;refine ⟨vp,vn,e,h.sl h1 (fun u hu=>?_) x y,h.sl h2 (fun u hu=>?_) x y,fun r hr=>h.rd (h3 r hr) x y⟩
 ·unfold zak at hu;obtain ⟨z,_,rfl⟩:=List.mem_map.1 hu;simp
 ·unfold qwc at hu;obtain ⟨r,hr,rfl⟩:=List.mem_map.1 hu;have hrd:=h3 r hr;have hne:=hl r hr;intro e;rw [e] at hrd;rcases hrd with ⟨a,cap,e2,_,e3⟩ | ⟨b,off,cap,e2,_⟩
  ·exact hne e3
  ·cases e2
theorem zli.box {w:World}{c d:Nat}{u v:Value}(h:zjy 36 w d u v)(hne:d ≠ c)(x y:Value):zjy 36 ((w.setCell ⟨c,0,none⟩ x).setCell ⟨c,1,none⟩ y) d u v:=h.past hne x y
def zlj (W:World)(a b:Wl)(v7 v8:Value)(wx:World):Prop:=∃ p7 p8 a1 c1 b1 d1 a2 c2 b2 d2,∃ (o1 o2:List Qw),v7=.pointer (some ⟨p7,0,none⟩)∧v8=.pointer (some ⟨p8,0,none⟩)∧zjy 36 wx p7 (.slice a1 a.p.length c1) (.slice b1 o1.length d1)∧zjy 36 wx p8 (.slice a2 b.p.length c2) (.slice b2 o2.length d2) ∧
 ScV wx (.agg #[.slice a1 a.p.length c1,.slice b1 o1.length d1]) a.p o1∧ScV wx (.agg #[.slice a2 b.p.length c2,.slice b2 o2.length d2]) b.p o2∧ziY a.p a.sizes (o1.map Qw.x)∧ziY b.p b.sizes (o2.map Qw.x)∧Ext W wx
theorem zlk (a:Wl){o:List Qw}(h:ziY a.p a.sizes (o.map Qw.x)):∀ r∈o,r.x ≠ []:=fun r hr e=>by
 have h1:=(zkY a h).len _ (List.mem_map_of_mem hr);have h2:=(ziM a.pw.pr).2;rw [e] at h1;simp at h1;omega
theorem zll {W w:World}{a b:Wl}{p7 p8:Nat}{a1 b1 a2 b2:Option Addr}{c1 d1 c2 d2:Nat}{o1 o2:List Qw}(h7:zli w p7)(h8:zli w p8)(hne:p7 ≠ p8)(hW7:W.heap.size≤p7)(hW8:W.heap.size≤p8)
  (s1:ScV w (.agg #[.slice a1 a.p.length c1,.slice b1 o1.length d1]) a.p o1) (s2:ScV w (.agg #[.slice a2 b.p.length c2,.slice b2 o2.length d2]) b.p o2) (k1:ziY a.p a.sizes (o1.map Qw.x)) (k2:ziY b.p b.sizes (o2.map Qw.x)) (hE:Ext W w) :
  zlj W a b (.pointer (some ⟨p7,0,none⟩)) (.pointer (some ⟨p8,0,none⟩)) ((((w.setCell ⟨p7,0,none⟩ (.slice a1 a.p.length c1)).setCell ⟨p7,1,none⟩ (.slice b1 o1.length d1)).setCell ⟨p8,0,none⟩ (.slice a2 b.p.length c2)).setCell ⟨p8,1,none⟩ (.slice b2 o2.length d2)):=by
 have f1:=zlk a k1;have f2:=zlk b k2;have e8:zli ((w.setCell ⟨p7,0,none⟩ (.slice a1 a.p.length c1)).setCell ⟨p7,1,none⟩ (.slice b1 o1.length d1)) p8:=zjy.past h8 (Ne.symm hne) _ _;exact ⟨p7,p8,a1,c1,b1,d1,a2,c2,b2,d2,o1,o2,rfl,rfl,(zjy.put h7 _ _).past hne _ _,zjy.put e8 _ _,e8.scV (h7.scV s1 f1 _ _) f1 _ _,e8.scV (h7.scV s2 f2 _ _) f2 _ _,k1,k2,((hE.setCell hW7 _).setCell hW7 _).setCell hW8 _ |>.setCell hW8 _⟩
def zlm (p q:List Int)(N M:List (List Rat))(k:Nat)(z:Int):Prop :=
 (z=-1∧∀ j:Nat,k≤j→j<N.length→¬ (p=q∧md p N (j:Int)=M))∨∃ i:Nat,z=i∧k≤i∧i<N.length∧(p=q∧md p N (i:Int)=M)∧∀ j:Nat,k≤j→j<i→¬ (p=q∧md p N (j:Int)=M)
theorem zlm.start (p q:List Int)(N M:List (List Rat)):zlm p q N M N.length (-1):=.inl ⟨rfl,fun j h1 h2=>by omega⟩
theorem zlm.no {p q:List Int}{N M:List (List Rat)}{k:Nat}{z:Int}(h:zlm p q N M (k+1) z)(g:¬ (p=q∧md p N (k:Int)=M)):zlm p q N M k z:=by
 rcases h with ⟨e,h⟩ | ⟨i,e,h1,h2,h3,h4⟩
 ·refine .inl ⟨e,fun j h1 h2=>?_⟩;by_cases q':j=k
  ·rw [q'];exact g
  ·exact h j (by omega) h2
 ·refine .inr ⟨i,e,by omega,h2,h3,fun j g1 g2=>?_⟩;by_cases q':j=k
  ·rw [q'];exact g
  ·exact h4 j (by omega) g2
end
section
section
variable {P : Program} {ops : Array Oper} {Q : Exit → Act → World → Prop} {md : Region.Mode} {S : World → Prop} {z : Nat}
def zln (P:Program)(md:Region.Mode)(ops:Array Oper)(Q:Exit→Act→World→Prop)(S:World→Prop)(z f:Nat)(ls:Array Bool)(a:Act)(w:World)(i:Nat)(o:Oper):Prop :=
 ∀ K:Act→World→Prop,Shut (∀ a w,S w→(S w→zfI P md ops Q S z f (ls.setIfInBounds i true) a w)→K a w)→if Region.wanted o (yielded ops a.tmps)=true then Oper.wp P o a w K Q else K (a.put o.dst undef) w
theorem zln.op {f:Nat}{ls:Array Bool}{a:Act}{w:World}{i:Nat}{o:Oper}(ho:ops[i]?=some o)(h:zln P md ops Q S z f ls a w i o):wpOp P ops Q i (fun a' w'=>(i<z→S w')∧zfI P md ops Q S z f (ls.setIfInBounds i true) a' w') a w :=
 wpOp_step ho fun K hK=>h K fun a w hS g=>hK a w ⟨fun _=>hS,g hS⟩
theorem zlp {i k:Nat}{o u:Oper}{f:Nat}{ls:Array Bool}{a:Act}{w:World}(hr:Region.ready md ops ls=[i,k])(ho:ops[i]?=some o)(hu:ops[k]?=some u)(h1:zln P md ops Q S z f ls a w i o)(h2:zln P md ops Q S z f ls a w k u):zfI P md ops Q S z (f+1) ls a w:=by
 refine ⟨fun e=>(by rw [hr] at e;cases e),fun j hj=>?_⟩;rw [hr,List.mem_cons,List.mem_singleton] at hj;rcases hj with e | e
 ·subst e;exact h1.op ho
 ·subst e;exact h2.op hu
theorem zlq {i k m:Nat}{o u v:Oper}{f:Nat}{ls:Array Bool}{a:Act}{w:World}(hr:Region.ready md ops ls=[i,k,m])(ho:ops[i]?=some o)(hu:ops[k]?=some u)(hv:ops[m]?=some v)(h1:zln P md ops Q S z f ls a w i o)(h2:zln P md ops Q S z f ls a w k u)(h3:zln P md ops Q S z f ls a w m v):zfI P md ops Q S z (f+1) ls a w:=by
 refine ⟨fun e=>(by rw [hr] at e;cases e),fun j hj=>?_⟩;rw [hr,List.mem_cons,List.mem_cons,List.mem_singleton] at hj;rcases hj with e | e | e
 ·subst e;exact h1.op ho
 ·subst e;exact h2.op hu
 ·subst e;exact h3.op hv
end
def dgS (unit:Nat)(s:Nat × Nat × Nat):Option (Nat × Nat × Nat) :=
 if 8 * unit<s.1 * s.1 / unit∨8 * unit<s.2.1 * s.2.1 / unit+1∨8 * unit<s.2.2 then none
 else if unit+unit≤s.1 * s.1 / unit then some (s.1 * s.1 / unit / 2,(s.2.1 * s.2.1 / unit+1) / 2+1,s.2.2+s.2.2+1)
 else if unit+unit≤s.2.1 * s.2.1 / unit+1 then none
 else some (s.1 * s.1 / unit,s.2.1 * s.2.1 / unit+1,s.2.2+s.2.2)
theorem zlr {u:Nat}{s t:Nat × Nat × Nat}(h:dgS u s=some t):∃ l k:Nat,l=s.1 * s.1 / u∧k=s.2.1 * s.2.1 / u∧l≤8 * u∧k+1≤8 * u∧s.2.2≤8 * u ∧
  ((u+u≤l∧t=(l / 2,(k+1) / 2+1,s.2.2+s.2.2+1))∨(l<u+u∧k+1<u+u∧t=(l,k+1,s.2.2+s.2.2))):=by
 unfold dgS at h;refine ⟨_,_,rfl,rfl,?_⟩;generalize s.1 * s.1 / u=l at *;generalize s.2.1 * s.2.1 / u=k at *;split at h
 ·cases h
 ·rename_i hg;refine ⟨by omega,by omega,by omega,?_⟩;split at h
  ·rename_i h1;injection h with h;exact .inl ⟨h1,h.symm⟩
  ·rename_i h1;split at h
   ·cases h
   ·rename_i h2;injection h with h;exact .inr ⟨by omega,by omega,h.symm⟩
def dgN (unit:Nat)(s:Nat × Nat × Nat):Nat→Option (Nat × Nat × Nat)
 | 0=>some s
 | k+1=>(dgN unit s k).bind (dgS unit)
theorem zls {u:Nat}{s f:Nat × Nat × Nat}:∀ {n:Nat},dgN u s n=some f→∀ k,k≤n→∃ t,dgN u s k=some t
 | 0,h,k,hk=>⟨f,by rw [show k=0 by omega];exact h⟩
 | n+1,h,k,hk=>by
  by_cases e:k=n+1
  ·exact ⟨f,by rw [e];exact h⟩
  ·have h2:(dgN u s n).bind (dgS u)=some f:=h
   cases hs:dgN u s n with
   | none=>rw [hs] at h2;cases h2
   | some t=>exact zls hs k (by omega)
theorem zlu {u:Nat}{s f:Nat × Nat × Nat}{n k:Nat}{st:Nat × Nat × Nat}(h:dgN u s n=some f)(hk:k<n)(hs:dgN u s k=some st):∃ t,dgS u st=some t∧dgN u s (k+1)=some t:=by
 obtain ⟨t,ht⟩:=zls h (k+1) (by omega);have h2:(dgN u s k).bind (dgS u)=some t:=ht;rw [hs] at h2;exact ⟨t,h2,ht⟩
def lb (p:Int):Nat:=if p=3 then 1 else 2
def dg0 (p more:Nat):Nat × Nat × Nat:=(p * 2 ^ (more - lb p),p * 2 ^ (more - lb p),lb p)
def L3 : Nat:=0x195c01a39fbd6879fa00b120a068badd124f3e6a3a259b0407be5904d25fa41f714fbcdffb0c56e98678bf970fbd764a2d949b66123dbf818876529e402522bad57f7b376d0c93d05186cd6e57ddafcb1beaa24c8bcae04bebf65faa6daa5df0126857b648bc732d25cc19087e2b35fb3fe91ce58ed7ee01b86f065b98e2fb4b20f208da0c30d4baa08dd88e5615ddd714fe521e2bb6e2a172d9ebab3b8ac33604e366b0a770f2443028c42250671607681d974cfab67db35ec3b87d439a86c5cad3ec45aed2d5d1f05f4c1845f3114f3e033e5b45597805a6e6f4f0354cade6d52c0e9adeb7e0c11ddcb71a5f3313c6c99ced5339e0abdc95cb70ef79cae0e43
def L5 : Nat:=0x25269e12f346e2bf924afdbfd36bf6d3365b157f8deceb53a46dab2020b9e167419943f7a77547ce8f892faad8eb42f5850d7b920159729533fc58b353d80ce07d93e5b05f66d7537fb9b09ae3e326f40e1797e40730b46b23a3dd5dd44254c2e19631b7fa8fbb5c4c13e22d0facae1beaa4d8f3e706623135a712f0822787d85aeedcb0fa6953f746978fc464846c577be8fea5e31087e198c7f04169234c3b2c46ed153cabf1a480c5b5fb3ba8bc6764c0a945689afbb3ca3410dc05d4ac6f9169cba6972f4d4e14403853d32cf1bc5c6b7ebe5e3259a23c5c87e3de379b81d5c2ce01aa3e549645f83b088d27f8a1471c310e001b75b24d249f15002c13b6f
def LG (p:Int)(n:Nat):Nat:=if p=2 then 2 ^ n else (if p=3 then L3 else L5) / 2 ^ (2048 - n)
def Lad (n:Nat):Prop:=n=64∨n=128∨n=256∨n=512∨n=1024∨n=2048
def zlv (p n v:Nat):Bool:=match dgN (2 ^ (n+64)) (dg0 p (n+64)) n with | some s=>Nat.beq s.2.2 v | none=>false
theorem zlw : zlv 3 64 (LG 3 64)=true:=by decide +kernel
theorem zlx : zlv 3 128 (LG 3 128)=true:=by decide +kernel
theorem zly : zlv 3 256 (LG 3 256)=true:=by decide +kernel
theorem zlz : zlv 3 512 (LG 3 512)=true:=by decide +kernel
theorem zl0 : zlv 3 1024 (LG 3 1024)=true:=by decide +kernel
theorem zl1 : zlv 3 2048 (LG 3 2048)=true:=by decide +kernel
theorem zl2 : zlv 5 64 (LG 5 64)=true:=by decide +kernel
theorem zl3 : zlv 5 128 (LG 5 128)=true:=by decide +kernel
theorem zl4 : zlv 5 256 (LG 5 256)=true:=by decide +kernel
theorem zl5 : zlv 5 512 (LG 5 512)=true:=by decide +kernel
theorem zl6 : zlv 5 1024 (LG 5 1024)=true:=by decide +kernel
theorem zl7 : zlv 5 2048 (LG 5 2048)=true:=by decide +kernel
theorem zl8 {p:Int}(hp:p=3∨p=5){n:Nat}(hn:Lad n):∃ s,dgN (2 ^ (n+64)) (dg0 p.toNat (n+64)) n=some s∧s.2.2=LG p n:=by
 have key:zlv p.toNat n (LG p n)=true:=by
  rcases hp with rfl | rfl <;> rcases hn with rfl | rfl | rfl | rfl | rfl | rfl
  ·exact zlw
  ·exact zlx
  ·exact zly
  ·exact zlz
  ·exact zl0
  ·exact zl1
  ·exact zl2
  ·exact zl3
  ·exact zl4
  ·exact zl5
  ·exact zl6
  ·exact zl7
 unfold zlv at key;generalize LG p n=v at *;split at key
 ·exact ⟨_,by assumption,Nat.eq_of_beq_eq_true key⟩
 ·cases key
theorem zl9 {K a b u1 u2 u3 A B C:Int}{H E:Nat}(hB:B.natAbs≤H)(hC:C.natAbs≤H)(hT:(A * K+B * a+C * b).natAbs≤E)
  (h:(K * u1 - u3 * a).natAbs * H+(K * u2 - u3 * b).natAbs * H+u3.natAbs * E<K.natAbs):u1 * B+u2 * C+u3 * A=0:=by
 have e:K * (u1 * B+u2 * C+u3 * A)=(K * u1 - u3 * a) * B+(K * u2 - u3 * b) * C+u3 * (A * K+B * a+C * b):=by grind
 generalize u1 * B+u2 * C+u3 * A=z at *;generalize A * K+B * a+C * b=T at *;generalize K * u1 - u3 * a=x at *;generalize K * u2 - u3 * b=y at *;have h1:(x * B).natAbs≤x.natAbs * H:=by rw [Int.natAbs_mul];exact Nat.mul_le_mul_left _ hB
 have h2:(y * C).natAbs≤y.natAbs * H:=by rw [Int.natAbs_mul];exact Nat.mul_le_mul_left _ hC
 have h3:(u3 * T).natAbs≤u3.natAbs * E:=by rw [Int.natAbs_mul];exact Nat.mul_le_mul_left _ hT
 have h4:(K * z).natAbs<K.natAbs:=by rw [e];omega
 rw [Int.natAbs_mul] at h4;have h5:z.natAbs=0:=by
  rcases Nat.eq_zero_or_pos z.natAbs with g | g
  ·exact g
  ·have:=Nat.mul_le_mul_left K.natAbs g;omega
 omega
theorem bca {u11 u12 u13 u21 u22 u23 u31 u32 u33 v1 v2 v3 B C A:Int}{c1 c2 c3:Int}(h1:u11 * B+u12 * C+u13 * A=0)(h2:u21 * B+u22 * C+u23 * A=0)(h3:u31 * B+u32 * C+u33 * A=0)
  (e1:v1 * u11+v2 * u21+v3 * u31=c1) (e2:v1 * u12+v2 * u22+v3 * u32=c2) (e3:v1 * u13+v2 * u23+v3 * u33=c3):c1 * B+c2 * C+c3 * A=0:=by
 have:v1 * (u11 * B+u12 * C+u13 * A)+v2 * (u21 * B+u22 * C+u23 * A)+v3 * (u31 * B+u32 * C+u33 * A)=0:=by rw [h1,h2,h3];simp
 rw [← e1,← e2,← e3];grind
def u11 : Int:=-0x8f8c3599e8c7dc2e662442c2a6937ac7002a67fa592461338cc516fb61cfe65091811a7baf0412f7f9ee613c07db81e4a2ba8656369b42d54ef6e0a75f87ab8e6a1a0c338bf84c966f6df7d0970b1c2143dcdda734f5f299225bf0414c88157d6f3a08eefa6c556732a67cadb84ec3adcbd76bef5c437af580d2b4992c01dd84cad3fda70409d7118adc12fb393c5ec577aa55e07429c0198e688eb525fd92dc893733f0b630010c790d0
def u12 : Int:=-0xd24b275740221a07df9c52b25b24cb4c0202c954bd61dd2021809bc7e31b82da1cc1636ead5dc42b9707f42e02d818a2ca4b9c9751387bd45649e2ae127a994eb981c45ad5070af9561fc62117c77f5daf949f00804c9083e3bd8fae9b473088e259860d055a96ce7d4322008c02e21a9f5bd73f39743d7de593e42e3a3fe8804e55fb5cf1419be9dfd469d5477923b166b439276787f042ccca3e7dc1de1472580203b37bb958e6b1009
def u13 : Int:=-0x5a9189e77742c12d582c1b250912c45610841ed2ef88df5b0cb8018f6ee0e76f214439b5cbfc8789161123c7e8302062999b3efa52b3e6b2c98610c97ac1c196122f1c3f078c5cbf31f1600ce6ae4c99746c0807fe7f8a98ca9e3982fd7f20f2caba05b1eea5f30252575ca20cd0551e28c6f06ad0c17e7741457383c99aee2542869469186aea3246d27afd0ffe14354965c93b1b412619953b0fa5a4bf32e6b9dbdbd3b026720fddb3d
def u21 : Int:=0x878119b2c0fc44473e89361c25267f36f5183c4107777e5bd25ffe66cff9d9538bd5e1ca86f97b56f4ef879263c5863c92650e2e257b354a360f9973a3a865b02ef0d87a72e36c51a27643373b4501cc660b8fe36360310f510147800d8ed5ac6fd480b1958410734e5e512a7b501516c087818fd5b99d8d0a1681af0f2a2dbe1eaa9d827a41669d1d0d78a709050d8dd1def0f436568b04562bda0a5eeac43d3807c11a7fe8f2877b7d5
def u22 : Int:=0xc6829d0fa28379974d5f0b20aac3d666431133de392c7bf82f553c56828a80553dfafc039030693c6e775ea28b6b407c8fd845c37fc7b9bea3d4e860049b2ec10ec62e44077ed955a5d63af690b25eaca3545b9b1c725a70f677eed589bbfd6a5094fe12ae593e600c2ae4786d9d51a94ca1012fdfc53faaa6a08383b60c01144cdabe19d9336086398ba1dee7f4afb3ac43afa230c7eb01bece6723578982691af999a53e87567423010
def u23 : Int:=0x557e62b3d955a00fff3c15dd6dc284881b1e047b747c374eb4ca6fc41e5b344c8eb94e9d07678e4b2b6debb8410a44bbc6401025f3d7f691c97aae67e9e2fd0486c03cab632751f9a31049f76734b1ebad56ee8e91f7e59890510ce4d4fa5b111a75f3fd4b3e957c8973e29a2daedae25c02091350f5f2ec8256783edad3a87bc345ff677e3f3e741a8680845e2aa8f344034450e798f942d15aae1332529fcb957b45cca77fb3560787c
def u31 : Int:=-0x3be027b6a6201a763235f5f004b4ea9ff23cd6f04e867e1ee0240755b4d84ba5e86344bb73b0be0a51553e31a55ae1a6571f55321c5a2b623feafc54e85a825123f25c9ccbc58def4b3e4716c4ebf18da14deef16d3e9f31c31097370d36298b19aaf207724a2f2136ab7c066582507b22ef73e0f3f00d880bd4f4b1bda489d227e6a692ef370cb453163b83c2fe224724ab35ef30bd1736186082fded6a8f27e3bccd89a417d618becabd
def u32 : Int:=-0x57b75765345789b46a46db7280fb661d4c5830b53b472619c58f0036198a65d4927f143d5e4fca16efefc99381bdcbe9748c49c97bc904f6dc904e64e16664596f282995326921d151d7f7feb75f83bca867c9c0cc2bc2d2a0dbeb3639ef30e4d038cca4627a0a5f12329d3cf424e945a7df2a873460408d96d27fa6c9f55f022b31bf67ff0d271efa38d43e9db01ed394b3f228c7915afddeb6d65db59eda75af4f6ee8681cbef85e60b4
def u33 : Int:=-0x25c6fd383c87cee3d7882aa97f9fa3cdce5dca11e0fc157d329eac92842d5f9551e8d2bbb8f6ec4916be63686c241ea38a7350e66a023ecc99aae782bf3ce4cfb0e3d5285c335c27d88dce99420c3ce90bdac88cc48312d7dae6f07cb91d88e2bf591b5cf385f0dd24f4de71eae27f7ac5a51bafbba1ee8e83da2e2a68ad1b327c83f18f4a1f57e3d5776a6200c965ab12926f184268450c446cc873ef0ad876e8d755e984f3e8cbc7cd7b
def v11 : Int:=0x1e2809037e08b0507b71c3223ccbd19c3983311cbb21a58b145141216473a773dea8559fa6ef67d6529a1601aa4a76a147930fdc891ae1c1aa577bbaefe24a233eab2f3cf3f3dbfcaf9c21853982efe67a968d14f80
def v12 : Int:=-0x473b6a248b634191ddeb242a436555ef8deef2fdf1bb135d0ab0e1b40c2559684f861024c9a68e0afe093607990b08f08c001cacba00f80ac5b0dfb69341216c239fa220c41eab71a9057030df213adc83dc62be26f
def v13 : Int:=-0xe980c508947f357ce4b435509fd16d8af4f172757dea4933f663b98e125b4083bba26397dc844b456959b325f5285f27f83a411d876169b78b5974fb157faed719ed975ffcae4034181be8e2507d89d553520cd88c
def v21 : Int:=-0x7599c1db5a681cbd97f0b16917528bfb9d6a341aa2b7f59983fc0dcdf886a723ea9f80ef665ec40f7cfe14033f6923fe8ca4c7d978e4e0c6010409833efdbc0104235c33bb5e76dc0643629ca2552c033137604e735
def v22 : Int:=-0x2ae94f4d92de2bdbd26cec6836b08b0528bf71a1cea9751332346864bf8747a3d02cfaded92b089ad4ad2ea0e914a7059732d054e4b38126088b93c88e8a9add9e3074fccc56dfb9893d91ec36d29689931b925da19
def v23 : Int:=0xb8d3af522da2038ea0b64d48678a3adb1c6657258d336dadff35f03d8e72675ab7d76186b4a819dff478417bd57c2a9657f01a3bf6c03b293b0970071d65c2abd501b4a6844b49d676d9ea34c6047f8dedae409fff
def v31 : Int:=0xe1436ff11eeeb8748ecfe28746c7932e8a91e718f04d62333d7a99da85eabb84e1157168c515d21751a10f579704d10a4ca5a670454c7e7a291789f7b83d78166b7d9806dee877bb6af73e19704e33e79317056fa0c
def v32 : Int:=0xd4898c3a14ed33e36d2e167d59bdc70dfa01ac02f403ed98404adbe545bd687dbc2897c6aa98f95c9a74885782be935d11f8de4a9235684e3e433dc548b7fafb31b840e61d9822e5e55d95cc955135a19000f601e65
def v33 : Int:=-0x3b0fadfd67a54caa52cff38f9205212cd9f9301eb22515216ac956f95de7ae492c7e756d6bd2b130a33471e948fa76f8f4b39b67ca7afe062d71d9ff961ba791d37782fb583a3943541bc8dbadb619b36299864683
def HH : Nat:=10 ^ 120
def KK : Int:=2 ^ 2048
def uCk (u1 u2 u3:Int):Bool:=Nat.blt ((KK * u1 - u3 * (L3:Int)).natAbs * HH+(KK * u2 - u3 * (L5:Int)).natAbs * HH+u3.natAbs * (2 * HH)) KK.natAbs
theorem zlA {u1 u2 u3:Int}(h:uCk u1 u2 u3=true):(KK * u1 - u3 * (L3:Int)).natAbs * HH+(KK * u2 - u3 * (L5:Int)).natAbs * HH+u3.natAbs * (2 * HH)<KK.natAbs:=by
 unfold uCk at h;generalize (KK * u1 - u3 * (L3:Int)).natAbs * HH+(KK * u2 - u3 * (L5:Int)).natAbs * HH+u3.natAbs * (2 * HH)=x at *;generalize KK.natAbs=y at *;exact Nat.le_of_ble_eq_true h
theorem uc1 : uCk u11 u12 u13=true:=by decide +kernel
theorem uc2 : uCk u21 u22 u23=true:=by decide +kernel
theorem uc3 : uCk u31 u32 u33=true:=by decide +kernel
theorem zlB {A B C:Int}(hB:B.natAbs≤HH)(hC:C.natAbs≤HH)(hT:(A * KK+B * (L3:Int)+C * (L5:Int)).natAbs≤2 * HH):A=0∧B=0∧C=0:=by
 have z1:=zl9 hB hC hT (zlA uc1);have z2:=zl9 hB hC hT (zlA uc2);have z3:=zl9 hB hC hT (zlA uc3);have b1:=bca (v1:=v11) (v2:=v12) (v3:=v13) z1 z2 z3 (c1:=1) (c2:=0) (c3:=0) (by decide +kernel) (by decide +kernel) (by decide +kernel);have b2:=bca (v1:=v21) (v2:=v22) (v3:=v23) z1 z2 z3 (c1:=0) (c2:=1) (c3:=0) (by decide +kernel) (by decide +kernel) (by decide +kernel);have b3:=bca (v1:=v31) (v2:=v32) (v3:=v33) z1 z2 z3 (c1:=0) (c2:=0) (c3:=1) (by decide +kernel) (by decide +kernel) (by decide +kernel);clear z1 z2 z3 hT hB hC;exact ⟨by omega,by omega,by omega⟩
end
end Go.Proofs.YtbkfhacmekbniaaGreatDoor
