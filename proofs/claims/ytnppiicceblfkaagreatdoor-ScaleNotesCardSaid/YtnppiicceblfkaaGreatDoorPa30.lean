/- Walk: scale.Steps of a right scale. Plain: the notes of a scale at large indices; Find of a note is its index. What the laws of worlds begin with: a world in its box. Plain: modes again, the subset of all notes, the collection of a scale's own notes, the sum of the steps. Plain: a world's scale has at most nine notes; the steps as differences of its notes. Walk: law 31's Major. Plain: the major scale is the collection of seven fifths; what reduces there. -/
import Derived.Test.YtnppiicceblfkaaGreatDoorPa29
import Derived.Test.YtnppiicceblfkaaGreatDoorPa20
import Derived.Test.YtnppiicceblfkaaGreatDoorPa19
import Derived.Test.YtnppiicceblfkaaGreatDoorPa24
import Derived.Test.YtnppiicceblfkaaGreatDoorPa17
import Derived.Test.YtnppiicceblfkaaGreatDoorShelfF
import Derived.Test.YtnppiicceblfkaaGreatDoorPa22
import Derived.Test.YtnppiicceblfkaaGreatDoorPa21
set_option maxRecDepth 100000
set_option maxHeartbeats 4000000
namespace Go.Proofs.YtnppiicceblfkaaGreatDoor
section
open Go.RowKit Go.Lib
attribute [local go_sem] Oper.semAt_some
def stQ (n:Nat)(rs:List Qw)(k:Nat):List Rat:=zfa (((rs[k]?).map Qw.x).getD []) (zjt n rs k)
def zn8 (n:Nat)(rs:List Qw)(k:Nat):List (List Rat):=(List.range k).map (stQ n rs)
theorem zn9 (n:Nat)(rs:List Qw)(k:Nat):zn8 n rs (k+1)=zn8 n rs k++[stQ n rs k]:=by unfold zn8;rw [List.range_succ,List.map_append];rfl
def znA (w:World)(n:Nat)(rs:List Qw)(k:Nat)(u:Value)(wr:World):Prop:=∃ out:List Qw,QwM wr w.heap.size w.heap.size u out∧out.map Qw.x=zn8 n rs k∧out.length=k∧Ext w wr
theorem znA.more {w W V:World}{o:Obj}{n k:Nat}{rs:List Qw}{v5 v7 u:Value}{out:List Qw}(hE:Ext w W)(h:QwM W w.heap.size w.heap.size v5 out)(hm:out.map Qw.x=zn8 n rs k)(hl:out.length=k)(hr:zfB W w.heap.size u (stQ n rs k)) 
  (hown:V.ownsRow w.heap.size 28 1 v7 (k+1) (qwc out++[u])) (hgrow:(W.alloc o).grownBy V v5.ownBlock):znA w n rs (k+1) v7 V:=by
 subst hl;have:=QwM.more (r:=⟨_,u,zfF hr.rd⟩) hE h hr hown hgrow;exact ⟨_,this.1,by rw [List.map_append,hm,zn9];rfl,by rw [List.length_append];rfl,this.2⟩
theorem znB (v:Value)(p:List Int)(rs:List Qw)(w:World)(he:Env w)(hv:ScV w v p rs)(h:zju p rs)(hp0:0<p.length)(hres:∀ k,k<rs.length→∀ q∈stQ p.length rs k,Ft 30 q) :
  Calls Tryz.prog 20 #[v] w fun e w'=>∃ u,e=.returned (.tuple #[u,.int .i64 0])∧znA w p.length rs rs.length u w':=by
 obtain ⟨j0,hj,hy0,hy1,hy2⟩:=info_parts zfD;have h60:=h.most;have h1:=fun W (hE:Ext w W)=>zjv v p rs W (he.ext hE) (hv.ext hE) h;have hcl:=fun W u x (hx:Rd W u x)(hl:x.length=p.length)=>zks u x W hx (by have:=h.few;omega) (by intro e;rw [e] at hl;simp at hl;omega);obtain ⟨vp,vn,rfl,hp,hs,hm⟩:=hv;have hsub:=fun (k:Nat)(r s:Qw)(hr:rs[k+1]?=some r)(hs:rs[k]?=some s) W (hE:Ext w W)=>zi0 vp r.u s.u p r.x s.x W (he.ext hE) (hE.sl hp) (hE.rd (hm r (List.mem_of_getElem? hr))) (hE.rd (hm s (List.mem_of_getElem? hs))) h.pe (h.len r (List.mem_of_getElem? hr)) (h.len s (List.mem_of_getElem? hs)) (h.ft r (List.mem_of_getElem? hr)) (h.ft s (List.mem_of_getElem? hs)) (by
  have:=hres (k+1) (List.getElem?_eq_some_iff.1 hr).1;unfold stQ zjt at this;rw [if_neg (by omega),hr,Nat.add_sub_cancel,hs] at this;exact this)
 have hst0:∀ r,rs[0]?=some r→stQ p.length rs 0=r.x:=fun r hr=>by
  unfold stQ zjt;rw [if_pos rfl,hr];show zfa r.x (List.replicate p.length 0)=r.x;rw [← h.len r (List.mem_of_getElem? hr)];exact zj9 r.x
 have hst1:∀ k r s,rs[k+1]?=some r→rs[k]?=some s→stQ p.length rs (k+1)=zfa r.x s.x:=fun k r s hr hs=>by
  unfold stQ zjt;rw [if_neg (by omega),hr,Nat.add_sub_cancel,hs];rfl
 have hln:=h.len;have hone:=fun (r:Qw)(hr:r∈rs)=>(hm r hr).parts;have hrd:=fun (r:Qw)(hr:r∈rs) W (hE:Ext w W)=>hE.rd (hm r hr);obtain ⟨ap,cp,rfl,_,_,_⟩:=hp.parts;obtain ⟨an,cn,rfl,_,_,hc⟩:=hs.parts;rw [zar] at *;rw [zfE] at *;generalize hn:rs.length=n at *;have Hn:=hid hn;have bx:(w.alloc (.cells #[.slice ap p.length cp,.slice an n cn] 35)).heap[w.heap.size]?=some (.cells #[.slice ap p.length cp,.slice an n cn] 35 (0,0)):=World.alloc_heap_new w _;have hE0:Ext w (w.alloc (.cells #[.slice ap p.length cp,.slice an n cn] 35)):=(Ext.refl w).alloc _;have hbox:∀ W,Ext (w.alloc (.cells #[.slice ap p.length cp,.slice an n cn] 35)) W→W.cell? ⟨w.heap.size,0,none⟩=some (.slice ap p.length cp)∧W.cell? ⟨w.heap.size,1,none⟩=some (.slice an n cn):=fun W hE=>by
  have hb:=hE.heap bx;unfold World.cell?;dsimp only;rw [hb];exact ⟨rfl,rfl⟩
 clear hp hs hm he h bx hres hn;have H1:=hid h1;have Hcl:=hid hcl;have Hsub:=hid hsub;have Hst0:=hid hst0;have Hst1:=hid hst1;have Hln:=hid hln;have Hone:=hid hone;have Hrd:=hid hrd;have Hc:=hid hc;have HE0:=hid hE0;have Hbox:=hid hbox;clear h1 hcl hsub hst0 hst1 hln hone hrd hc hE0 hbox;go_enter Tryz.func20,Tryz.ntmps20
 go_wp2_with fail
 refine (H1.out _ HE0.out).mono ?_;rintro e w1 ⟨rfl,hx1⟩;obtain ⟨q0,q1⟩:=Hbox.out w1 hx1;have Hx1:=hid hx1;clear hx1;go_wp2_with fail
 go_loopw [5,6,7,8,17] (fun v5 v6 v7 v8 v17 wr=>∃ k:Nat,v17=.int .i64 k∧k≤n∧znA w1 p.length rs k v5 wr) (fun _ _ _ _ v17 _=>n - (zal v17).toNat)
 case atStart=>exact ⟨0,rfl,Nat.zero_le _,⟨[],QwM.nil _ _ _,rfl,rfl,Ext.refl _⟩⟩
 case round =>
  clear q0 q1;obtain ⟨k,rfl,hk,⟨out,hq,hmq,hlq,hE⟩⟩:=hrel;have hEw:=(HE0.out.trans Hx1.out).trans hE;obtain ⟨a5,c5,rfl⟩:=zet hq.1;rw [hlq] at hq;rw [hlq];by_cases hkn:k<n
  ·obtain ⟨r,hr⟩:∃ r,rs[k]?=some r:=⟨_,List.getElem?_eq_getElem (by rw [Hn.out];exact hkn)⟩;have hmem:=List.mem_of_getElem? hr;obtain ⟨b,off,rfl,hc0⟩:=Hc.out k r.u (by unfold qwc;rw [List.getElem?_map,hr];rfl);obtain ⟨ar,cr,hru,_,_,_⟩:=Hone.out r hmem;have hcu:=hEw.cell hc0;have hrl:r.x.length=p.length:=Hln.out r hmem;rw [hru,hrl] at hcu;have hrr:=Hrd.out r hmem wr hEw;rw [hru,hrl] at hrr;have hk0:(0:Int)≤(k:Int):=(by omega);have hk1:(k:Int)<(n:Int):=(by omega);have hm3:k+1≤maxLen:=(by unfold maxLen;omega);have hm4:(k+1) * 24≤140737488355328:=(by omega);have hqo:=hq.1;rw [hlq] at hqo;obtain ⟨q0,q1⟩:=Hbox.out wr (Hx1.out.trans hE);by_cases hkz:0<k
   ·obtain ⟨j,hkj⟩:∃ j,k=j+1:=⟨k - 1,by omega⟩;obtain ⟨s,hs⟩:∃ s,rs[j]?=some s:=⟨_,List.getElem?_eq_getElem (by rw [Hn.out];omega)⟩;have hsm:=List.mem_of_getElem? hs;obtain ⟨b',off',e',hc2⟩:=Hc.out j s.u (by unfold qwc;rw [List.getElem?_map,hs];rfl)
    cases e'
    obtain ⟨as',cs,hsu,_,_,_⟩:=Hone.out s hsm;have hsl:s.x.length=p.length:=Hln.out s hsm;have hcs:=hEw.cell hc2;rw [hsu,hsl] at hcs;have hst:stQ p.length rs k=zfa r.x s.x:=by
     subst hkj;exact Hst1.out j r s hr hs
    have hsb:=fun W (hx:Ext wr W)=>Hsub.out j r s (by rw [← hkj];exact hr) hs W (hEw.trans hx);rw [hru,hsu,hrl,hsl] at hsb;have hsxl:(zfa r.x s.x).length=p.length:=(zj8 (hrl.trans hsl.symm)).trans hrl;have hclo:=fun W g ho=>Hcl.out W (.slice (some ⟨g,0,none⟩) p.length p.length) (zfa r.x s.x) ho hsxl;have hz1:(0:Int)<(k:Int):=(by omega);have hwj:IntKind.i64.wrap ((k:Int) - 1)=(j:Int):=(by rw [IntKind.wrap_i64];omega);have hj0:(0:Int)≤(j:Int):=(by omega);have hj1:(j:Int)<(n:Int):=(by omega);have Hsb:=hid hsb;have Hclo:=hid hclo;have Hst:=hid hst;have Hq:=hid hq;have Hmq:=hid hmq;have Hlq:=hid hlq;have HEw:=hid hEw;have HE:=hid hE;have Hkj:=hid hkj;have Hsxl:=hid hsxl;clear hsb hclo hst hq hmq hlq hEw hE hrr hc0 hc2 hr hs hmem hsm hrl hsl hru hsu hqo hkj hsxl;go_wp2_with fail
    go_region_held3 (fun w'=>Ext wr w'∧w'.cell? ⟨w.heap.size,0,none⟩=some (.slice ap p.length cp)∧w'.cell? ⟨w.heap.size,1,none⟩=some (.slice (some ⟨b,off,none⟩) n cn)∧w'.cell? ⟨b,off+j,none⟩=some (.slice as' p.length cs))
     (first | (with_reducible assumption) | exact ⟨(Ext.refl wr).drew,q0,q1,hcs⟩)
     (first | (go_at_call 48;refine (Hsb.out _ (And.left (by assumption))).mono ?_;rintro e9 VA ⟨g2,rfl,ho2,hxa⟩;have hEA:=((Ext.refl wr).drew).trans hxa;have hS2:Ext wr VA∧VA.cell? ⟨w.heap.size,0,none⟩=some (.slice ap p.length cp)∧VA.cell? ⟨w.heap.size,1,none⟩=some (.slice (some ⟨b,off,none⟩) n cn)∧VA.cell? ⟨b,off+j,none⟩=some (.slice as' p.length cs):=⟨hEA,hEA.cell q0,hEA.cell q1,hEA.cell hcs⟩;have HEA:=hid hEA;have Ho2:=hid ho2.rd;clear hxa hEA ho2))
    all_goals
     clear hS2 q0 q1 hcs hcu;have hcl2:=Hclo.out VA _ Ho2.out;have Hcl2:=hid hcl2;clear hcl2;go_wp2_with fail
     refine Hcl2.out.mono ?_;rintro e W3 ⟨u3,rfl,ho3,hx3⟩;have hrd3:=ho3.rd;obtain ⟨a3,c3,rfl,_,_,_⟩:=hrd3.parts;have hx13:=HEA.out.trans hx3;have hq3:=hx13.qwM Hq.out;have hE3:=HE.out.trans hx13;have hqo:=hq3.1;rw [Hlq.out] at hqo;have hbase:=hE3.size;have ho4:zfB W3 w1.heap.size (.slice a3 (zfa r.x s.x).length c3) (zfa r.x s.x):=ho3.mono (HE.out.trans HEA.out).size;have Ho3:=hid ho4;have Hq3:=hid hq3;have HE3:=hid hE3;rw [Hsxl.out] at Ho3;rw [Hsxl.out];clear ho3 ho4 hx3 hx13 hrd3 hq3 hE3;go_wp2_with (at_builtin;refine wpList_append_own _ rfl _ _ 33 rfl w1.heap.size 28 j0 (.slice none 0 0) 1 24 Tryz.underlying33 hj hy0 hy1 hy2 rfl (by decide) _ _ _ rfl (hqo.alloc _) ⟨W3.heap.size,0,none⟩ 1 1 [.slice a3 p.length c3] rfl rfl (cell_one_new _ _ _) (by simp [Value.oneCell']) hm3 hm4 (by rw [World.size_alloc];omega) ?_;intro v7 V7 hown7 hgrow7 _)
     go_roundw
     case rel=>exact ⟨k+1,by go_num,by omega,znA.more HE3.out Hq3.out Hmq.out Hlq.out (by rw [Hst.out];exact Ho3.out) hown7 hgrow7⟩
     case measure=>simp [zal];omega
   ·have hst:stQ p.length rs k=r.x:=by
     obtain rfl:k=0:=by omega
     exact Hst0.out r hr
    have hz1:¬ (0:Int)<(k:Int):=(by omega);have hclo:=Hcl.out wr _ r.x hrr hrl;have Hclo:=hid hclo;have Hst:=hid hst;have Hq:=hid hq;have Hmq:=hid hmq;have Hlq:=hid hlq;have HEw:=hid hEw;have HE:=hid hE;clear hclo hst hq hmq hlq hEw hE hrr hc0 hr hmem hrl hru hqo;go_wp2_with fail
    refine Hclo.out.mono ?_;rintro e W3 ⟨u3,rfl,ho3,hx3⟩;have hrd3:=ho3.rd;obtain ⟨a3,c3,rfl,_,_,_⟩:=hrd3.parts;have hq3:=hx3.qwM Hq.out;have hE3:=HE.out.trans hx3;have hqo:=hq3.1;rw [Hlq.out] at hqo;have hbase:=hE3.size;have Ho3:=hid (ho3.mono HE.out.size);have Hq3:=hid hq3;have HE3:=hid hE3;clear ho3 hx3 hrd3 hq3 hE3 q0 q1 hcu;go_wp2_with (at_builtin;refine wpList_append_own _ rfl _ _ 33 rfl w1.heap.size 28 j0 (.slice none 0 0) 1 24 Tryz.underlying33 hj hy0 hy1 hy2 rfl (by decide) _ _ _ rfl (hqo.alloc _) ⟨W3.heap.size,0,none⟩ 1 1 [.slice a3 r.x.length c3] rfl rfl (cell_one_new _ _ _) (by simp [Value.oneCell']) hm3 hm4 (by rw [World.size_alloc];omega) ?_;intro v7 V7 hown7 hgrow7 _)
    go_roundw
    case rel=>exact ⟨k+1,by go_num,by omega,znA.more HE3.out Hq3.out Hmq.out Hlq.out (by rw [Hst.out];exact Ho3.out) hown7 hgrow7⟩
    case measure=>simp [zal];omega
  ·obtain rfl:n=k:=by omega
   have Hq:=hid hq;have Hmq:=hid hmq;have Hlq:=hid hlq;have HEw:=hid hEw;clear hq hmq hlq hEw;go_wp2
   go_ret2
   exact ⟨_,rfl,_,Hq.out.mono (HE0.out.trans Hx1.out).size (HE0.out.trans Hx1.out).size,Hmq.out,Hlq.out,HEw.out⟩
end
section
theorem znC {p:List Int}{a:Rat}{tl:List Rat}(hp:Pr p (a::tl).length)(hb:Bx 256 (a::tl)∨∀ r∈tl,r=0):flN p (a::tl)=(sF p (a::tl) / 67108864).floor:=by
 rw [← ziU hp hb];by_cases h:∀ r∈tl,r=0
 ·rw [zmD hp h];unfold flP;rw [List.tail_cons,if_pos (by rw [List.all_eq_true];simpa using h)];rfl
 ·have he:=ziS hp (hb.resolve_right h) h;rw [zmB (zmC hp _) he.1 he.2];unfold flP;rw [List.tail_cons,if_neg (by rw [List.all_eq_true];simpa using h),he.1]
theorem znD {n:Nat}{p:List Int}{a:Rat}{tl:List Rat}(hp:Pr p (a::tl).length)(h:Nic n (a::tl)):Bx 256 (a::tl)∨∀ r∈tl,r=0:=by
 rcases h with ⟨_,hb⟩ | ⟨_,_,ho⟩
 ·exact .inl hb
 ·right;rcases hp with ⟨_,hl⟩ | ⟨_,hl⟩
  ·match tl,hl,ho with
   | [b],_,⟨hb,_⟩=>intro r hr;rw [List.mem_singleton] at hr;subst hr;exact hb
  ·match tl,hl,ho with
   | [b,c],_,⟨hb,hc,_⟩ =>
    intro r hr
    simp only [List.mem_cons,List.not_mem_nil,or_false] at hr
    rcases hr with rfl | rfl
    ·exact hb
    ·exact hc
theorem znE (a:Rat)(q:Int):(a+(q:Rat)).num.natAbs≤(a.num+q * a.den).natAbs∧(a+(q:Rat)).den≤a.den:=by
 have hd:a.den ≠ 0:=a.den_nz;have e:a+(q:Rat)=mkRat (a.num+q * a.den) a.den:=by
  have e2:(q:Rat)=mkRat q 1:=(Rat.mkRat_one q).symm
  conv=>lhs;rw [← Rat.mkRat_self a,e2]
  rw [Rat.mkRat_add_mkRat _ _ hd (by omega)];simp
 rw [e];constructor
 ·rw [Rat.num_mkRat,if_neg hd];exact Int.natAbs_ediv_le_natAbs _ _
 ·rw [Rat.den_mkRat,if_neg hd];exact Nat.div_le_self _ _
theorem znF {s:Rat}{q:Int}(h1:(q:Rat) * 67108864≤s)(h2:s<(q:Rat) * 67108864+67108864):(s / 67108864).floor=q:=by
 have a1:q≤(s / 67108864).floor:=Rat.le_floor_iff.2 (by grind);have a2:(s / 67108864).floor<q+1:=by
  rw [Rat.floor_lt_iff,Rat.intCast_add,show ((1:Int):Rat)=1 from rfl];grind
 omega
section
variable {p : List Int} {N : List (List Rat)} (h : Wd p N)
include h
theorem Wd.idx (k:Int):∃ i:Nat,k % (N.length:Int)=i∧i<N.length∧k=k / (N.length:Int) * (N.length:Int)+i:=by
 have h0:=h.pos;have e1:=Int.emod_nonneg k (show (N.length:Int) ≠ 0 by omega);have e2:=Int.emod_lt_of_pos k (show (0:Int)<(N.length:Int) by omega);refine ⟨(k % (N.length:Int)).toNat,by omega,by omega,?_⟩;have:=Int.mul_ediv_add_emod k (N.length:Int);rw [Int.mul_comm] at this;omega
theorem Wd.nt_floor (k:Int):∃ a tl,nt p N k=a::tl∧Pr p (tl.length+1)∧flN p (a::tl)=k / (N.length:Int):=by
 obtain ⟨n,hn⟩:=h.dif;obtain ⟨i,hi,hil,_⟩:=h.idx k;have hl:=h.ntlen k;have hp0:=(zjO h.pr).2;match he:nt p N k,hl with
 | [],hl=>exact absurd hl (by rw [List.length_nil];omega)
 | a::tl,hl =>
  have hp:Pr p (a::tl).length:=by rw [hl];exact h.pr
  have hnic:=h.nt_nic hn k 0
  rw [h.nt_zero,← h.ntlen k,zj9,he] at hnic
  refine ⟨a,tl,rfl,hp,?_⟩
  rw [znC hp (znD hp hnic),← he]
  have hs:=h.sF_nt k
  have hz:=h.zbd (i:=(k % (N.length:Int)).toNat) (by omega)
  exact znF (by grind) (by grind)
theorem Wd.nt_rest (k:Int):zeZ (nt p N k) (zfb (ov (p.length - 1)) ((-(k / (N.length:Int)):Int):Rat))=zat p N (k % (N.length:Int)).toNat:=by
 obtain ⟨i,hi,hil,_⟩:=h.idx k;have hp0:=(zjO h.pr).2;have hzl:=h.zlen (i:=(k % (N.length:Int)).toNat) (by omega);have hc:∀ (x y:List Rat),zeZ x y=zeZ y x:=fun x y=>by unfold zeZ;rw [List.zipWith_comm];congr 1;funext a b;exact Rat.add_comm _ _
 rw [hc,zjK,show p.length - 1+1=p.length by omega,← h.ntlen k,zjL,nt,zjD,show k / (N.length:Int)+-(k / (N.length:Int))=0 by omega,zjE]
theorem Wd.zat_ft {i:Nat}(hi:i≤N.length):∀ q∈zat p N i,Ft 30 q:=by
 intro q hq;rcases List.mem_cons.1 (h.zmem hi) with e | e
 ·rw [e] at hq;rw [List.eq_of_mem_replicate hq];exact zib.mono (by omega)
 ·have:=h.mem_sn2 e q hq;exact ziW (by omega) (by omega)
theorem Wd.nt_ft (k:Int)(hk0:-1000000≤k)(hk1:k≤1000000):∀ q∈nt p N k,Ft 30 q:=by
 obtain ⟨i,hi,hil,_⟩:=h.idx k;have h0:=h.pos;have hq:=ziA (a:=k) (b:=(N.length:Int)) (m:=1000000) (by omega) hk0 hk1 (by omega);have hz:∀ r∈zat p N (k % (N.length:Int)).toNat,r.num.natAbs≤30000∧r.den≤60:=fun r hr=>by
  rcases List.mem_cons.1 (h.zmem (i:=(k % (N.length:Int)).toNat) (by omega)) with e | e
  ·rw [e] at hr;rw [List.eq_of_mem_replicate hr];decide
  ·exact h.mem_sn2 e r hr
 unfold nt;generalize k / (N.length:Int)=q at *;generalize zat p N (k % (N.length:Int)).toNat=x at *
 cases x with
 | nil=>intro r hr;cases hr
 | cons a tl =>
  intro r hr
  simp only [shf,List.mem_cons] at hr
  rcases hr with rfl | hr
  ·have ha:=hz a (List.mem_cons_self ..)
   have hb:(a.num+q * (a.den:Int)).natAbs≤30000+1000000 * 60:=by
    have h1:(q * (a.den:Int)).natAbs≤1000000 * 60:=(by rw [Int.natAbs_mul,Int.natAbs_natCast];exact Nat.mul_le_mul (by omega) ha.2);have:=Int.natAbs_add_le a.num (q * (a.den:Int));omega
   have hr:=znE a q
   exact ziW (by omega) (by omega)
  ·have:=hz r (List.mem_cons_of_mem _ hr)
   exact ziW (by omega) (by omega)
end
theorem Wd.find_at {p:List Int}{rs:List Qw}(h:Wd p (rs.map Qw.x)){i:Nat}(hi:i<rs.length){z:Int}(hz:zk0 (fun y=>decide (zat p (rs.map Qw.x) i=y)) rs z):z+1=(i:Int):=by
 have hlen:(rs.map Qw.x).length=rs.length:=List.length_map ..;have hat:∀ k r,rs[k]?=some r→r.x=zat p (rs.map Qw.x) (k+1):=fun k r hr=>by
  unfold zat;rw [List.getElem?_cons_succ,List.getElem?_map,hr];rfl
 have hinj:∀ a b,a≤rs.length→b≤rs.length→zat p (rs.map Qw.x) a=zat p (rs.map Qw.x) b→a=b:=fun a b ha hb e=>by
  rcases Nat.lt_trichotomy a b with g | g | g
  ·have:=h.zlt g (by omega);rw [e] at this;exact absurd this (Rat.lt_irrefl)
  ·exact g
  ·have:=h.zlt g (by omega);rw [e] at this;exact absurd this (Rat.lt_irrefl)
 rcases hz with ⟨rfl,hall⟩ | ⟨k,r,rfl,hk,hP,_⟩
 ·cases i with
  | zero=>rfl
  | succ i =>
   exfalso
   have hr:rs[i]?=some rs[i]:=List.getElem?_eq_getElem (by omega)
   have:=hall _ (List.mem_of_getElem? hr)
   rw [← hat i _ hr] at this
   simp at this
 ·have hkl:=(List.getElem?_eq_some_iff.1 hk).1;have e:=of_decide_eq_true hP;rw [hat k r hk] at e;have:=hinj i (k+1) (by omega) (by omega) e;omega
theorem Wd.findA {p:List Int}{N:List (List Rat)}(h:Wd p N){k:Int}(hk0:-1000000≤k)(hk1:k≤1000000){i:Nat}(hi:k % (N.length:Int)=i)(hil:i<N.length)(he:k=k / (N.length:Int) * (N.length:Int)+i) :
  findA N.length (i:Int) (k / (N.length:Int)) (decide (zat p N i=List.replicate p.length 0))=(k,true):=by
 have h0:=h.pos;have hq:=ziA (a:=k) (b:=(N.length:Int)) (m:=1000000) (by omega) hk0 hk1 (by omega);have h1:¬ ((i:Int)=0∧decide (zat p N i=List.replicate p.length 0)=false):=by
  rintro ⟨e,g⟩;obtain rfl:i=0:=by omega
  have:=of_decide_eq_false g;exact this rfl
 rw [zn4 h1 (by omega) (by omega),← he]
theorem Wd.step_nt {p:List Int}{rs:List Qw}(h:Wd p (rs.map Qw.x)){k:Nat}(hk:k<rs.length):stQ p.length rs k=zfa (nt p (rs.map Qw.x) ((k:Int)+1)) (nt p (rs.map Qw.x) (k:Int)):=by
 have hlen:(rs.map Qw.x).length=rs.length:=List.length_map ..;rw [show (k:Int)+1=((k+1:Nat):Int) by omega,h.nt_low (by omega),h.nt_low (by omega)];unfold stQ;congr 1
 ·unfold zat;rw [List.getElem?_cons_succ,List.getElem?_map]
 ·unfold zjt zat
  cases k with
  | zero=>rfl
  | succ k=>rw [if_neg (by omega),List.getElem?_cons_succ,List.getElem?_map,Nat.add_sub_cancel]
end
section
open Go.RowKit Go.Lib Go.Shelf
theorem znG (a:Wl)(w W:World)(h:Ext (w.alloc (.cells a.cs 26)) W):W.rangeAt w.heap.size 0 a.cs.toList:=fun j v hj=>by
 unfold World.cell?;dsimp only;rw [h.heap (World.alloc_heap_new w _),Nat.zero_add];show a.cs[j]?=some v;rw [← Array.getElem?_toList];exact hj
theorem znH (a:Wl):(Tryz.prog.info? 26).map (·.size)=some a.cs.toList.length:=by
 rw [Array.length_toList];kernel_rfl
theorem znI (a:Wl):Wl.cs a=#[.bool a.three,.int .u8 a.kind,.int .u8 a.num,.int .i8 (a.xs 0).a,.int .i8 (a.xs 0).b,.int .i8 (a.xs 0).c,.int .i8 (a.xs 1).a,.int .i8 (a.xs 1).b,.int .i8 (a.xs 1).c,.int .i8 (a.xs 2).a,.int .i8 (a.xs 2).b,.int .i8 (a.xs 2).c,.int .i8 (a.xs 3).a,.int .i8 (a.xs 3).b,.int .i8 (a.xs 3).c,.int .i8 (a.xs 4).a,.int .i8 (a.xs 4).b,.int .i8 (a.xs 4).c,.int .i8 (a.xs 5).a,.int .i8 (a.xs 5).b,.int .i8 (a.xs 5).c,.int .i8 (a.xs 6).a,.int .i8 (a.xs 6).b,.int .i8 (a.xs 6).c,.int .i8 (a.xs 7).a,.int .i8 (a.xs 7).b,.int .i8 (a.xs 7).c]:=rfl
theorem znJ (a:Wl){N:List (List Rat)}(h:zka a.p a.sizes N):Wd a.p N:=zkf a.lw h (by have:=a.few;omega)
end
section
section
variable {p : List Int} {N : List (List Rat)} (h : Wd p N)
include h
omit h in
theorem znK {i:Nat}(hi:i<N.length):N[i]?=some (zat p N (i+1)):=by
 unfold zat;rw [List.getElem?_cons_succ,List.getElem?_eq_getElem hi,Option.getD_some]
theorem Wd.zlow {i:Nat}(hi:i<N.length):rst p (zat p N i)=zat p N i:=by
 obtain ⟨n,hn⟩:=h.dif;have hl:=h.zlen (Nat.le_of_lt hi);have hni:=hn _ (h.zmem (Nat.le_of_lt hi)) _ (List.mem_cons_self ..);rw [← hl,zj9] at hni;obtain ⟨a,tl,e,hl2,hb⟩:=zjX (by rw [hl];exact h.pr) hni;have hbd:=h.zbd hi;unfold rst;rw [e] at hl hbd ⊢;have hf:flP p (a::tl)=0:=by
  rw [ziU (by rw [hl];exact h.pr) hb,Int.eq_iff_le_and_ge];constructor
  ·have g1:=Rat.floor_le (sF p (a::tl) / 67108864);have:((sF p (a::tl) / 67108864).floor:Rat)<((1:Int):Rat):=(by rw [show ((1:Int):Rat)=1 from rfl];grind);have:=Rat.intCast_lt_intCast.1 this;omega
  ·show (0:Int)≤_;rw [Rat.le_floor_iff,show ((0:Int):Rat)=0 from rfl];grind
 rw [hf];exact zjE _
theorem Wd.zov : rst p (ov (p.length - 1))=zer p.length:=by
 obtain ⟨n,hn⟩:=h.dif;have hl:=h.zlen (Nat.le_refl _);have hni:=hn _ (h.zmem (Nat.le_refl _)) _ (List.mem_cons_self ..);rw [← hl,zj9] at hni;rw [h.zlast] at hni hl;obtain ⟨a,tl,e,hl2,hb⟩:=zjX (by rw [hl];exact h.pr) hni;have hf:flP p (ov (p.length - 1))=1:=by
  have hs:=h.sov;rw [e] at hs hl ⊢;rw [ziU (by rw [hl];exact h.pr) hb,hs];decide +kernel
 unfold rst;rw [hf,zkc h.pr,zjD];exact zjE _
theorem Wd.lw : Lw p 1 N:=by
 obtain ⟨n,hn⟩:=h.dif;refine ⟨h.pr,h.len,by omega,by omega,fun x hx=>?_,n,hn⟩;obtain ⟨i,hi,e⟩:=List.getElem_of_mem hx;have hz:=znK (p:=p) hi;rw [List.getElem?_eq_getElem hi,e] at hz;rw [Option.some.inj hz,show ((1 * 67108864:Int):Rat)=67108864 from rfl];rcases Nat.lt_or_ge (i+1) N.length with g | g
 ·have:=h.zbd g;constructor <;> grind
 ·rw [show i+1=N.length by omega,h.zlast,h.sov];constructor <;> grind
end
theorem znL {p:List Int}{l M:List (List Rat)}(hM:zka p l M){z0:List Rat}(hz:z0∈l)(h0:rst p z0=zer p.length):M.length≤l.length:=by
 have hnd:M.Nodup:=hM.1.imp fun {a b} g e=>by rw [e] at g;grind
 have hs:M ⊆ ov (p.length - 1)::(l.erase z0).map (rst p):=fun x hx=>by
  rcases (hM.2 x).1 hx with e | ⟨g0,y,hy,e⟩
  ·rw [e];exact List.mem_cons_self ..
  ·refine List.mem_cons_of_mem _ ?_;rw [e];refine List.mem_map_of_mem ((List.mem_erase_of_ne fun k=>g0 ?_).2 hy);rw [e,k,h0]
 have h1:=zkd hnd hs;have h2:=List.length_erase_of_mem hz;have h3:=List.length_pos_of_mem hz;rw [List.length_cons,List.length_map] at h1;omega
theorem znM {p:List Int}{l M:List (List Rat)}(hM:zka p l M):M.length≤l.length+1:=by
 have hnd:M.Nodup:=hM.1.imp fun {a b} g e=>by rw [e] at g;grind
 have hs:M ⊆ ov (p.length - 1)::l.map (rst p):=fun x hx=>by
  rcases (hM.2 x).1 hx with e | ⟨g0,y,hy,e⟩
  ·rw [e];exact List.mem_cons_self ..
  ·exact List.mem_cons_of_mem _ (by rw [e];exact List.mem_map_of_mem hy)
 have h1:=zkd hnd hs;rw [List.length_cons,List.length_map] at h1;exact h1
theorem znN {p:List Int}{x:List Rat}(hx:x.length=p.length):zfb x ((0:Int):Rat)=zer p.length:=by
 unfold zfb zer;rw [← hx];refine List.ext_getElem (by simp) fun i h1 h2=>?_;rw [List.getElem_map,List.getElem_replicate];exact Rat.mul_zero _
theorem znO (a:Wl){M:List (List Rat)}(hM:zka a.p a.sizes M):M.length≤9:=by
 have hw:=znJ a hM;have hn:=a.n9;have hpw:=a.pw;have hp:=(zjO hpw.pr).2;by_cases h0:a.kind % 3=0
 ·have hs:a.sizes=zkB (zfb (ov (a.p.length - 1)) (mkRat 1 a.n)) 1 a.n:=by unfold Wl.sizes;rw [if_pos h0]
  have hl:a.sizes.length=a.n:=by rw [hs,zkD]
  have hm:ov (a.p.length - 1)∈a.sizes:=by
   rw [hs];unfold zkB;refine List.mem_map.2 ⟨a.n - 1,List.mem_range.2 (by omega),?_⟩;rw [zl1 hpw a.n,show (1:Int)+((a.n - 1:Nat):Int)=(a.n:Int) by omega];have e:((a.n:Int):Rat) / (a.n:Rat)=1:=by
    show ((a.n:Nat):Rat) / (a.n:Rat)=1;rw [Rat.div_def,Rat.mul_inv_cancel _ (zlw hn.1)]
   rcases hpw with e2 | e2 <;> rw [e2]
   ·rw [zls,e];rfl
   ·rw [zlu,e];rfl
  have:=znL hM hm hw.zov;omega
 ·by_cases h1:a.kind % 3=1
  ·have hs:a.sizes=zkB (szW a.p.length (a.xs 0)) 0 a.n:=(by unfold Wl.sizes;rw [if_neg h0,if_pos h1]);have hl:a.sizes.length=a.n:=(by rw [hs,zkD]);have hm:zer a.p.length∈a.sizes:=by
    rw [hs];unfold zkB;refine List.mem_map.2 ⟨0,List.mem_range.2 hn.1,?_⟩;exact znN (zla _ _)
   have:=znL hM hm (hw.zlow hw.pos);omega
  ·have hs:a.sizes=(List.range (min a.n 8)).map fun i=>szW a.p.length (a.xs i):=(by unfold Wl.sizes;rw [if_neg h0,if_neg h1]);have hl:a.sizes.length=min a.n 8:=(by rw [hs,List.length_map,List.length_range]);have:=znM hM;omega
end
section
open Go.RowKit Go.Lib Go.Shelf
attribute [local go_sem] Oper.semAt_some
theorem znP {W:World}{g off n cp:Nat}{us:List Value}{c:Nat}(h:Sl W (.slice (some ⟨g,off,none⟩) n cp) us)(hne:g ≠ c)(k:Nat)(x:Value):Sl (W.setCell ⟨c,k,none⟩ x) (.slice (some ⟨g,off,none⟩) n cp) us:=by
 rcases h with ⟨a,cap,e,hm,h0⟩ | ⟨b,off',cap,e,h1,h2,hc⟩
 ·exact .inl ⟨a,cap,e,hm,h0⟩
 ·refine .inr ⟨b,off',cap,e,h1,h2,fun i q hq=>?_⟩;injection e with e1 _ _;injection e1 with e1;injection e1 with e1 e2;subst e1;subst e2;rw [World.cell?_setCell_other _ _ _ _ (by intro e';simp only [Addr.mk.injEq] at e';exact hne e'.1.symm)];exact hc i q hq
theorem znQ {T:TypeId}{W:World}{c:Nat}{u v s:Value}{xs:List Rat}(hs:Rd W s xs)(hb:zec T W c u v)(hu:∀ z,u ≠ .string z)(hv:∀ z,v ≠ .string z)(x y:Value):Rd ((W.setCell ⟨c,0,none⟩ x).setCell ⟨c,1,none⟩ y) s xs:=by
 rcases hs with hn | ⟨b,off,cap,e,h1,h2,hc⟩
 ·exact .inl hn
 ·have hno:∀ k z,W.cell? ⟨b,k,none⟩=some (.string z)→b ≠ c:=by
   rintro k z h rfl;unfold World.cell? at h;dsimp only at h;rw [hb] at h;rcases (by omega:k=0∨k=1∨2≤k) with g | g | g
   ·rw [g] at h;exact hu z (Option.some.inj h)
   ·rw [g] at h;exact hv z (Option.some.inj h)
   ·have:(#[u,v]:Array Value)[k]?=none:=Array.getElem?_eq_none (by simpa using g);simp [this] at h
  have hk:∀ k z,W.cell? ⟨b,k,none⟩=some (.string z)→((W.setCell ⟨c,0,none⟩ x).setCell ⟨c,1,none⟩ y).cell? ⟨b,k,none⟩=some (.string z):=fun k z h=>by
   have hbc:=hno k z h;rw [World.cell?_setCell_other _ _ _ _ (by intro e';simp only [Addr.mk.injEq] at e';exact hbc e'.1.symm),World.cell?_setCell_other _ _ _ _ (by intro e';simp only [Addr.mk.injEq] at e';exact hbc e'.1.symm)];exact h
  exact .inr ⟨b,off,cap,e,h1,h2,fun i r hr=>⟨hk _ _ (hc i r hr).1,hk _ _ (hc i r hr).2⟩⟩
def znR : List (List Int):=[[-3,2],[-6,4],[2,-1],[-1,1],[-4,3],[-7,5],[1,0]]
def znS : List (List Rat):=znR.map zkF
theorem znT (w:World)(he:Env w) :
  Calls Tryz.prog 24 #[] w fun e w'=>∃ v rs,e=.returned v∧ScV w' v [2,3] rs∧rs.map Qw.x=znS∧Ext w w':=by
 have hwh:=fun W v (l:List Int)(hE:Ext w W)(hv:Sl W v (zap l))(h9:l.length≤1000)(hl:∀ z∈l,z.natAbs<1000000000)=>zkI v l W (he.ext hE) hv h9 hl;have hw2:=fun W (a b:Int)(hE:Ext w W)(ha:a.natAbs<1000000000)(hb:b.natAbs<1000000000)=>hwh (W.alloc (.cells #[.int .i64 a,.int .i64 b] 3)) (.slice (some ⟨W.heap.size,0,none⟩) 2 2) [a,b] (hE.alloc _) (zit (us:=[.int .i64 a,.int .i64 b]) (World.alloc_heap_new W _) (by unfold maxLen;simp)) (by simp) (fun z hz=>by
  simp only [List.mem_cons,List.not_mem_nil,or_false] at hz;rcases hz with rfl | rfl <;> assumption)
 have hb0:=zec.new 35 w (.slice none 0 0) (.slice none 0 0);have hE0:Ext w (w.alloc (.cells #[.slice none 0 0,.slice none 0 0] 35)):=(Ext.refl w).alloc _;have Hw2:=hid hw2;have HB0:=hid hb0;have HE0:=hid hE0;clear hwh hw2 hb0 hE0 he;go_enter Tryz.func24,Tryz.ntmps24
 obtain ⟨W0,hW0⟩:∃ W0,W0=(w.alloc (.cells #[.slice none 0 0,.slice none 0 0] 35)).alloc (.cells #[.int .i64 2,.int .i64 3] 3):=⟨_,rfl⟩;have hpr:Sl W0 (.slice (some ⟨w.heap.size+1,0,none⟩) 2 2) (zap [2,3]):=by
  have:=zit (us:=[.int .i64 2,.int .i64 3]) (World.alloc_heap_new (w.alloc (.cells #[.slice none 0 0,.slice none 0 0] 35)) (.cells #[.int .i64 2,.int .i64 3] 3)) (by unfold maxLen;simp);rw [World.size_alloc] at this;rw [hW0];exact this
 have hxw:Ext (w.alloc (.cells #[.slice none 0 0,.slice none 0 0] 35)) W0:=by rw [hW0];exact (Ext.refl _).alloc _
 have hsz0:W0.heap.size=w.heap.size+1+1:=by rw [hW0,World.size_alloc,World.size_alloc]
 have hc1:=Hw2.out W0 (-3) (2) (HE0.out.trans hxw) (by decide) (by decide);rw [hsz0] at hc1;have Hc1:=hid hc1;clear hc1 hsz0;have Hpr:=hid hpr;have Hx0:=hid hxw;clear hpr hxw;go_wp2_with fail
 rw [← hW0];clear hW0;refine Hc1.out.mono ?_;rintro e w1 ⟨u1,rfl,ho1,hx1⟩;obtain ⟨a1,c1,rfl,_,_,_⟩:=ho1.rd.parts;rw [show (zkF [-3,2]).length=2 from rfl] at *;have hy1:=((Ext.refl W0).alloc (.cells #[.int .i64 (-3),.int .i64 (2)] 3)).trans hx1;have Hx1:=hid (Hx0.out.trans hy1);have Hr1:=hid ho1.rd;have Hpr:=hid (hy1.sl Hpr.out);clear ho1 hx1 hy1;go_wp2_with fail
 refine (Hw2.out w1 (-6) (4) (HE0.out.trans Hx1.out) (by decide) (by decide)).mono ?_;rintro e w2 ⟨u2,rfl,ho2,hx2⟩;obtain ⟨a2,c2,rfl,_,_,_⟩:=ho2.rd.parts;rw [show (zkF [-6,4]).length=2 from rfl] at *;have hy2:=((Ext.refl w1).alloc (.cells #[.int .i64 (-6),.int .i64 (4)] 3)).trans hx2;have Hx2:=hid (Hx1.out.trans hy2);have Hr2:=hid ho2.rd;have Hr1:=hid (hy2.rd Hr1.out);have Hpr:=hid (hy2.sl Hpr.out);clear ho2 hx2 hy2;go_wp2_with fail
 refine (Hw2.out w2 (2) (-1) (HE0.out.trans Hx2.out) (by decide) (by decide)).mono ?_;rintro e w3 ⟨u3,rfl,ho3,hx3⟩;obtain ⟨a3,c3,rfl,_,_,_⟩:=ho3.rd.parts;rw [show (zkF [2,-1]).length=2 from rfl] at *;have hy3:=((Ext.refl w2).alloc (.cells #[.int .i64 (2),.int .i64 (-1)] 3)).trans hx3;have Hx3:=hid (Hx2.out.trans hy3);have Hr3:=hid ho3.rd;have Hr1:=hid (hy3.rd Hr1.out);have Hr2:=hid (hy3.rd Hr2.out);have Hpr:=hid (hy3.sl Hpr.out);clear ho3 hx3 hy3;go_wp2_with fail
 refine (Hw2.out w3 (-1) (1) (HE0.out.trans Hx3.out) (by decide) (by decide)).mono ?_;rintro e w4 ⟨u4,rfl,ho4,hx4⟩;obtain ⟨a4,c4,rfl,_,_,_⟩:=ho4.rd.parts;rw [show (zkF [-1,1]).length=2 from rfl] at *;have hy4:=((Ext.refl w3).alloc (.cells #[.int .i64 (-1),.int .i64 (1)] 3)).trans hx4;have Hx4:=hid (Hx3.out.trans hy4);have Hr4:=hid ho4.rd;have Hr1:=hid (hy4.rd Hr1.out);have Hr2:=hid (hy4.rd Hr2.out);have Hr3:=hid (hy4.rd Hr3.out);have Hpr:=hid (hy4.sl Hpr.out);clear ho4 hx4 hy4;go_wp2_with fail
 refine (Hw2.out w4 (-4) (3) (HE0.out.trans Hx4.out) (by decide) (by decide)).mono ?_;rintro e w5 ⟨u5,rfl,ho5,hx5⟩;obtain ⟨a5,c5,rfl,_,_,_⟩:=ho5.rd.parts;rw [show (zkF [-4,3]).length=2 from rfl] at *;have hy5:=((Ext.refl w4).alloc (.cells #[.int .i64 (-4),.int .i64 (3)] 3)).trans hx5;have Hx5:=hid (Hx4.out.trans hy5);have Hr5:=hid ho5.rd;have Hr1:=hid (hy5.rd Hr1.out);have Hr2:=hid (hy5.rd Hr2.out);have Hr3:=hid (hy5.rd Hr3.out);have Hr4:=hid (hy5.rd Hr4.out);have Hpr:=hid (hy5.sl Hpr.out);clear ho5 hx5 hy5;go_wp2_with fail
 refine (Hw2.out w5 (-7) (5) (HE0.out.trans Hx5.out) (by decide) (by decide)).mono ?_;rintro e w6 ⟨u6,rfl,ho6,hx6⟩;obtain ⟨a6,c6,rfl,_,_,_⟩:=ho6.rd.parts;rw [show (zkF [-7,5]).length=2 from rfl] at *;have hy6:=((Ext.refl w5).alloc (.cells #[.int .i64 (-7),.int .i64 (5)] 3)).trans hx6;have Hx6:=hid (Hx5.out.trans hy6);have Hr6:=hid ho6.rd;have Hr1:=hid (hy6.rd Hr1.out);have Hr2:=hid (hy6.rd Hr2.out);have Hr3:=hid (hy6.rd Hr3.out);have Hr4:=hid (hy6.rd Hr4.out);have Hr5:=hid (hy6.rd Hr5.out);have Hpr:=hid (hy6.sl Hpr.out);clear ho6 hx6 hy6;go_wp2_with fail
 refine (Hw2.out w6 (1) (0) (HE0.out.trans Hx6.out) (by decide) (by decide)).mono ?_;rintro e w7 ⟨u7,rfl,ho7,hx7⟩;obtain ⟨a7,c7,rfl,_,_,_⟩:=ho7.rd.parts;rw [show (zkF [1,0]).length=2 from rfl] at *;have hy7:=((Ext.refl w6).alloc (.cells #[.int .i64 (1),.int .i64 (0)] 3)).trans hx7;have Hx7:=hid (Hx6.out.trans hy7);have Hr7:=hid ho7.rd;have Hr1:=hid (hy7.rd Hr1.out);have Hr2:=hid (hy7.rd Hr2.out);have Hr3:=hid (hy7.rd Hr3.out);have Hr4:=hid (hy7.rd Hr4.out);have Hr5:=hid (hy7.rd Hr5.out);have Hr6:=hid (hy7.rd Hr6.out);have Hpr:=hid (hy7.sl Hpr.out);clear ho7 hx7 hy7;have hE9:Ext w7 (w7.alloc (.cells #[.slice a1 2 c1,.slice a2 2 c2,.slice a3 2 c3,.slice a4 2 c4,.slice a5 2 c5,.slice a6 2 c6,.slice a7 2 c7] 28)):=(Ext.refl w7).alloc _;have hn9:Sl (w7.alloc (.cells #[.slice a1 2 c1,.slice a2 2 c2,.slice a3 2 c3,.slice a4 2 c4,.slice a5 2 c5,.slice a6 2 c6,.slice a7 2 c7] 28)) (.slice (some ⟨w7.heap.size,0,none⟩) 7 7) [.slice a1 2 c1,.slice a2 2 c2,.slice a3 2 c3,.slice a4 2 c4,.slice a5 2 c5,.slice a6 2 c6,.slice a7 2 c7]:=zit (us:=[.slice a1 2 c1,.slice a2 2 c2,.slice a3 2 c3,.slice a4 2 c4,.slice a5 2 c5,.slice a6 2 c6,.slice a7 2 c7]) (World.alloc_heap_new w7 _) (by unfold maxLen;simp);have hk9:K0 35 w (w7.alloc (.cells #[.slice a1 2 c1,.slice a2 2 c2,.slice a3 2 c3,.slice a4 2 c4,.slice a5 2 c5,.slice a6 2 c6,.slice a7 2 c7] 28)) w.heap.size:=⟨(HE0.out.trans Hx7.out).trans hE9,_,_,HB0.out.ext (Hx7.out.trans hE9)⟩;have hb9:=HB0.out.ext (Hx7.out.trans hE9);have k0:=hk9.res.c0;have k1:=hk9.res.c1;have z0:=hk9.res.fz 0;have z1:=hk9.res.fz 1;obtain ⟨hb5,hx5⟩:=hk9.fin (Nat.le_refl _) (.slice (some ⟨w.heap.size+1,0,none⟩) 2 2) (.slice (some ⟨w7.heap.size,0,none⟩) 7 7);have Hb5:=hid hb5;have Hx5:=hid hx5;have HE9:=hid hE9;have Hn9:=hid hn9;have Hb9:=hid hb9;clear hb5 hx5 hk9 hE9 hn9 hb9;go_wp2_with fail
 have hd0:=Hb5.out.c0;have hd1:=Hb5.out.c1;have hne:w7.heap.size ≠ w.heap.size:=by
  have:=(HE0.out.trans Hx7.out).size;have:=HB0.out.lt;have:=Hx7.out.size;omega
 have hp5:=zg1 (HE9.out.sl Hpr.out) Hb9.out (by simp) (by simp) (.slice (some ⟨w.heap.size+1,0,none⟩) 2 2) (.slice (some ⟨w7.heap.size,0,none⟩) 7 7);have hn5:=znP (znP Hn9.out hne 0 (.slice (some ⟨w.heap.size+1,0,none⟩) 2 2)) hne 1 (.slice (some ⟨w7.heap.size,0,none⟩) 7 7);have hrp:=fun s xs (h:Rd w7 s xs)=>znQ (HE9.out.rd h) Hb9.out (by simp) (by simp) (.slice (some ⟨w.heap.size+1,0,none⟩) 2 2) (.slice (some ⟨w7.heap.size,0,none⟩) 7 7);exact bodyPost_ret (v:=.agg #[.slice (some ⟨w.heap.size+1,0,none⟩) 2 2,.slice (some ⟨w7.heap.size,0,none⟩) 7 7]) (by simp [results,Tryz.results24,go_sem,hd0,hd1]) rfl ⟨_,[⟨zkF [-3,2],.slice a1 2 c1,rfl⟩,⟨zkF [-6,4],.slice a2 2 c2,rfl⟩,⟨zkF [2,-1],.slice a3 2 c3,rfl⟩,⟨zkF [-1,1],.slice a4 2 c4,rfl⟩,⟨zkF [-4,3],.slice a5 2 c5,rfl⟩,⟨zkF [-7,5],.slice a6 2 c6,rfl⟩,⟨zkF [1,0],.slice a7 2 c7,rfl⟩],rfl,⟨_,_,rfl,hp5,hn5,by
  intro r hr;simp only [List.mem_cons,List.not_mem_nil,or_false] at hr;rcases hr with rfl | rfl | rfl | rfl | rfl | rfl | rfl
  ·exact hrp _ _ Hr1.out
  ·exact hrp _ _ Hr2.out
  ·exact hrp _ _ Hr3.out
  ·exact hrp _ _ Hr4.out
  ·exact hrp _ _ Hr5.out
  ·exact hrp _ _ Hr6.out
  ·exact hrp _ _ Hr7.out⟩,rfl,Hx5.out⟩
end
section
open Go.RowKit Go.Lib
def znU (k:Int):List Rat:=[((-k:Int):Rat),(k:Rat)]
theorem znV : zkB (zkF [-1,1]) (-1) 7=[znU (-1),znU 0,znU 1,znU 2,znU 3,znU 4,znU 5]:=by decide +kernel
theorem znW (k:Int):sF [2,3] (znU k)=((k * 39256168:Int):Rat):=by
 unfold znU;simp only [sF,lgs.1,lgs.2.1];rw [Rat.intCast_mul,Rat.intCast_neg];have h1:((106365032:Int):Rat)=((67108864:Int):Rat)+((39256168:Int):Rat):=by rw [← Rat.intCast_add];rfl
 rw [h1];grind
theorem znX (k l:Int):zfa (znU k) (znU l)=znU (k - l):=by
 unfold znU zfa;simp only [List.zipWith_cons_cons,List.zipWith_nil_left];rw [← Rat.intCast_sub,← Rat.intCast_sub,show -k - -l=-(k - l) by omega]
theorem znY {k:Int}(h0:-100≤k)(h1:k≤100):Bx 256 (znU k) :=
 ⟨-k,2 * k,rfl,by rw [Rat.intCast_mul,show ((2:Int):Rat)=2 from rfl];grind,by omega,by omega⟩
theorem znZ (l:List (List Rat))(h:∀ x∈l,∃ k:Int,-10≤k∧k≤10∧x=znU k):Lw [2,3] 10 l:=by
 have hz:zer [(2:Int),3].length=znU 0:=by decide +kernel
 have h2:∀ x∈zer [(2:Int),3].length::l,∃ k:Int,-10≤k∧k≤10∧x=znU k:=fun x hx=>by
  rcases List.mem_cons.1 hx with e | e
  ·exact ⟨0,by omega,by omega,by rw [e,hz]⟩
  ·exact h x e
 refine ⟨.inl ⟨rfl,rfl⟩,fun x hx=>?_,by omega,by omega,fun x hx=>?_,0,fun x hx y hy=>?_⟩
 ·obtain ⟨k,_,_,rfl⟩:=h x hx;rfl
 ·obtain ⟨k,k0,k1,rfl⟩:=h x hx;rw [znW,← Rat.intCast_neg];exact ⟨Rat.intCast_le_intCast.2 (by omega),Rat.intCast_le_intCast.2 (by omega)⟩
 ·obtain ⟨k,k0,k1,rfl⟩:=h2 x hx;obtain ⟨j,j0,j1,rfl⟩:=h2 y hy;rw [znX];exact .inl ⟨rfl,znY (by omega) (by omega)⟩
theorem zoa : Lw [2,3] 10 (zkB (zkF [-1,1]) (-1) 7):=by
 rw [znV];refine znZ _ fun x hx=>?_;simp only [List.mem_cons,List.not_mem_nil,or_false] at hx;rcases hx with rfl | rfl | rfl | rfl | rfl | rfl | rfl
 ·exact ⟨-1,by omega,by omega,rfl⟩
 ·exact ⟨0,by omega,by omega,rfl⟩
 ·exact ⟨1,by omega,by omega,rfl⟩
 ·exact ⟨2,by omega,by omega,rfl⟩
 ·exact ⟨3,by omega,by omega,rfl⟩
 ·exact ⟨4,by omega,by omega,rfl⟩
 ·exact ⟨5,by omega,by omega,rfl⟩
theorem zob : zjR [2,3] [] (zkB (zkF [-1,1]) (-1) 7)=[zkF [2,-1],zkF [-1,1],zkF [-3,2],zkF [-4,3],zkF [-6,4],zkF [-7,5]]:=by decide +kernel
theorem zoc : zka [2,3] (zkB (zkF [-1,1]) (-1) 7) znS:=by
 have h:=zkh (N:=[zkF [-3,2],zkF [-6,4],zkF [2,-1],zkF [-1,1],zkF [-4,3],zkF [-7,5]]) zoa (by rw [zob];decide +kernel) (by decide +kernel);have e:znS=[zkF [-3,2],zkF [-6,4],zkF [2,-1],zkF [-1,1],zkF [-4,3],zkF [-7,5]]++[ov ([(2:Int),3].length - 1)]:=by decide +kernel
 rw [e];exact h
theorem zod : Wd [2,3] znS:=zkf zoa zoc (by rw [zkD];omega)
theorem zoe : flP [2,3] (zkF [0,-1])=-2:=by decide +kernel
theorem zof : rst [2,3] (zkF [0,-1])=zkF [2,-1]:=by decide +kernel
theorem zog : zfa (zkF [2,-1]) (zkF [-6,4])=zkF [8,-5]:=by decide +kernel
theorem zoh : Lw [2,3] 10 [zkF [0,-1]]:=by
 have e:zkF [0,-1]=[((0:Int):Rat),((-1:Int):Rat)]:=rfl;refine ⟨.inl ⟨rfl,rfl⟩,fun x hx=>?_,by omega,by omega,fun x hx=>?_,0,fun x hx y hy=>?_⟩
 ·rw [List.mem_singleton] at hx;subst hx;rfl
 ·rw [List.mem_singleton] at hx;subst hx;decide +kernel
 ·have hb:∀ z∈zer [(2:Int),3].length::[zkF [0,-1]],∃ k:Int,-1≤k∧k≤0∧z=[((0:Int):Rat),(k:Rat)]:=fun z hz=>by
   rcases List.mem_cons.1 hz with e | e
   ·exact ⟨0,by omega,by omega,by rw [e];rfl⟩
   ·rw [List.mem_singleton] at e;exact ⟨-1,by omega,by omega,by rw [e];rfl⟩
  obtain ⟨k,k0,k1,rfl⟩:=hb x hx;obtain ⟨j,j0,j1,rfl⟩:=hb y hy;refine .inl ⟨rfl,0,2 * (k - j),?_,?_,by omega,by omega⟩
  ·show ((0:Int):Rat) - ((0:Int):Rat)=_;grind
  ·show ((k:Rat) - (j:Rat)) * 2=_;rw [Rat.intCast_mul,Rat.intCast_sub,show ((2:Int):Rat)=2 from rfl];grind
theorem Wd.step_ft {p:List Int}{rs:List Qw}(h:Wd p (rs.map Qw.x)):∀ k,k<rs.length→∀ q∈stQ p.length rs k,Ft 30 q:=by
 intro k hk;have hl:(rs.map Qw.x).length=rs.length:=List.length_map ..;have hf:=h.few;have e:stQ p.length rs k=zfa (nt p (rs.map Qw.x) ((k+1:Nat):Int)) (nt p (rs.map Qw.x) (k:Int)):=by
  rw [h.nt_low (by omega),h.nt_low (by omega)];unfold stQ zat zjt;rw [List.getElem?_cons_succ,List.getElem?_map]
  cases k with
  | zero=>rfl
  | succ j=>rw [if_neg (by omega),List.getElem?_cons_succ,List.getElem?_map,Nat.add_sub_cancel]
 rw [e];exact (h.nt_sub_quick _ _ (by omega) (by omega) (by omega) (by omega)).1
end
end Go.Proofs.YtnppiicceblfkaaGreatDoor
