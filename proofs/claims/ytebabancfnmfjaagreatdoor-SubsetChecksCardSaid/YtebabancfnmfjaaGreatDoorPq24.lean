/- Walks: law 31's reduce, order, and the closures of its collect. Walk: law 31's collect of at most nine sizes. Walks: law 31's Size of a world's numbers. -/
import Derived.Test.YtebabancfnmfjaaGreatDoorPq23
import Derived.Test.YtebabancfnmfjaaGreatDoorPq18
import Derived.Test.YtebabancfnmfjaaGreatDoorPq17
set_option maxRecDepth 100000
set_option maxHeartbeats 800000
namespace Go.Proofs.YtebabancfnmfjaaGreatDoor
open Go.RowKit Go.Lib Go.Shelf
attribute [local go_sem] Oper.semAt_some
theorem zkW {r:Rat}(h1:r.num.natAbs≤30000)(h2:r.den≤1000):Sn r:=⟨h1,h2⟩
theorem zkX : Sn 0:=by unfold Sn;decide
theorem zkY {z:Int}(h:z.natAbs≤30000):Sn (z:Rat):=by
 unfold Sn;rw [Rat.num_intCast,Rat.den_intCast];exact ⟨h,by omega⟩
theorem zkZ {n:Nat}{p:List Int}{x:List Rat}{c:Int}(hp:Pr p x.length)(h:Nic n x)(hc:0≤c)(hc2:c≤500)(h1:-((c * 67108864:Int):Rat)≤sF p x)(h2:sF p x≤((c * 67108864:Int):Rat)):∀ r∈x,Sn r:=by
 rcases h with ⟨_,hb⟩ | ⟨hn,hn9,ho⟩
 ·obtain ⟨a,tl,rfl⟩:∃ a tl,x=a::tl:=by
   rcases hp with ⟨_,hl⟩ | ⟨_,hl⟩ <;> (cases x with | nil=>cases hl | cons a tl=>exact ⟨a,tl,rfl⟩)
  have hA:=zir hp hb h1 h2;match tl,hb with
  | [b],⟨A,B,ha,hb2,g1,g2⟩ =>
   obtain ⟨ha1,ha2⟩:=ze9 ha
   intro r hr
   simp only [List.mem_cons,List.not_mem_nil,or_false] at hr
   rcases hr with rfl | rfl
   ·exact zkW (by omega) (by omega)
   ·rcases zeA hb2 with ⟨e1,e2⟩ | ⟨e1,e2⟩
    ·exact zkW (by omega) (by omega)
    ·exact zkW (by omega) (by omega)
  | [b,d],⟨A,B,C,ha,hb2,hd,g1,g2,g3,g4⟩ =>
   obtain ⟨ha1,ha2⟩:=ze9 ha
   obtain ⟨hd1,hd2⟩:=ze9 hd
   intro r hr
   simp only [List.mem_cons,List.not_mem_nil,or_false] at hr
   rcases hr with rfl | rfl | rfl
   ·exact zkW (by omega) (by omega)
   ·rcases zeA hb2 with ⟨e1,e2⟩ | ⟨e1,e2⟩
    ·exact zkW (by omega) (by omega)
    ·exact zkW (by omega) (by omega)
   ·exact zkW (by omega) (by omega)
 ·rcases hp with ⟨rfl,hl⟩ | ⟨rfl,hl⟩
  ·match x,hl,ho with
   | [a,b],_,⟨hb,A,ha⟩ =>
    subst hb
    have hbd:=zis (s:=sF [2,3] [a,0]) hn hn9 ha (by simp only [sF,lgs.1];grind) h1 h2
    intro r hr
    simp only [List.mem_cons,List.not_mem_nil,or_false] at hr
    rcases hr with rfl | rfl
    ·exact zkW (by omega) (by omega)
    ·exact zkX
  ·match x,hl,ho with
   | [a,b,d],_,⟨hb,hd,A,ha⟩ =>
    subst hb
    subst hd
    have hbd:=zis (s:=sF [2,3,5] [a,0,0]) hn hn9 ha (by simp only [sF,lgs.1];grind) h1 h2
    intro r hr
    simp only [List.mem_cons,List.not_mem_nil,or_false] at hr
    rcases hr with rfl | rfl | rfl
    ·exact zkW (by omega) (by omega)
    ·exact zkX
    ·exact zkX
theorem Lw.sn {p:List Int}{c:Int}{l:List (List Rat)}(h:Lw p c l)(hc:c≤500){x:List Rat}(hx:x∈l):∀ r∈x,Sn r:=by
 obtain ⟨n,hn⟩:=h.nic;exact zkZ (by rw [h.len x hx];exact h.pr) (hn x hx) h.c0 hc (h.bd x hx).1 (h.bd x hx).2
theorem Lw.snr {p:List Int}{c:Int}{l:List (List Rat)}(h:Lw p c l){x:List Rat}(hx:x∈l):∀ r∈rst p x,Sn r:=by
 obtain ⟨n,hn⟩:=h.nic;have hr:=h.range hx;exact zkZ (c:=1) (by unfold rst;rw [ziz,h.len x hx];exact h.pr) (zi6 (hn x hx)) (by omega) (by omega) (by
  rw [show ((1 * 67108864:Int):Rat)=67108864 from rfl];grind) (by
  rw [show ((1 * 67108864:Int):Rat)=67108864 from rfl];grind)
theorem Lw.fl {p:List Int}{c:Int}{l:List (List Rat)}(h:Lw p c l){x:List Rat}(hx:x∈l):-c≤flP p x∧flP p x≤c:=by
 obtain ⟨n,hn⟩:=h.nic;exact ziP (by rw [h.len x hx];exact h.pr) (hn x hx) (h.bd x hx).1 (h.bd x hx).2
theorem zla (n:Nat):∀ r∈ov n,Sn r:=by
 intro r hr;unfold ov at hr;rcases List.mem_cons.1 hr with rfl | hr
 ·exact zkM
 ·rw [List.eq_of_mem_replicate hr];exact zkX
theorem zlb (n:Nat){q:Int}(hq:q.natAbs≤30000):∀ r∈zex (ov n) (q:Rat),Sn r:=by
 rw [zi7];unfold zer;rw [List.replicate_succ];intro x hx;simp only [shf,List.mem_cons] at hx;rcases hx with rfl | hx
 ·rw [show (0:Rat)+(q:Rat)=(q:Rat) by grind];exact zkY hq
 ·rw [List.eq_of_mem_replicate hx];exact zkX
theorem zlc {x:List Rat}{q:Int}(hx:0<x.length):zew x (zex (ov (x.length - 1)) (q:Rat))=shf (-q) x:=by
 rw [zi7,show x.length - 1+1=x.length by omega];have h:=zi2 (q:=0) (r:=q) (x:=x) (y:=zer x.length) (by rw [ziu]);rw [zi1,ziw,show (0:Int) - q=-q by omega] at h;exact h
theorem zld (vp vb vx:Value)(p:List Int)(c:Int)(l:List (List Rat))(x:List Rat)(w:World)(he:Env w)(hp:Sl w vp (zap p))(hb:Rd w vb (ov (p.length - 1)))(hxv:Rd w vx x)(hL:Lw p c l)(hc:c≤500)(hx:x∈l) :
  Calls Tryz.prog 132 #[vp,vb,vx] w fun e w'=>∃ u s,e=.returned (.tuple #[u,.string s])∧zfw w' w.heap.size u (rst p x)∧Ext w w':=by
 have hpe:zfb p=0∧p.length≤100∧0<p.length:=by rcases hL.pr with ⟨e,_⟩ | ⟨e,_⟩ <;> rw [e] <;> decide
 have hxl:=hL.len x hx;have hflb:=hL.fl hx;have hsn:=hL.sn hc hx;have hfl:=fun W (hE:Ext w W)=>(show Calls Tryz.prog 198 #[vp,vx,vb] W fun e w'=>e=.returned (.tuple #[.string (I (flP p x)),.int .i64 0])∧Ext W w' from by
  obtain ⟨a,tl,e,h⟩:=hL.red hx;have hrd:=hE.rd hxv;rw [e] at hrd ⊢;have hlt:tl.length=p.length - 1:=by have:=h.len;omega
  exact zie vp vx vb p a tl W (he.ext hE) (hE.sl hp) hrd (hE.rd (by rw [hlt];exact hb)) hpe.1 h.pr h.ft h.qf)
 have hti:=fun W (hE:Ext w W)=>zkI vb (ov (p.length - 1)) ((flP p x:Int):Rat) W (he.ext hE) (hE.rd hb) (by rw [zhG];omega) (zla _) (zkY (by omega));rw [zf1] at hti;have hle:=fun W vc (hE:Ext w W)(hc:Rd W vc (zex (ov (p.length - 1)) ((flP p x:Int):Rat)))=>zkN vx vc x (zex (ov (p.length - 1)) ((flP p x:Int):Rat)) W (he.ext hE) (hE.rd hxv) hc (by unfold zex;rw [List.length_map,zhG];omega) (by omega) hsn (zlb _ (by omega));have hrs:zew x (zex (ov (p.length - 1)) ((flP p x:Int):Rat))=rst p x:=by
  rw [← hxl];exact zlc (by omega)
 rw [hrs] at hle;have hne:((I (flP p x)).toList == [])=false:=by
  have h1:=zbw (flP p x);have h2:0<(I (flP p x)).size:=by
   rcases (by omega:flP p x<0∨0≤flP p x) with g | g
   ·obtain ⟨m,hm⟩:∃ m:Nat,flP p x=-(m:Int):=⟨(flP p x).natAbs,by omega⟩;rw [hm,zbv m (by omega)];omega
   ·obtain ⟨m,hm⟩:∃ m:Nat,flP p x=(m:Int):=⟨(flP p x).toNat,by omega⟩;rw [hm,za2,zaz];exact nDigits_pos m
  cases h3:(I (flP p x)).toList with
  | nil =>
   exfalso
   have:(I (flP p x)).data.toList=[]:=by rw [← Lib.toList_data];exact h3
   have h4:(I (flP p x)).size=0:=by
    show (I (flP p x)).data.size=0;rw [← Array.length_toList,this];rfl
   omega
  | cons a t=>rfl
 have hne2:¬ (I (flP p x)).toList=[]:=fun e=>by rw [e] at hne;simp at hne
 obtain ⟨ap,cp,rfl,_,_,_⟩:=hp.parts;obtain ⟨ab,cb,rfl,_,_,_⟩:=hb.parts;obtain ⟨ax,cx,rfl,_,_,_⟩:=hxv.parts;generalize (zap p).length=n1 at *;generalize (ov (p.length - 1)).length=n2 at *;generalize x.length=n3 at *;generalize I (flP p x)=s at *;have Hfl:=hid hfl;have Hti:=hid hti;have Hle:=hid hle;clear he hp hb hxv hL hfl hti hle hrs hsn hpe hxl hflb;go_enter Tryz.func132,Tryz.ntmps132
 go_wp2_with fail
 refine (Hfl.out w (Ext.refl w)).mono ?_;rintro e w1 ⟨rfl,hx1⟩;have Hx1:=hid hx1;clear hx1;go_wp2_with fail
 refine (Hti.out w1 Hx1.out).mono ?_;rintro e w2 ⟨u2,rfl,ho2,hx2⟩;obtain ⟨a2,c2,rfl,_,_,_⟩:=ho2.rd.parts;have hle2:=Hle.out w2 _ (Hx1.out.trans hx2) ho2.rd;have Hle2:=hid hle2;have Hx2:=hid (Hx1.out.trans hx2);clear hle2 hx2 ho2;generalize (zex (ov (p.length - 1)) ((flP p x:Int):Rat)).length=n4 at *;go_wp2_with fail
 refine Hle2.out.mono ?_;rintro e w3 ⟨u3,rfl,ho3,hx3⟩;have Ho3:=hid (ho3.mono Hx2.out.size);have Hx3:=hid (Hx2.out.trans hx3);clear ho3 hx3;go_wp2
 go_ret2
 exact ⟨_,_,rfl,Ho3.out,Hx3.out⟩
theorem zle (vp va vb:Value)(p:List Int)(x y:List Rat)(w:World)(he:Env w)(hp:Sl w vp (zap p))(ha:Rd w va x)(hb:Rd w vb y)(hpe:zfb p=0)(hpl:p.length≤100)(hx:x.length=p.length)(hy:y.length=p.length)(hxf:∀ q∈x,Ft 30 q)(hyf:∀ q∈y,Ft 30 q)(hq:zh0 p (zew x y)) :
  Calls Tryz.prog 137 #[vp,va,vb] w fun e w'=>e=.returned (.int .i64 (ze5 (tms p (dn (zew x y)) (zew x y))))∧Ext w w':=by
 have h:=zh2 vp va vb p x y w he hp ha hb hpe hpl hx hy hxf hyf hq;obtain ⟨ap,cp,rfl,_,_,_⟩:=hp.parts;obtain ⟨aa,ca,rfl,_,_,_⟩:=ha.parts;obtain ⟨ab,cb,rfl,_,_,_⟩:=hb.parts;generalize ze5 (tms p (dn (zew x y)) (zew x y))=z at *;clear hp ha hb he hxf hyf hq hx hy hpe hpl;have H:=hid h;clear h;go_enter Tryz.func137,Tryz.ntmps137
 go_wp2_with fail
 refine H.out.mono ?_;rintro e w1 ⟨rfl,hx1⟩;have Hx1:=hid hx1;clear hx1;go_wp2
 go_ret
 exact ⟨rfl,Hx1.out⟩
theorem zlf (va vb:Value)(x y:List Rat)(bx:Nat)(w:World)(h0:w.cell? ⟨bx,0,none⟩=some va)(ha:Rd w va x)(hb:Rd w vb y)(hx:x.length≤1000)(hy:y.length≤1000) :
  Calls Tryz.prog 135 #[vb,.pointer (some ⟨bx,0,none⟩)] w fun e w'=>e=.returned (.bool (decide (x=y)))∧Ext w w':=by
 have h:=zja va vb x y w ha hb hx hy;obtain ⟨aa,ca,rfl,_,_,_⟩:=ha.parts;obtain ⟨ab,cb,rfl,_,_,_⟩:=hb.parts;generalize decide (x=y)=b at *;clear ha hb;have H:=hid h;clear h;go_enter Tryz.func135,Tryz.ntmps135
 go_wp2_with fail
 refine H.out.mono ?_;rintro e w1 ⟨rfl,hx1⟩;have Hx1:=hid hx1;clear hx1;go_wp2
 go_ret
 exact ⟨rfl,Hx1.out⟩
theorem zlg : ∀ args w,(callFunc 135 args).run Tryz.prog w=.ok (.enter 135 args) w:=enters_of Tryz.func135 (by kernel_rfl) rfl
theorem zlh : ∀ args w,(callFunc 136 args).run Tryz.prog w=.ok (.enter 136 args) w:=enters_of Tryz.func136 (by kernel_rfl) rfl
theorem zli (vp va vb:Value)(p:List Int)(l:List (List Rat))(x y:List Rat)(bp:Nat)(w:World)(he:Env w)(h0:w.cell? ⟨bp,0,none⟩=some vp)(hp:Sl w vp (zap p))(ha:Rd w va x)(hb:Rd w vb y)(hc:ziY p l)(hx:x∈l)(hy:y∈l) :
  Calls Tryz.prog 136 #[va,vb,.pointer (some ⟨bp,0,none⟩)] w fun e w'=>(∃ z:Int,e=.returned (.int .i64 z)∧(z<0 ↔ sF p x<sF p y))∧Ext w w':=by
 have h:=zle vp va vb p x y w he hp ha hb hc.pe hc.few (hc.len _ hx) (hc.len _ hy) (hc.ft _ hx) (hc.ft _ hy) (hc.quick _ hx _ hy);have hsg:=hc.sgn _ hx _ hy;obtain ⟨ap,cp,rfl,_,_,_⟩:=hp.parts;obtain ⟨aa,ca,rfl,_,_,_⟩:=ha.parts;obtain ⟨ab,cb,rfl,_,_,_⟩:=hb.parts;generalize ze5 (tms p (dn (zew x y)) (zew x y))=z at *;clear hp ha hb he hc;have H:=hid h;have Hsg:=hid hsg;clear h hsg;go_enter Tryz.func136,Tryz.ntmps136
 go_wp2_with fail
 refine H.out.mono ?_;rintro e w1 ⟨rfl,hx1⟩;have Hx1:=hid hx1;clear hx1;go_wp2
 go_ret
 exact ⟨⟨z,rfl,Hsg.out⟩,Hx1.out⟩
theorem zlj {w:World}{v:Value}{x:List Rat}{n:Nat}(h:Rd w v x)(hn:x.length=n):∃ a c,v=.slice a n c∧Rd w (.slice a n c) x:=by
 obtain ⟨a,c,rfl,_,_,_⟩:=h.parts;rw [hn] at *;exact ⟨a,c,rfl,h⟩
def LcR (W:World)(vb:Value)(o:List Rat)(p:List Int)(l:List (List Rat))(k:Nat)(v:Value)(wr:World):Prop:=∃ out:List Qw,wr.ownsRow W.heap.size 41 1 v (out.length+1) (vb::qwc out)∧(∀ r∈out,zfw wr W.heap.size r.u r.x)∧o::out.map Qw.x=ziH p [o] (l.take k)∧out.length≤k∧Ext W wr
theorem LcR.skip {W wr w':World}{vb:Value}{o:List Rat}{p:List Int}{l:List (List Rat)}{k:Nat}{v:Value}{x:List Rat}{out:List Qw}(hq:wr.ownsRow W.heap.size 41 1 v (out.length+1) (vb::qwc out))(he:∀ r∈out,zfw wr W.heap.size r.u r.x)(hm:o::out.map Qw.x=ziH p [o] (l.take k))(hl:out.length≤k)(hE:Ext W wr)(hx:Ext wr w')(hr:l[k]?=some x)(hs:rst p x=zer p.length∨rst p x∈o::out.map Qw.x):LcR W vb o p l (k+1) v w' :=
 ⟨out,hx.own hq,fun r hr=>hx.ownQ (he r hr),by rw [ziJ hr,ziG,if_pos (by rw [← hm];exact hs)];exact hm,by omega,hE.trans hx⟩
theorem LcR.more {W wr V:World}{vb:Value}{o:List Rat}{p:List Int}{l:List (List Rat)}{k:Nat}{v v7 u:Value}{x:List Rat}{out:List Qw}{ob:Obj}(hE:Ext W wr)(hq:wr.ownsRow W.heap.size 41 1 v (out.length+1) (vb::qwc out))(he:∀ r∈out,zfw wr W.heap.size r.u r.x)(hm:o::out.map Qw.x=ziH p [o] (l.take k))(hl:out.length≤k)(hr:l[k]?=some x)(hs:¬ (rst p x=zer p.length∨rst p x∈o::out.map Qw.x))(ho:zfw wr W.heap.size u (rst p x))
  (hown:V.ownsRow W.heap.size 41 1 v7 (out.length+1+1) ((vb::qwc out)++[u])) (hgrow:(wr.alloc ob).grownBy V v.ownBlock):LcR W vb o p l (k+1) v7 V:=by
 have hal:=World.ownsRow.alloc hq ob;have hkeep:∀ s:Qw,zfw wr W.heap.size s.u s.x→zfw V W.heap.size s.u s.x:=fun s hs=>World.ownsRow.kept (World.ownsRow.alloc hs ob) hgrow (zfl (World.ownsRow.alloc hs ob) hal (by decide));refine ⟨out++[⟨rst p x,u,zf0 ho.rd⟩],?_,fun s hs=>?_,?_,by rw [List.length_append];simp;omega,(hE.alloc ob).grown hgrow fun k hk=>(World.ownsRow.lt hal k hk).1⟩
 ·rw [List.length_append,List.length_singleton,zjd];exact hown
 ·rcases List.mem_append.1 hs with g | g
  ·exact hkeep s (he s g)
  ·rw [List.mem_singleton] at g;subst g;exact hkeep ⟨rst p x,u,zf0 ho.rd⟩ ho
 ·rw [ziJ hr,ziG,if_neg (by rw [← hm];exact hs),List.map_append,← List.cons_append,hm];rfl
theorem zlk (vp vb vl:Value)(p:List Int)(c:Int)(rs:List Qw)(w:World)(he:Env w)(hp:Sl w vp (zap p))(hb:Rd w vb (ov (p.length - 1)))(hl:RdM w vl rs)(hL:Lw p c (rs.map Qw.x))(hc3:c≤500)(hn9:rs.length≤9) :
  Calls Tryz.prog 70 #[vp,vb,vl] w fun e w'=>∃ vn out,e=.returned (.agg #[vp,vn])∧w'.ownsRow w.heap.size 41 1 vn out.length (qwc out)∧(∀ r∈out,(r.u=vb∧r.x=ov (p.length - 1))∨zfw w' w.heap.size r.u r.x)∧ziQ p (rs.map Qw.x) (out.map Qw.x)∧Ext w w':=by
 obtain ⟨j0,hj,hy0,hy1,hy2⟩:=info_parts zfy;have hpe:zfb p=0∧p.length≤100∧0<p.length:=by rcases hL.pr with ⟨e,_⟩ | ⟨e,_⟩ <;> rw [e] <;> decide
 have hred:=fun (r:Qw)(hr:r∈rs) W (hE:Ext w W)=>zld vp vb r.u p c (rs.map Qw.x) r.x W (he.ext hE) (hE.sl hp) (hE.rd hb) (hE.rd (hl.2 r hr)) hL hc3 (List.mem_map_of_mem hr);have hrl:∀ r∈rs,(rst p r.x).length=p.length:=fun r hr=>by unfold rst;rw [ziz];exact hL.len _ (List.mem_map_of_mem hr)
 have hle:=fun (r:Qw)(hr:r∈rs) W va (hE:Ext w W)(ha:Rd W va (rst p r.x))=>zkN va va (rst p r.x) (rst p r.x) W (he.ext hE) ha ha rfl (by rw [hrl r hr];omega) (hL.snr (List.mem_map_of_mem hr)) (hL.snr (List.mem_map_of_mem hr));have heq:=fun W va vb x y (ha:Rd W va x)(hb:Rd W vb y)(hx:x.length=p.length)(hy:y.length=p.length)=>zja va vb x y W ha hb (by omega) (by omega);have hovl:(ov (p.length - 1)).length=p.length:=by rw [zhG];omega
 have hcon:=fun W bx va x v (out:List Qw)(hu:vb.oneCell'=true)(hE:Ext w W)(h0:W.cell? ⟨bx,0,none⟩=some va)(ha:Rd W va x)(hx:x.length=p.length)(hv:Sl W v (vb::qwc out))(hr:∀ r∈out,Rd W r.u r.x)(ho:out.length≤9)(hol:∀ r∈out,r.x.length=p.length)=>zjg 135 #[.pointer (some ⟨bx,0,none⟩)] v (⟨ov (p.length - 1),vb,hu⟩::out) (fun y=>decide (x=y)) W hv (by rw [List.length_cons];omega) zlg (fun W2 hE2 r hr2=>by
  rcases List.mem_cons.1 hr2 with e | e
  ·subst e;exact zlf va vb x (ov (p.length - 1)) bx W2 (hE2.cell h0) (hE2.rd ha) ((hE.trans hE2).rd hb) (by omega) (by omega)
  ·exact zlf va r.u x r.x bx W2 (hE2.cell h0) (hE2.rd ha) (hE2.rd (hr r e)) (by omega) (by have:=hol r e;omega))
 have hone:=fun (r:Qw)(hr:r∈rs)=>(hl.2 r hr).parts;have hlen:=fun (r:Qw)(hr:r∈rs)=>hL.len _ (List.mem_map_of_mem (f:=Qw.x) hr);have hub:=zf0 hb;obtain ⟨ap,cp,rfl,_,_,_⟩:=hp.parts;obtain ⟨ab,cb,rfl,_,_,_⟩:=hb.parts;obtain ⟨al,cl,rfl,_,_,hc⟩:=hl.1.parts;rw [zar] at *;rw [zfz] at *;simp only [hovl] at hred hb hcon hub ⊢;generalize hn:rs.length=n at *;have Hn:=hid hn;obtain ⟨W2,hW2⟩:∃ W2,W2=(w.alloc (.cells #[.slice ap p.length cp] 25)).alloc (.cells #[.slice none 0 0,.slice none 0 0] 28):=⟨_,rfl⟩;have hE0:Ext w W2:=by rw [hW2];exact ((Ext.refl w).alloc _).alloc _
 have hsz:W2.heap.size=w.heap.size+1+1:=by rw [hW2,World.size_alloc,World.size_alloc]
 have b0:zjl 28 W2 (w.heap.size+1) (.slice none 0 0) (.slice none 0 0):=by
  have:=zjl.new 28 (w.alloc (.cells #[.slice ap p.length cp] 25)) (.slice none 0 0) (.slice none 0 0);rw [World.size_alloc] at this;rw [hW2];exact this
 have b1:W2.heap[w.heap.size]?=some (.cells #[.slice ap p.length cp] 25 (0,0)):=by
  rw [hW2];exact ((Ext.refl _).alloc _).heap (World.alloc_heap_new w _)
 have cell1:∀ (W:World)(b:Nat)(x:Value)(t:TypeId),W.heap[b]?=some (.cells #[x] t (0,0))→W.cell? ⟨b,0,none⟩=some x:=fun W b x t h=>by unfold World.cell?;dsimp only;rw [h];rfl
 have hown0:(W2.alloc (.cells #[.slice ab p.length cb] 41)).ownsRow W2.heap.size 41 1 (.slice (some ⟨W2.heap.size,0,none⟩) 1 1) 1 [.slice ab p.length cb] :=
  ⟨rfl,.inr ⟨W2.heap.size,1,#[.slice ab p.length cb],rfl,Nat.le_refl _,World.alloc_heap_new W2 _,Nat.le_refl _,by unfold maxLen;omega,rfl,rfl⟩⟩
 rw [hsz] at hown0;have hbox:∀ W,Ext W2 W→W.cell? ⟨w.heap.size,0,none⟩=some (.slice ap p.length cp):=fun W hE=>cell1 _ _ _ _ (hE.heap b1);have Hp:=hid hp;have Hb:=hid hb;have Hl:=hid hl;have HL:=hid hL;have He:=hid he;have Hpe:=hid hpe;have Hred:=hid hred;have Hrl:=hid hrl;have Heq:=hid heq;have Hcon:=hid hcon;have Hone:=hid hone;have Hlen:=hid hlen;have Hc:=hid hc;have HE0:=hid hE0;have B0:=hid b0;have Hle:=hid hle;have Hbox:=hid hbox;have Hown0:=hid hown0;have B1:=hid b1;have Cell1:=hid cell1;have Hsz:=hid hsz;have Hub:=hid hub;clear hp hb hl hL he hpe hred hrl heq hcon hone hlen hc hE0 b0 hn hle hbox hown0 b1 cell1 hsz hub;go_enter Tryz.func70,Tryz.ntmps70
 go_wp2_with fail
 rw [← hW2];clear hW2;go_loopw [7,9,10,11,16] (fun v7 v9 v10 v11 v16 wr=>∃ k:Nat,v16=.int .i64 k∧k≤n∧LcR W2 (.slice ab p.length cb) (ov (p.length - 1)) p (rs.map Qw.x) k v7 wr) (fun _ _ _ _ v16 _=>n - (zal v16).toNat)
 case atStart=>exact ⟨0,rfl,Nat.zero_le _,[],by rw [Hsz.out];exact Hown0.out,fun r h=>by simp at h,rfl,Nat.le_refl _,(Ext.refl W2).alloc _⟩
 case round =>
  obtain ⟨k,rfl,hk,⟨out,hq,hoe,hmq,hlq,hE⟩⟩:=hrel;obtain ⟨a10,c10,rfl⟩:=zfi hq;have hEw:=HE0.out.trans hE;have hcp:=Hbox.out wr hE;by_cases hkn:k<n
  ·obtain ⟨r,hr⟩:∃ r,rs[k]?=some r:=⟨_,List.getElem?_eq_getElem (by rw [Hn.out];exact hkn)⟩;have hmem:=List.mem_of_getElem? hr;obtain ⟨b,off,rfl,hc0⟩:=Hc.out k r.u (by unfold qwc;rw [List.getElem?_map,hr];rfl);obtain ⟨ar,cr,hru,_,_,_⟩:=Hone.out r hmem;have hcu:=hEw.cell hc0;have hrl:r.x.length=p.length:=Hlen.out r hmem;rw [hru,hrl] at hcu;have hrd:=Hred.out r hmem wr hEw;rw [hru,hrl] at hrd;have hrrl:=Hrl.out r hmem;have hrx:(rs.map Qw.x)[k]?=some r.x:=(by rw [List.getElem?_map,hr];rfl);have hlle:=fun W va (hE:Ext w W)(ha:Rd W va (rst p r.x))=>(show Calls Tryz.prog 133 #[va,va] W fun e w'=>∃ u,e=.returned u∧zfw w' W.heap.size u (zer p.length)∧Ext W w' from by
    have:=Hle.out r hmem W va hE ha;rw [zix,hrrl] at this;exact this)
   have hol:∀ s∈out,s.x.length=p.length:=fun s hs=>by
    have h1:=List.mem_map_of_mem (f:=Qw.x) hs;have h2:s.x∈ov (p.length - 1)::out.map Qw.x:=List.mem_cons_of_mem _ h1;rw [hmq] at h2;rcases (ziL _ _ _).1 h2 with e | ⟨_,z,hz,e⟩
    ·rw [List.mem_singleton] at e;rw [e,zhG];have:=Hpe.out.2.2;omega
    ·rw [e];unfold rst;rw [ziz];exact HL.out.len z (List.mem_of_mem_take hz)
   have hk0:(0:Int)≤(k:Int):=(by omega);have hk1:(k:Int)<(n:Int):=(by omega);have Hrd:=hid hrd;have Hrrl:=hid hrrl;have Hrx:=hid hrx;have Hol:=hid hol;have Hq:=hid hq;have Hoe:=hid hoe;have Hmq:=hid hmq;have Hlq:=hid hlq;have HE:=hid hE;have HEw:=hid hEw;have Hlle:=hid hlle;clear hrd hrrl hrx hol hq hoe hmq hE hEw hrl hru hc0 hmem hr hlle;go_wp2_with fail
   refine Hrd.out.mono ?_;rintro e w3 ⟨u3,s3,rfl,ho3,hx3⟩;obtain ⟨a3,c3,rfl,hr3⟩:=zlj ho3.rd Hrrl.out;clear hr3;have hbx:(w3.alloc (.cells #[.slice a3 p.length c3] 41)).cell? ⟨w3.heap.size,0,none⟩=some (.slice a3 p.length c3):=(by unfold World.cell?;rw [World.alloc_heap_new w3 _];rfl);have hE4:Ext wr (w3.alloc (.cells #[.slice a3 p.length c3] 41)):=hx3.alloc _;have ho4:zfw (w3.alloc (.cells #[.slice a3 p.length c3] 41)) W2.heap.size (.slice a3 p.length c3) (rst p r.x):=(((Ext.refl w3).alloc _).ownQ ho3).mono HE.out.size;have Hbx:=hid hbx;have Ho4:=hid ho4;have HE4:=hid hE4;clear hx3 ho3 hE4 hcu hcp ho4;go_wp2_with fail
   generalize hW4:w3.alloc (.cells #[.slice a3 p.length c3] 41)=W4 at *;have H40:Hid (Ext W4 W4):=hid (Ext.refl W4);have q1:=Hbx.out;by_cases hzr:rst p r.x=zer p.length
   ·have heqz:=fun W vz (ha:Rd W (.slice a3 p.length c3) (rst p r.x))(hb:Rd W vz (zer p.length))=>(show Calls Tryz.prog 15 #[.slice a3 p.length c3,vz] W fun e w'=>e=.returned (.bool true)∧Ext W w' from by
     have:=Heq.out W _ vz _ _ ha hb Hrrl.out (ziu _);rwa [decide_eq_true hzr] at this)
    have Hzr:=hid hzr;clear hzr;have q1d:=H40.out.drew.cell Hbx.out
    first | (go_region_law (first
     | (go_simp;have hpv:=HA;clear hpv;go_at_call 15;refine (heqz VA _ (Ext.rd HA.out Ho4.out.rd) HzA.out).mono ?_;rintro e9 VB ⟨rfl,hxb⟩;have HB:=hid (HA.out.trans hxb);have hcB:=HB.out.cell Hbx.out;clear hxb)
     | (go_simp;go_at_call 133;refine (Hlle.out _ _ (HEw.out.trans HE4.out.drew) (Ext.rd H40.out.drew Ho4.out.rd)).mono ?_;rintro e9 VA ⟨uA,rfl,hoA,hxa⟩;obtain ⟨aA,cA,rfl,hzA⟩:=zlj hoA.rd (ziu _);have HA:=hid (H40.out.drew.trans hxa);have HzA:=hid hzA;have hcA:=HA.out.cell Hbx.out;clear hxa hoA hzA))) | fail
    all_goals
     clear q1;go_wp2_with fail
     go_roundw
     case rel=>exact ⟨k+1,by go_num,by omega,LcR.skip Hq.out Hoe.out Hmq.out Hlq.out HE.out (HE4.out.trans HB.out) Hrx.out (.inl Hzr.out)⟩
     case measure=>simp [zal];omega
   ·have heqz:=fun W vz (ha:Rd W (.slice a3 p.length c3) (rst p r.x))(hb:Rd W vz (zer p.length))=>(show Calls Tryz.prog 15 #[.slice a3 p.length c3,vz] W fun e w'=>e=.returned (.bool false)∧Ext W w' from by
     have:=Heq.out W _ vz _ _ ha hb Hrrl.out (ziu _);rwa [decide_eq_false hzr] at this)
    have hany:∀ (ub:Value)(hu:ub.oneCell'=true),((⟨ov (p.length - 1),ub,hu⟩::out:List Qw).any fun y=>decide (rst p r.x=y.x))=decide (rst p r.x∈ov (p.length - 1)::out.map Qw.x):=fun ub hu=>by
     rw [Bool.eq_iff_iff,List.any_eq_true,decide_eq_true_eq,List.mem_cons,List.mem_map];constructor
     ·rintro ⟨y,hy,e⟩;rcases List.mem_cons.1 hy with g | g
      ·subst g;exact .inl (of_decide_eq_true e)
      ·exact .inr ⟨y,g,(of_decide_eq_true e).symm⟩
     ·rintro (e | ⟨y,hy,e⟩)
      ·exact ⟨_,List.mem_cons_self ..,decide_eq_true e⟩
      ·exact ⟨y,List.mem_cons_of_mem _ hy,decide_eq_true e.symm⟩
    have hcn:=fun W (hx:Ext W4 W)=>(show Calls Tryz.prog 134 #[.slice a10 (out.length+1) c10,.func (.func 135) #[] #[.pointer (some ⟨w3.heap.size,0,none⟩)]] W fun e w'=>e=.returned (.bool (decide (rst p r.x∈ov (p.length - 1)::out.map Qw.x)))∧Ext W w' from by
     have hx2:=HE4.out.trans hx;have:=Hcon.out W w3.heap.size (.slice a3 p.length c3) (rst p r.x) (.slice a10 (out.length+1) c10) out (by simp [Value.oneCell']) (HEw.out.trans hx2) (hx.cell Hbx.out) (Ext.rd hx Ho4.out.rd) Hrrl.out (hx2.sl (zan Hq.out)) (fun s hs=>(hx2.ownQ (Hoe.out s hs)).rd) (by omega) Hol.out;rw [hany] at this;exact this)
    have Hzr:=hid hzr;clear hany;by_cases hin:rst p r.x∈ov (p.length - 1)::out.map Qw.x
    ·rw [decide_eq_true hin] at hcn;have Hin:=hid hin;have Hcn:=hid hcn;clear hin hcn hzr;go_region_held3 (fun w'=>Ext W4 w'∧w'.cell? ⟨w3.heap.size,0,none⟩=some (.slice a3 p.length c3))
      (first | with_reducible exact s6 Hbx.out HC.out | with_reducible exact s6 Hbx.out HB.out | with_reducible exact s6 Hbx.out HA.out | with_reducible exact s6 Hbx.out H40.out.drew)
      (first
       | (have hpv:=HB;clear hpv;go_at_call 134;refine (Hcn.out VB HB.out).mono ?_;rintro e9 VC ⟨rfl,hxc⟩;have HC:=hid (HB.out.trans hxc);clear hxc)
       | (have hpv:=HA;clear hpv;go_at_call 15;refine (heqz VA _ (Ext.rd HA.out Ho4.out.rd) HzA.out).mono ?_;rintro e9 VB ⟨rfl,hxb⟩;have HB:=hid (HA.out.trans hxb);clear hxb)
       | (go_at_call 133;refine (Hlle.out _ _ (HEw.out.trans HE4.out.drew) (Ext.rd H40.out.drew Ho4.out.rd)).mono ?_;rintro e9 VA ⟨uA,rfl,hoA,hxa⟩;obtain ⟨aA,cA,rfl,hzA⟩:=zlj hoA.rd (ziu _);have HA:=hid (H40.out.drew.trans hxa);have HzA:=hid hzA;clear hxa hoA hzA))
     all_goals
      clear q1;go_wp2_with fail
      go_roundw
      case rel=>exact ⟨k+1,by go_num,by omega,LcR.skip Hq.out Hoe.out Hmq.out Hlq.out HE.out (HE4.out.trans HC.out) Hrx.out (.inr Hin.out)⟩
      case measure=>simp [zal];omega
    ·rw [decide_eq_false hin] at hcn;have Hin:=hid hin;have Hcn:=hid hcn;clear hin hcn hzr;go_region_held3 (fun w'=>Ext W4 w'∧w'.cell? ⟨w3.heap.size,0,none⟩=some (.slice a3 p.length c3))
      (first | with_reducible exact s6 Hbx.out HC.out | with_reducible exact s6 Hbx.out HB.out | with_reducible exact s6 Hbx.out HA.out | with_reducible exact s6 Hbx.out H40.out.drew)
      (first
       | (have hpv:=HB;clear hpv;go_at_call 134;refine (Hcn.out VB HB.out).mono ?_;rintro e9 VC ⟨rfl,hxc⟩;have HC:=hid (HB.out.trans hxc);clear hxc)
       | (have hpv:=HA;clear hpv;go_at_call 15;refine (heqz VA _ (Ext.rd HA.out Ho4.out.rd) HzA.out).mono ?_;rintro e9 VB ⟨rfl,hxb⟩;have HB:=hid (HA.out.trans hxb);clear hxb)
       | (go_at_call 133;refine (Hlle.out _ _ (HEw.out.trans HE4.out.drew) (Ext.rd H40.out.drew Ho4.out.rd)).mono ?_;rintro e9 VA ⟨uA,rfl,hoA,hxa⟩;obtain ⟨aA,cA,rfl,hzA⟩:=zlj hoA.rd (ziu _);have HA:=hid (H40.out.drew.trans hxa);have HzA:=hid hzA;clear hxa hoA hzA))
     all_goals
      clear q1;have hx6:=HE4.out.trans HC.out;have hq6:=hx6.own Hq.out;have ho6:=HC.out.ownQ Ho4.out;have hE16:=HE.out.trans hx6;have hbase:=hE16.size;have q1:=HC.out.cell Hbx.out;have hm3:out.length+1+1≤maxLen:=(by unfold maxLen;omega);have hm4:(out.length+1+1) * 24≤140737488355328:=(by omega);have hoe6:∀ s∈out,zfw VC W2.heap.size s.u s.x:=fun s hs=>hx6.ownQ (Hoe.out s hs);have HE16:=hid hE16;have Hq6:=hid hq6;have Ho6:=hid ho6;have Hoe6:=hid hoe6;clear hx6 ho6 hE16 hoe6;go_wp2_with (at_builtin;refine wpList_append_own _ rfl _ _ 26 rfl W2.heap.size 41 j0 (.slice none 0 0) 1 24 Tryz.underlying26 hj hy0 hy1 hy2 rfl (by decide) _ _ _ rfl (hq6.alloc _) ⟨VC.heap.size,0,none⟩ 1 1 [.slice a3 p.length c3] rfl rfl (cell_one_new _ _ _) (by simp [Value.oneCell']) hm3 hm4 (by rw [World.size_alloc];omega) ?_;intro v7 V7 hown7 hgrow7 _)
      go_roundw
      case rel=>exact ⟨k+1,by go_num,by omega,LcR.more HE16.out Hq6.out Hoe6.out Hmq.out Hlq.out Hrx.out (fun h=>h.elim Hzr.out Hin.out) Ho6.out hown7 hgrow7⟩
      case measure=>simp [zal];omega
  ·obtain rfl:n=k:=by omega
   have hfull:ov (p.length - 1)::out.map Qw.x=ziH p [ov (p.length - 1)] (rs.map Qw.x):=(by rw [hmq,List.take_of_length_le (by rw [List.length_map,Hn.out];exact Nat.le_refl _)]);have hbl:W2.heap.size≤wr.heap.size:=hE.size;rcases hq.2 with ⟨e0,_⟩ | ⟨g,c7,cur,e0,hg,h1,h2,h3,h4,h5⟩
   ·injection e0 with _ e0 _;exact absurd e0 (by omega)
   ·injection e0 with e1 e2 e3;subst e1;subst e3;clear hcp;have hgl:w.heap.size+1+1≤g:=(by have:=Hsz.out;omega);have hob:∀ W,wr.grownBy W (some g)→∀ r∈out,zfw W W2.heap.size r.u r.x:=fun W hgr r hr=>World.ownsRow.kept (hoe r hr) hgr (zfl (hoe r hr) hq (by decide));have hpr:∀ W,wr.grownBy W (some g)→Ext w W∧W.cell? ⟨w.heap.size,0,none⟩=some (.slice ap p.length cp)∧zjl 28 W (w.heap.size+1) (.slice none 0 0) (.slice none 0 0):=fun W hgr=>by
     have lt:=B0.out.lt;refine ⟨hEw.grown hgr (fun k hk=>by cases hk;omega),?_,?_⟩
     ·exact Cell1.out _ _ _ _ ((hgr.block _ (by omega) (by intro e;cases e;omega)).trans (hE.heap B1.out))
     ·exact (hgr.block _ (by omega) (by intro e;cases e;omega)).trans (hE.heap B0.out)
    have hall:∀ x∈(⟨ov (p.length - 1),.slice ab p.length cb,Hub.out⟩::out:List Qw).map Qw.x,x=zer p.length∨x=ov (p.length - 1)∨∃ z∈rs.map Qw.x,x=rst p z:=fun x hx=>by
     rw [List.map_cons,hfull] at hx;rcases (ziL _ _ _).1 hx with e | ⟨_,z,hz,e⟩
     ·exact .inr (.inl (List.mem_singleton.1 e))
     ·exact .inr (.inr ⟨z,hz,e⟩)
    have hcb:=HL.out.cmpb hall;have hrdD:∀ W,wr.grownBy W (some g)→∀ r∈(⟨ov (p.length - 1),.slice ab p.length cb,Hub.out⟩::out:List Qw),Rd W r.u r.x:=fun W hgr r hr=>by
     rcases List.mem_cons.1 hr with e | e
     ·subst e;exact (hpr W hgr).1.rd Hb.out
     ·exact (hob W hgr r e).rd
    have hst:=ziX Qw.u (fun q:Qw=>sF p q.x) 136 #[.pointer (some ⟨w.heap.size,0,none⟩)] W2.heap.size g c10 (⟨ov (p.length - 1),.slice ab p.length cb,Hub.out⟩::out) wr hq (by rw [List.length_cons];omega) (fun q=>q.hu) zlh (fun W hgr x hx y hy=>by
     obtain ⟨a1,a2,_⟩:=hpr W hgr;exact zli (.slice ap p.length cp) x.u y.u p _ x.x y.x w.heap.size W (He.out.ext a1) a2 (a1.sl Hp.out) (hrdD W hgr x hx) (hrdD W hgr y hy) hcb (List.mem_map_of_mem hx) (List.mem_map_of_mem hy))
    rw [List.length_cons] at hst;have Hst:=hid hst;have Hpr:=hid hpr;have Hob:=hid hob;have Hfull:=hid hfull;have Hoe:=hid hoe;clear hst hpr hob hrdD hcb hall hfull hoe hq h1 h2 h3 h4 h5 hg e2 hE hbl hmq;go_wp2_with fail
    refine Hst.out.mono ?_;rintro e w5 ⟨rfl,d5,hR5,hS5⟩;obtain ⟨hx5,c5,hb5⟩:=Hpr.out w5 hR5.only;have r0:=hb5.c0;have r1:=hb5.c1;have z0:=hb5.fz 0;have z1:=hb5.fz 1;have hlb:w.heap.size≤w.heap.size+1:=(by omega);have hK:K0 28 w w5 (w.heap.size+1):=⟨hx5,_,_,hb5⟩;have hfin:=hK.fin hlb (.slice ap p.length cp) (.slice (some ⟨g,0,none⟩) (out.length+1) c10);have ho5:∀ r∈out,zfw ((w5.setCell ⟨w.heap.size+1,0,none⟩ (.slice ap p.length cp)).setCell ⟨w.heap.size+1,1,none⟩ (.slice (some ⟨g,0,none⟩) (out.length+1) c10)) W2.heap.size r.u r.x:=fun r hr =>
     zga (zjl.put0 hb5 (.slice ap p.length cp)) (zga hb5 (Hob.out w5 hR5.only r hr) (by decide) 0 (.slice ap p.length cp)) (by decide) 1 (.slice (some ⟨g,0,none⟩) (out.length+1) c10)
    have hor:=zga (zjl.put0 hb5 (.slice ap p.length cp)) (zga hb5 hR5.own (by decide) 0 (.slice ap p.length cp)) (by decide) 1 (.slice (some ⟨g,0,none⟩) (out.length+1) c10);have Hfin:=hid hfin;have Ho5:=hid ho5;have Hor:=hid hor;have HR5:=hid hR5;have HS5:=hid hS5;clear hx5 hb5 hlb hK hfin ho5 hor hR5 hS5;go_wp2_with fail
    obtain ⟨hb6,hx6⟩:=Hfin.out;have hd0:=hb6.c0;have hd1:=hb6.c1;have hperm:=HR5.out.perm;have hlen5:d5.length=out.length+1:=HR5.out.len;have hor2:=zam Hor.out HE0.out.size;rw [List.length_cons] at hor2;refine bodyPost_ret (v:=.agg #[.slice ap p.length cp,.slice (some ⟨g,0,none⟩) (out.length+1) c10]) (by simp [results,Tryz.results70,go_sem,hd0,hd1]) rfl ⟨_,d5,rfl,(by rw [hlen5];exact hor2),fun r hr=>?_,ziV HL.out ?_ ?_,hx6⟩
    ·rcases List.mem_cons.1 (hperm.mem_iff.1 hr) with e | e
     ·subst e;exact .inl ⟨rfl,rfl⟩
     ·exact .inr ((Ho5.out r e).mono HE0.out.size)
    ·rw [← Hfull.out];exact hperm.map Qw.x
    ·exact List.pairwise_map.2 HS5.out
structure I3 where
 a:Int
 b:Int
 c:Int
def I3.at (x:I3):Nat→Int
 | 0=>x.a
 | 1=>x.b
 | _=>x.c
def I3.ok (x:I3):Prop:=∀ i,-128≤x.at i∧x.at i≤127
def I3.v (x:I3):Value:=.agg #[.int .i8 x.a,.int .i8 x.b,.int .i8 x.c]
def dnm (x:I3)(i:Nat):Nat:=if i=1∧x.b<0 then 2 else 1
def zll (x:I3)(i:Nat):Rat:=mkRat ((x.at i).tmod 9) (dnm x i)
def szW (n:Nat)(x:I3):List Rat:=(List.range n).map (zll x)
theorem zlm (n:Nat)(x:I3):(szW n x).length=n:=by unfold szW;simp
theorem zln {n:Nat}{x:I3}{k:Nat}(h:k<n):(szW n x).take (k+1)=(szW n x).take k++[zll x k]:=by
 have h2:(szW n x)[k]?=some (zll x k):=by unfold szW;rw [List.getElem?_map,List.getElem?_range h];rfl
 obtain ⟨hk,e⟩:=List.getElem?_eq_some_iff.1 h2;rw [List.take_succ_eq_append_getElem hk,e]
theorem zlo (z:Int):(z.tmod 9).natAbs≤8:=by
 have h1:=Int.tmod_lt_of_pos z (show (0:Int)<9 by decide);have h2:=Int.lt_tmod_of_pos z (show (0:Int)<9 by decide);omega
theorem zlp {z:Int}(h:-128≤z∧z≤127):wrap64 z=z:=by
 unfold wrap64;omega
theorem zlq {x:I3}{k:Nat}(h:-128≤x.at k∧x.at k≤127)(hk:k<3):wrap64 (1+wrap64 ((k:Int) % 2 * (x.at k % 256 / 128)))=(dnm x k:Int):=by
 unfold dnm;obtain rfl | rfl | rfl:k=0∨k=1∨k=2:=by omega
 ·simp [wrap64]
 ·have e:x.at 1=x.b:=rfl;rw [e] at h ⊢;by_cases hb:x.b<0
  ·have:x.b % 256 / 128=1:=(by omega);rw [this,if_pos ⟨rfl,hb⟩];simp [wrap64]
  ·have:x.b % 256 / 128=0:=(by omega);rw [this,if_neg (fun g=>hb g.2)];simp [wrap64]
 ·simp [wrap64]
theorem zlr (vp:Value)(p:List Int)(x:I3)(w:World)(he:Env w)(hp:Sl w vp (zap p))(hp3:p.length≤3)(hx:x.ok) :
  Calls Tryz.prog 75 #[vp,x.v] w fun e w'=>∃ u,e=.returned u∧zfw w' w.heap.size u (szW p.length x)∧Ext w w':=by
 obtain ⟨i0,hi,hz0,hz1,hz2⟩:=info_parts zfx;have hof:=fun (k:Nat) W (hE:Ext w W)=>zkA ((x.at k).tmod 9) (dnm x k) W (he.ext hE) (by have:=zlo (x.at k);omega) (by unfold dnm;split <;> decide) (by unfold dnm;split <;> decide)
 obtain ⟨a,c,rfl,_,_,hc⟩:=hp.parts;have hcut:∀ k,k<p.length→(szW p.length x).take (k+1)=(szW p.length x).take k++[zll x k]:=fun k hk=>zln hk;have hrl:=zlm p.length x;obtain ⟨W1,hW1⟩:∃ W1,W1=w.alloc (.cells #[.int .i8 x.a,.int .i8 x.b,.int .i8 x.c] 80):=⟨_,rfl⟩;have hE0:Ext w W1:=by rw [hW1];exact (Ext.refl w).alloc _
 have hb1:W1.heap[w.heap.size]?=some (.cells #[.int .i8 x.a,.int .i8 x.b,.int .i8 x.c] 80 (0,0)):=by rw [hW1];exact World.alloc_heap_new w _
 have hcell:∀ W,Ext W1 W→∀ k,k<3→W.cell? ⟨w.heap.size,k,none⟩=some (.int .i8 (x.at k)):=fun W hE k hk=>by
  have hb:=hE.heap hb1;unfold World.cell?;dsimp only;rw [hb];obtain rfl | rfl | rfl:k=0∨k=1∨k=2:=by omega
  ·rfl
  ·rfl
  ·rfl
 unfold I3.v;rw [zar];generalize hn:p.length=n at *;have Hof:=hid hof;have Hcell:=hid hcell;have Hcut:=hid hcut;have Hrl:=hid hrl;have HE0:=hid hE0;have Hx:=hid hx;clear hp hc he hof hcut hcell hrl hE0 hn hb1 hx;go_enter Tryz.func75,Tryz.ntmps75
 go_wp2_with fail
 rw [← hW1];clear hW1;go_loopw [5,6,7,10] (fun v5 v6 v7 v10 wr=>∃ k:Nat,v10=.int .i64 k∧k≤n∧wr.ownsRow W1.heap.size 65 2 v5 k (rcs ((szW n x).take k))∧Hid (Ext W1 wr)) (fun _ _ _ v10 _=>n - (zal v10).toNat)
 case atStart=>exact ⟨0,rfl,Nat.zero_le _,World.ownsRow_nil W1 _ _ 2,hid (Ext.refl _)⟩
 case round =>
  obtain ⟨k,rfl,hk,ho,HE⟩:=hrel;obtain ⟨a5,c5,rfl⟩:=zfi ho;by_cases hkn:k<n
  ·have htk:=Hcut.out k hkn;have hcl:=fun W (hE:Ext w W)=>Hof.out k W hE;have hsp:mkRat ((x.at k).tmod 9) (dnm x k)=zll x k:=rfl;rw [hsp] at hcl;unfold Rv at hcl;generalize hs1:I (zll x k).num=s1 at *;generalize hs2:I (((zll x k).den:Nat):Int)=s2 at *;have hrn:rcs ((szW n x).take (k+1))=rcs ((szW n x).take k)++[.string s1,.string s2]:=(by rw [htk,zft,hs1,hs2]);have Hrn:=hid hrn;clear hrn hs1 hs2 htk hsp;have hk0:(0:Int)≤(k:Int):=(by omega);have hk1:(k:Int)<(n:Int):=(by omega);have hk3:(k:Int)<3:=(by omega);have c0:=Hcell.out wr HE.out k (by omega);have hm3:k+1≤maxLen:=(by unfold maxLen;omega);have hm4:(k+1) * 32≤140737488355328:=(by omega);have hw:wrap64 (x.at k)=x.at k:=zlp (Hx.out k);have hd:wrap64 (1+wrap64 ((k:Int) % 2 * (x.at k % 256 / 128)))=(dnm x k:Int):=zlq (Hx.out k) (by omega);have Hcl:=hid hcl;have Ho:=hid ho;have Hw:=hid hw;have Hd:=hid hd;clear hcl ho hw hd;go_wp2_with fail
   rw [Hw.out,Hd.out];refine (Hcl.out wr (HE0.out.trans HE.out)).mono ?_;rintro e VA ⟨rfl,hxa⟩;have HEA:=hid (HE.out.trans hxa);have hoA:=hxa.own Ho.out;have hbase:=HEA.out.size;clear hxa c0;go_wp2_with (at_builtin;refine wpList_append_own _ rfl _ _ 41 rfl W1.heap.size 65 i0 (.agg #[.string ByteArray.empty,.string ByteArray.empty]) 2 32 Tryz.underlying41 hi hz0 hz1 hz2 rfl (by decide) _ _ _ rfl (hoA.alloc _) ⟨VA.heap.size,0,none⟩ 1 1 [.string s1,.string s2] rfl rfl (zkE VA _ _ _) (by simp [Value.oneCell']) hm3 hm4 (by rw [World.size_alloc];omega) ?_;intro v7 V7 hown7 hgrow7 _)
   go_roundw
   case rel=>exact ⟨k+1,by go_num,by omega,by rw [Hrn.out];exact hown7,hid ((HEA.out.alloc _).grown hgrow7 fun j hj=>(World.ownsRow.lt (hoA.alloc (.cells #[.string s1,.string s2] 65)) j hj).1)⟩
   case measure=>simp [zal];omega
  ·obtain rfl:n=k:=by omega
   rw [List.take_of_length_le (by rw [Hrl.out];exact Nat.le_refl _)] at ho;have Ho:=hid ho;clear ho;go_wp2
   go_ret
   exact ⟨_,rfl,by unfold zfw;rw [Hrl.out];exact zam Ho.out HE0.out.size,HE0.out.trans HE.out⟩
end Go.Proofs.YtebabancfnmfjaaGreatDoor
