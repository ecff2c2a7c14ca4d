/- Walk: law 31's collect of at most a hundred sizes, by the linear form of 2048 bits. (Printed by wip/colln.py.) The collections of near sizes, by the walks of any sizes. (Printed by wip/brdg.py.) Walk: scale.Chain at any numbers of links. (Printed by wip/chng.py.) -/
import Derived.Test.YtoehmpbipbbffaaGreatDoorPa18
import Derived.Test.YtoehmpbipbbffaaGreatDoorPa33
import Derived.Test.YtoehmpbipbbffaaGreatDoorPa34
import Derived.Test.YtoehmpbipbbffaaGreatDoorPa28
set_option maxRecDepth 100000
set_option maxHeartbeats 800000
namespace Go.Proofs.YtoehmpbipbbffaaGreatDoor
open Go.RowKit Go.Lib Go.Shelf
attribute [local go_sem] Oper.semAt_some
theorem zpL (vp va vb:Value)(p:List Int)(x y:List Rat)(w:World)(he:Env w)(hp:Sl w vp (zak p))(ha:Rd w va x)(hb:Rd w vb y)(hpe:zee p=0)(hpl:p.length≤100)(hx:x.length=p.length)(hy:y.length=p.length)(hxf:∀ q∈x,Ft 30 q)(hyf:∀ q∈y,Ft 30 q)(hpr:Pr p p.length)(hdf:∀ q∈zeT x y,Ft 30 q)(hrv:zgJ w) :
  Calls Tryz.prog 33 #[vp,va,vb] w fun e w'=>e=.returned (.int .i64 (sgM (tms p (dn (zeT x y)) (zeT x y))))∧Ext w w':=by
 have h:=zob vp va vb p x y w he hp ha hb hpe hpl hx hy hxf hyf hpr hdf hrv;obtain ⟨ap,cp,rfl,_,_,_⟩:=hp.parts;obtain ⟨aa,ca,rfl,_,_,_⟩:=ha.parts;obtain ⟨ab,cb,rfl,_,_,_⟩:=hb.parts;generalize sgM (tms p (dn (zeT x y)) (zeT x y))=z at *;clear hp ha hb he hxf hyf hpr hdf hrv hx hy hpe hpl;have H:=hid h;clear h;go_enter Tryz.func33,Tryz.ntmps33
 go_wp2_with fail
 refine H.out.mono ?_;rintro e w1 ⟨rfl,hx1⟩;have Hx1:=hid hx1;clear hx1;go_wp2
 go_ret
 exact ⟨rfl,Hx1.out⟩
theorem zpM (vp va vb:Value)(p:List Int)(l:List (List Rat))(x y:List Rat)(bp:Nat)(w:World)(he:Env w)(h0:w.cell? ⟨bp,0,none⟩=some vp)(hp:Sl w vp (zak p))(ha:Rd w va x)(hb:Rd w vb y)(hc:zo1 p l)(hrv:zgJ w)(hx:x∈l)(hy:y∈l) :
  Calls Tryz.prog 32 #[va,vb,.pointer (some ⟨bp,0,none⟩)] w fun e w'=>e=.returned (.int .i64 (sgM (tms p (dn (zeT x y)) (zeT x y))))∧Ext w w':=by
 have h:=zpL vp va vb p x y w he hp ha hb hc.pe hc.few (hc.len _ hx) (hc.len _ hy) (hc.ft _ hx) (hc.ft _ hy) hc.pr (hc.dif _ hx _ hy) hrv;obtain ⟨ap,cp,rfl,_,_,_⟩:=hp.parts;obtain ⟨aa,ca,rfl,_,_,_⟩:=ha.parts;obtain ⟨ab,cb,rfl,_,_,_⟩:=hb.parts;generalize sgM (tms p (dn (zeT x y)) (zeT x y))=z at *;clear hp ha hb he hc hrv;have H:=hid h;clear h;go_enter Tryz.func32,Tryz.ntmps32
 go_wp2_with fail
 refine H.out.mono ?_;rintro e w1 ⟨rfl,hx1⟩;have Hx1:=hid hx1;clear hx1;go_wp2
 go_ret
 exact ⟨rfl,Hx1.out⟩
def zpN (W:World)(vb:Value)(o:List Rat)(p:List Int)(l:List (List Rat))(k:Nat)(v:Value)(wr:World):Prop:=∃ out:List Qw,wr.ownsRow W.heap.size 32 1 v (out.length+1) (vb::qwc out)∧(∀ r∈out,zf4 wr W.heap.size r.u r.x)∧o::out.map Qw.x=zme p [o] (l.take k)∧out.length≤k∧Ext W wr
theorem zpN.skip {W wr w':World}{vb:Value}{o:List Rat}{p:List Int}{l:List (List Rat)}{k:Nat}{v:Value}{x:List Rat}{out:List Qw}(hq:wr.ownsRow W.heap.size 32 1 v (out.length+1) (vb::qwc out))(he:∀ r∈out,zf4 wr W.heap.size r.u r.x)(hm:o::out.map Qw.x=zme p [o] (l.take k))(hl:out.length≤k)(hE:Ext W wr)(hx:Ext wr w')(hr:l[k]?=some x)(hs:rsN p x=zer p.length∨rsN p x∈o::out.map Qw.x):zpN W vb o p l (k+1) v w' :=
 ⟨out,hx.own hq,fun r hr=>hx.ownQ (he r hr),by rw [zmg hr,zmd,if_pos (by rw [← hm];exact hs)];exact hm,by omega,hE.trans hx⟩
theorem zpN.more {W wr V:World}{vb:Value}{o:List Rat}{p:List Int}{l:List (List Rat)}{k:Nat}{v v7 u:Value}{x:List Rat}{out:List Qw}{ob:Obj}(hE:Ext W wr)(hq:wr.ownsRow W.heap.size 32 1 v (out.length+1) (vb::qwc out))(he:∀ r∈out,zf4 wr W.heap.size r.u r.x)(hm:o::out.map Qw.x=zme p [o] (l.take k))(hl:out.length≤k)(hr:l[k]?=some x)(hs:¬ (rsN p x=zer p.length∨rsN p x∈o::out.map Qw.x))(ho:zf4 wr W.heap.size u (rsN p x))
  (hown:V.ownsRow W.heap.size 32 1 v7 (out.length+1+1) ((vb::qwc out)++[u])) (hgrow:(wr.alloc ob).grownBy V v.ownBlock):zpN W vb o p l (k+1) v7 V:=by
 have hal:=World.ownsRow.alloc hq ob;have hkeep:∀ s:Qw,zf4 wr W.heap.size s.u s.x→zf4 V W.heap.size s.u s.x:=fun s hs=>World.ownsRow.kept (World.ownsRow.alloc hs ob) hgrow (zem (World.ownsRow.alloc hs ob) hal (by decide));refine ⟨out++[⟨rsN p x,u,zf8 ho.rd⟩],?_,fun s hs=>?_,?_,by rw [List.length_append];simp;omega,(hE.alloc ob).grown hgrow fun k hk=>(World.ownsRow.lt hal k hk).1⟩
 ·rw [List.length_append,List.length_singleton,zjB];exact hown
 ·rcases List.mem_append.1 hs with g | g
  ·exact hkeep s (he s g)
  ·rw [List.mem_singleton] at g;subst g;exact hkeep ⟨rsN p x,u,zf8 ho.rd⟩ ho
 ·rw [zmg hr,zmd,if_neg (by rw [← hm];exact hs),List.map_append,← List.cons_append,hm];rfl
theorem zpO (vp vb vl:Value)(p:List Int)(rs:List Qw)(w:World)(he:Env w)(hp:Sl w vp (zak p))(hb:Rd w vb (ov (p.length - 1)))(hl:RdM w vl rs)(hL:Le p (rs.map Qw.x))(hrv:zgJ w)(hn9:rs.length≤100) :
  Calls Tryz.prog 10 #[vp,vb,vl] w fun e w'=>∃ vn out,e=.returned (.agg #[vp,vn])∧w'.ownsRow w.heap.size 32 1 vn out.length (qwc out)∧(∀ r∈out,(r.u=vb∧r.x=ov (p.length - 1))∨zf4 w' w.heap.size r.u r.x)∧zmq p (rs.map Qw.x) (out.map Qw.x)∧Ext w w':=by
 obtain ⟨j0,hj,hy0,hy1,hy2⟩:=info_parts zf6;have hpe:zee p=0∧p.length≤100∧0<p.length:=by rcases hL.pr with ⟨e,_⟩ | ⟨e,_⟩ <;> rw [e] <;> decide
 have hred:=fun (r:Qw)(hr:r∈rs) W (hE:Ext w W)=>(show Calls Tryz.prog 27 #[vp,vb,r.u] W fun e w'=>∃ u s,e=.returned (.tuple #[u,.string s])∧zf4 w' W.heap.size u (rsN p r.x)∧Ext W w' from by
  have hm:=List.mem_map_of_mem (f:=Qw.x) hr;have hx:=hL.len _ hm;obtain ⟨a,tl,e⟩:=zlZ (p:=p) (x:=r.x) (by rw [hx];exact hL.pr);have hrd:=hE.rd (hl.2 r hr);have hft:=hL.ft _ hm;rw [e] at hrd hft hx ⊢;have hlt:tl.length=p.length - 1:=by rw [List.length_cons] at hx;omega
  have hpr1:Pr p (tl.length+1):=by rw [← List.length_cons (a:=a),hx];exact hL.pr
  have hb2:=zoZ hpr1 hft;unfold rsN;rw [← zpc];exact (zoX vp vb r.u p a tl W (he.ext hE) (hE.sl hp) (hE.rd (by rw [hlt];exact hb)) hrd hpe.1 hpr1 hft (hrv.ext hE) (zpa hb2)).mono fun e w' ⟨u,h1,h2,h3⟩=>⟨u,_,h1,h2,h3⟩)
 have hrl:∀ r∈rs,(rsN p r.x).length=p.length:=fun r hr=>by unfold rsN;rw [zja];exact hL.len _ (List.mem_map_of_mem hr)
 have hle:=fun (r:Qw)(hr:r∈rs) W va (hE:Ext w W)(ha:Rd W va (rsN p r.x))=>zoW va va (rsN p r.x) (rsN p r.x) W (he.ext hE) ha ha rfl (by rw [hrl r hr];omega) (fun s hs=>(hL.res _ (List.mem_map_of_mem hr) s hs).mono (by omega)) (fun s hs=>(hL.res _ (List.mem_map_of_mem hr) s hs).mono (by omega));have heq:=fun W va vb x y (ha:Rd W va x)(hb:Rd W vb y)(hx:x.length=p.length)(hy:y.length=p.length)=>zj8 va vb x y W ha hb (by omega) (by omega);have hovl:(ov (p.length - 1)).length=p.length:=by rw [zit];omega
 have hcon:=fun W bx va x v (out:List Qw)(hu:vb.oneCell'=true)(hE:Ext w W)(h0:W.cell? ⟨bx,0,none⟩=some va)(ha:Rd W va x)(hx:x.length=p.length)(hv:Sl W v (vb::qwc out))(hr:∀ r∈out,Rd W r.u r.x)(ho:out.length≤100)(hol:∀ r∈out,r.x.length=p.length)=>zjH 30 #[.pointer (some ⟨bx,0,none⟩)] v (⟨ov (p.length - 1),vb,hu⟩::out) (fun y=>decide (x=y)) W hv (by rw [List.length_cons];omega) zka (fun W2 hE2 r hr2=>by
  rcases List.mem_cons.1 hr2 with e | e
  ·subst e;exact zjZ va vb x (ov (p.length - 1)) bx W2 (hE2.cell h0) (hE2.rd ha) ((hE.trans hE2).rd hb) (by omega) (by omega)
  ·exact zjZ va r.u x r.x bx W2 (hE2.cell h0) (hE2.rd ha) (hE2.rd (hr r e)) (by omega) (by have:=hol r e;omega))
 have hone:=fun (r:Qw)(hr:r∈rs)=>(hl.2 r hr).parts;have hlen:=fun (r:Qw)(hr:r∈rs)=>hL.len _ (List.mem_map_of_mem (f:=Qw.x) hr);have hub:=zf8 hb;obtain ⟨ap,cp,rfl,_,_,_⟩:=hp.parts;obtain ⟨ab,cb,rfl,_,_,_⟩:=hb.parts;obtain ⟨al,cl,rfl,_,_,hc⟩:=hl.1.parts;rw [zam] at *;rw [zf7] at *;simp only [hovl] at hred hb hcon hub ⊢;generalize hn:rs.length=n at *;have Hn:=hid hn;obtain ⟨W2,hW2⟩:∃ W2,W2=(w.alloc (.cells #[.slice ap p.length cp] 29)).alloc (.cells #[.slice none 0 0,.slice none 0 0] 36):=⟨_,rfl⟩;have hE0:Ext w W2:=by rw [hW2];exact ((Ext.refl w).alloc _).alloc _
 have hsz:W2.heap.size=w.heap.size+1+1:=by rw [hW2,World.size_alloc,World.size_alloc]
 have b0:zdV 36 W2 (w.heap.size+1) (.slice none 0 0) (.slice none 0 0):=by
  have:=zdV.new 36 (w.alloc (.cells #[.slice ap p.length cp] 29)) (.slice none 0 0) (.slice none 0 0);rw [World.size_alloc] at this;rw [hW2];exact this
 have b1:W2.heap[w.heap.size]?=some (.cells #[.slice ap p.length cp] 29 (0,0)):=by
  rw [hW2];exact ((Ext.refl _).alloc _).heap (World.alloc_heap_new w _)
 have cell1:∀ (W:World)(b:Nat)(x:Value)(t:TypeId),W.heap[b]?=some (.cells #[x] t (0,0))→W.cell? ⟨b,0,none⟩=some x:=fun W b x t h=>by unfold World.cell?;dsimp only;rw [h];rfl
 have hown0:(W2.alloc (.cells #[.slice ab p.length cb] 32)).ownsRow W2.heap.size 32 1 (.slice (some ⟨W2.heap.size,0,none⟩) 1 1) 1 [.slice ab p.length cb] :=
  ⟨rfl,.inr ⟨W2.heap.size,1,#[.slice ab p.length cb],rfl,Nat.le_refl _,World.alloc_heap_new W2 _,Nat.le_refl _,by unfold maxLen;omega,rfl,rfl⟩⟩
 rw [hsz] at hown0;have hbox:∀ W,Ext W2 W→W.cell? ⟨w.heap.size,0,none⟩=some (.slice ap p.length cp):=fun W hE=>cell1 _ _ _ _ (hE.heap b1);have Hp:=hid hp;have Hb:=hid hb;have Hl:=hid hl;have HL:=hid hL;have He:=hid he;have Hrv:=hid hrv;have Hpe:=hid hpe;have Hred:=hid hred;have Hrl:=hid hrl;have Heq:=hid heq;have Hcon:=hid hcon;have Hone:=hid hone;have Hlen:=hid hlen;have Hc:=hid hc;have HE0:=hid hE0;have B0:=hid b0;have Hle:=hid hle;have Hbox:=hid hbox;have Hown0:=hid hown0;have B1:=hid b1;have Cell1:=hid cell1;have Hsz:=hid hsz;have Hub:=hid hub;clear hp hb hl hL he hrv hpe hred hrl heq hcon hone hlen hc hE0 b0 hn hle hbox hown0 b1 cell1 hsz hub;go_enter Tryz.func10,Tryz.ntmps10
 go_wp2_with fail
 rw [← hW2];clear hW2;go_loopw [7,9,10,11,16] (fun v7 v9 v10 v11 v16 wr=>∃ k:Nat,v16=.int .i64 k∧k≤n∧zpN W2 (.slice ab p.length cb) (ov (p.length - 1)) p (rs.map Qw.x) k v7 wr) (fun _ _ _ _ v16 _=>n - (zag v16).toNat)
 case atStart=>exact ⟨0,rfl,Nat.zero_le _,[],by rw [Hsz.out];exact Hown0.out,fun r h=>by simp at h,rfl,Nat.le_refl _,(Ext.refl W2).alloc _⟩
 case round =>
  obtain ⟨k,rfl,hk,⟨out,hq,hoe,hmq,hlq,hE⟩⟩:=hrel;obtain ⟨a10,c10,rfl⟩:=zel hq;have hEw:=HE0.out.trans hE;have hcp:=Hbox.out wr hE;by_cases hkn:k<n
  ·obtain ⟨r,hr⟩:∃ r,rs[k]?=some r:=⟨_,List.getElem?_eq_getElem (by rw [Hn.out];exact hkn)⟩;have hmem:=List.mem_of_getElem? hr;obtain ⟨b,off,rfl,hc0⟩:=Hc.out k r.u (by unfold qwc;rw [List.getElem?_map,hr];rfl);obtain ⟨ar,cr,hru,_,_,_⟩:=Hone.out r hmem;have hcu:=hEw.cell hc0;have hrl:r.x.length=p.length:=Hlen.out r hmem;rw [hru,hrl] at hcu;have hrd:=Hred.out r hmem wr hEw;rw [hru,hrl] at hrd;have hrrl:=Hrl.out r hmem;have hrx:(rs.map Qw.x)[k]?=some r.x:=(by rw [List.getElem?_map,hr];rfl);have hlle:=fun W va (hE:Ext w W)(ha:Rd W va (rsN p r.x))=>(show Calls Tryz.prog 28 #[va,va] W fun e w'=>∃ u,e=.returned u∧zf4 w' W.heap.size u (zer p.length)∧Ext W w' from by
    have:=Hle.out r hmem W va hE ha;rw [ziY,hrrl] at this;exact this)
   have hol:∀ s∈out,s.x.length=p.length:=fun s hs=>by
    have h1:=List.mem_map_of_mem (f:=Qw.x) hs;have h2:s.x∈ov (p.length - 1)::out.map Qw.x:=List.mem_cons_of_mem _ h1;rw [hmq] at h2;rcases (zmi _ _ _).1 h2 with e | ⟨_,z,hz,e⟩
    ·rw [List.mem_singleton] at e;rw [e,zit];have:=Hpe.out.2.2;omega
    ·rw [e];unfold rsN;rw [zja];exact HL.out.len z (List.mem_of_mem_take hz)
   have hk0:(0:Int)≤(k:Int):=(by omega);have hk1:(k:Int)<(n:Int):=(by omega);have Hrd:=hid hrd;have Hrrl:=hid hrrl;have Hrx:=hid hrx;have Hol:=hid hol;have Hq:=hid hq;have Hoe:=hid hoe;have Hmq:=hid hmq;have Hlq:=hid hlq;have HE:=hid hE;have HEw:=hid hEw;have Hlle:=hid hlle;clear hrd hrrl hrx hol hq hoe hmq hE hEw hrl hru hc0 hmem hr hlle;go_wp2_with fail
   refine Hrd.out.mono ?_;rintro e w3 ⟨u3,s3,rfl,ho3,hx3⟩;obtain ⟨a3,c3,rfl,hr3⟩:=zkc ho3.rd Hrrl.out;clear hr3;have hbx:(w3.alloc (.cells #[.slice a3 p.length c3] 32)).cell? ⟨w3.heap.size,0,none⟩=some (.slice a3 p.length c3):=(by unfold World.cell?;rw [World.alloc_heap_new w3 _];rfl);have hE4:Ext wr (w3.alloc (.cells #[.slice a3 p.length c3] 32)):=hx3.alloc _;have ho4:zf4 (w3.alloc (.cells #[.slice a3 p.length c3] 32)) W2.heap.size (.slice a3 p.length c3) (rsN p r.x):=(((Ext.refl w3).alloc _).ownQ ho3).mono HE.out.size;have Hbx:=hid hbx;have Ho4:=hid ho4;have HE4:=hid hE4;clear hx3 ho3 hE4 hcu hcp ho4;go_wp2_with fail
   generalize hW4:w3.alloc (.cells #[.slice a3 p.length c3] 32)=W4 at *;have H40:Hid (Ext W4 W4):=hid (Ext.refl W4);have q1:=Hbx.out;by_cases hzr:rsN p r.x=zer p.length
   ·have heqz:=fun W vz (ha:Rd W (.slice a3 p.length c3) (rsN p r.x))(hb:Rd W vz (zer p.length))=>(show Calls Tryz.prog 17 #[.slice a3 p.length c3,vz] W fun e w'=>e=.returned (.bool true)∧Ext W w' from by
     have:=Heq.out W _ vz _ _ ha hb Hrrl.out (ziV _);rwa [decide_eq_true hzr] at this)
    have Hzr:=hid hzr;clear hzr;have q1d:=H40.out.drew.cell Hbx.out
    first | (go_region_law (first
     | (go_simp;have hpv:=HA;clear hpv;go_at_call 17;refine (heqz VA _ (Ext.rd HA.out Ho4.out.rd) HzA.out).mono ?_;rintro e9 VB ⟨rfl,hxb⟩;have HB:=hid (HA.out.trans hxb);have hcB:=HB.out.cell Hbx.out;clear hxb)
     | (go_simp;go_at_call 28;refine (Hlle.out _ _ (HEw.out.trans HE4.out.drew) (Ext.rd H40.out.drew Ho4.out.rd)).mono ?_;rintro e9 VA ⟨uA,rfl,hoA,hxa⟩;obtain ⟨aA,cA,rfl,hzA⟩:=zkc hoA.rd (ziV _);have HA:=hid (H40.out.drew.trans hxa);have HzA:=hid hzA;have hcA:=HA.out.cell Hbx.out;clear hxa hoA hzA))) | fail
    all_goals
     clear q1;go_wp2_with fail
     go_roundw
     case rel=>exact ⟨k+1,by go_num,by omega,zpN.skip Hq.out Hoe.out Hmq.out Hlq.out HE.out (HE4.out.trans HB.out) Hrx.out (.inl Hzr.out)⟩
     case measure=>simp [zag];omega
   ·have heqz:=fun W vz (ha:Rd W (.slice a3 p.length c3) (rsN p r.x))(hb:Rd W vz (zer p.length))=>(show Calls Tryz.prog 17 #[.slice a3 p.length c3,vz] W fun e w'=>e=.returned (.bool false)∧Ext W w' from by
     have:=Heq.out W _ vz _ _ ha hb Hrrl.out (ziV _);rwa [decide_eq_false hzr] at this)
    have hany:∀ (ub:Value)(hu:ub.oneCell'=true),((⟨ov (p.length - 1),ub,hu⟩::out:List Qw).any fun y=>decide (rsN p r.x=y.x))=decide (rsN p r.x∈ov (p.length - 1)::out.map Qw.x):=fun ub hu=>by
     rw [Bool.eq_iff_iff,List.any_eq_true,decide_eq_true_eq,List.mem_cons,List.mem_map];constructor
     ·rintro ⟨y,hy,e⟩;rcases List.mem_cons.1 hy with g | g
      ·subst g;exact .inl (of_decide_eq_true e)
      ·exact .inr ⟨y,g,(of_decide_eq_true e).symm⟩
     ·rintro (e | ⟨y,hy,e⟩)
      ·exact ⟨_,List.mem_cons_self ..,decide_eq_true e⟩
      ·exact ⟨y,List.mem_cons_of_mem _ hy,decide_eq_true e.symm⟩
    have hcn:=fun W (hx:Ext W4 W)=>(show Calls Tryz.prog 29 #[.slice a10 (out.length+1) c10,.func (.func 30) #[] #[.pointer (some ⟨w3.heap.size,0,none⟩)]] W fun e w'=>e=.returned (.bool (decide (rsN p r.x∈ov (p.length - 1)::out.map Qw.x)))∧Ext W w' from by
     have hx2:=HE4.out.trans hx;have:=Hcon.out W w3.heap.size (.slice a3 p.length c3) (rsN p r.x) (.slice a10 (out.length+1) c10) out (by simp [Value.oneCell']) (HEw.out.trans hx2) (hx.cell Hbx.out) (Ext.rd hx Ho4.out.rd) Hrrl.out (hx2.sl (zai Hq.out)) (fun s hs=>(hx2.ownQ (Hoe.out s hs)).rd) (by omega) Hol.out;rw [hany] at this;exact this)
    have Hzr:=hid hzr;clear hany;by_cases hin:rsN p r.x∈ov (p.length - 1)::out.map Qw.x
    ·rw [decide_eq_true hin] at hcn;have Hin:=hid hin;have Hcn:=hid hcn;clear hin hcn hzr;go_region_held3 (fun w'=>Ext W4 w'∧w'.cell? ⟨w3.heap.size,0,none⟩=some (.slice a3 p.length c3))
      (first | with_reducible exact s6 Hbx.out HC.out | with_reducible exact s6 Hbx.out HB.out | with_reducible exact s6 Hbx.out HA.out | with_reducible exact s6 Hbx.out H40.out.drew)
      (first
       | (have hpv:=HB;clear hpv;go_at_call 29;refine (Hcn.out VB HB.out).mono ?_;rintro e9 VC ⟨rfl,hxc⟩;have HC:=hid (HB.out.trans hxc);clear hxc)
       | (have hpv:=HA;clear hpv;go_at_call 17;refine (heqz VA _ (Ext.rd HA.out Ho4.out.rd) HzA.out).mono ?_;rintro e9 VB ⟨rfl,hxb⟩;have HB:=hid (HA.out.trans hxb);clear hxb)
       | (go_at_call 28;refine (Hlle.out _ _ (HEw.out.trans HE4.out.drew) (Ext.rd H40.out.drew Ho4.out.rd)).mono ?_;rintro e9 VA ⟨uA,rfl,hoA,hxa⟩;obtain ⟨aA,cA,rfl,hzA⟩:=zkc hoA.rd (ziV _);have HA:=hid (H40.out.drew.trans hxa);have HzA:=hid hzA;clear hxa hoA hzA))
     all_goals
      clear q1;go_wp2_with fail
      go_roundw
      case rel=>exact ⟨k+1,by go_num,by omega,zpN.skip Hq.out Hoe.out Hmq.out Hlq.out HE.out (HE4.out.trans HC.out) Hrx.out (.inr Hin.out)⟩
      case measure=>simp [zag];omega
    ·rw [decide_eq_false hin] at hcn;have Hin:=hid hin;have Hcn:=hid hcn;clear hin hcn hzr;go_region_held3 (fun w'=>Ext W4 w'∧w'.cell? ⟨w3.heap.size,0,none⟩=some (.slice a3 p.length c3))
      (first | with_reducible exact s6 Hbx.out HC.out | with_reducible exact s6 Hbx.out HB.out | with_reducible exact s6 Hbx.out HA.out | with_reducible exact s6 Hbx.out H40.out.drew)
      (first
       | (have hpv:=HB;clear hpv;go_at_call 29;refine (Hcn.out VB HB.out).mono ?_;rintro e9 VC ⟨rfl,hxc⟩;have HC:=hid (HB.out.trans hxc);clear hxc)
       | (have hpv:=HA;clear hpv;go_at_call 17;refine (heqz VA _ (Ext.rd HA.out Ho4.out.rd) HzA.out).mono ?_;rintro e9 VB ⟨rfl,hxb⟩;have HB:=hid (HA.out.trans hxb);clear hxb)
       | (go_at_call 28;refine (Hlle.out _ _ (HEw.out.trans HE4.out.drew) (Ext.rd H40.out.drew Ho4.out.rd)).mono ?_;rintro e9 VA ⟨uA,rfl,hoA,hxa⟩;obtain ⟨aA,cA,rfl,hzA⟩:=zkc hoA.rd (ziV _);have HA:=hid (H40.out.drew.trans hxa);have HzA:=hid hzA;clear hxa hoA hzA))
     all_goals
      clear q1;have hx6:=HE4.out.trans HC.out;have hq6:=hx6.own Hq.out;have ho6:=HC.out.ownQ Ho4.out;have hE16:=HE.out.trans hx6;have hbase:=hE16.size;have q1:=HC.out.cell Hbx.out;have hm3:out.length+1+1≤maxLen:=(by unfold maxLen;omega);have hm4:(out.length+1+1) * 24≤140737488355328:=(by omega);have hoe6:∀ s∈out,zf4 VC W2.heap.size s.u s.x:=fun s hs=>hx6.ownQ (Hoe.out s hs);have HE16:=hid hE16;have Hq6:=hid hq6;have Ho6:=hid ho6;have Hoe6:=hid hoe6;clear hx6 ho6 hE16 hoe6;go_wp2_with (at_builtin;refine wpList_append_own _ rfl _ _ 34 rfl W2.heap.size 32 j0 (.slice none 0 0) 1 24 Tryz.underlying34 hj hy0 hy1 hy2 rfl (by decide) _ _ _ rfl (hq6.alloc _) ⟨VC.heap.size,0,none⟩ 1 1 [.slice a3 p.length c3] rfl rfl (cell_one_new _ _ _) (by simp [Value.oneCell']) hm3 hm4 (by rw [World.size_alloc];omega) ?_;intro v7 V7 hown7 hgrow7 _)
      go_roundw
      case rel=>exact ⟨k+1,by go_num,by omega,zpN.more HE16.out Hq6.out Hoe6.out Hmq.out Hlq.out Hrx.out (fun h=>h.elim Hzr.out Hin.out) Ho6.out hown7 hgrow7⟩
      case measure=>simp [zag];omega
  ·obtain rfl:n=k:=by omega
   have hfull:ov (p.length - 1)::out.map Qw.x=zme p [ov (p.length - 1)] (rs.map Qw.x):=(by rw [hmq,List.take_of_length_le (by rw [List.length_map,Hn.out];exact Nat.le_refl _)]);have hbl:W2.heap.size≤wr.heap.size:=hE.size;rcases hq.2 with ⟨e0,_⟩ | ⟨g,c7,cur,e0,hg,h1,h2,h3,h4,h5⟩
   ·injection e0 with _ e0 _;exact absurd e0 (by omega)
   ·injection e0 with e1 e2 e3;subst e1;subst e3;clear hcp;have hgl:w.heap.size+1+1≤g:=(by have:=Hsz.out;omega);have hob:∀ W,wr.grownBy W (some g)→∀ r∈out,zf4 W W2.heap.size r.u r.x:=fun W hgr r hr=>World.ownsRow.kept (hoe r hr) hgr (zem (hoe r hr) hq (by decide));have hpr:∀ W,wr.grownBy W (some g)→Ext w W∧W.cell? ⟨w.heap.size,0,none⟩=some (.slice ap p.length cp)∧zdV 36 W (w.heap.size+1) (.slice none 0 0) (.slice none 0 0):=fun W hgr=>by
     have lt:=B0.out.lt;refine ⟨hEw.grown hgr (fun k hk=>by cases hk;omega),?_,?_⟩
     ·exact Cell1.out _ _ _ _ ((hgr.block _ (by omega) (by intro e;cases e;omega)).trans (hE.heap B1.out))
     ·exact (hgr.block _ (by omega) (by intro e;cases e;omega)).trans (hE.heap B0.out)
    have hall:∀ x∈(⟨ov (p.length - 1),.slice ab p.length cb,Hub.out⟩::out:List Qw).map Qw.x,PlN p (rs.map Qw.x) x:=fun x hx=>by
     rw [List.map_cons,hfull] at hx;rcases (zmi _ _ _).1 hx with e | ⟨_,z,hz,e⟩
     ·exact .inr (.inl (List.mem_singleton.1 e))
     ·exact .inr (.inr ⟨z,hz,e⟩)
    have hcb:=HL.out.cmpN hall;have hrdD:∀ W,wr.grownBy W (some g)→∀ r∈(⟨ov (p.length - 1),.slice ab p.length cb,Hub.out⟩::out:List Qw),Rd W r.u r.x:=fun W hgr r hr=>by
     rcases List.mem_cons.1 hr with e | e
     ·subst e;exact (hpr W hgr).1.rd Hb.out
     ·exact (hob W hgr r e).rd
    have hst:=zpK Qw.u (fun q:Qw=>mF p q.x) (fun q s:Qw=>sgM (tms p (dn (zeT q.x s.x)) (zeT q.x s.x))) 32 #[.pointer (some ⟨w.heap.size,0,none⟩)] W2.heap.size g c10 (⟨ov (p.length - 1),.slice ab p.length cb,Hub.out⟩::out) wr hq (by rw [List.length_cons];omega) (fun q=>q.hu) (fun h=>nomatch h) zkb (fun x hx y hy=>hcb.sgn _ (List.mem_map_of_mem hx) _ (List.mem_map_of_mem hy)) (fun W hgr x hx y hy=>by
     obtain ⟨a1,a2,_⟩:=hpr W hgr;exact zpM (.slice ap p.length cp) x.u y.u p _ x.x y.x w.heap.size W (He.out.ext a1) a2 (a1.sl Hp.out) (hrdD W hgr x hx) (hrdD W hgr y hy) hcb (Hrv.out.ext a1) (List.mem_map_of_mem hx) (List.mem_map_of_mem hy))
    rw [List.length_cons] at hst;have Hst:=hid hst;have Hpr:=hid hpr;have Hob:=hid hob;have Hfull:=hid hfull;have Hoe:=hid hoe;clear hst hpr hob hrdD hcb hall hfull hoe hq h1 h2 h3 h4 h5 hg e2 hE hbl hmq;go_wp2_with fail
    refine Hst.out.mono ?_;rintro e w5 ⟨rfl,d5,hR5,hS5⟩;obtain ⟨hx5,c5,hb5⟩:=Hpr.out w5 hR5.only;have r0:=hb5.c0;have r1:=hb5.c1;have z0:=hb5.fz 0;have z1:=hb5.fz 1;have hlb:w.heap.size≤w.heap.size+1:=(by omega);have hK:K0 36 w w5 (w.heap.size+1):=⟨hx5,_,_,hb5⟩;have hfin:=hK.fin hlb (.slice ap p.length cp) (.slice (some ⟨g,0,none⟩) (out.length+1) c10);have ho5:∀ r∈out,zf4 ((w5.setCell ⟨w.heap.size+1,0,none⟩ (.slice ap p.length cp)).setCell ⟨w.heap.size+1,1,none⟩ (.slice (some ⟨g,0,none⟩) (out.length+1) c10)) W2.heap.size r.u r.x:=fun r hr =>
     zgi (zdV.put0 hb5 (.slice ap p.length cp)) (zgi hb5 (Hob.out w5 hR5.only r hr) (by decide) 0 (.slice ap p.length cp)) (by decide) 1 (.slice (some ⟨g,0,none⟩) (out.length+1) c10)
    have hor:=zgi (zdV.put0 hb5 (.slice ap p.length cp)) (zgi hb5 hR5.own (by decide) 0 (.slice ap p.length cp)) (by decide) 1 (.slice (some ⟨g,0,none⟩) (out.length+1) c10);have Hfin:=hid hfin;have Ho5:=hid ho5;have Hor:=hid hor;have HR5:=hid hR5;have HS5:=hid hS5;clear hx5 hb5 hlb hK hfin ho5 hor hR5 hS5;go_wp2_with fail
    obtain ⟨hb6,hx6⟩:=Hfin.out;have hd0:=hb6.c0;have hd1:=hb6.c1;have hperm:=HR5.out.perm;have hlen5:d5.length=out.length+1:=HR5.out.len;have hor2:=zah Hor.out HE0.out.size;rw [List.length_cons] at hor2;refine bodyPost_ret (v:=.agg #[.slice ap p.length cp,.slice (some ⟨g,0,none⟩) (out.length+1) c10]) (by simp [results,Tryz.results10,go_sem,hd0,hd1]) rfl ⟨_,d5,rfl,(by rw [hlen5];exact hor2),fun r hr=>?_,zms HL.out ?_ ?_,hx6⟩
    ·rcases List.mem_cons.1 (hperm.mem_iff.1 hr) with e | e
     ·subst e;exact .inl ⟨rfl,rfl⟩
     ·exact .inr ((Ho5.out r e).mono HE0.out.size)
    ·rw [← Hfull.out];exact hperm.map Qw.x
    ·exact List.pairwise_map.2 HS5.out
theorem Sn.ft {r:Rat}(h:Sn r):Ft 400 r:=(show Ft 5 r from ⟨Dec.nDigits_le (by omega) (by show _<100000;have:=h.1;omega),Dec.nDigits_le (by omega) (by show _<100000;have:=h.2;omega)⟩).mono (by omega)
theorem zpP (va:Value)(x:List Rat)(q:Rat)(w:World)(he:Env w)(ha:Rd w va x)(hx9:x.length≤1000)(hx:∀ r∈x,Sn r)(hq:Sn q) :
  Calls Tryz.prog 34 #[va,Rv q] w fun e w'=>∃ u,e=.returned u∧zf4 w' w.heap.size u (zeU x q)∧Ext w w' :=
 zoV va x q w he ha hx9 (fun r h=>(hx r h).ft) hq.ft
theorem zpQ (vp vb vg:Value)(p:List Int)(g:List Rat)(a:Int)(n:Nat)(w:World)(hrv:zgJ w)(he:Env w)(hp:Sl w vp (zak p))(hb:Rd w vb (ov (p.length - 1)))(hg:Rd w vg g)(hgl:g.length=p.length)(hgf:∀ q∈g,Ft 30 q)(ha0:-1000≤a)(ha1:a≤0)(hn0:0≤a+(n:Int))(hn9:a+(n:Int)≤1000)(hL:Le p (zjN g a (n+1))) :
  Calls Tryz.prog 7 #[.agg #[vp,vb,vg,.int .i64 a,.int .i64 (a+(n:Int))]] w fun e w'=>zpf w p (zjN g a (n+1)) e w':=by
 obtain ⟨j0,hj,hy0,hy1,hy2⟩:=info_parts zf6;have hpe:zee p=0∧p.length≤100∧0<p.length:=by rcases hL.pr with ⟨e,_⟩ | ⟨e,_⟩ <;> rw [e] <;> decide
 have hck:=fun W (hE:Ext w W)=>ziG vp vb p (p.length - 1) W (he.ext hE) (hE.sl hp) (hE.rd hb) hpe.1 (by have:=hL.pr;rwa [show p.length - 1+1=p.length by omega]);have hsc:=fun W (hE:Ext w W)=>zfO vp vg p g W (he.ext hE) (hE.sl hp) (hE.rd hg) hpe.1 hgl hgf;have hin:=fun (z:Int)(h0:-2000≤z)(h1:z≤2000) W (hE:Ext w W)=>ziE z W (he.ext hE) (by omega) (by omega);have hmu:=fun (k:Nat)(hk:k<n+1)(z:Int)(hz:z=a+(k:Int)) W (hE:Ext w W)=>zhZ vp vg p g ((z:Int):Rat) W (he.ext hE) (hE.sl hp) (hE.rd hg) hpe.1 hgl hgf ((zjJ (k:=5) (by show _<100000;omega) (by omega)).mono (by omega)) (fun q hq=>hL.ft (zeU g ((z:Int):Rat)) (by
  unfold zjN;rw [List.mem_map];exact ⟨k,List.mem_range.2 hk,by rw [hz]⟩) q hq)
 have hcol:=fun W vl rs (hE:Ext w W)(hl:RdM W vl rs)(hx:rs.map Qw.x=zjN g a (n+1))=>zpg vp vb vl p rs W (he.ext hE) (hE.sl hp) (hE.rd hb) hl (by rw [hx];exact hL) (hrv.ext hE) (by have:=congrArg List.length hx;rw [List.length_map,zjP] at this;omega);obtain ⟨ap,cp,rfl,_,_,_⟩:=hp.parts;obtain ⟨ab,cb,rfl,_,_,_⟩:=hb.parts;obtain ⟨ag,cg,rfl,_,_,_⟩:=hg.parts;have hovl:(ov (p.length - 1)).length=p.length:=by rw [zit];omega
 rw [zam] at *;simp only [hovl,hgl] at hck hsc hmu hcol ⊢;obtain ⟨tz,htz⟩:∃ tz,tz=a+(n:Int):=⟨_,rfl⟩;rw [← htz];have hE0:Ext w ((w.alloc (.cells #[.slice ap p.length cp,.slice ab p.length cb,.slice ag p.length cg,.int .i64 a,.int .i64 tz] 42)).alloc (.cells #[.slice none 0 0,.slice none 0 0] 36)):=((Ext.refl w).alloc _).alloc _;have b1:((w.alloc (.cells #[.slice ap p.length cp,.slice ab p.length cb,.slice ag p.length cg,.int .i64 a,.int .i64 tz] 42)).alloc (.cells #[.slice none 0 0,.slice none 0 0] 36)).heap[w.heap.size]?=some (.cells #[.slice ap p.length cp,.slice ab p.length cb,.slice ag p.length cg,.int .i64 a,.int .i64 tz] 42 (0,0)):=((Ext.refl _).alloc _).heap (World.alloc_heap_new w _);have b2:=zdV.new 36 (w.alloc (.cells #[.slice ap p.length cp,.slice ab p.length cb,.slice ag p.length cg,.int .i64 a,.int .i64 tz] 42)) (.slice none 0 0) (.slice none 0 0);rw [World.size_alloc] at b2;have hbox:∀ W,Ext ((w.alloc (.cells #[.slice ap p.length cp,.slice ab p.length cb,.slice ag p.length cg,.int .i64 a,.int .i64 tz] 42)).alloc (.cells #[.slice none 0 0,.slice none 0 0] 36)) W→W.cell? ⟨w.heap.size,0,none⟩=some (.slice ap p.length cp)∧W.cell? ⟨w.heap.size,1,none⟩=some (.slice ab p.length cb)∧W.cell? ⟨w.heap.size,2,none⟩=some (.slice ag p.length cg)∧W.cell? ⟨w.heap.size,3,none⟩=some (.int .i64 a)∧W.cell? ⟨w.heap.size,4,none⟩=some (.int .i64 tz):=fun W hE=>by
  have hb:=hE.heap b1;unfold World.cell?;dsimp only;rw [hb];exact ⟨rfl,rfl,rfl,rfl,rfl⟩
 have htz0:0≤tz:=by omega
 have htz1:tz≤1000:=by omega
 have Hck:=hid hck;have Hsc:=hid hsc;have Hin:=hid hin;have Hmu:=hid hmu;have Hcol:=hid hcol;have HE0:=hid hE0;have B2:=hid b2;have Hbox:=hid hbox;have Htz:=hid htz;clear hrv hp hb hg hgl hgf he hL hpe hck hsc hin hmu hcol hE0 b1 b2 hbox hovl htz;go_enter Tryz.func7,Tryz.ntmps7
 obtain ⟨q0,q1,q2,q3,q4⟩:=Hbox.out _ (Ext.refl _);go_wp2_with fail
 refine (Hck.out _ HE0.out).mono ?_;rintro e w1 ⟨rfl,hx1⟩;obtain ⟨q0,q1,q2,q3,q4⟩:=Hbox.out w1 hx1;have Hx1:=hid hx1;clear hx1;go_wp2_with fail
 refine (Hsc.out _ (HE0.out.trans Hx1.out)).mono ?_;rintro e w2 ⟨rfl,hx2⟩;have Hx2:=hid (Hx1.out.trans hx2);obtain ⟨q0,q1,q2,q3,q4⟩:=Hbox.out w2 Hx2.out;clear hx2;have t1:¬ a < -1000:=by omega
 have t2:¬ 0<a:=by omega
 have t3:¬ tz<0:=by omega
 have t4:¬ 1000<tz:=by omega
 go_wp2_with fail
 go_loopw [6,7,8,9] (fun v6 v7 v8 v9 wr=>∃ (k:Nat)(z:Int),v7=.int .i64 z∧z=a+(k:Int)∧k≤n+1∧QsR w2 (zjN g a k) v6 wr) (fun _ v7 _ _ _=>(tz+1 - zag v7).toNat)
 case atStart=>exact ⟨0,a,rfl,by omega,Nat.zero_le _,[],QwM.nil _ _ _,rfl,Ext.refl _⟩
 case round =>
  clear q0 q1 q2 q3 q4;obtain ⟨k,z,rfl,hz,hk,⟨out,hq,hm,hE⟩⟩:=hrel;have htz:=Htz.out;have hol:out.length=k:=by
   have:=congrArg List.length hm;rwa [List.length_map,zjP] at this
  obtain ⟨a6,c6,rfl⟩:=zel hq.1;have hEw:=(HE0.out.trans Hx2.out).trans hE;obtain ⟨q0,q1,q2,q3,q4⟩:=Hbox.out wr (Hx2.out.trans hE);by_cases hkn:k<n+1
  ·have hzt:z≤tz:=(by omega);have hmk:=fun W (hx:Ext wr W)=>Hmu.out k hkn z hz W (hEw.trans hx);have hik:=fun W (hx:Ext wr W)=>Hin.out z (by omega) (by omega) W (hEw.trans hx);have Hmk:=hid hmk;have Hik:=hid hik;have Hq:=hid hq;have Hm:=hid hm;have HE:=hid hE;have Hol:=hid hol;have Hz:=hid hz;have hqo:=hq.1;rw [hol] at hqo ⊢;have Hqo:=hid hqo;have hzb:-1000≤z∧z≤1000:=(by omega);have hm3:k+1≤maxLen:=(by unfold maxLen;omega);have hm4:(k+1) * 24≤140737488355328:=(by omega);clear hmk hik hq hm hE hz hEw hol hqo htz;go_wp2_with fail
   go_region_held3 (fun w'=>Ext wr w'∧w'.cell? ⟨w.heap.size,0,none⟩=some (.slice ap p.length cp)∧w'.cell? ⟨w.heap.size,2,none⟩=some (.slice ag p.length cg))
    (first | (with_reducible assumption) | exact ⟨(Ext.refl wr).drew,q0,q2⟩)
    (first
     | (go_at_call 22;refine (Hik.out _ (And.left (by assumption))).mono ?_;rintro e9 VA ⟨rfl,hxa⟩;have hEA:=((Ext.refl wr).drew).trans hxa;have hS2:Ext wr VA∧VA.cell? ⟨w.heap.size,0,none⟩=some (.slice ap p.length cp)∧VA.cell? ⟨w.heap.size,2,none⟩=some (.slice ag p.length cg):=⟨hEA,hEA.cell q0,hEA.cell q2⟩;have HEA:=hid hEA;clear hxa hEA)
     | (go_at_call 21;refine (Hmk.out _ HEA.out).mono ?_;rintro e9 VB ⟨g2,rfl,ho2,hxa⟩;have hEB:=HEA.out.trans hxa;have hS3:Ext wr VB∧VB.cell? ⟨w.heap.size,0,none⟩=some (.slice ap p.length cp)∧VB.cell? ⟨w.heap.size,2,none⟩=some (.slice ag p.length cg):=⟨hEB,hEB.cell q0,hEB.cell q2⟩;have HEB:=hid hEB;have Ho2:=hid (ho2.mono (HE.out.trans HEA.out).size);clear hxa hEB ho2 hS2))
   all_goals
    clear hS3 q0 q1 q2 q3 q4;have hq3:=HEB.out.qwM Hq.out;have hqo:=HEB.out.own Hqo.out;have hE3:=HE.out.trans HEB.out;have hbase:=hE3.size;have Hq3:=hid hq3;have HE3:=hid hE3;clear hq3 hE3;go_wp2_with (at_builtin;refine wpList_append_own _ rfl _ _ 34 rfl w2.heap.size 32 j0 (.slice none 0 0) 1 24 Tryz.underlying34 hj hy0 hy1 hy2 rfl (by decide) _ _ _ rfl (hqo.alloc _) ⟨VB.heap.size,0,none⟩ 1 1 [.slice (some ⟨g2,0,none⟩) p.length p.length] rfl rfl (cell_one_new _ _ _) (by simp [Value.oneCell']) hm3 hm4 (by rw [World.size_alloc];omega) ?_;intro v7 V7 hown7 hgrow7 _)
    go_roundw
    case rel=>exact ⟨k+1,z+1,by go_num,by have:=Hz.out;omega,by omega,by rw [zjO];exact QsR.more HE3.out Hq3.out Hm.out (by rw [← Hz.out];exact Ho2.out) (by rw [Hol.out];exact hown7) (by rw [Hol.out];exact hgrow7)⟩
    case measure=>simp [zag];omega
  ·have hkn2:k=n+1:=(by omega);have hzt:¬ z≤tz:=(by omega);subst hkn2;have hco:=Hcol.out wr (.slice a6 out.length c6) out hEw hq.rd hm;have hB2:=B2.out.ext (Hx2.out.trans hE);have Hm:=hid hm;have Hco:=hid hco;have HB2:=hid hB2;have HEw:=hid hEw;have HEb:=hid (Hx2.out.trans hE);clear hco hB2 hEw hq hm hE hz hol htz;go_wp2_with fail
   refine Hco.out.mono ?_;intro e w5 hce;rw [Hm.out] at hce;rcases hce with ⟨h60,rfl,hx5⟩ | ⟨h60,v5,out5,rfl,hsc5,hcl5,hx5⟩
   ·have hE15:=HEb.out.trans hx5;have hK:K0 36 w w5 (w.heap.size+1):=⟨HE0.out.trans hE15,_,_,B2.out.ext hE15⟩;have k0:=hK.res.c0;have k1:=hK.res.c1;have z0:=hK.res.fz 0;have z1:=hK.res.fz 1;have HK:=hid hK;clear hK hE15 hx5 q0 q1 q2 q3 q4;go_wp2_with fail
    obtain ⟨hb6,hx6⟩:=HK.out.fin (Nat.le_succ _) (.slice none 0 0) (.slice none 0 0);have hd0:=hb6.c0;have hd1:=hb6.c1;exact bodyPost_ret (v:=.tuple #[.agg #[.slice none 0 0,.slice none 0 0],.int .i64 4]) (by simp [results,Tryz.results7,go_sem,hd0,hd1]) rfl (.inl ⟨h60,rfl,hx6⟩)
   obtain ⟨vp5,vn5,rfl,hop5,hqn5⟩:=hsc5;obtain ⟨a7,c7,rfl⟩:=zel hop5;obtain ⟨a8,c8,rfl⟩:=zel hqn5.1;have hE15:=HEb.out.trans hx5;have hbr:=B2.out.ext hE15;have hlo:=HEw.out.size;have hK:K0 36 w w5 (w.heap.size+1):=⟨HE0.out.trans hE15,_,_,hbr⟩;have k0:=hK.res.c0;have k1:=hK.res.c1;have z0:=hK.res.fz 0;have z1:=hK.res.fz 1;have hfin:=hK.fin (by omega) (.slice a7 p.length c7) (.slice a8 out5.length c8);have hq4:=(hqn5.set hbr 0 (.slice a7 p.length c7)).set (zdV.put0 hbr (.slice a7 p.length c7)) 1 (.slice a8 out5.length c8);have ho4:=zgi (zdV.put0 hbr (.slice a7 p.length c7)) (zgi hbr hop5 (by decide) 0 (.slice a7 p.length c7)) (by decide) 1 (.slice a8 out5.length c8);have Hfin:=hid hfin;have Hq4:=hid hq4;have Ho4:=hid ho4;have Hcl5:=hid hcl5;clear hfin hq4 ho4 hcl5 hK hbr hE15 hop5 hqn5 hx5 q0 q1 q2 q3 q4;go_wp2_with fail
   obtain ⟨hb5,hx5⟩:=Hfin.out;have hd0:=hb5.c0;have hd1:=hb5.c1;exact bodyPost_ret (v:=.tuple #[.agg #[.slice a7 p.length c7,.slice a8 out5.length c8],.int .i64 0]) (by simp [results,Tryz.results7,go_sem,hd0,hd1]) rfl (.inr ⟨h60,_,out5,rfl,⟨_,_,rfl,zah Ho4.out hlo,Hq4.out.mono hlo hlo⟩,Hcl5.out,hx5⟩)
theorem zpR (vp vb vg:Value)(p:List Int)(g:List Rat)(a tz:Int)(w:World)(he:Env w)(hp:Sl w vp (zak p))(hb:Rd w vb (ov (p.length - 1)))(hg:Rd w vg g)(hgl:g.length=p.length)(hgf:∀ q∈g,Ft 30 q)(hpr:Pr p p.length)(hbad:a < -1000∨0<a∨tz<0∨1000<tz) :
  Calls Tryz.prog 7 #[.agg #[vp,vb,vg,.int .i64 a,.int .i64 tz]] w fun e w'=>e=.returned (.tuple #[.agg #[.slice none 0 0,.slice none 0 0],.int .i64 3])∧Ext w w':=by
 have hpe:zee p=0∧p.length≤100∧0<p.length:=by rcases hpr with ⟨e,_⟩ | ⟨e,_⟩ <;> rw [e] <;> decide
 have hck:=fun W (hE:Ext w W)=>ziG vp vb p (p.length - 1) W (he.ext hE) (hE.sl hp) (hE.rd hb) hpe.1 (by have:=hpr;rwa [show p.length - 1+1=p.length by omega]);have hsc:=fun W (hE:Ext w W)=>zfO vp vg p g W (he.ext hE) (hE.sl hp) (hE.rd hg) hpe.1 hgl hgf;obtain ⟨ap,cp,rfl,_,_,_⟩:=hp.parts;obtain ⟨ab,cb,rfl,_,_,_⟩:=hb.parts;obtain ⟨ag,cg,rfl,_,_,_⟩:=hg.parts;have hovl:(ov (p.length - 1)).length=p.length:=by rw [zit];omega
 rw [zam] at *;simp only [hovl,hgl] at hck hsc ⊢;have hE0:Ext w ((w.alloc (.cells #[.slice ap p.length cp,.slice ab p.length cb,.slice ag p.length cg,.int .i64 a,.int .i64 tz] 42)).alloc (.cells #[.slice none 0 0,.slice none 0 0] 36)):=((Ext.refl w).alloc _).alloc _;have b1:((w.alloc (.cells #[.slice ap p.length cp,.slice ab p.length cb,.slice ag p.length cg,.int .i64 a,.int .i64 tz] 42)).alloc (.cells #[.slice none 0 0,.slice none 0 0] 36)).heap[w.heap.size]?=some (.cells #[.slice ap p.length cp,.slice ab p.length cb,.slice ag p.length cg,.int .i64 a,.int .i64 tz] 42 (0,0)):=((Ext.refl _).alloc _).heap (World.alloc_heap_new w _);have b2:=zdV.new 36 (w.alloc (.cells #[.slice ap p.length cp,.slice ab p.length cb,.slice ag p.length cg,.int .i64 a,.int .i64 tz] 42)) (.slice none 0 0) (.slice none 0 0);rw [World.size_alloc] at b2;have hbox:∀ W,Ext ((w.alloc (.cells #[.slice ap p.length cp,.slice ab p.length cb,.slice ag p.length cg,.int .i64 a,.int .i64 tz] 42)).alloc (.cells #[.slice none 0 0,.slice none 0 0] 36)) W→W.cell? ⟨w.heap.size,0,none⟩=some (.slice ap p.length cp)∧W.cell? ⟨w.heap.size,1,none⟩=some (.slice ab p.length cb)∧W.cell? ⟨w.heap.size,2,none⟩=some (.slice ag p.length cg)∧W.cell? ⟨w.heap.size,3,none⟩=some (.int .i64 a)∧W.cell? ⟨w.heap.size,4,none⟩=some (.int .i64 tz):=fun W hE=>by
  have hb:=hE.heap b1;unfold World.cell?;dsimp only;rw [hb];exact ⟨rfl,rfl,rfl,rfl,rfl⟩
 have Hck:=hid hck;have Hsc:=hid hsc;have HE0:=hid hE0;have B2:=hid b2;have Hbox:=hid hbox;clear hp hb hg hgl hgf he hpr hpe hck hsc hE0 b1 b2 hbox hovl;go_enter Tryz.func7,Tryz.ntmps7
 obtain ⟨q0,q1,q2,q3,q4⟩:=Hbox.out _ (Ext.refl _);go_wp2_with fail
 refine (Hck.out _ HE0.out).mono ?_;rintro e w1 ⟨rfl,hx1⟩;obtain ⟨q0,q1,q2,q3,q4⟩:=Hbox.out w1 hx1;have Hx1:=hid hx1;clear hx1;go_wp2_with fail
 refine (Hsc.out _ (HE0.out.trans Hx1.out)).mono ?_;rintro e w2 ⟨rfl,hx2⟩;have Hx2:=hid (Hx1.out.trans hx2);obtain ⟨q0,q1,q2,q3,q4⟩:=Hbox.out w2 Hx2.out;clear hx2;have hB2:=B2.out.ext Hx2.out;have hK:K0 36 w w2 (w.heap.size+1):=⟨HE0.out.trans Hx2.out,_,_,hB2⟩;have k0:=hK.res.c0;have k1:=hK.res.c1;have z0:=hK.res.fz 0;have z1:=hK.res.fz 1;have HK:=hid hK;clear hK hB2;have hcase:(a < -1000)∨(¬ a < -1000∧0<a)∨(¬ a < -1000∧¬ 0<a∧tz<0)∨(¬ a < -1000∧¬ 0<a∧¬ tz<0∧1000<tz):=by omega
 clear hbad;rcases hcase with t1 | ⟨t1,t2⟩ | ⟨t1,t2,t3⟩ | ⟨t1,t2,t3,t4⟩
 all_goals
  go_wp2_with fail
  obtain ⟨hb6,hx6⟩:=HK.out.fin (Nat.le_succ _) (.slice none 0 0) (.slice none 0 0);have hd0:=hb6.c0;have hd1:=hb6.c1;exact bodyPost_ret (v:=.tuple #[.agg #[.slice none 0 0,.slice none 0 0],.int .i64 3]) (by simp [results,Tryz.results7,go_sem,hd0,hd1]) rfl ⟨rfl,hx6⟩
theorem zpS (vp vb vg:Value)(p:List Int)(c:Int)(g:List Rat)(a:Int)(n:Nat)(w:World)(hrv:zgJ w)(he:Env w)(hp:Sl w vp (zak p))(hb:Rd w vb (ov (p.length - 1)))(hg:Rd w vg g)(hgl:g.length=p.length)(hgf:∀ q∈g,Ft 30 q)(ha0:-1000≤a)(ha1:a≤0)(hn0:0≤a+(n:Int))(hn9:n<9)(hL:Lw p c (zjN g a (n+1))) :
  Calls Tryz.prog 7 #[.agg #[vp,vb,vg,.int .i64 a,.int .i64 (a+(n:Int))]] w fun e w'=>∃ v out,e=.returned (.tuple #[v,.int .i64 0])∧ScO w' w.heap.size v p out∧zjz p (zjN g a (n+1)) (out.map Qw.x)∧Ext w w':=by
 refine (zpQ vp vb vg p g a n w hrv he hp hb hg hgl hgf ha0 ha1 hn0 (by omega) hL.le).mono fun e w' h=>?_;rcases h with ⟨h,_⟩ | ⟨_,v,out,h1,h2,h3,h4⟩
 ·have:=zmh p [] (zjN g a (n+1));rw [zjP,List.length_nil] at this;omega
 ·exact ⟨v,out,h1,h2,hL.coll h3,h4⟩
end Go.Proofs.YtoehmpbipbbffaaGreatDoor
