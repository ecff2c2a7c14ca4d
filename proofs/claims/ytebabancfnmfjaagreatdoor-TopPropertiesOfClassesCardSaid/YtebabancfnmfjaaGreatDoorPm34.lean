/- Walks: subset.search. -/
import Derived.Test.YtebabancfnmfjaaGreatDoorPm33
import Derived.Test.YtebabancfnmfjaaGreatDoorPm32
set_option maxRecDepth 100000
set_option maxHeartbeats 4000000
namespace Go.Proofs.YtebabancfnmfjaaGreatDoor
open Go.RowKit Go.Lib Go.Shelf
attribute [local go_sem] Oper.semAt_some
theorem zpg {W X:World}(h0:Below 0 W X)(hb:∀ k:Nat,X.heap[k]?=W.heap[k]?):Ext W X:=⟨h0.os,h0.tape,h0.output,h0.size,fun k _=>hb k⟩
theorem zph {W:World}{B:Nat}{t:TypeId}{v:Value}(h:Boxed W B t v):Ext W (W.setCell ⟨B,0,none⟩ v) :=
 zpg ((Below.refl 0 W).setCell (Nat.zero_le _) v) fun k=>by
  by_cases hk:k=B
  ·subst hk;exact (Boxed.set v h).trans h.symm
  ·exact Below.heap_setCell _ ⟨B,0,none⟩ _ k hk
theorem zpi {p:List Int}{N M:List (List Rat)}{k:Int}{b:Bool}(h:zpe p p N M k b):b=zmQ p N M:=by
 rcases h with ⟨rfl,_,h⟩ | ⟨rfl,i,_,hi,_,e,_⟩
 ·refine (Bool.eq_false_iff.2 fun g=>?_).symm;obtain ⟨i,hi,e⟩:=zmR.1 g;exact h i hi ⟨rfl,e⟩
 ·exact (zmR.2 ⟨i,hi,e⟩).symm
theorem zpj {A C:World}{row:Option Nat}{k0 b5 B T:Nat}{x y z t:Value}(hg:A.grownBy C row)
  (h:A.cell? ⟨k0+1,0,none⟩=some x∧A.cell? ⟨k0+1+1,0,none⟩=some y∧A.cell? ⟨b5,0,none⟩=some z∧A.cell? ⟨b5,1,none⟩=some t) (hr:∀ r,row=some r→B≤r∧r<T) (_h1:k0+1<B) (h2:k0+1+1<B) (h5:T≤b5) :
  C.cell? ⟨k0+1,0,none⟩=some x∧C.cell? ⟨k0+1+1,0,none⟩=some y∧C.cell? ⟨b5,0,none⟩=some z∧C.cell? ⟨b5,1,none⟩=some t :=
 ⟨hg.cell h.1 fun e=>by have:=hr _ e.symm;dsimp only at this;omega,hg.cell h.2.1 fun e=>by have:=hr _ e.symm;dsimp only at this;omega,hg.cell h.2.2.1 fun e=>by have:=hr _ e.symm;dsimp only at this;omega,hg.cell h.2.2.2 fun e=>by have:=hr _ e.symm;dsimp only at this;omega⟩
theorem Fw.four (w:World)(o0 o1 o2 o3:Obj):Ext w ((((w.alloc o0).alloc o1).alloc o2).alloc o3)∧((((w.alloc o0).alloc o1).alloc o2).alloc o3).heap[w.heap.size]?=some o0∧((((w.alloc o0).alloc o1).alloc o2).alloc o3).heap[w.heap.size+1]?=some o1 ∧
  ((((w.alloc o0).alloc o1).alloc o2).alloc o3).heap[w.heap.size+1+1]?=some o2∧((((w.alloc o0).alloc o1).alloc o2).alloc o3).heap[w.heap.size+1+1+1]?=some o3:=by
 have h0:=World.alloc_heap_new w o0;have h1:=World.alloc_heap_new (w.alloc o0) o1;have h2:=World.alloc_heap_new ((w.alloc o0).alloc o1) o2;have h3:=World.alloc_heap_new (((w.alloc o0).alloc o1).alloc o2) o3;simp only [World.size_alloc] at h1 h2 h3;have e1:=fun (W:World)(o:Obj)=>(Ext.refl W).alloc o;exact ⟨(((((Ext.refl w).alloc o0).alloc o1).alloc o2).alloc o3),(e1 _ o3).heap ((e1 _ o2).heap ((e1 _ o1).heap h0)),(e1 _ o3).heap ((e1 _ o2).heap h1),(e1 _ o3).heap h2,h3⟩
theorem zpk (v:Value)(p:List Int)(rs:List Qw)(m:Nat)(P:Int)(M:List Int)(b:Bool)(w:World)(he:Env w)(hv:QyV w v p rs (m:Int) P M b)(h:Wd p (rs.map Qw.x))(hm1:1≤m)(hmn:m≤rs.length)(hP1:1≤P)(hP6:P≤6)
  (hM:zkU rs.length M 0 M.length=0) (hfew:zoK rs.length m M.length≤5000) (hN:(cho rs.length m M rs.length [] 0).length≤5000) (hV:∀ l∈cho rs.length m M rs.length [] 0,l.length≤60∧zkV rs.length l=0∧(2≤P→P≤6→Wc p (zlb p (rs.map Qw.x) l))) :
  Calls Tryz.prog 54 #[v] w fun e w'=>∃ us vs fs,e=.returned (.tuple #[us,vs,.int .i64 0])∧Fnd w' w.heap.size p (rs.map Qw.x) us vs fs∧fs.map Fw.l=srL P b p (rs.map Qw.x) (cho rs.length m M rs.length [] 0)∧Ext w w':=by
 have hML:M.length≤rs.length:=by
  have:=zkZ hM;have hs:M ⊆ (List.range rs.length).map (fun (k:Nat)=>(k:Int)):=fun x hx=>by
   have hb:=this.1 x hx;exact List.mem_map.2 ⟨x.toNat,List.mem_range.2 (by omega),by omega⟩
  have:=zkM (this.2.imp (fun h=>by omega)) hs;simpa using this
 have hn60:rs.length≤60:=by have:=h.few;rwa [List.length_map] at this
 have hL:(rs.map Qw.x).length=rs.length:=List.length_map ..;have hck:=fun W vq (hE:Ext w W)(hq:QyV W vq p rs (m:Int) P M b)=>zns vq p rs (m:Int) P M b 0 W hq (by omega) (fun W' sv hE' hs=>ziz sv p rs W' (he.ext (hE.trans hE')) hs h.right);have hqe:orE 0 (znp rs.length (m:Int) P M)=0:=by rw [znq];unfold znp;rw [if_neg (by omega),if_neg (by omega)];exact hM
 rw [hqe] at hck;have hfw:=fun W vq (hE:Ext w W)(hq:QyV W vq p rs (m:Int) P M b)=>zoN vq p rs (m:Int) P M b W (he.ext hE) hq hn60 (by omega) (by omega) hML;rw [decide_eq_true hfew] at hfw;have hhas:=fun W vq u l (hE:Ext w W)(hq:QyV W vq p rs (m:Int) P M b)(hu:Sl W u (zaq l))(h6:l.length≤60)(hse:zkV rs.length l=0)(hw:2≤P→P≤6→Wc p (zlb p (rs.map Qw.x) l))=>zom vq u p rs (m:Int) P M b l W (he.ext hE) hq h hu h6 hse hw;have hsub:=fun W sv u l (hE:Ext w W)(hs:ScV W sv p rs)(hu:Sl W u (zaq l))(h6:l.length≤60)=>znm sv u p rs l W (he.ext hE) hs h hu h6;have hrot:=fun W v1 v2 ts1 ts2 (hE:Ext w W)(h1:ScV W v1 p ts1)(h2:ScV W v2 p ts2)(g1:Wd p (ts1.map Qw.x))(g2:Wd p (ts2.map Qw.x))=>zpf v1 v2 p p ts1 ts2 W (he.ext hE) h1 h2 g1 g2;obtain ⟨ap,cp,an,cn,am,cm,rfl,hs,hmm⟩:=hv.let;obtain ⟨i0,hi,hz0,hz1,hz2⟩:=info_parts zos;obtain ⟨j0,hj,hy0,hy1,hy2⟩:=info_parts zot;have Hck:=hid hck;have Hfw:=hid hfw;have Hhas:=hid hhas;have Hsub:=hid hsub;have Hrot:=hid hrot;have HV:=hid hV;have HN:=hid hN;have Hs:=hid hs;have Hmm:=hid hmm;have Hv:=hid hv;have He:=hid he;have Hwd:=hid h;clear hck hfw hhas hsub hrot hV hN hs hmm hv he h hqe hfew hM;refine (callsIn_wide (n:=3)).1 ?_;refine callsIn_of_wp_marks Tryz.func54 rfl trivial ?_ rfl;simp only [Tryz.ntmps54,List.size_toArray,List.length_cons,List.length_nil,Nat.reduceAdd,Nat.reduceSub,Array.replicate_succ,Array.replicate_zero,List.push_toArray,List.append_toArray,List.nil_append,List.cons_append];gi_wp2_with fail;refine ⟨trivial,?_⟩;obtain ⟨hE0,b0,b1,b2,b3⟩:=Fw.four w (.cells #[.slice ap p.length cp,.slice an rs.length cn,.int .i64 (m:Int),.int .i64 P,.slice am M.length cm,.bool b] 59) (.cells #[.slice none 0 0] 55) (.cells #[.slice none 0 0] 74) (.cells #[.int .i64 0] 31);generalize hW0:((((w.alloc (.cells #[.slice ap p.length cp,.slice an rs.length cn,.int .i64 (m:Int),.int .i64 P,.slice am M.length cm,.bool b] 59)).alloc (.cells #[.slice none 0 0] 55)).alloc (.cells #[.slice none 0 0] 74)).alloc (.cells #[.int .i64 0] 31))=W0 at *;clear hW0;refine (callsIn_wide.2 (Hck.out _ _ hE0 (Hv.out.ext hE0))).mono ?_;rintro e w1 ⟨rfl,hx1⟩;have hE1:=hE0.trans hx1;obtain ⟨q0,q1,q2,q3,q4,q5⟩:=(show znn w1 w.heap.size _ _ _ _ _ _ from hx1.heap b0).cs;have HE1:=hid hE1;have Hx1:=hid hx1;have B0:=hid b0;have B1:=hid b1;have B2:=hid b2;have B3:=hid b3;clear hE1 hx1 hE0 b0 b1 b2 b3;gi_wp2_with fail;refine ⟨trivial,?_⟩;refine (callsIn_wide.2 (Hfw.out _ _ HE1.out (Hv.out.ext HE1.out))).mono ?_;rintro e w2 ⟨rfl,hx2⟩;obtain ⟨q0,q1,q2,q3,q4,q5⟩:=(show znn w2 w.heap.size _ _ _ _ _ _ from hx2.heap (Hx1.out.heap B0.out)).cs;have HE2:=hid (HE1.out.trans hx2);have Hx2:=hid (Hx1.out.trans hx2);clear hx2 HE1 Hx1;gi_wp2_with fail;refine ⟨trivial,?_⟩;refine (callsIn_wide.2 (zor _ _ _ _ _ _ _ _ w2)).mono ?_;rintro e w3 ⟨rfl,hs3,g0,g1,hx3⟩;have HE3:=hid (HE2.out.trans hx3);have Hx3:=hid (Hx2.out.trans hx3);have G0:=hid g0;have G1:=hid g1;have Hs3:=hid hs3;have Hx23:=hid hx3;clear hx3 g0 g1 hs3 q0 q1 q2 q3 q4 q5;clear q0 q1 q2 q3 q4 q5;gi_wp2_with fail;have hD:w3.heap.size=w2.heap.size+2:=Hs3.out;have hD0:w.heap.size+4≤w2.heap.size:=by
  have h3:=(Array.getElem?_eq_some_iff.1 (Hx2.out.heap B3.out)).1;omega
 have hLr:(List.map Qw.x rs).length=rs.length:=List.length_map ..;have hit:ItQ w3 w.heap.size w2.heap.size (w2.heap.size+1) (.slice ap p.length cp) (.slice an rs.length cn) rs.length m P am cm b M:=by
  refine ⟨G0.out,G1.out,fun i z hz=>?_⟩;obtain ⟨a9,c9,e9,_,_,hcc⟩:=Hmm.out.parts;obtain ⟨g,off,e,hc⟩:=hcc i (.int .i64 z) (by unfold zaq;rw [List.getElem?_map,hz];rfl);injection e9 with e9 _ _;exact ⟨g,off,e9.trans e,World.block_lt_of_cell? _ _ hc,HE3.out.cell hc⟩
 refine znw (α:=Iw) (n:=3) rfl (by omega) (gf:=174) (lb:=#[.pointer (some ⟨w2.heap.size,0,none⟩),.pointer (some ⟨w2.heap.size+1,0,none⟩)]) rfl trivial (enters_of Tryz.func174 (by kernel_rfl) rfl)
  (encs:=fun x=>#[x.u]) (Pre:=znx (fun l=>l∈cho rs.length m M rs.length [] 0)) (R:=fun r=>r<w.heap.size∨r=w2.heap.size∨r=w2.heap.size+1∨(w3.heap.size+2≤r∧r<w3.heap.size+5)) (k:=3) (N:=(cho rs.length m M rs.length [] 0).length)
  (S:=fun xs=>xs.map Iw.l=cho rs.length m M rs.length [] 0)
  (znA (3 - 1) w.heap.size w2.heap.size (w2.heap.size+1) (.slice ap p.length cp) (.slice an rs.length cn) rs.length m P am cm b M _ _ _ w3 hit (by omega) (by omega) (by omega) (by omega) (Nat.le_refl _) (fun l hl=>hl) (fun r hr=>by omega))
  (fun _=>rfl) (fun x s A C row hs hg hr=>⟨World.ownsRow.kept hs.1 hg (by
   cases hv:x.u.ownBlock with
   | none=>exact .inl rfl
   | some r=>exact .inr fun e=>by have:=(World.ownsRow.lt hs.1 r hv).1;have:=hr r e.symm;omega),hs.2⟩)
  (by omega)
  (SrI w (w3.heap.size+2+3) p (rs.map Qw.x) (.slice ap p.length cp) (.slice an rs.length cn) (.slice am M.length cm) (m:Int) P b)
  (SrI.stays w w3.heap.size p (rs.map Qw.x) _ _ _ _ P b (by omega))
  ⟨HE3.out,Hx3.out.heap B0.out,Hx3.out.heap B3.out,_,_,[],Hx3.out.heap B1.out,Hx3.out.heap B2.out,Fnd.nil _ _ _ _,rfl⟩
  ?a1 ?assign ?body ?done
 case a1=>exact fun x=>{ tmps:=#[.agg #[.slice ap p.length cp,.slice an rs.length cn,.int .i64 (m:Int),.int .i64 P,.slice am M.length cm,.bool b],.pointer (some ⟨w.heap.size,0,none⟩),.pointer (some ⟨w.heap.size+1,0,none⟩),.pointer (some ⟨w.heap.size+1+1,0,none⟩),.pointer (some ⟨w.heap.size+1+1+1,0,none⟩),
   .int .i64 0,x.u,undef,undef,undef,undef,undef,undef,.agg #[.slice ap p.length cp,.slice an rs.length cn,.int .i64 (m:Int),.int .i64 P,.slice am M.length cm,.bool b],.int .i64 0,.int .i64 0,.bool false,undef,
   .agg #[.slice ap p.length cp,.slice an rs.length cn,.int .i64 (m:Int),.int .i64 P,.slice am M.length cm,.bool b],.bool true,.bool false,.agg #[.slice ap p.length cp,.slice an rs.length cn,.int .i64 (m:Int),.int .i64 P,.slice am M.length cm,.bool b],
   .func (.func 174) #[] #[.pointer (some ⟨w2.heap.size,0,none⟩),.pointer (some ⟨w2.heap.size+1,0,none⟩)],x.u,undef,undef,undef,undef,undef,undef,undef,undef,undef,undef,undef,undef,undef,undef,undef,undef,undef,undef,undef,undef,undef,undef,undef,undef,undef,undef,undef,undef,undef,undef,undef,undef,undef,undef,undef,undef,undef,undef,undef,undef,undef,undef,undef,undef,undef,undef,undef,undef,undef,undef,undef,undef,undef,undef,undef,undef],defers:=[] }
 case assign =>
  intro l x W K hK;gi_wp2;exact hK
 case body =>
  rintro ly pre ⟨xu,xl⟩ W ⟨hE,hq,he3,us,vs,fs,h1,h2,h3,h4⟩ ⟨hox,hxV⟩ hsz hlen;obtain ⟨h60,hse,hwc⟩:=HV.out xl hxV;dsimp only at hox;have hfs:fs.length≤pre.length:=by
   have:=zmX P b p (rs.map Qw.x) (pre.map Iw.l);rwa [← h4,List.length_map,List.length_map] at this
  have e4:srL P b p (rs.map Qw.x) ((pre++[(⟨xu,xl⟩:Iw)]).map Iw.l)=srA P b p (rs.map Qw.x) (fs.map Fw.l) xl:=by
   rw [List.map_append,h4];exact zmS _ _ _ _ _ _
  obtain ⟨ax,cx,rfl⟩:=zfj hox;obtain ⟨au,cu,rfl⟩:=zfj h3.us;obtain ⟨av,cv,rfl⟩:=zfj h3.vs;obtain ⟨q0,q1,q2,q3,q4,q5⟩:=hq.cs;have hh:=Hhas.out W _ _ xl hE (Hv.out.ext hE) (zao hox) h60 hse hwc;have hn5:fs.length≤5000:=by have:=HN.out;omega
  have Hh:=hid hh;have H1:=hid h1;have H2:=hid h2;have H3:=hid h3;have E4:=hid e4;have HEr:=hid hE;have He3:=hid he3;have Hq:=hid hq;have Hox:=hid hox;have Hsz:=hid hsz;have Hn5:=hid hn5;have Hse:=hid hse;have Hwc:=hid hwc;have H60:=hid h60;have HD:=hid (show w.heap.size+4≤w2.heap.size∧w3.heap.size=w2.heap.size+2 from ⟨by omega,hD⟩);clear hh h1 h2 h3 h4 e4 hE hq he3 hox hxV hsz hlen hn5 hse hwc hfs h60 hD hD0;gi_wp2_with fail;refine ⟨trivial,?_⟩;refine (callsIn_wide.2 Hh.out).mono ?_;rintro e w4 ⟨rfl,hx4⟩;have Hx4:=hid hx4;obtain ⟨q0,q1,q2,q3,q4,q5⟩:=(Hq.out.ext hx4).cs;clear hx4;by_cases ht:tst P p (zlb p (rs.map Qw.x) xl)=true
  ·have hsb:=Hsub.out w4 _ _ xl (HEr.out.trans Hx4.out) (Hs.out.ext (HEr.out.trans Hx4.out)) (Hx4.out.sl (zao Hox.out)) H60.out;rw [Hse.out] at hsb;have hsb2:=hsb.mono fun e w' ⟨u,he,_,h2,hx⟩=>(show ∃ u out,e=Ending.returned (.tuple #[u,.int .i64 0])∧ScO w' w4.heap.size u p out∧out.map Qw.x=zlb p (rs.map Qw.x) xl∧Ext w4 w' by
    obtain ⟨out,ho,hm⟩:=h2 rfl;exact ⟨u,out,he,ho,hm,hx⟩)
   have Hsb:=hid hsb2;have Ht:=hid ht;rw [ht];clear hsb hsb2 ht;gi_wp2_with fail;refine ⟨trivial,?_⟩;refine (callsIn_wide.2 Hsb.out).mono ?_;rintro e w5 ⟨u5,out,rfl,hso,hout,hx5⟩;obtain ⟨a2,c2,a3,c3,rfl,hs2⟩:=zif hso.scV;have HX5:=hid (Hx4.out.trans hx5);have Hso:=hid hso;have Hout:=hid hout;have Hs2:=hid hs2;have hE6:=HX5.out.alloc (.cells #[.slice a2 p.length c2,.slice a3 out.length c3] 28);have b6:=zic.new 28 w5 (.slice a2 p.length c2) (.slice a3 out.length c3);obtain ⟨q0,q1,q2,q3,q4,q5⟩:=(Hq.out.ext hE6).cs;have r2:=(show Boxed _ (w.heap.size+1+1) _ _ from hE6.heap H2.out).cell;have HE6:=hid hE6;have B6:=hid b6;clear hso hout hs2 hx5 hE6 b6;gi_wp2_with fail;generalize hW6:w5.alloc (.cells #[.slice a2 p.length c2,.slice a3 out.length c3] 28)=W6 at *;have hsr:(b && (fs.map Fw.l).any fun a=>zmQ p (zlb p (rs.map Qw.x) a) (zlb p (rs.map Qw.x) xl))=(b && fs.any fun f=>zmQ p (f.rs.map Qw.x) (out.map Qw.x)):=by
    rw [zoy fun f hf=>(H3.out.all f hf).2.2.2.1,Hout.out]
   have Hsr:=hid hsr;have hW6':=hid hW6;clear hsr q0 q1 q2 q3 q4 q5 r2 hW6;gi_loopw [10,47] (fun v10 v47 wr=>∃ (k:Nat)(bo:Bool),v10=.bool bo∧v47=.int .i64 k∧k≤fs.length∧Hid (bo=(b && (fs.take k).any fun f=>zmQ p (f.rs.map Qw.x) (out.map Qw.x)))∧Ext W6 wr) (fun _ v47 _=>fs.length - (zam v47).toNat)
   case atStart=>exact ⟨0,false,rfl,rfl,Nat.zero_le _,hid (by simp),Ext.refl _⟩
   case round =>
    obtain ⟨k,bo,rfl,rfl,hk,Hbo,hEr⟩:=hrel;have hE7:=HE6.out.trans hEr;obtain ⟨q0,q1,q2,q3,q4,q5⟩:=(Hq.out.ext hE7).cs;have HE7:=hid hE7;by_cases hkl:k<fs.length
    ·obtain ⟨f,hf⟩:∃ f,fs[k]?=some f:=⟨_,List.getElem?_eq_getElem hkl⟩;have hff:=H3.out.all f (List.mem_of_getElem? hf);obtain ⟨gv,rfl⟩:∃ gv,av=some ⟨gv,0,none⟩:=by
      rcases H3.out.vs.2 with ⟨_,e⟩ | ⟨g,cap,cur,e,_⟩
      ·omega
      ·injection e with e1 _ _;exact ⟨g,e1⟩
     have hcs:=World.ownsRow.cells (H3.out.ext hE7).vs (g:=gv) rfl;have f0:=hcs (k * 2) _ (zox hf).1;have f1:=hcs (k * 2+1) _ (zox hf).2;rw [Addr.add_lit] at f0 f1;rw [Nat.zero_add] at f0 f1;obtain ⟨a8,c8,e8⟩:=zfj hff.2.1;obtain ⟨a9,c9,e9⟩:=zfj hff.2.2.1.1;rw [e8] at f0;rw [e9] at f1;have hk0:(0:Int)≤(k:Int):=(by omega);have hk1:(k:Int)<(fs.length:Int):=(by omega);have hk1':k+1≤fs.length:=(by omega);have hk5:(k:Int)≤5000:=(by have:=Hn5.out;omega);have Hf:=hid hf;have Hff:=hid hff;have E8:=hid e8;have E9:=hid e9;have HEw:=hid hEr;clear hf hff hcs e8 e9 hEr hE7
     cases b with
     | false =>
      have hE8:=HEw.out.alloc (.cells #[.slice a8 p.length c8,.slice a9 f.rs.length c9] 28)
      have hE9:=HE6.out.trans hE8
      have q5':=(Hq.out.ext hE9).cs.2.2.2.2.2
      have s0:=(B6.out.ext hE8).c0
      have s1:=(B6.out.ext hE8).c1
      obtain rfl:bo=false:=by rw [Hbo.out,Bool.false_and]
      have hm1:=(show Boxed _ (w.heap.size+1) _ _ from hE9.heap H1.out)
      have hm2:=(show Boxed _ (w.heap.size+1+1) _ _ from hE9.heap H2.out)
      have x1:=hm1.cell
      have x2:=hm2.cell
      have HE9:=hid hE9
      clear hE8 hE9 hm1 hm2 q0 q1 q2 q3 q4 q5
      gi_wp2_with fail
      generalize hWX:wr.alloc (.cells #[.slice a8 p.length c8,.slice a9 f.rs.length c9] 28)=WX at *
      have hxW:Ext W6 WX:=by rw [← hWX];exact HEw.out.alloc _
      have Hadd:=hid (show srA P false p (rs.map Qw.x) (fs.map Fw.l) xl=fs.map Fw.l++[xl] by unfold srA;rw [Ht.out,Bool.false_and];rfl)
      clear hWX
      have hF2:Fn2 WX (w3.heap.size+2+3) p (rs.map Qw.x) (.slice au fs.length cu) (.slice (some ⟨gv,0,none⟩) fs.length cv) fs.length fs.length (fwU fs) (fwS fs) (fs++[⟨.slice ax xl.length cx,xl,.slice a2 p.length c2,.slice a3 out.length c3,out⟩]):=by
       have hx59:Ext w5 WX:=(show Ext w5 W6 from by rw [← hW6'.out];exact (Ext.refl w5).alloc _).trans hxW;obtain ⟨vp9,vn9,e9,o9,n9⟩:=Hso.out;injection e9 with e9;injection e9 with e9;injection e9 with e91 e92;injection e92 with e92 _;subst e91 e92;have hB9:w3.heap.size+2+3≤w4.heap.size:=Nat.le_trans Hsz.out Hx4.out.size;exact (H3.out.ext HE9.out).two ⟨HE9.out.ownI Hox.out,hx59.ownI (zan o9 hB9),hx59.qwM (n9.mono hB9 hB9),Hout.out,zoz Hwd.out (by rw [hL];exact Hse.out) H60.out⟩
      have HF2:=hid hF2
      have hUr:=hid (fun r (e:(Value.slice au fs.length cu).ownBlock=some r)=>World.ownsRow.lt H3.out.us r e)
      have hVr:=hid (fun r (e:(Value.slice (some ⟨gv,0,none⟩) fs.length cv).ownBlock=some r)=>World.ownsRow.lt H3.out.vs r e)
      have hW5:=hid HX5.out.size
      have hBW:=hid (show w3.heap.size+2+3≤WX.heap.size from Nat.le_trans Hsz.out HE9.out.size)
      clear hF2 hxW
      refine zpa 8 (fun w'=>w'.cell? ⟨w.heap.size+1,0,none⟩=some (.slice au fs.length cu)∧w'.cell? ⟨w.heap.size+1+1,0,none⟩=some (.slice (some ⟨gv,0,none⟩) fs.length cv)∧w'.cell? ⟨w5.heap.size,0,none⟩=some (.slice a2 p.length c2)∧w'.cell? ⟨w5.heap.size,1,none⟩=some (.slice a3 out.length c3)) (by kernel_rfl) (by kernel_rfl) ?hLa ⟨(Ext.refl WX).drew.cell x1,(Ext.refl WX).drew.cell x2,(Ext.refl WX).drew.cell s0,(Ext.refl WX).drew.cell s1⟩ (fun hHeld=>?hRa)
      case hLa=>(rintro ⟨a,w,h⟩;cases h.1)
      case hRa =>
      refine zfS (i:=0) (v:=?va0) rfl (by kernel_rfl) (by kernel_rfl) (by kernel_rfl) (by kernel_rfl) (fun _ _ _ h=>h) (Or.inl ⟨by rfl,?ya0⟩) hHeld ?ra0
      case ya0=>(intro w hSw;(try dsimp only at hSw);go_simp;try with_reducible rfl)
      case ra0 =>
      refine zfS (i:=1) (v:=?va1) rfl (by kernel_rfl) (by kernel_rfl) (by kernel_rfl) (by kernel_rfl) (fun _ _ _ h=>h) (Or.inl ⟨by rfl,?ya1⟩) hHeld ?ra1
      case ya1=>(intro w hSw;(try dsimp only at hSw);go_simp;try with_reducible rfl)
      case ra1 =>
      refine zfS (i:=4) (v:=?va4) rfl (by kernel_rfl) (by kernel_rfl) (by kernel_rfl) (by kernel_rfl) (fun _ _ _ h=>h) (Or.inl ⟨by rfl,?ya4⟩) hHeld ?ra4
      case ya4=>(intro w hSw;(try dsimp only at hSw);go_simp;try with_reducible rfl)
      case ra4 =>
      refine zfS (i:=5) (v:=?va5) rfl (by kernel_rfl) (by kernel_rfl) (by kernel_rfl) (by kernel_rfl) (fun _ _ _ h=>h) (Or.inl ⟨by rfl,?ya5⟩) hHeld ?ra5
      case ya5=>(intro w hSw;(try dsimp only at hSw);go_simp;try with_reducible rfl)
      case ra5 =>
      refine zpb (i:=2) (j:=6) (by kernel_rfl) rfl rfl (fun K hK=>?_) (fun K hK=>?_)
      ·skip
       go_simp
       refine hK.out _ _ (by obtain ⟨t1,t2,t3,t4⟩:=hHeld;exact ⟨((Ext.refl _).alloc _).cell t1,((Ext.refl _).alloc _).cell t2,((Ext.refl _).alloc _).cell t3,((Ext.refl _).alloc _).cell t4⟩) (fun hHeld=>?_)
       clear hK K
       refine zpb (i:=3) (j:=6) (by kernel_rfl) rfl rfl (fun K hK=>?_) (fun K hK=>?_)
       ·skip
        refine zoD _ rfl (.tmp 70) (.tmp 72) 55 rfl (w3.heap.size+2+3) 24 i0 (.slice none 0 0) 1 24 Tryz.underlying55 hi hz0 hz1 hz2 rfl (by decide) (.slice au fs.length cu) fs.length (fwU fs) (by rfl) ((((Ext.refl WX).alloc (.cells #[.slice ax xl.length cx] 24)).drew).own HF2.out.us) (some ⟨WX.heap.size,0,none⟩) 1 1 [.slice ax xl.length cx] (by rfl) (fun e=>by cases e) rfl (fun ad e=>by cases e;exact cell_one_new WX.drew _ _) (by simp [Value.oneCell']) (by have:=Hn5.out;unfold maxLen;omega) (by have:=Hn5.out;omega) (Nat.le_trans hBW.out (((Ext.refl WX).alloc (.cells #[.slice ax xl.length cx] 24)).drew).size) ?_
        intro us' wB hoU hgU
        have hF3:=(HF2.out.ext (((Ext.refl WX).alloc (.cells #[.slice ax xl.length cx] 24)).drew)).putU hgU hoU
        have hSB:=zpj hgU hHeld (fun r e=>hUr.out r e) (by have:=HD.out;omega) (by have:=HD.out;omega) hW5.out
        have HF3:=hid hF3
        have hBB:=hid (Nat.le_trans (Nat.le_trans hBW.out (((Ext.refl WX).alloc (.cells #[.slice ax xl.length cx] 24)).drew).size) hgU.size)
        refine hK.out _ _ hSB (fun hHeld=>?_)
        clear hK K hSB hF3
        refine zfT (i:=6) (by kernel_rfl) rfl (fun K hK=>?_)
        go_simp
        refine hK.out _ _ (by obtain ⟨t1,t2,t3,t4⟩:=hHeld;exact ⟨((Ext.refl _).alloc _).cell t1,((Ext.refl _).alloc _).cell t2,((Ext.refl _).alloc _).cell t3,((Ext.refl _).alloc _).cell t4⟩) (fun hHeld=>?_)
        clear hK K
        refine zfT (i:=7) (by kernel_rfl) rfl (fun K hK=>?_)
        refine zoD _ rfl (.tmp 74) (.tmp 76) 74 rfl (w3.heap.size+2+3) 28 j0 (.agg #[.slice none 0 0,.slice none 0 0]) 2 48 Tryz.underlying74 hj hy0 hy1 hy2 rfl (by decide) (.slice (some ⟨gv,0,none⟩) fs.length cv) fs.length (fwS fs) (by rfl) (HF3.out.vs.alloc _) (some ⟨wB.heap.size,0,none⟩) 1 1 [.slice a2 p.length c2,.slice a3 out.length c3] (by rfl) (fun e=>by cases e) rfl (fun ad e=>by cases e;exact cell_two_new wB _ _ _) (by simp [Value.oneCell']) (by have:=Hn5.out;unfold maxLen;omega) (by have:=Hn5.out;omega) (Nat.le_trans hBB.out ((Ext.refl wB).alloc (.cells #[.slice a2 p.length c2,.slice a3 out.length c3] 28)).size) ?_
        intro vs' wC hoV hgV
        have hF4:=(HF3.out.ext ((Ext.refl wB).alloc (.cells #[.slice a2 p.length c2,.slice a3 out.length c3] 28))).putV hgV hoV
        have hSC:=zpj hgV hHeld (fun r e=>hVr.out r e) (by have:=HD.out;omega) (by have:=HD.out;omega) hW5.out
        have HF4:=hid (Fn2.done (f:=⟨.slice ax xl.length cx,xl,.slice a2 p.length c2,.slice a3 out.length c3,out⟩) (fs:=fs) hF4)
        refine hK.out _ _ hSC (fun hHeld=>?_)
        clear hK K hSC hF4
        have hT:=zoW HEr.out (HE9.out.trans (((Ext.refl WX).alloc (.cells #[.slice ax xl.length cx] 24)).drew)) hgU ((Ext.refl wB).alloc (.cells #[.slice a2 p.length c2,.slice a3 out.length c3] 28)) hgV (fun r e=>(hUr.out r e).1) (fun r e=>(hVr.out r e).1) (by have:=HD.out;omega)
        have HT:=hid hT
        clear hT
        have m1:=(show Boxed wC (w.heap.size+1) _ _ from HT.out.2.2 _ _ (by have:=HD.out;omega) H1.out)
        have m2:=(show Boxed wC (w.heap.size+1+1) _ _ from HT.out.2.2 _ _ (by have:=HD.out;omega) H2.out)
        have u1:=HF4.out.us
        have u2:=HF4.out.vs
        rw [List.length_append,List.length_singleton] at u1 u2
        obtain ⟨a6,c6,rfl⟩:=zfj u1
        obtain ⟨a7,c7,rfl⟩:=zfj u2
        clear u1 u2
        have y1:=m1.cell;have z1:=m1.frozen
        refine zfU (i:=8) (by kernel_rfl) (by decide) rfl (fun K hK=>?_)
        go_simp
        refine hK.out _ _ ?_
        clear hK K y1 z1
        have m3:=(show Boxed _ (w.heap.size+1+1) _ _ from (Below.heap_setCell wC ⟨w.heap.size+1,0,none⟩ (.slice a6 (fs.length+1) c6) _ (by dsimp only;omega)).trans m2)
        have y2:=m3.cell;have z2:=m3.frozen
        refine zfU (i:=9) (by kernel_rfl) (by decide) rfl (fun K hK=>?_)
        go_simp
        refine hK.out _ _ ?_
        clear hK K y2 z2 m1 m2 m3
        refine zfV (by kernel_rfl) ?_
        refine NoPanic.normal ?_
        gi_wp2_with fail
        exact zoX HD.out.1 HD.out.2 HT.out.1 HT.out.2.1 HT.out.2.2 Hq.out He3.out H1.out H2.out HF4.out (by rw [E4.out,Hadd.out,List.map_append];rfl)
       ·skip
        go_simp
        refine hK.out _ _ (by obtain ⟨t1,t2,t3,t4⟩:=hHeld;exact ⟨((Ext.refl _).alloc _).cell t1,((Ext.refl _).alloc _).cell t2,((Ext.refl _).alloc _).cell t3,((Ext.refl _).alloc _).cell t4⟩) (fun hHeld=>?_)
        clear hK K
        refine zfT (i:=3) (by kernel_rfl) rfl (fun K hK=>?_)
        refine zoD _ rfl (.tmp 70) (.tmp 72) 55 rfl (w3.heap.size+2+3) 24 i0 (.slice none 0 0) 1 24 Tryz.underlying55 hi hz0 hz1 hz2 rfl (by decide) (.slice au fs.length cu) fs.length (fwU fs) (by rfl) (((((Ext.refl WX).alloc (.cells #[.slice ax xl.length cx] 24)).alloc (.cells #[.slice a2 p.length c2,.slice a3 out.length c3] 28)).drew).own HF2.out.us) (some ⟨WX.heap.size,0,none⟩) 1 1 [.slice ax xl.length cx] (by rfl) (fun e=>by cases e) rfl (fun ad e=>by cases e;exact zoS WX _ _ _) (by simp [Value.oneCell']) (by have:=Hn5.out;unfold maxLen;omega) (by have:=Hn5.out;omega) (Nat.le_trans hBW.out ((((Ext.refl WX).alloc (.cells #[.slice ax xl.length cx] 24)).alloc (.cells #[.slice a2 p.length c2,.slice a3 out.length c3] 28)).drew).size) ?_
        intro us' wB hoU hgU
        have hF3:=(HF2.out.ext ((((Ext.refl WX).alloc (.cells #[.slice ax xl.length cx] 24)).alloc (.cells #[.slice a2 p.length c2,.slice a3 out.length c3] 28)).drew)).putU hgU hoU
        have hSB:=zpj hgU hHeld (fun r e=>hUr.out r e) (by have:=HD.out;omega) (by have:=HD.out;omega) hW5.out
        have HF3:=hid hF3
        have hBB:=hid (Nat.le_trans (Nat.le_trans hBW.out ((((Ext.refl WX).alloc (.cells #[.slice ax xl.length cx] 24)).alloc (.cells #[.slice a2 p.length c2,.slice a3 out.length c3] 28)).drew).size) hgU.size)
        refine hK.out _ _ hSB (fun hHeld=>?_)
        clear hK K hSB hF3
        refine zfT (i:=7) (by kernel_rfl) rfl (fun K hK=>?_)
        refine zoD _ rfl (.tmp 74) (.tmp 76) 74 rfl (w3.heap.size+2+3) 28 j0 (.agg #[.slice none 0 0,.slice none 0 0]) 2 48 Tryz.underlying74 hj hy0 hy1 hy2 rfl (by decide) (.slice (some ⟨gv,0,none⟩) fs.length cv) fs.length (fwS fs) (by rfl) HF3.out.vs (some ⟨WX.heap.size+1,0,none⟩) 1 1 [.slice a2 p.length c2,.slice a3 out.length c3] (by rfl) (fun e=>by cases e) rfl (fun ad e=>by cases e;exact zoR hgU (zoV WX _ _ _ _) (fun r e=>by have:=hUr.out r e;have:=HE9.out.size;omega)) (by simp [Value.oneCell']) (by have:=Hn5.out;unfold maxLen;omega) (by have:=Hn5.out;omega) (Nat.le_trans hBB.out (Ext.refl wB).size) ?_
        intro vs' wC hoV hgV
        have hF4:=(HF3.out.ext (Ext.refl wB)).putV hgV hoV
        have hSC:=zpj hgV hHeld (fun r e=>hVr.out r e) (by have:=HD.out;omega) (by have:=HD.out;omega) hW5.out
        have HF4:=hid (Fn2.done (f:=⟨.slice ax xl.length cx,xl,.slice a2 p.length c2,.slice a3 out.length c3,out⟩) (fs:=fs) hF4)
        refine hK.out _ _ hSC (fun hHeld=>?_)
        clear hK K hSC hF4
        have hT:=zoW HEr.out (HE9.out.trans ((((Ext.refl WX).alloc (.cells #[.slice ax xl.length cx] 24)).alloc (.cells #[.slice a2 p.length c2,.slice a3 out.length c3] 28)).drew)) hgU (Ext.refl wB) hgV (fun r e=>(hUr.out r e).1) (fun r e=>(hVr.out r e).1) (by have:=HD.out;omega)
        have HT:=hid hT
        clear hT
        have m1:=(show Boxed wC (w.heap.size+1) _ _ from HT.out.2.2 _ _ (by have:=HD.out;omega) H1.out)
        have m2:=(show Boxed wC (w.heap.size+1+1) _ _ from HT.out.2.2 _ _ (by have:=HD.out;omega) H2.out)
        have u1:=HF4.out.us
        have u2:=HF4.out.vs
        rw [List.length_append,List.length_singleton] at u1 u2
        obtain ⟨a6,c6,rfl⟩:=zfj u1
        obtain ⟨a7,c7,rfl⟩:=zfj u2
        clear u1 u2
        have y1:=m1.cell;have z1:=m1.frozen
        refine zfU (i:=8) (by kernel_rfl) (by decide) rfl (fun K hK=>?_)
        go_simp
        refine hK.out _ _ ?_
        clear hK K y1 z1
        have m3:=(show Boxed _ (w.heap.size+1+1) _ _ from (Below.heap_setCell wC ⟨w.heap.size+1,0,none⟩ (.slice a6 (fs.length+1) c6) _ (by dsimp only;omega)).trans m2)
        have y2:=m3.cell;have z2:=m3.frozen
        refine zfU (i:=9) (by kernel_rfl) (by decide) rfl (fun K hK=>?_)
        go_simp
        refine hK.out _ _ ?_
        clear hK K y2 z2 m1 m2 m3
        refine zfV (by kernel_rfl) ?_
        refine NoPanic.normal ?_
        gi_wp2_with fail
        exact zoX HD.out.1 HD.out.2 HT.out.1 HT.out.2.1 HT.out.2.2 Hq.out He3.out H1.out H2.out HF4.out (by rw [E4.out,Hadd.out,List.map_append];rfl)
      ·skip
       go_simp
       refine hK.out _ _ (by obtain ⟨t1,t2,t3,t4⟩:=hHeld;exact ⟨((Ext.refl _).alloc _).cell t1,((Ext.refl _).alloc _).cell t2,((Ext.refl _).alloc _).cell t3,((Ext.refl _).alloc _).cell t4⟩) (fun hHeld=>?_)
       clear hK K
       refine zfT (i:=2) (by kernel_rfl) rfl (fun K hK=>?_)
       go_simp
       refine hK.out _ _ (by obtain ⟨t1,t2,t3,t4⟩:=hHeld;exact ⟨((Ext.refl _).alloc _).cell t1,((Ext.refl _).alloc _).cell t2,((Ext.refl _).alloc _).cell t3,((Ext.refl _).alloc _).cell t4⟩) (fun hHeld=>?_)
       clear hK K
       refine zfT (i:=3) (by kernel_rfl) rfl (fun K hK=>?_)
       refine zoD _ rfl (.tmp 70) (.tmp 72) 55 rfl (w3.heap.size+2+3) 24 i0 (.slice none 0 0) 1 24 Tryz.underlying55 hi hz0 hz1 hz2 rfl (by decide) (.slice au fs.length cu) fs.length (fwU fs) (by rfl) (((((Ext.refl WX).alloc (.cells #[.slice a2 p.length c2,.slice a3 out.length c3] 28)).alloc (.cells #[.slice ax xl.length cx] 24)).drew).own HF2.out.us) (some ⟨WX.heap.size+1,0,none⟩) 1 1 [.slice ax xl.length cx] (by rfl) (fun e=>by cases e) rfl (fun ad e=>by cases e;exact zoU WX _ _ _) (by simp [Value.oneCell']) (by have:=Hn5.out;unfold maxLen;omega) (by have:=Hn5.out;omega) (Nat.le_trans hBW.out ((((Ext.refl WX).alloc (.cells #[.slice a2 p.length c2,.slice a3 out.length c3] 28)).alloc (.cells #[.slice ax xl.length cx] 24)).drew).size) ?_
       intro us' wB hoU hgU
       have hF3:=(HF2.out.ext ((((Ext.refl WX).alloc (.cells #[.slice a2 p.length c2,.slice a3 out.length c3] 28)).alloc (.cells #[.slice ax xl.length cx] 24)).drew)).putU hgU hoU
       have hSB:=zpj hgU hHeld (fun r e=>hUr.out r e) (by have:=HD.out;omega) (by have:=HD.out;omega) hW5.out
       have HF3:=hid hF3
       have hBB:=hid (Nat.le_trans (Nat.le_trans hBW.out ((((Ext.refl WX).alloc (.cells #[.slice a2 p.length c2,.slice a3 out.length c3] 28)).alloc (.cells #[.slice ax xl.length cx] 24)).drew).size) hgU.size)
       refine hK.out _ _ hSB (fun hHeld=>?_)
       clear hK K hSB hF3
       refine zfT (i:=7) (by kernel_rfl) rfl (fun K hK=>?_)
       refine zoD _ rfl (.tmp 74) (.tmp 76) 74 rfl (w3.heap.size+2+3) 28 j0 (.agg #[.slice none 0 0,.slice none 0 0]) 2 48 Tryz.underlying74 hj hy0 hy1 hy2 rfl (by decide) (.slice (some ⟨gv,0,none⟩) fs.length cv) fs.length (fwS fs) (by rfl) HF3.out.vs (some ⟨WX.heap.size,0,none⟩) 1 1 [.slice a2 p.length c2,.slice a3 out.length c3] (by rfl) (fun e=>by cases e) rfl (fun ad e=>by cases e;exact zoR hgU (zoT WX _ _ _ _) (fun r e=>by have:=hUr.out r e;have:=HE9.out.size;omega)) (by simp [Value.oneCell']) (by have:=Hn5.out;unfold maxLen;omega) (by have:=Hn5.out;omega) (Nat.le_trans hBB.out (Ext.refl wB).size) ?_
       intro vs' wC hoV hgV
       have hF4:=(HF3.out.ext (Ext.refl wB)).putV hgV hoV
       have hSC:=zpj hgV hHeld (fun r e=>hVr.out r e) (by have:=HD.out;omega) (by have:=HD.out;omega) hW5.out
       have HF4:=hid (Fn2.done (f:=⟨.slice ax xl.length cx,xl,.slice a2 p.length c2,.slice a3 out.length c3,out⟩) (fs:=fs) hF4)
       refine hK.out _ _ hSC (fun hHeld=>?_)
       clear hK K hSC hF4
       have hT:=zoW HEr.out (HE9.out.trans ((((Ext.refl WX).alloc (.cells #[.slice a2 p.length c2,.slice a3 out.length c3] 28)).alloc (.cells #[.slice ax xl.length cx] 24)).drew)) hgU (Ext.refl wB) hgV (fun r e=>(hUr.out r e).1) (fun r e=>(hVr.out r e).1) (by have:=HD.out;omega)
       have HT:=hid hT
       clear hT
       have m1:=(show Boxed wC (w.heap.size+1) _ _ from HT.out.2.2 _ _ (by have:=HD.out;omega) H1.out)
       have m2:=(show Boxed wC (w.heap.size+1+1) _ _ from HT.out.2.2 _ _ (by have:=HD.out;omega) H2.out)
       have u1:=HF4.out.us
       have u2:=HF4.out.vs
       rw [List.length_append,List.length_singleton] at u1 u2
       obtain ⟨a6,c6,rfl⟩:=zfj u1
       obtain ⟨a7,c7,rfl⟩:=zfj u2
       clear u1 u2
       have y1:=m1.cell;have z1:=m1.frozen
       refine zfU (i:=8) (by kernel_rfl) (by decide) rfl (fun K hK=>?_)
       go_simp
       refine hK.out _ _ ?_
       clear hK K y1 z1
       have m3:=(show Boxed _ (w.heap.size+1+1) _ _ from (Below.heap_setCell wC ⟨w.heap.size+1,0,none⟩ (.slice a6 (fs.length+1) c6) _ (by dsimp only;omega)).trans m2)
       have y2:=m3.cell;have z2:=m3.frozen
       refine zfU (i:=9) (by kernel_rfl) (by decide) rfl (fun K hK=>?_)
       go_simp
       refine hK.out _ _ ?_
       clear hK K y2 z2 m1 m2 m3
       refine zfV (by kernel_rfl) ?_
       refine NoPanic.normal ?_
       gi_wp2_with fail
       exact zoX HD.out.1 HD.out.2 HT.out.1 HT.out.2.1 HT.out.2.2 Hq.out He3.out H1.out H2.out HF4.out (by rw [E4.out,Hadd.out,List.map_append];rfl)
     | true =>
      have hE8:=HEw.out.alloc (.cells #[.slice a8 p.length c8,.slice a9 f.rs.length c9] 28)
      have hE9:=HE6.out.trans hE8
      have q5':=(Hq.out.ext hE9).cs.2.2.2.2.2
      have s0:=(B6.out.ext hE8).c0
      have s1:=(B6.out.ext hE8).c1
      have n0:=(zic.new 28 wr (.slice a8 p.length c8) (.slice a9 f.rs.length c9)).c0
      have n1:=(zic.new 28 wr (.slice a8 p.length c8) (.slice a9 f.rs.length c9)).c1
      have HE8:=hid hE8;have HE9:=hid hE9
      clear hE8 hE9 q0 q1 q2 q3 q4 q5
      cases bo with
      | true =>
       have hany:(fs.any fun f=>zmQ p (f.rs.map Qw.x) (out.map Qw.x))=true:=by
        have h1:=Hbo.out.symm;rw [Bool.true_and,List.any_eq_true] at h1;obtain ⟨g,hg,e⟩:=h1;exact List.any_eq_true.2 ⟨g,List.mem_of_mem_take hg,e⟩
       have hno:srA P true p (rs.map Qw.x) (fs.map Fw.l) xl=fs.map Fw.l:=by
        unfold srA;rw [Hsr.out,hany];simp
       have Hno:=hid hno
       clear hany hno
       gi_wp2_with fail
       exact ⟨znt.ext HE9.out,HEr.out.trans HE9.out,Hq.out.ext HE9.out,HE9.out.heap He3.out,_,_,fs,HE9.out.heap H1.out,HE9.out.heap H2.out,H3.out.ext HE9.out,by rw [E4.out,Hno.out]⟩
      | false =>
       have hE10:Ext W (wr.alloc (.cells #[.slice a8 p.length c8,.slice a9 f.rs.length c9] 28)):=HE9.out
       have hsf:ScV (wr.alloc (.cells #[.slice a8 p.length c8,.slice a9 f.rs.length c9] 28)) (.agg #[.slice a8 p.length c8,.slice a9 f.rs.length c9]) p f.rs:=by
        have hf2:=(H3.out.ext HE9.out).all f (List.mem_of_getElem? Hf.out);rw [E8.out,E9.out] at hf2;exact ⟨_,_,rfl,zao hf2.2.1,hf2.2.2.1.rd⟩
       have hsn:ScV (wr.alloc (.cells #[.slice a8 p.length c8,.slice a9 f.rs.length c9] 28)) (.agg #[.slice a2 p.length c2,.slice a3 out.length c3]) p out:=Hs2.out.ext ((show Ext w5 W6 from by rw [← hW6'.out];exact (Ext.refl w5).alloc _).trans HE8.out)
       have hwf:Wd p (f.rs.map Qw.x):=by rw [Hff.out.2.2.2.1];exact Hff.out.2.2.2.2
       have hwn:Wd p (out.map Qw.x):=by rw [Hout.out];exact zoz Hwd.out (by rw [hL];exact Hse.out) H60.out
       have hro:=Hrot.out _ _ _ f.rs out (HEr.out.trans hE10) hsf hsn hwf hwn
       have Hro:=hid hro
       clear hE10 hsf hsn hwf hwn hro
       gi_wp2_with fail
       refine ⟨trivial,?_⟩
       refine (callsIn_wide.2 Hro.out).mono ?_
       rintro e w7 ⟨z7,b7,rfl,hrt,hx7⟩
       have hb7:=zpi hrt
       have hbo:b7=(true && (fs.take (k+1)).any fun f=>zmQ p (f.rs.map Qw.x) (out.map Qw.x)):=by
        obtain ⟨hl2,e2⟩:=List.getElem?_eq_some_iff.1 Hf.out;have h0:=Hbo.out;rw [Bool.true_and] at h0 ⊢;rw [List.take_succ_eq_append_getElem hl2,List.any_append,← h0,Bool.false_or,e2,hb7];simp
       have Hb7:=hid hbo;have HE11:=hid (HE8.out.trans hx7)
       clear hrt hb7 hbo hx7 n0 n1 s0 s1 q5'
       gi_wp2_with fail
       go_roundw
       case rel=>exact ⟨k+1,b7,rfl,by go_num,hk1',Hb7,HE11.out⟩
       case measure=>simp [zam];omega
    ·have hkk:k=fs.length:=(by omega);subst hkk;have hkn:¬ ((fs.length:Nat):Int)<(fs.length:Int):=(by omega);rw [List.take_length] at Hbo;have Hbo2:=hid (Hbo.out.trans Hsr.out.symm);have HEw:=hid hEr;clear hEr
     cases bo with
     | true =>
      have hno:srA P b p (rs.map Qw.x) (fs.map Fw.l) xl=fs.map Fw.l:=by
       unfold srA;rw [← Hbo2.out];simp
      have Hno:=hid hno
      clear hno q0 q1 q2 q3 q4 q5 hE7
      gi_wp2_with fail
      exact ⟨znt.ext HE7.out,HEr.out.trans HE7.out,Hq.out.ext HE7.out,HE7.out.heap He3.out,_,_,fs,HE7.out.heap H1.out,HE7.out.heap H2.out,H3.out.ext HE7.out,by rw [E4.out,Hno.out]⟩
     | false =>
      have Hadd:=hid (show srA P b p (rs.map Qw.x) (fs.map Fw.l) xl=fs.map Fw.l++[xl] by unfold srA;rw [← Hbo2.out,Ht.out];rfl)
      have s0:=(B6.out.ext HEw.out).c0
      have s1:=(B6.out.ext HEw.out).c1
      have x1:=(show Boxed _ (w.heap.size+1) _ _ from HE7.out.heap H1.out).cell
      have x2:=(show Boxed _ (w.heap.size+1+1) _ _ from HE7.out.heap H2.out).cell
      clear q0 q1 q2 q3 q4 q5 hE7
      gi_wp2_with fail
      have hxW:Ext W6 wr:=HEw.out
      have hF2:Fn2 wr (w3.heap.size+2+3) p (rs.map Qw.x) (.slice au fs.length cu) (.slice av fs.length cv) fs.length fs.length (fwU fs) (fwS fs) (fs++[⟨.slice ax xl.length cx,xl,.slice a2 p.length c2,.slice a3 out.length c3,out⟩]):=by
       have hx59:Ext w5 wr:=(show Ext w5 W6 from by rw [← hW6'.out];exact (Ext.refl w5).alloc _).trans hxW;obtain ⟨vp9,vn9,e9,o9,n9⟩:=Hso.out;injection e9 with e9;injection e9 with e9;injection e9 with e91 e92;injection e92 with e92 _;subst e91 e92;have hB9:w3.heap.size+2+3≤w4.heap.size:=Nat.le_trans Hsz.out Hx4.out.size;exact (H3.out.ext HE7.out).two ⟨HE7.out.ownI Hox.out,hx59.ownI (zan o9 hB9),hx59.qwM (n9.mono hB9 hB9),Hout.out,zoz Hwd.out (by rw [hL];exact Hse.out) H60.out⟩
      have HF2:=hid hF2
      have hUr:=hid (fun r (e:(Value.slice au fs.length cu).ownBlock=some r)=>World.ownsRow.lt H3.out.us r e)
      have hVr:=hid (fun r (e:(Value.slice av fs.length cv).ownBlock=some r)=>World.ownsRow.lt H3.out.vs r e)
      have hW5:=hid HX5.out.size
      have hBW:=hid (show w3.heap.size+2+3≤wr.heap.size from Nat.le_trans Hsz.out HE7.out.size)
      clear hF2 hxW
      refine zpa 8 (fun w'=>w'.cell? ⟨w.heap.size+1,0,none⟩=some (.slice au fs.length cu)∧w'.cell? ⟨w.heap.size+1+1,0,none⟩=some (.slice av fs.length cv)∧w'.cell? ⟨w5.heap.size,0,none⟩=some (.slice a2 p.length c2)∧w'.cell? ⟨w5.heap.size,1,none⟩=some (.slice a3 out.length c3)) (by kernel_rfl) (by kernel_rfl) ?hLb ⟨(Ext.refl wr).drew.cell x1,(Ext.refl wr).drew.cell x2,(Ext.refl wr).drew.cell s0,(Ext.refl wr).drew.cell s1⟩ (fun hHeld=>?hRb)
      case hLb=>(rintro ⟨a,w,h⟩;cases h.1)
      case hRb =>
      refine zfS (i:=0) (v:=?vb0) rfl (by kernel_rfl) (by kernel_rfl) (by kernel_rfl) (by kernel_rfl) (fun _ _ _ h=>h) (Or.inl ⟨by rfl,?yb0⟩) hHeld ?rb0
      case yb0=>(intro w hSw;(try dsimp only at hSw);go_simp;try with_reducible rfl)
      case rb0 =>
      refine zfS (i:=1) (v:=?vb1) rfl (by kernel_rfl) (by kernel_rfl) (by kernel_rfl) (by kernel_rfl) (fun _ _ _ h=>h) (Or.inl ⟨by rfl,?yb1⟩) hHeld ?rb1
      case yb1=>(intro w hSw;(try dsimp only at hSw);go_simp;try with_reducible rfl)
      case rb1 =>
      refine zfS (i:=4) (v:=?vb4) rfl (by kernel_rfl) (by kernel_rfl) (by kernel_rfl) (by kernel_rfl) (fun _ _ _ h=>h) (Or.inl ⟨by rfl,?yb4⟩) hHeld ?rb4
      case yb4=>(intro w hSw;(try dsimp only at hSw);go_simp;try with_reducible rfl)
      case rb4 =>
      refine zfS (i:=5) (v:=?vb5) rfl (by kernel_rfl) (by kernel_rfl) (by kernel_rfl) (by kernel_rfl) (fun _ _ _ h=>h) (Or.inl ⟨by rfl,?yb5⟩) hHeld ?rb5
      case yb5=>(intro w hSw;(try dsimp only at hSw);go_simp;try with_reducible rfl)
      case rb5 =>
      refine zpb (i:=2) (j:=6) (by kernel_rfl) rfl rfl (fun K hK=>?_) (fun K hK=>?_)
      ·skip
       go_simp
       refine hK.out _ _ (by obtain ⟨t1,t2,t3,t4⟩:=hHeld;exact ⟨((Ext.refl _).alloc _).cell t1,((Ext.refl _).alloc _).cell t2,((Ext.refl _).alloc _).cell t3,((Ext.refl _).alloc _).cell t4⟩) (fun hHeld=>?_)
       clear hK K
       refine zpb (i:=3) (j:=6) (by kernel_rfl) rfl rfl (fun K hK=>?_) (fun K hK=>?_)
       ·skip
        refine zoD _ rfl (.tmp 70) (.tmp 72) 55 rfl (w3.heap.size+2+3) 24 i0 (.slice none 0 0) 1 24 Tryz.underlying55 hi hz0 hz1 hz2 rfl (by decide) (.slice au fs.length cu) fs.length (fwU fs) (by rfl) ((((Ext.refl wr).alloc (.cells #[.slice ax xl.length cx] 24)).drew).own HF2.out.us) (some ⟨wr.heap.size,0,none⟩) 1 1 [.slice ax xl.length cx] (by rfl) (fun e=>by cases e) rfl (fun ad e=>by cases e;exact cell_one_new wr.drew _ _) (by simp [Value.oneCell']) (by have:=Hn5.out;unfold maxLen;omega) (by have:=Hn5.out;omega) (Nat.le_trans hBW.out (((Ext.refl wr).alloc (.cells #[.slice ax xl.length cx] 24)).drew).size) ?_
        intro us' wB hoU hgU
        have hF3:=(HF2.out.ext (((Ext.refl wr).alloc (.cells #[.slice ax xl.length cx] 24)).drew)).putU hgU hoU
        have hSB:=zpj hgU hHeld (fun r e=>hUr.out r e) (by have:=HD.out;omega) (by have:=HD.out;omega) hW5.out
        have HF3:=hid hF3
        have hBB:=hid (Nat.le_trans (Nat.le_trans hBW.out (((Ext.refl wr).alloc (.cells #[.slice ax xl.length cx] 24)).drew).size) hgU.size)
        refine hK.out _ _ hSB (fun hHeld=>?_)
        clear hK K hSB hF3
        refine zfT (i:=6) (by kernel_rfl) rfl (fun K hK=>?_)
        go_simp
        refine hK.out _ _ (by obtain ⟨t1,t2,t3,t4⟩:=hHeld;exact ⟨((Ext.refl _).alloc _).cell t1,((Ext.refl _).alloc _).cell t2,((Ext.refl _).alloc _).cell t3,((Ext.refl _).alloc _).cell t4⟩) (fun hHeld=>?_)
        clear hK K
        refine zfT (i:=7) (by kernel_rfl) rfl (fun K hK=>?_)
        refine zoD _ rfl (.tmp 74) (.tmp 76) 74 rfl (w3.heap.size+2+3) 28 j0 (.agg #[.slice none 0 0,.slice none 0 0]) 2 48 Tryz.underlying74 hj hy0 hy1 hy2 rfl (by decide) (.slice av fs.length cv) fs.length (fwS fs) (by rfl) (HF3.out.vs.alloc _) (some ⟨wB.heap.size,0,none⟩) 1 1 [.slice a2 p.length c2,.slice a3 out.length c3] (by rfl) (fun e=>by cases e) rfl (fun ad e=>by cases e;exact cell_two_new wB _ _ _) (by simp [Value.oneCell']) (by have:=Hn5.out;unfold maxLen;omega) (by have:=Hn5.out;omega) (Nat.le_trans hBB.out ((Ext.refl wB).alloc (.cells #[.slice a2 p.length c2,.slice a3 out.length c3] 28)).size) ?_
        intro vs' wC hoV hgV
        have hF4:=(HF3.out.ext ((Ext.refl wB).alloc (.cells #[.slice a2 p.length c2,.slice a3 out.length c3] 28))).putV hgV hoV
        have hSC:=zpj hgV hHeld (fun r e=>hVr.out r e) (by have:=HD.out;omega) (by have:=HD.out;omega) hW5.out
        have HF4:=hid (Fn2.done (f:=⟨.slice ax xl.length cx,xl,.slice a2 p.length c2,.slice a3 out.length c3,out⟩) (fs:=fs) hF4)
        refine hK.out _ _ hSC (fun hHeld=>?_)
        clear hK K hSC hF4
        have hT:=zoW HEr.out (HE7.out.trans (((Ext.refl wr).alloc (.cells #[.slice ax xl.length cx] 24)).drew)) hgU ((Ext.refl wB).alloc (.cells #[.slice a2 p.length c2,.slice a3 out.length c3] 28)) hgV (fun r e=>(hUr.out r e).1) (fun r e=>(hVr.out r e).1) (by have:=HD.out;omega)
        have HT:=hid hT
        clear hT
        have m1:=(show Boxed wC (w.heap.size+1) _ _ from HT.out.2.2 _ _ (by have:=HD.out;omega) H1.out)
        have m2:=(show Boxed wC (w.heap.size+1+1) _ _ from HT.out.2.2 _ _ (by have:=HD.out;omega) H2.out)
        have u1:=HF4.out.us
        have u2:=HF4.out.vs
        rw [List.length_append,List.length_singleton] at u1 u2
        obtain ⟨a6,c6,rfl⟩:=zfj u1
        obtain ⟨a7,c7,rfl⟩:=zfj u2
        clear u1 u2
        have y1:=m1.cell;have z1:=m1.frozen
        refine zfU (i:=8) (by kernel_rfl) (by decide) rfl (fun K hK=>?_)
        go_simp
        refine hK.out _ _ ?_
        clear hK K y1 z1
        have m3:=(show Boxed _ (w.heap.size+1+1) _ _ from (Below.heap_setCell wC ⟨w.heap.size+1,0,none⟩ (.slice a6 (fs.length+1) c6) _ (by dsimp only;omega)).trans m2)
        have y2:=m3.cell;have z2:=m3.frozen
        refine zfU (i:=9) (by kernel_rfl) (by decide) rfl (fun K hK=>?_)
        go_simp
        refine hK.out _ _ ?_
        clear hK K y2 z2 m1 m2 m3
        refine zfV (by kernel_rfl) ?_
        refine NoPanic.normal ?_
        gi_wp2_with fail
        exact zoX HD.out.1 HD.out.2 HT.out.1 HT.out.2.1 HT.out.2.2 Hq.out He3.out H1.out H2.out HF4.out (by rw [E4.out,Hadd.out,List.map_append];rfl)
       ·skip
        go_simp
        refine hK.out _ _ (by obtain ⟨t1,t2,t3,t4⟩:=hHeld;exact ⟨((Ext.refl _).alloc _).cell t1,((Ext.refl _).alloc _).cell t2,((Ext.refl _).alloc _).cell t3,((Ext.refl _).alloc _).cell t4⟩) (fun hHeld=>?_)
        clear hK K
        refine zfT (i:=3) (by kernel_rfl) rfl (fun K hK=>?_)
        refine zoD _ rfl (.tmp 70) (.tmp 72) 55 rfl (w3.heap.size+2+3) 24 i0 (.slice none 0 0) 1 24 Tryz.underlying55 hi hz0 hz1 hz2 rfl (by decide) (.slice au fs.length cu) fs.length (fwU fs) (by rfl) (((((Ext.refl wr).alloc (.cells #[.slice ax xl.length cx] 24)).alloc (.cells #[.slice a2 p.length c2,.slice a3 out.length c3] 28)).drew).own HF2.out.us) (some ⟨wr.heap.size,0,none⟩) 1 1 [.slice ax xl.length cx] (by rfl) (fun e=>by cases e) rfl (fun ad e=>by cases e;exact zoS wr _ _ _) (by simp [Value.oneCell']) (by have:=Hn5.out;unfold maxLen;omega) (by have:=Hn5.out;omega) (Nat.le_trans hBW.out ((((Ext.refl wr).alloc (.cells #[.slice ax xl.length cx] 24)).alloc (.cells #[.slice a2 p.length c2,.slice a3 out.length c3] 28)).drew).size) ?_
        intro us' wB hoU hgU
        have hF3:=(HF2.out.ext ((((Ext.refl wr).alloc (.cells #[.slice ax xl.length cx] 24)).alloc (.cells #[.slice a2 p.length c2,.slice a3 out.length c3] 28)).drew)).putU hgU hoU
        have hSB:=zpj hgU hHeld (fun r e=>hUr.out r e) (by have:=HD.out;omega) (by have:=HD.out;omega) hW5.out
        have HF3:=hid hF3
        have hBB:=hid (Nat.le_trans (Nat.le_trans hBW.out ((((Ext.refl wr).alloc (.cells #[.slice ax xl.length cx] 24)).alloc (.cells #[.slice a2 p.length c2,.slice a3 out.length c3] 28)).drew).size) hgU.size)
        refine hK.out _ _ hSB (fun hHeld=>?_)
        clear hK K hSB hF3
        refine zfT (i:=7) (by kernel_rfl) rfl (fun K hK=>?_)
        refine zoD _ rfl (.tmp 74) (.tmp 76) 74 rfl (w3.heap.size+2+3) 28 j0 (.agg #[.slice none 0 0,.slice none 0 0]) 2 48 Tryz.underlying74 hj hy0 hy1 hy2 rfl (by decide) (.slice av fs.length cv) fs.length (fwS fs) (by rfl) HF3.out.vs (some ⟨wr.heap.size+1,0,none⟩) 1 1 [.slice a2 p.length c2,.slice a3 out.length c3] (by rfl) (fun e=>by cases e) rfl (fun ad e=>by cases e;exact zoR hgU (zoV wr _ _ _ _) (fun r e=>by have:=hUr.out r e;have:=HE7.out.size;omega)) (by simp [Value.oneCell']) (by have:=Hn5.out;unfold maxLen;omega) (by have:=Hn5.out;omega) (Nat.le_trans hBB.out (Ext.refl wB).size) ?_
        intro vs' wC hoV hgV
        have hF4:=(HF3.out.ext (Ext.refl wB)).putV hgV hoV
        have hSC:=zpj hgV hHeld (fun r e=>hVr.out r e) (by have:=HD.out;omega) (by have:=HD.out;omega) hW5.out
        have HF4:=hid (Fn2.done (f:=⟨.slice ax xl.length cx,xl,.slice a2 p.length c2,.slice a3 out.length c3,out⟩) (fs:=fs) hF4)
        refine hK.out _ _ hSC (fun hHeld=>?_)
        clear hK K hSC hF4
        have hT:=zoW HEr.out (HE7.out.trans ((((Ext.refl wr).alloc (.cells #[.slice ax xl.length cx] 24)).alloc (.cells #[.slice a2 p.length c2,.slice a3 out.length c3] 28)).drew)) hgU (Ext.refl wB) hgV (fun r e=>(hUr.out r e).1) (fun r e=>(hVr.out r e).1) (by have:=HD.out;omega)
        have HT:=hid hT
        clear hT
        have m1:=(show Boxed wC (w.heap.size+1) _ _ from HT.out.2.2 _ _ (by have:=HD.out;omega) H1.out)
        have m2:=(show Boxed wC (w.heap.size+1+1) _ _ from HT.out.2.2 _ _ (by have:=HD.out;omega) H2.out)
        have u1:=HF4.out.us
        have u2:=HF4.out.vs
        rw [List.length_append,List.length_singleton] at u1 u2
        obtain ⟨a6,c6,rfl⟩:=zfj u1
        obtain ⟨a7,c7,rfl⟩:=zfj u2
        clear u1 u2
        have y1:=m1.cell;have z1:=m1.frozen
        refine zfU (i:=8) (by kernel_rfl) (by decide) rfl (fun K hK=>?_)
        go_simp
        refine hK.out _ _ ?_
        clear hK K y1 z1
        have m3:=(show Boxed _ (w.heap.size+1+1) _ _ from (Below.heap_setCell wC ⟨w.heap.size+1,0,none⟩ (.slice a6 (fs.length+1) c6) _ (by dsimp only;omega)).trans m2)
        have y2:=m3.cell;have z2:=m3.frozen
        refine zfU (i:=9) (by kernel_rfl) (by decide) rfl (fun K hK=>?_)
        go_simp
        refine hK.out _ _ ?_
        clear hK K y2 z2 m1 m2 m3
        refine zfV (by kernel_rfl) ?_
        refine NoPanic.normal ?_
        gi_wp2_with fail
        exact zoX HD.out.1 HD.out.2 HT.out.1 HT.out.2.1 HT.out.2.2 Hq.out He3.out H1.out H2.out HF4.out (by rw [E4.out,Hadd.out,List.map_append];rfl)
      ·skip
       go_simp
       refine hK.out _ _ (by obtain ⟨t1,t2,t3,t4⟩:=hHeld;exact ⟨((Ext.refl _).alloc _).cell t1,((Ext.refl _).alloc _).cell t2,((Ext.refl _).alloc _).cell t3,((Ext.refl _).alloc _).cell t4⟩) (fun hHeld=>?_)
       clear hK K
       refine zfT (i:=2) (by kernel_rfl) rfl (fun K hK=>?_)
       go_simp
       refine hK.out _ _ (by obtain ⟨t1,t2,t3,t4⟩:=hHeld;exact ⟨((Ext.refl _).alloc _).cell t1,((Ext.refl _).alloc _).cell t2,((Ext.refl _).alloc _).cell t3,((Ext.refl _).alloc _).cell t4⟩) (fun hHeld=>?_)
       clear hK K
       refine zfT (i:=3) (by kernel_rfl) rfl (fun K hK=>?_)
       refine zoD _ rfl (.tmp 70) (.tmp 72) 55 rfl (w3.heap.size+2+3) 24 i0 (.slice none 0 0) 1 24 Tryz.underlying55 hi hz0 hz1 hz2 rfl (by decide) (.slice au fs.length cu) fs.length (fwU fs) (by rfl) (((((Ext.refl wr).alloc (.cells #[.slice a2 p.length c2,.slice a3 out.length c3] 28)).alloc (.cells #[.slice ax xl.length cx] 24)).drew).own HF2.out.us) (some ⟨wr.heap.size+1,0,none⟩) 1 1 [.slice ax xl.length cx] (by rfl) (fun e=>by cases e) rfl (fun ad e=>by cases e;exact zoU wr _ _ _) (by simp [Value.oneCell']) (by have:=Hn5.out;unfold maxLen;omega) (by have:=Hn5.out;omega) (Nat.le_trans hBW.out ((((Ext.refl wr).alloc (.cells #[.slice a2 p.length c2,.slice a3 out.length c3] 28)).alloc (.cells #[.slice ax xl.length cx] 24)).drew).size) ?_
       intro us' wB hoU hgU
       have hF3:=(HF2.out.ext ((((Ext.refl wr).alloc (.cells #[.slice a2 p.length c2,.slice a3 out.length c3] 28)).alloc (.cells #[.slice ax xl.length cx] 24)).drew)).putU hgU hoU
       have hSB:=zpj hgU hHeld (fun r e=>hUr.out r e) (by have:=HD.out;omega) (by have:=HD.out;omega) hW5.out
       have HF3:=hid hF3
       have hBB:=hid (Nat.le_trans (Nat.le_trans hBW.out ((((Ext.refl wr).alloc (.cells #[.slice a2 p.length c2,.slice a3 out.length c3] 28)).alloc (.cells #[.slice ax xl.length cx] 24)).drew).size) hgU.size)
       refine hK.out _ _ hSB (fun hHeld=>?_)
       clear hK K hSB hF3
       refine zfT (i:=7) (by kernel_rfl) rfl (fun K hK=>?_)
       refine zoD _ rfl (.tmp 74) (.tmp 76) 74 rfl (w3.heap.size+2+3) 28 j0 (.agg #[.slice none 0 0,.slice none 0 0]) 2 48 Tryz.underlying74 hj hy0 hy1 hy2 rfl (by decide) (.slice av fs.length cv) fs.length (fwS fs) (by rfl) HF3.out.vs (some ⟨wr.heap.size,0,none⟩) 1 1 [.slice a2 p.length c2,.slice a3 out.length c3] (by rfl) (fun e=>by cases e) rfl (fun ad e=>by cases e;exact zoR hgU (zoT wr _ _ _ _) (fun r e=>by have:=hUr.out r e;have:=HE7.out.size;omega)) (by simp [Value.oneCell']) (by have:=Hn5.out;unfold maxLen;omega) (by have:=Hn5.out;omega) (Nat.le_trans hBB.out (Ext.refl wB).size) ?_
       intro vs' wC hoV hgV
       have hF4:=(HF3.out.ext (Ext.refl wB)).putV hgV hoV
       have hSC:=zpj hgV hHeld (fun r e=>hVr.out r e) (by have:=HD.out;omega) (by have:=HD.out;omega) hW5.out
       have HF4:=hid (Fn2.done (f:=⟨.slice ax xl.length cx,xl,.slice a2 p.length c2,.slice a3 out.length c3,out⟩) (fs:=fs) hF4)
       refine hK.out _ _ hSC (fun hHeld=>?_)
       clear hK K hSC hF4
       have hT:=zoW HEr.out (HE7.out.trans ((((Ext.refl wr).alloc (.cells #[.slice a2 p.length c2,.slice a3 out.length c3] 28)).alloc (.cells #[.slice ax xl.length cx] 24)).drew)) hgU (Ext.refl wB) hgV (fun r e=>(hUr.out r e).1) (fun r e=>(hVr.out r e).1) (by have:=HD.out;omega)
       have HT:=hid hT
       clear hT
       have m1:=(show Boxed wC (w.heap.size+1) _ _ from HT.out.2.2 _ _ (by have:=HD.out;omega) H1.out)
       have m2:=(show Boxed wC (w.heap.size+1+1) _ _ from HT.out.2.2 _ _ (by have:=HD.out;omega) H2.out)
       have u1:=HF4.out.us
       have u2:=HF4.out.vs
       rw [List.length_append,List.length_singleton] at u1 u2
       obtain ⟨a6,c6,rfl⟩:=zfj u1
       obtain ⟨a7,c7,rfl⟩:=zfj u2
       clear u1 u2
       have y1:=m1.cell;have z1:=m1.frozen
       refine zfU (i:=8) (by kernel_rfl) (by decide) rfl (fun K hK=>?_)
       go_simp
       refine hK.out _ _ ?_
       clear hK K y1 z1
       have m3:=(show Boxed _ (w.heap.size+1+1) _ _ from (Below.heap_setCell wC ⟨w.heap.size+1,0,none⟩ (.slice a6 (fs.length+1) c6) _ (by dsimp only;omega)).trans m2)
       have y2:=m3.cell;have z2:=m3.frozen
       refine zfU (i:=9) (by kernel_rfl) (by decide) rfl (fun K hK=>?_)
       go_simp
       refine hK.out _ _ ?_
       clear hK K y2 z2 m1 m2 m3
       refine zfV (by kernel_rfl) ?_
       refine NoPanic.normal ?_
       gi_wp2_with fail
       exact zoX HD.out.1 HD.out.2 HT.out.1 HT.out.2.1 HT.out.2.2 Hq.out He3.out H1.out H2.out HF4.out (by rw [E4.out,Hadd.out,List.map_append];rfl)
  ·have ht0:tst P p (zlb p (rs.map Qw.x) xl)=false:=(by simpa using ht);have hsr:srA P b p (rs.map Qw.x) (fs.map Fw.l) xl=fs.map Fw.l:=(by unfold srA;rw [ht0,Bool.false_and];rfl);have Hsr:=hid hsr;rw [ht0];clear hsr ht ht0;gi_wp2_with fail;exact ⟨znt.ext Hx4.out,HEr.out.trans Hx4.out,Hq.out.ext Hx4.out,Hx4.out.heap He3.out,_,_,fs,Hx4.out.heap H1.out,Hx4.out.heap H2.out,H3.out.ext Hx4.out,by rw [E4.out,Hsr.out]⟩
 case done =>
  rintro xs W hS ⟨hE,hq,he3,us,vs,fs,h1,h2,h3,h4⟩ hd;rw [hS] at h4;obtain ⟨au,cu,rfl⟩:=zfj h3.us;obtain ⟨av,cv,rfl⟩:=zfj h3.vs;have hc1:=h1.cell;have hc2:=h2.cell;have hc3:=he3.cell;have hz1:=h1.frozen;have hz2:=h2.frozen;have hz3:=he3.frozen;have H1:=hid h1;have H2:=hid h2;have H3:=hid h3;have H4:=hid h4;have HEr:=hid hE;have He3:=hid he3;have Hd:=hid hd;clear h1 h2 h3 h4 hE hq he3 hd;gi_wp2_with fail;gi_region;have x1:=zph H1.out;have x2:=zph (show Boxed _ (w.heap.size+1+1) _ _ from x1.heap H2.out);have x3:=zph (show Boxed _ (w.heap.size+1+1+1) _ _ from (x1.trans x2).heap He3.out);have hX:=((x1.trans x2).trans x3).drew;clear x1 x2 x3;generalize (((W.setCell ⟨w.heap.size+1,0,none⟩ (.slice au fs.length cu)).setCell ⟨w.heap.size+1+1,0,none⟩ (.slice av fs.length cv)).setCell ⟨w.heap.size+1+1+1,0,none⟩ (.int .i64 0)).drew=X at *;have HX:=hid hX;have hK:=hX.heap Hd.out;clear hX hc1 hc2 hc3 hz1 hz2 hz3;gi_wp2_with fail;refine ⟨by simp,.inl ⟨_,_,rfl,run_takeDeferred hK,?_⟩⟩;have low:∀ {k:Nat}{o:Obj},k ≠ w3.heap.size→W.heap[k]?=some o→(X.putObj w3.heap.size (.deferred none)).heap[k]?=some o:=fun {k o} hk ho=>(World.putObj_heap_other (by omega)).trans (HX.out.heap ho);have d1:=(show Boxed _ (w.heap.size+1) _ _ from low (by omega) H1.out).cell;have d2:=(show Boxed _ (w.heap.size+1+1) _ _ from low (by omega) H2.out).cell;have d3:=(show Boxed _ (w.heap.size+1+1+1) _ _ from low (by omega) He3.out).cell;refine ⟨.tuple #[.slice au fs.length cu,.slice av fs.length cv,.int .i64 0],by simp [results,Tryz.results54,go_sem,d1,d2,d3],_,_,fs,rfl,?_,H4.out,?_⟩
  ·exact ((H3.out.ext HX.out).grown (grownBy_putObj' X w3.heap.size _) (fun r e=>by cases e;omega)).mono (by omega)
  ·exact Below.trans (HEr.out.trans HX.out) (belowK_b (w:=w) (Nat.le_refl _) X w3.heap.size _ _ (by omega) hK rfl rfl)
end Go.Proofs.YtebabancfnmfjaaGreatDoor
