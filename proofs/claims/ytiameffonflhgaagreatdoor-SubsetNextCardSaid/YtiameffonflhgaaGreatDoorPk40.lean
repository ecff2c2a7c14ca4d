/- Walk: law 38's all. Walk: slices.Compare at ints. -/
import Derived.Test.YtiameffonflhgaaGreatDoorPk39
import Derived.Test.YtiameffonflhgaaGreatDoorPk38
import Derived.Deep.DeepCutAuto
import Derived.Test.YtiameffonflhgaaGreatDoorPk37
import Derived.Test.YtiameffonflhgaaGreatDoorShelfI
import Derived.Shelf.SlicesG.Cmp
set_option maxRecDepth 100000
set_option maxHeartbeats 8000000
namespace Go.Proofs.YtiameffonflhgaaGreatDoor
section
open Go.RowKit Go.Lib Go.Shelf
attribute [local go_sem] Oper.semAt_some
structure Alr (W:World)(B1 B:Nat)(p:List Int)(N:List (List Rat))(us vs:Value)(fs:List Fw):Prop where
 us:W.ownsRow B1 24 1 us fs.length (fwU fs)
 vs:W.ownsRow B1 28 2 vs fs.length (fwS fs)
 all:∀ f∈fs,zeb W B f.u f.l∧zeb W B f.vp p∧QwM W B B f.vn f.rs∧f.rs.map Qw.x=zlk p N f.l∧Wd p (zlk p N f.l)
structure Al2 (W:World)(B1 B:Nat)(p:List Int)(N:List (List Rat))(us vs:Value)(nu nv:Nat)(xu xv:List Value)(gs:List Fw):Prop where
 us:W.ownsRow B1 24 1 us nu xu
 vs:W.ownsRow B1 28 2 vs nv xv
 all:∀ f∈gs,zeb W B f.u f.l∧zeb W B f.vp p∧QwM W B B f.vn f.rs∧f.rs.map Qw.x=zlk p N f.l∧Wd p (zlk p N f.l)
section
variable {W W' : World} {B1 B : Nat} {p : List Int} {N : List (List Rat)} {us vs : Value} {nu nv : Nat} {xu xv : List Value} {gs fs : List Fw}
theorem Alr.nil (W:World)(B1 B:Nat)(p:List Int)(N:List (List Rat)):Alr W B1 B p N (.slice none 0 0) (.slice none 0 0) []:=⟨⟨rfl,.inl ⟨rfl,rfl⟩⟩,⟨rfl,.inl ⟨rfl,rfl⟩⟩,fun f hf=>by cases hf⟩
theorem Alr.ext (h:Alr W B1 B p N us vs fs)(hx:Ext W W'):Alr W' B1 B p N us vs fs :=
 ⟨hx.own h.us,hx.own h.vs,fun f hf=>let ⟨a,b,c,d⟩:=h.all f hf;⟨hx.ownI a,hx.ownI b,hx.qwM c,d⟩⟩
theorem Al2.ext (h:Al2 W B1 B p N us vs nu nv xu xv gs)(hx:Ext W W'):Al2 W' B1 B p N us vs nu nv xu xv gs :=
 ⟨hx.own h.us,hx.own h.vs,fun f hf=>let ⟨a,b,c,d⟩:=h.all f hf;⟨hx.ownI a,hx.ownI b,hx.qwM c,d⟩⟩
theorem Al2.putU {us' u:Value}(h:Al2 W B1 B p N us vs nu nv xu xv gs)(hg:W.grownBy W' us.ownBlock)(ho:W'.ownsRow B1 24 1 us' (nu+1) (xu++[u])):Al2 W' B1 B p N us' vs (nu+1) nv (xu++[u]) xv gs:=by
 have key:∀ {D E s n:Nat}{v:Value}{xs:List Value},E ≠ 24→W.ownsRow D E s v n xs→W'.ownsRow D E s v n xs:=fun {D E s n v xs} hE k=>World.ownsRow.kept k hg (zef k h.us hE);exact ⟨ho,key (by decide) h.vs,fun f hf=>let ⟨a,b,c,d⟩:=h.all f hf;⟨key (by decide) a,key (by decide) b,⟨key (by decide) c.1,fun r hr=>key (by decide) (c.2 r hr)⟩,d⟩⟩
theorem Al2.putV {vs' x y:Value}(h:Al2 W B1 B p N us vs nu nv xu xv gs)(hg:W.grownBy W' vs.ownBlock)(ho:W'.ownsRow B1 28 2 vs' (nv+1) (xv++[x,y])):Al2 W' B1 B p N us vs' nu (nv+1) xu (xv++[x,y]) gs:=by
 have key:∀ {D E s n:Nat}{v:Value}{xs:List Value},E ≠ 28→W.ownsRow D E s v n xs→W'.ownsRow D E s v n xs:=fun {D E s n v xs} hE k=>World.ownsRow.kept k hg (zef k h.vs hE);exact ⟨key (by decide) h.us,ho,fun f hf=>let ⟨a,b,c,d⟩:=h.all f hf;⟨key (by decide) a,key (by decide) b,⟨key (by decide) c.1,fun r hr=>key (by decide) (c.2 r hr)⟩,d⟩⟩
theorem Alr.two {f:Fw}(h:Alr W B1 B p N us vs fs)(hf:zeb W B f.u f.l∧zeb W B f.vp p∧QwM W B B f.vn f.rs∧f.rs.map Qw.x=zlk p N f.l∧Wd p (zlk p N f.l)):Al2 W B1 B p N us vs fs.length fs.length (fwU fs) (fwS fs) (fs++[f]) :=
 ⟨h.us,h.vs,fun g hg=>by
  rcases List.mem_append.1 hg with e | e
  ·exact h.all g e
  ·rw [List.mem_singleton] at e;subst e;exact hf⟩
theorem Al2.done {f:Fw}(h:Al2 W B1 B p N us vs (fs.length+1) (fs.length+1) (fwU fs++[f.u]) (fwS fs++[f.vp,f.vn]) (fs++[f])):Alr W B1 B p N us vs (fs++[f]) :=
 ⟨by rw [List.length_append,List.length_singleton,zpz];exact h.us,by rw [List.length_append,List.length_singleton,zp0];exact h.vs,h.all⟩
theorem zrJ {g L cap:Nat}(h:Alr W B1 B p N us (.slice (some ⟨g,0,none⟩) L cap) fs){k:Nat}(hk:k<fs.length) :
  ∃ (f:Fw)(a8:Option Addr)(c8:Nat)(a9:Option Addr)(n9 c9:Nat),fs[k]?=some f∧W.cell? ⟨g,k * 2,none⟩=some (.slice a8 p.length c8)∧W.cell? ⟨g,k * 2+1,none⟩=some (.slice a9 n9 c9) ∧
   ScV W (.agg #[.slice a8 p.length c8,.slice a9 n9 c9]) p f.rs∧f.rs.map Qw.x=zlk p N f.l∧Wd p (zlk p N f.l):=by
 obtain ⟨f,hf⟩:∃ f,fs[k]?=some f:=⟨_,List.getElem?_eq_getElem hk⟩;obtain ⟨_,h2,h3,h4,h5⟩:=h.all f (List.mem_of_getElem? hf);have hcs:=World.ownsRow.cells h.vs (g:=g) rfl;have f0:=hcs (k * 2) _ (zp2 hf).1;have f1:=hcs (k * 2+1) _ (zp2 hf).2;rw [Addr.add_lit] at f0 f1;rw [Nat.zero_add] at f0 f1;obtain ⟨a8,c8,e8⟩:=zec h2;obtain ⟨a9,c9,e9⟩:=zec h3.1;rw [e8] at f0 h2;rw [e9] at f1 h3;exact ⟨f,a8,c8,a9,_,c9,hf,f0,f1,⟨_,_,rfl,zao h2,h3.rd⟩,h4,h5⟩
theorem zrK (h:Alr W B1 B p N us vs fs):(fs=[]∧vs=.slice none 0 0)∨∃ g cap,vs=.slice (some ⟨g,0,none⟩) fs.length cap:=by
 rcases h.vs.2 with ⟨e,h0⟩ | ⟨g,cap,cur,e,_⟩
 ·exact .inl ⟨List.eq_nil_of_length_eq_zero h0,e⟩
 ·exact .inr ⟨g,cap,e⟩
theorem Alr.ls (h:Alr W B1 B p N us vs fs)(hB:B≤B1):LsI W B us (fwI fs) :=
 ⟨by rw [zrB,zrD];exact zan h.us hB,fun f hf=>by
  obtain ⟨g,hg,rfl⟩:=List.mem_map.1 hf;exact (h.all g hg).1⟩
end
def zrL (W:World)(B:Nat)(p:List Int)(M:List (List Rat))(v8 v9:Value)(wx:World):Prop :=
 ∃ bk a c b d out,v8=.pointer (some ⟨bk,0,none⟩)∧v9=.int .i64 0∧zdM 28 wx bk (.slice a p.length c) (.slice b (out:List Qw).length d)∧zeb wx B (.slice a p.length c) p∧QwM wx B B (.slice b out.length d) out∧out.map Qw.x=M∧Ext W wx∧W.heap.size≤bk
theorem zrM {W:World}{b B:Nat}{u v x y vp vn:Value}{p:List Int}{out:List Qw}(hb:zdM 28 W b u v)(hp:zeb W B vp p)(hn:QwM W B B vn out) :
  zeb ((W.setCell ⟨b,0,none⟩ x).setCell ⟨b,1,none⟩ y) B vp p∧QwM ((W.setCell ⟨b,0,none⟩ x).setCell ⟨b,1,none⟩ y) B B vn out:=by
 have key:∀ {D E s n:Nat}{w:Value}{xs:List Value},28 ≠ E→W.ownsRow D E s w n xs→((W.setCell ⟨b,0,none⟩ x).setCell ⟨b,1,none⟩ y).ownsRow D E s w n xs:=fun {D E s n w xs} hE k =>
  zgg (zdM.put0 hb x) (zgg hb k hE 0 x) hE 1 y
 exact ⟨key (by decide) hp,key (by decide) hn.1,fun r hr=>key (by decide) (hn.2 r hr)⟩
theorem zrN {b bo T A A':Bool}(h:bo=(T && !(b && A)))(hb:bo=true→b=true→A=A')(hf:A=true→A'=true):bo=(T && !(b && A')):=by
 subst h
 cases T <;> cases b <;> cases A <;> cases A' <;> simp_all
theorem zrO {T A R:Bool}(h:true=(T && !(true && A))):(!R)=(T && !(true && (A || R))):=by
 cases T <;> cases A <;> cases R <;> simp_all
theorem zrP {A C:World}{row:Option Nat}{gg i bk B1 T:Nat}{x y z:Value}(hg:A.grownBy C row)(h:A.cell? ⟨gg,i,none⟩=some x∧A.cell? ⟨bk,0,none⟩=some y∧A.cell? ⟨bk,1,none⟩=some z)
  (hr:∀ r,row=some r→B1≤r∧r<T) (h1:gg<B1) (h2:T≤bk):C.cell? ⟨gg,i,none⟩=some x∧C.cell? ⟨bk,0,none⟩=some y∧C.cell? ⟨bk,1,none⟩=some z :=
 ⟨hg.cell h.1 fun e=>by have:=hr _ e.symm;dsimp only at this;omega,hg.cell h.2.1 fun e=>by have:=hr _ e.symm;dsimp only at this;omega,hg.cell h.2.2 fun e=>by have:=hr _ e.symm;dsimp only at this;omega⟩
theorem zrQ {A:World}{gg i bk:Nat}{x y z:Value}(o:Obj)(h:A.cell? ⟨gg,i,none⟩=some x∧A.cell? ⟨bk,0,none⟩=some y∧A.cell? ⟨bk,1,none⟩=some z) :
  (A.alloc o).cell? ⟨gg,i,none⟩=some x∧(A.alloc o).cell? ⟨bk,0,none⟩=some y∧(A.alloc o).cell? ⟨bk,1,none⟩=some z :=
 ⟨((Ext.refl A).alloc o).cell h.1,((Ext.refl A).alloc o).cell h.2.1,((Ext.refl A).alloc o).cell h.2.2⟩
theorem zrR (W:World)(o:Obj)(x y:Value)(t:TypeId):∀ j u,[x,y][j]?=some u→((W.drew.alloc o).alloc (.cells #[x,y] t)).cell? ((⟨W.heap.size+1,0,none⟩:Addr).add j)=some u:=by
 have h:=cell_two_new (W.drew.alloc o) x y t;rw [World.size_alloc,World.size_drew] at h;exact h
theorem zrS (W:World)(o:Obj)(x:Value)(t:TypeId):∀ j u,[x][j]?=some u→((W.drew.alloc o).alloc (.cells #[x] t)).cell? ((⟨W.heap.size+1,0,none⟩:Addr).add j)=some u:=by
 have h:=cell_one_new (W.drew.alloc o) x t;rw [World.size_alloc,World.size_drew] at h;exact h
theorem zrT (W:World)(x y:Value)(t:TypeId)(o:Obj):∀ j u,[x,y][j]?=some u→((W.drew.alloc (.cells #[x,y] t)).alloc o).cell? ((⟨W.heap.size,0,none⟩:Addr).add j)=some u :=
 fun j u hj=>((Ext.refl (W.drew.alloc (.cells #[x,y] t))).alloc o).cell (cell_two_new W.drew x y t j u hj)
theorem zrU (W:World)(x:Value)(t:TypeId)(o:Obj):∀ j u,[x][j]?=some u→((W.drew.alloc (.cells #[x] t)).alloc o).cell? ((⟨W.heap.size,0,none⟩:Addr).add j)=some u :=
 fun j u hj=>((Ext.refl (W.drew.alloc (.cells #[x] t))).alloc o).cell (cell_one_new W.drew x t j u hj)
theorem zrV (v:Value)(p:List Int)(rs:List Qw)(m:Nat)(P:Int)(M:List Int)(b:Bool)(w:World)(he:Env w)(hv:QyV w v p rs (m:Int) P M b)(h:Wc p (rs.map Qw.x))(hm1:1≤m)(hmn:m≤rs.length)(hML:M.length≤1000) :
  Calls Tryz.prog 32 #[v] w fun e w'=>∃ us fs,e=.returned (.tuple #[us,.int .i64 0])∧LsI w' w.heap.size us fs∧fs.map Iw.l=alL P b p (rs.map Qw.x) M (sts rs.length m)∧Ext w w':=by
 have hL:(rs.map Qw.x).length=rs.length:=List.length_map ..;have hn12:rs.length≤12:=by have:=h.few;rwa [hL] at this
 obtain ⟨ap,cp,an,cn,am,cm,rfl,hs,hmm⟩:=hv.let;obtain ⟨i0,hi,hz0,hz1,hz2⟩:=info_parts zpx;obtain ⟨j0,hj,hy0,hy1,hy2⟩:=info_parts zpy;have hset:=fun W=>zr1 rs.length m W hn12 hmn;have hct:=fun W u (l:List Int)(hE:Ext w W)(hu:Sl W u (zaq l))(hl:l.length≤1000)=>zr4 u (.slice am M.length cm) l M W hu (hE.sl hmm) hl hML;have hsb:=fun W sv u (l:List Int)(hE:Ext w W)(hs:ScV W sv p rs)(hu:Sl W u (zaq l))(h6:l.length≤60)(h0:zle rs.length l=0)=>(znJ sv u p rs l W (he.ext hE) hs h.wd hu h6).mono fun e w' ⟨u,he,_,h2,hx⟩=>(show ∃ u out,e=Ending.returned (.tuple #[u,.int .i64 0])∧ScO w' W.heap.size u p out∧out.map Qw.x=zlk p (rs.map Qw.x) l∧Ext W w' by
  rw [h0] at he;obtain ⟨out,ho,hm⟩:=h2 h0;exact ⟨u,out,he,ho,hm,hx⟩)
 have hho:=fun W sv (out:List Qw)(hE:Ext w W)(hs:ScV W sv p out)(hw:Wc p (out.map Qw.x))=>zr8 sv p out P W (he.ext hE) hs (fun _ _=>hw);have him:=fun W v1 v2 (r1 r2:List Qw)(hx:Ext w W)(k1:ScV W v1 p r1)(k2:ScV W v2 p r2)(g1:Wd p (r1.map Qw.x))(g2:Wd p (r2.map Qw.x))=>zq1 v1 v2 p r1 r2 W (he.ext hx) k1 k2 g1 g2;have hst:∀ (i:Nat)(l:List Int),(sts rs.length m)[i]?=some l→l.length=m∧zle rs.length l=0∧Wc p (zlk p (rs.map Qw.x) l):=fun i l hl=>by
  obtain ⟨h1,h2,h3⟩:=zri (List.mem_of_getElem? hl);have h0:l ≠ []:=by rintro rfl;simp at h1;omega
  exact ⟨h1,zpX h0 h2 h3,zns h h0 (by omega) (by rw [hL];exact h2) h3⟩
 have hf5:(sts rs.length m).length≤5000:=zrs hn12 hmn;have htk:∀ i (l:List Int),(sts rs.length m)[i]?=some l→alL P b p (rs.map Qw.x) M ((sts rs.length m).take (i+1))=alA P b p (rs.map Qw.x) M (alL P b p (rs.map Qw.x) M ((sts rs.length m).take i)) l:=fun i l hl=>by
  obtain ⟨h1,h2⟩:=List.getElem?_eq_some_iff.1 hl;rw [zrt h1,h2]
 have hlen:∀ i,i≤(sts rs.length m).length→(alL P b p (rs.map Qw.x) M ((sts rs.length m).take i)).length≤i:=fun i hi=>by
  have:=zru (P:=P) (b:=b) (p:=p) (N:=rs.map Qw.x) (M:=M) ((sts rs.length m).take i);rwa [List.length_take,Nat.min_eq_left hi] at this
 have hfull:(sts rs.length m).take (sts rs.length m).length=sts rs.length m:=List.take_length;have hE0:Ext w (w.alloc (.cells #[.slice ap p.length cp,.slice an rs.length cn,.int .i64 (m:Int),.int .i64 P,.slice am M.length cm,.bool b] 59)):=(Ext.refl w).alloc _;have hb:=znK.new w (.slice ap p.length cp) (.slice an rs.length cn) (m:Int) P (.slice am M.length cm) b;have Hset:=hid hset;have Hct:=hid hct;have Hsb:=hid hsb;have Hho:=hid hho;have Him:=hid him;have Hst:=hid hst;have Htk:=hid htk;have Hlen:=hid hlen;have Hfull:=hid hfull;have HE0:=hid hE0;have Hb:=hid hb;have Hs:=hid hs;have Hw:=hid h;clear hset hct hsb hho him hst htk hlen hfull hE0 hb hs hmm hv h he hL;generalize hcs:sts rs.length m=cs at *;generalize hN:rs.map Qw.x=N at *;generalize hn:rs.length=n at *;generalize hmlen:M.length=ML at *;have HN:=hid hN;have Hn:=hid hn;clear hcs hN hn hmlen;obtain ⟨q0,q1,q2,q3,q4,q5⟩:=Hb.out.cs;go_enter Tryz.func32,Tryz.ntmps32
 go_wp2_with fail
 refine (Hset.out _).mono ?_;rintro e w1 ⟨v6,gs,rfl,hg,hgm,hx1⟩;have hbx:=Hb.out.ext hx1;have hsz1:=hx1.size;rw [World.size_alloc] at hsz1;have hg2:=hg.less (HE0.out.size);have hgl:gs.length=cs.length:=by rw [← hgm,List.length_map]
 obtain ⟨a6,c6,rfl⟩:=zec hg2.row;have Hx1:=hid (HE0.out.trans hx1);have Hg:=hid hg2;have Hgm:=hid hgm;have Hgl:=hid hgl;have Hbx:=hid hbx;rw [← hgl] at hf5;clear hg hg2 hgm hx1 hbx q0 q1 q2 q3 q4 q5 HE0 Hb hgl;go_wp2_with fail
 go_loopw [4,5,7,8,9,10,11] (fun v4 v5 v7 _ _ _ _ wr=>∃ (i:Nat)(fs:List Fw),v7=.int .i64 i∧i≤gs.length∧Alr wr w1.heap.size w.heap.size p N v4 v5 fs∧Hid (fs.map Fw.l=alL P b p N M (cs.take i))∧Ext w1 wr) (fun _ _ v7 _ _ _ _ _=>gs.length - (zam v7).toNat)
 case atStart=>exact ⟨0,[],rfl,Nat.zero_le _,Alr.nil _ _ _ _ _,hid rfl,Ext.refl _⟩
 case round =>
  obtain ⟨i,fs,rfl,hi1,hA,HT,hE⟩:=hrel;obtain ⟨wa,hwa⟩:∃ wa,wa=wr:=⟨_,rfl⟩;subst hwa;obtain ⟨a4,c4,rfl⟩:=zec hA.us;obtain ⟨a5,c5,rfl⟩:=zec hA.vs;by_cases hil:i<gs.length
  ·obtain ⟨g,hgi⟩:∃ g,gs[i]?=some g:=⟨_,List.getElem?_eq_getElem hil⟩;have hci:cs[i]?=some g.l:=(by rw [← Hgm.out,List.getElem?_map,hgi];rfl);obtain ⟨hgm2,hse,hwc⟩:=Hst.out i g.l hci;have htk:=Htk.out i g.l hci;have hfl:fs.length≤i:=by
    have h1:=congrArg List.length HT.out;rw [List.length_map] at h1;have:=Hlen.out i (by have:=Hgl.out;omega);omega
   obtain ⟨gg,a2,c2,rfl,hcell,hgu,hown⟩:=(Hg.out.ext hE).at' hgi;have hx4:=(Hbx.out.ext hE).cs.2.2.2.2.1;have hctl:=fun W (hx:Ext wa W)=>Hct.out W (.slice a2 g.l.length c2) g.l ((Hx1.out.trans hE).trans hx) (hx.sl (zao hown)) (by omega);have hsbl:=fun W sv (hx:Ext wa W)(hs:ScV W sv p rs)=>Hsb.out W sv (.slice a2 g.l.length c2) g.l ((Hx1.out.trans hE).trans hx) hs (hx.sl (zao hown)) (by omega) hse;obtain ⟨C,hC⟩:∃ C,C=(M.all fun y=>g.l.contains y):=⟨_,rfl⟩;rw [← hC] at hctl;have hfN:fs.length≤5000:=(by omega);have hwa1:=hE.size;have Hctl:=hid hctl;have Hsbl:=hid hsbl;have HC:=hid hC;have Htk1:=hid htk;have Hwc:=hid hwc;have HA:=hid hA;have HE:=hid hE;have Hown:=hid hown;have Hgm2:=hid hgm2;have Hcell:=hid hcell;clear hctl hsbl hC htk hwc hA hown hgi hci hse hgu hgm2;generalize hgL:g.l.length=gl at *;have HgL:=hid hgL;have hgl6:gl≤12:=(by have:=Hgm2.out;omega);clear hgL;have hi0:(0:Int)≤(i:Int):=(by omega);have hi1':(i:Int)<(gs.length:Int):=(by omega);clear hE;go_wp2_with fail
   go_region_held3 (fun w'=>Ext wa w'∧w'.cell? ⟨gg,i,none⟩=some (.slice a2 gl c2)∧w'.cell? ⟨w.heap.size,4,none⟩=some (.slice am ML cm))
    (first | (with_reducible assumption) | exact ⟨(Ext.refl wa).drew,hcell,hx4⟩)
    (first
     | (go_at_call 78;refine (Hctl.out _ (And.left (by assumption))).mono ?_;rintro e9 VA ⟨rfl,hxa⟩;have hEA:Ext wa VA:=Ext.trans (And.left (by assumption)) hxa;have hS2:Ext wa VA∧VA.cell? ⟨gg,i,none⟩=some (.slice a2 gl c2)∧VA.cell? ⟨w.heap.size,4,none⟩=some (.slice am ML cm):=⟨hEA,hEA.cell hcell,hEA.cell hx4⟩;have HEA:=hid hEA;clear hxa hEA))
   all_goals
    clear hS2 hcell hx4
    cases C with
    | false =>
     have HN:=hid (show fs.map Fw.l=alL P b p N M (cs.take (i+1)) by
      rw [HT.out,Htk1.out,alA,if_neg (by show ¬ (M.all fun y=>g.l.contains y)=true;rw [← HC.out];simp)])
     go_wp2_with fail
     go_roundw
     case rel=>exact ⟨i+1,fs,by go_num,by omega,HA.out.ext HEA.out,HN,HE.out.trans HEA.out⟩
     case measure=>simp [zam];omega
    | true =>
     have hha:alA P b p N M (alL P b p N M (cs.take i)) g.l=srA P b p N (alL P b p N M (cs.take i)) g.l:=by
      rw [alA,if_pos (by show (M.all fun y=>g.l.contains y)=true;rw [← HC.out])]
     rw [hha] at Htk1
     have Htk1:=hid Htk1.out
     clear hha
     have hSQ:∀ W,Ext VA W→Ext VA W∧W.cell? ⟨gg,i,none⟩=some (.slice a2 gl c2)∧W.cell? ⟨w.heap.size,0,none⟩=some (.slice ap p.length cp)∧W.cell? ⟨w.heap.size,1,none⟩=some (.slice an n cn):=fun W hx =>
      ⟨hx,(HEA.out.trans hx).cell Hcell.out,(Hbx.out.ext ((HE.out.trans HEA.out).trans hx)).cs.1,(Hbx.out.ext ((HE.out.trans HEA.out).trans hx)).cs.2.1⟩
     have hsb8:=fun W (hx:Ext VA W)=>Hsbl.out W _ (HEA.out.trans hx) (Hs.out.ext ((Hx1.out.trans HE.out).trans (HEA.out.trans hx)))
     have HSQ:=hid hSQ;have Hsb8:=hid hsb8
     clear hSQ hsb8
     go_upto_region 8 with (fail)
     go_cut [8,9] (fun v8 v9 wx=>zrL VA w.heap.size p (zlk p N g.l) v8 v9 wx)
     case first =>
      have hS0:=HSQ.out _ (Ext.refl VA).drew
      go_region_held3 (fun w'=>Ext VA w'∧w'.cell? ⟨gg,i,none⟩=some (.slice a2 gl c2)∧w'.cell? ⟨w.heap.size,0,none⟩=some (.slice ap p.length cp)∧w'.cell? ⟨w.heap.size,1,none⟩=some (.slice an n cn))
       (first | (with_reducible assumption) | exact HSQ.out _ ((Ext.refl VA).drew) | exact HSQ.out _ (((Ext.refl VA).drew).alloc _) | exact HSQ.out _ (HE8.out.alloc _) | exact HSQ.out _ ((HE8.out.setCell (p:=⟨VA.heap.size,0,none⟩) (Nat.le_refl _) _).setCell (p:=⟨VA.heap.size,1,none⟩) (Nat.le_refl _) _) | exact HSQ.out _ (((HE8.out.alloc _).setCell (p:=⟨V8.heap.size,0,none⟩) HE8.out.size _).setCell (p:=⟨V8.heap.size,1,none⟩) HE8.out.size _))
       (first
        | (go_at_call 10
           refine (Hsb8.out _ (And.left (by with_reducible assumption))).mono ?_
           rintro e9 V8 ⟨u8,o8,rfl,ho8,hm8,hx8⟩
           obtain ⟨vp8,vn8,rfl,hp8,hn8⟩:=ho8
           obtain ⟨a8,c8,rfl⟩:=zec hp8
           obtain ⟨b8,d8,rfl⟩:=zec hn8.1
           have hE8:Ext VA V8:=Ext.trans (And.left (by with_reducible assumption)) hx8
           have hB8:w.heap.size≤VA.heap.size:=((Hx1.out.trans HE.out).trans HEA.out).size
           have hp9:zeb V8 w.heap.size (.slice a8 p.length c8) p:=zan hp8 (by first | exact hB8 | (rw [World.size_drew];exact hB8) | (simp only [World.size_alloc,World.size_drew];omega))
           have hn9:QwM V8 w.heap.size w.heap.size (.slice b8 o8.length d8) o8:=hn8.mono (by first | exact hB8 | (rw [World.size_drew];exact hB8) | (simp only [World.size_alloc,World.size_drew];omega)) (by first | exact hB8 | (rw [World.size_drew];exact hB8) | (simp only [World.size_alloc,World.size_drew];omega))
           have hS8:=HSQ.out V8 hE8
           first
             | (have hbz:zdM 28 V8 VA.heap.size (.slice none 0 0) (.slice none 0 0):=(zdM.new 28 VA.drew (.slice none 0 0) (.slice none 0 0)).ext hx8
                have k0:=hbz.c0
                have k1:=hbz.c1
                have z0:=hbz.fz 0
                have z1:=hbz.fz 1
                have Hbz:=hid hbz
                clear hbz)
             | (have hbz:=zdM.new 28 V8 (.slice none 0 0) (.slice none 0 0)
                have k0:=hbz.c0
                have k1:=hbz.c1
                have z0:=hbz.fz 0
                have z1:=hbz.fz 1
                have Hby:=hid hbz
                clear hbz)
           have HE8:=hid hE8
           have Hm8:=hid hm8
           have Hp8:=hid hp9
           have Hn8:=hid hn9
           clear hp8 hn8 hm8 hE8 hx8 hp9 hn9 hB8))
      all_goals
       first
        | have Hfin:Hid (zrL VA w.heap.size p (zlk p N g.l) (.pointer (some ⟨VA.heap.size,0,none⟩)) (.int .i64 0) ((V8.setCell ⟨VA.heap.size,0,none⟩ (.slice a8 p.length c8)).setCell ⟨VA.heap.size,1,none⟩ (.slice b8 o8.length d8))):=hid ⟨VA.heap.size,a8,c8,b8,d8,o8,rfl,rfl,Hbz.out.put _ _,(zrM Hbz.out Hp8.out Hn8.out).1,(zrM Hbz.out Hp8.out Hn8.out).2,Hm8.out,(HE8.out.setCell (p:=⟨VA.heap.size,0,none⟩) (Nat.le_refl _) _).setCell (p:=⟨VA.heap.size,1,none⟩) (Nat.le_refl _) _,Nat.le_refl _⟩
        | have Hfin:Hid (zrL VA w.heap.size p (zlk p N g.l) (.pointer (some ⟨V8.heap.size,0,none⟩)) (.int .i64 0) (V8.alloc (.cells #[.slice a8 p.length c8,.slice b8 o8.length d8] 28))):=hid ⟨V8.heap.size,a8,c8,b8,d8,o8,rfl,rfl,zdM.new 28 V8 _ _,((Ext.refl V8).alloc _).ownI Hp8.out,((Ext.refl V8).alloc _).qwM Hn8.out,Hm8.out,HE8.out.alloc _,HE8.out.size⟩
       go_wp2_with fail
       go_meet
       exact Hfin.out
     case rest =>
      obtain ⟨bk,a8,c8,b8,d8,out,rfl,rfl,hb8,hp8,hn8,hm8,hx8,hbk0⟩:=hcut
      obtain ⟨wb,hwb⟩:∃ wb,wb=wc:=⟨_,rfl⟩
      subst hwb
      have hsc:ScV wb (.agg #[.slice a8 p.length c8,.slice b8 out.length d8]) p out:=⟨_,_,rfl,zao hp8,hn8.rd⟩
      have hxb:=HEA.out.trans hx8
      have q3:=(Hbx.out.ext (HE.out.trans hxb)).cs.2.2.2.1
      have hh8:=Hho.out wb _ out ((Hx1.out.trans HE.out).trans hxb) hsc (by rw [hm8];exact Hwc.out)
      have k0:=hb8.c0
      have k1:=hb8.c1
      have hbk:wa.heap.size≤bk:=Nat.le_trans HEA.out.size hbk0
      have Hb8:=hid hb8;have Hp8:=hid hp8;have Hn8:=hid hn8;have Hm8:=hid hm8;have Hxb:=hid hxb;have Hh8:=hid hh8;have Hsc:=hid hsc
      obtain ⟨T,hT⟩:∃ T,T=tst P p (out.map Qw.x):=⟨_,rfl⟩
      have HTT:=hid hT
      rw [← hT] at Hh8
      clear hb8 hp8 hn8 hm8 hx8 hbk0 hsc hxb hh8 hT
      go_wp2_with fail
      refine Hh8.out.mono ?_
      rintro e wd ⟨rfl,hxd⟩
      have Hxd:=hid (Hxb.out.trans hxd)
      have Hb9:=hid (Hb8.out.ext hxd);have Hp9:=hid (hxd.ownI Hp8.out);have Hn9:=hid (hxd.qwM Hn8.out);have Hsd:=hid (Hsc.out.ext hxd)
      clear hxd k0 k1 q3 Hb8 Hp8 Hn8 Hxb Hsc
      go_wp2_with fail
      go_loopw [10,11] (fun v10 v11 wy=>∃ (k:Nat)(bo:Bool),v10=.bool bo∧v11=.int .i64 k∧k≤fs.length∧Hid (bo=(T && !(b && (fs.take k).any fun f=>znu p (f.rs.map Qw.x) (out.map Qw.x))))∧Ext wd wy) (fun _ v11 _=>fs.length - (zam v11).toNat)
      case atStart=>exact ⟨0,T,rfl,rfl,Nat.zero_le _,hid (by simp),Ext.refl _⟩
      case round =>
       obtain ⟨k,bo,rfl,rfl,hk,HB,hEz⟩:=hrel
       obtain ⟨wz,hwz⟩:∃ wz,wz=wr:=⟨_,rfl⟩
       subst hwz
       have HEz:=hid hEz;have HEw:=hid (Hxd.out.trans hEz)
       have k0:=(Hb9.out.ext hEz).c0
       have k1:=(Hb9.out.ext hEz).c1
       have q5:=(Hbx.out.ext (HE.out.trans HEw.out)).cs.2.2.2.2.2
       have hsz9:w1.heap.size≤wz.heap.size:=(HE.out.trans HEw.out).size
       clear hEz
       by_cases hgo:k<fs.length∧bo=true∧b=true
       ·obtain ⟨hkl,rfl,rfl⟩:=hgo
        rcases zrK (HA.out.ext HEw.out) with ⟨e0,_⟩ | ⟨g5,c5',e0⟩
        ·exact absurd hkl (by rw [e0];simp)
        injection e0 with e1 e2 e3
        clear e2
        subst e1 e3
        obtain ⟨f,a3,c3,a9,n9,c9,hfk,y1,y2,hs3,hm3,hw3⟩:=zrJ (HA.out.ext HEw.out) hkl
        have hk0:(0:Int)≤(k:Int):=by omega
        have hk1:(k:Int)<(fs.length:Int):=by omega
        obtain ⟨R,hR⟩:∃ R,R=znu p (f.rs.map Qw.x) (out.map Qw.x):=⟨_,rfl⟩
        have hmo:=fun W (hx:Ext wz W)=>Him.out W _ _ f.rs out (((Hx1.out.trans HE.out).trans HEw.out).trans hx) (hs3.ext hx) (Hsd.out.ext (HEz.out.trans hx)) (by rw [hm3];exact hw3) (by rw [Hm8.out];exact Hwc.out.wd)
        rw [← hR] at hmo
        have hnx:(!R)=(T && !(true && (fs.take (k+1)).any fun f=>znu p (f.rs.map Qw.x) (out.map Qw.x))):=by
         obtain ⟨hl2,e2⟩:=List.getElem?_eq_some_iff.1 hfk;have h0:=HB.out;rw [List.take_succ_eq_append_getElem hl2,List.any_append,e2,List.any_cons,List.any_nil,Bool.or_false,← hR];exact zrO h0
        have Hmo:=hid hmo;have Hnx:=hid hnx
        clear hmo hs3 hm3 hw3 hfk hR hnx
        go_wp2_with fail
        go_region_held3 (fun w'=>Ext wz w'∧w'.cell? ⟨g5,k * 2,none⟩=some (.slice a3 p.length c3)∧w'.cell? ⟨g5,k * 2+1,none⟩=some (.slice a9 n9 c9)∧w'.cell? ⟨bk,0,none⟩=some (.slice a8 p.length c8)∧w'.cell? ⟨bk,1,none⟩=some (.slice b8 out.length d8))
         (first | (with_reducible assumption) | exact ⟨(Ext.refl wz).drew,y1,y2,k0,k1⟩)
         (first
          | (go_at_call 80;refine (Hmo.out _ (And.left (by assumption))).mono ?_;rintro e9 VC ⟨rfl,hxa⟩;have hEC:Ext wz VC:=Ext.trans (And.left (by assumption)) hxa;have hS3:Ext wz VC∧VC.cell? ⟨g5,k * 2,none⟩=some (.slice a3 p.length c3)∧VC.cell? ⟨g5,k * 2+1,none⟩=some (.slice a9 n9 c9)∧VC.cell? ⟨bk,0,none⟩=some (.slice a8 p.length c8)∧VC.cell? ⟨bk,1,none⟩=some (.slice b8 out.length d8):=⟨hEC,hEC.cell y1,hEC.cell y2,hEC.cell k0,hEC.cell k1⟩;have HEC:=hid hEC;clear hxa hEC))
        all_goals
         clear hS3 y1 y2 k0 k1 q5
         go_wp2_with fail
         go_roundw
         case rel=>exact ⟨k+1,!R,rfl,by go_num,by omega,Hnx,HEz.out.trans HEC.out⟩
         case measure=>simp [zam];omega
       ·have hmono:((fs.take k).any fun f=>znu p (f.rs.map Qw.x) (out.map Qw.x))=true→(fs.any fun f=>znu p (f.rs.map Qw.x) (out.map Qw.x))=true:=fun e=>by
         rw [List.any_eq_true] at e ⊢;obtain ⟨f,hf,h⟩:=e;exact ⟨f,List.mem_of_mem_take hf,h⟩
        have hfin:bo=(T && !(b && fs.any fun f=>znu p (f.rs.map Qw.x) (out.map Qw.x))):=zrN HB.out (fun e1 e2=>by
         rw [show fs.take k=fs from List.take_of_length_le (by
          rcases Nat.lt_or_ge k fs.length with h | h
          ·exact absurd ⟨h,e1,e2⟩ hgo
          ·exact h)]) hmono
        have hsr:alL P b p N M (cs.take (i+1))=if bo=true then fs.map Fw.l++[g.l] else fs.map Fw.l:=by
         have h0:(T && !(b && fs.any fun f=>znu p (f.rs.map Qw.x) (out.map Qw.x)))=(tst P p (zlk p N g.l) && !(b && (fs.map Fw.l).any fun a=>znu p (zlk p N a) (zlk p N g.l))):=by
          rw [zp3 fun f hf=>(HA.out.all f hf).2.2.2.1,← Hm8.out,HTT.out]
         rw [Htk1.out,← HT.out,srA,← h0,← hfin]
        have Hsr:=hid hsr
        clear hmono hfin hsr
        cases bo with
        | false =>
         have HN2:=hid (show fs.map Fw.l=alL P b p N M (cs.take (i+1)) by rw [Hsr.out];rfl)
         by_cases hkl:k<fs.length
         ·have hk1:(k:Int)<(fs.length:Int):=by omega
          clear hgo k0 k1
          go_wp2_with fail
          go_roundw
          case rel=>first | exact ⟨i+1,fs,by go_num,by omega,HA.out.ext HEw.out,HN2,HE.out.trans HEw.out⟩ | ((repeat apply Exists.intro);exact ⟨⟨i+1,fs,by go_num,by omega,HA.out.ext HEw.out,HN2,HE.out.trans HEw.out⟩,rfl⟩)
          case measure=>simp [zam];omega
         ·have hk1:¬ (k:Int)<(fs.length:Int):=by omega
          clear hgo k0 k1
          go_wp2_with fail
          go_roundw
          case rel=>first | exact ⟨i+1,fs,by go_num,by omega,HA.out.ext HEw.out,HN2,HE.out.trans HEw.out⟩ | ((repeat apply Exists.intro);exact ⟨⟨i+1,fs,by go_num,by omega,HA.out.ext HEw.out,HN2,HE.out.trans HEw.out⟩,rfl⟩)
          case measure=>simp [zam];omega
        | true =>
         have HN2:=hid (show fs.map Fw.l++[g.l]=alL P b p N M (cs.take (i+1)) by rw [Hsr.out];rfl)
         have x1:=HEw.out.cell Hcell.out
         have HX:=hid (HE.out.trans HEw.out)
         have hF2:=(HA.out.ext HEw.out).two (f:=⟨.slice a2 gl c2,g.l,.slice a8 p.length c8,.slice b8 out.length d8,out⟩) ⟨HEw.out.ownI Hown.out,HEz.out.ownI Hp9.out,HEz.out.qwM Hn9.out,Hm8.out,Hwc.out.wd⟩
         have HF2:=hid hF2
         have HUr:=hid (fun r (e:(Value.slice a4 fs.length c4).ownBlock=some r)=>World.ownsRow.lt HA.out.us r e)
         have HVr:=hid (fun r (e:(Value.slice a5 fs.length c5).ownBlock=some r)=>World.ownsRow.lt HA.out.vs r e)
         have hgg:gg<w1.heap.size:=(Hg.out.lt gg rfl).2
         have hwz9:=HEw.out.size
         have hb1:fs.length+1≤maxLen:=by unfold maxLen;omega
         have hb2:(fs.length+1) * 24≤140737488355328:=by omega
         have hb3:(fs.length+1) * 48≤140737488355328:=by omega
         have HXa:=hid ((Ext.refl wz).drew.alloc (.cells #[.slice a2 gl c2] 24))
         have HXb:=hid (((Ext.refl wz).drew.alloc (.cells #[.slice a2 gl c2] 24)).alloc (.cells #[.slice a8 p.length c8,.slice b8 out.length d8] 28))
         have HXc:=hid (((Ext.refl wz).drew.alloc (.cells #[.slice a8 p.length c8,.slice b8 out.length d8] 28)).alloc (.cells #[.slice a2 gl c2] 24))
         clear hF2
         rcases Nat.lt_or_ge k fs.length with hkl | hkl
         case' inl =>
          obtain rfl:b=false:=by
           cases b
           ·rfl
           ·exact absurd ⟨hkl,rfl,rfl⟩ hgo
          have hk1:(k:Int)<(fs.length:Int):=by omega
          clear hgo
          go_wp2_with fail
          clear hk1
         case' inr =>
          have hk1:¬ (k:Int)<(fs.length:Int):=by omega
          clear hgo
          go_wp2_with fail
          clear hk1
         all_goals
          go_region_held3 (fun w'=>w'.cell? ⟨gg,i,none⟩=some (.slice a2 gl c2)∧w'.cell? ⟨bk,0,none⟩=some (.slice a8 p.length c8)∧w'.cell? ⟨bk,1,none⟩=some (.slice b8 out.length d8))
           (first | (with_reducible assumption) | exact ⟨(Ext.refl wz).drew.cell x1,(Ext.refl wz).drew.cell k0,(Ext.refl wz).drew.cell k1⟩ | exact ⟨HXa.out.cell x1,HXa.out.cell k0,HXa.out.cell k1⟩ | exact ⟨HXb.out.cell x1,HXb.out.cell k0,HXb.out.cell k1⟩ | exact ⟨HXc.out.cell x1,HXc.out.cell k0,HXc.out.cell k1⟩ | exact ⟨((Ext.refl wz).drew.alloc (.cells #[.slice a8 p.length c8,.slice b8 out.length d8] 28)).cell x1,((Ext.refl wz).drew.alloc (.cells #[.slice a8 p.length c8,.slice b8 out.length d8] 28)).cell k0,((Ext.refl wz).drew.alloc (.cells #[.slice a8 p.length c8,.slice b8 out.length d8] 28)).cell k1⟩ | exact zrQ _ hSB)
           (first
        | (have hpv:=HmA;clear hpv;refine zpM (wB.alloc (.cells #[.slice a8 p.length c8,.slice b8 out.length d8] 28)) rfl (.tmp 84) (.tmp 86) 74 rfl w1.heap.size 28 j0 (.agg #[.slice none 0 0,.slice none 0 0]) 2 48 Tryz.underlying74 hj hy0 hy1 hy2 rfl (by decide) (.slice a5 fs.length c5) fs.length (fwS fs) (by simp [Act.eval]) (HU.out.vs.alloc _) (some ⟨wB.heap.size,0,none⟩) 1 1 [.slice a8 p.length c8,.slice b8 out.length d8] (by simp [Act.eval]) (fun h=>by cases h) rfl (fun ad h=>by cases h;exact cell_two_new wB _ _ _) (by simp [Value.oneCell']) hb1 hb3 (Nat.le_trans hsz9 (Nat.le_trans Hwsz.out ((Ext.refl wB).alloc (.cells #[.slice a8 p.length c8,.slice b8 out.length d8] 28)).size)) ?_;intro vs' wC hoV hgV;obtain ⟨a21,c21,rfl⟩:=zec hoV;have HF4:=hid (Al2.done (f:=⟨.slice a2 gl c2,g.l,.slice a8 p.length c8,.slice b8 out.length d8,out⟩) ((HU.out.ext ((Ext.refl wB).alloc (.cells #[.slice a8 p.length c8,.slice b8 out.length d8] 28))).putV hgV hoV));have HXC:=hid ((HXB.out.trans ((Ext.refl wB).alloc (.cells #[.slice a8 p.length c8,.slice b8 out.length d8] 28))).grown hgV (fun r e=>(HVr.out r e).1));have hSC:wC.cell? ⟨gg,i,none⟩=some (.slice a2 gl c2)∧wC.cell? ⟨bk,0,none⟩=some (.slice a8 p.length c8)∧wC.cell? ⟨bk,1,none⟩=some (.slice b8 out.length d8):=zrP hgV ⟨((Ext.refl wB).alloc (.cells #[.slice a8 p.length c8,.slice b8 out.length d8] 28)).cell hSB.1,((Ext.refl wB).alloc (.cells #[.slice a8 p.length c8,.slice b8 out.length d8] 28)).cell hSB.2.1,((Ext.refl wB).alloc (.cells #[.slice a8 p.length c8,.slice b8 out.length d8] 28)).cell hSB.2.2⟩ (fun r e=>HVr.out r e) hgg hbk;clear hoV hgV)
        | (have hpv:=HmB;clear hpv;refine zpM (wB) rfl (.tmp 84) (.tmp 86) 74 rfl w1.heap.size 28 j0 (.agg #[.slice none 0 0,.slice none 0 0]) 2 48 Tryz.underlying74 hj hy0 hy1 hy2 rfl (by decide) (.slice a5 fs.length c5) fs.length (fwS fs) (by simp [Act.eval]) (HU.out.vs) (some ⟨wz.heap.size+1,0,none⟩) 1 1 [.slice a8 p.length c8,.slice b8 out.length d8] (by simp [Act.eval]) (fun h=>by cases h) rfl (fun ad h=>by cases h;exact HmB.out) (by simp [Value.oneCell']) hb1 hb3 (Nat.le_trans hsz9 (Nat.le_trans Hwsz.out (Ext.refl wB).size)) ?_;intro vs' wC hoV hgV;obtain ⟨a21,c21,rfl⟩:=zec hoV;have HF4:=hid (Al2.done (f:=⟨.slice a2 gl c2,g.l,.slice a8 p.length c8,.slice b8 out.length d8,out⟩) ((HU.out.ext (Ext.refl wB)).putV hgV hoV));have HXC:=hid ((HXB.out.trans (Ext.refl wB)).grown hgV (fun r e=>(HVr.out r e).1));have hSC:wC.cell? ⟨gg,i,none⟩=some (.slice a2 gl c2)∧wC.cell? ⟨bk,0,none⟩=some (.slice a8 p.length c8)∧wC.cell? ⟨bk,1,none⟩=some (.slice b8 out.length d8):=zrP hgV ⟨(Ext.refl wB).cell hSB.1,(Ext.refl wB).cell hSB.2.1,(Ext.refl wB).cell hSB.2.2⟩ (fun r e=>HVr.out r e) hgg hbk;clear hoV hgV)
        | (have hpv:=HmC;clear hpv;refine zpM (wB) rfl (.tmp 84) (.tmp 86) 74 rfl w1.heap.size 28 j0 (.agg #[.slice none 0 0,.slice none 0 0]) 2 48 Tryz.underlying74 hj hy0 hy1 hy2 rfl (by decide) (.slice a5 fs.length c5) fs.length (fwS fs) (by simp [Act.eval]) (HU.out.vs) (some ⟨wz.heap.size,0,none⟩) 1 1 [.slice a8 p.length c8,.slice b8 out.length d8] (by simp [Act.eval]) (fun h=>by cases h) rfl (fun ad h=>by cases h;exact HmC.out) (by simp [Value.oneCell']) hb1 hb3 (Nat.le_trans hsz9 (Nat.le_trans Hwsz.out (Ext.refl wB).size)) ?_;intro vs' wC hoV hgV;obtain ⟨a21,c21,rfl⟩:=zec hoV;have HF4:=hid (Al2.done (f:=⟨.slice a2 gl c2,g.l,.slice a8 p.length c8,.slice b8 out.length d8,out⟩) ((HU.out.ext (Ext.refl wB)).putV hgV hoV));have HXC:=hid ((HXB.out.trans (Ext.refl wB)).grown hgV (fun r e=>(HVr.out r e).1));have hSC:wC.cell? ⟨gg,i,none⟩=some (.slice a2 gl c2)∧wC.cell? ⟨bk,0,none⟩=some (.slice a8 p.length c8)∧wC.cell? ⟨bk,1,none⟩=some (.slice b8 out.length d8):=zrP hgV ⟨(Ext.refl wB).cell hSB.1,(Ext.refl wB).cell hSB.2.1,(Ext.refl wB).cell hSB.2.2⟩ (fun r e=>HVr.out r e) hgg hbk;clear hoV hgV)
        | (refine zpM ((wz.drew.alloc (.cells #[.slice a8 p.length c8,.slice b8 out.length d8] 28)).alloc (.cells #[.slice a2 gl c2] 24)) rfl (.tmp 77) (.tmp 82) 55 rfl w1.heap.size 24 i0 (.slice none 0 0) 1 24 Tryz.underlying55 hi hz0 hz1 hz2 rfl (by decide) (.slice a4 fs.length c4) fs.length (fwU fs) (by simp [Act.eval]) (HXc.out.own HF2.out.us) (some ⟨wz.heap.size+1,0,none⟩) 1 1 [.slice a2 gl c2] (by simp [Act.eval]) (fun h=>by cases h) rfl (fun ad h=>by cases h;exact zrS wz _ _ _) (by simp [Value.oneCell']) hb1 hb2 (Nat.le_trans hsz9 HXc.out.size) ?_;intro us' wB hoU hgU;obtain ⟨a20,c20,rfl⟩:=zec hoU;have HU:=hid ((HF2.out.ext HXc.out).putU hgU hoU);have HXB:=hid ((HX.out.trans HXc.out).grown hgU (fun r e=>(HUr.out r e).1));have hSB:wB.cell? ⟨gg,i,none⟩=some (.slice a2 gl c2)∧wB.cell? ⟨bk,0,none⟩=some (.slice a8 p.length c8)∧wB.cell? ⟨bk,1,none⟩=some (.slice b8 out.length d8):=zrP hgU ⟨HXc.out.cell x1,HXc.out.cell k0,HXc.out.cell k1⟩ (fun r e=>HUr.out r e) hgg hbk;have Hwsz:=hid (Nat.le_trans HXc.out.size hgU.size);have HmC:=hid (zp7 hgU (zrT wz (.slice a8 p.length c8) (.slice b8 out.length d8) 28 (.cells #[.slice a2 gl c2] 24)) (fun r e=>by have:=HUr.out r e;omega));clear hoU hgU)
        | (refine zpM ((wz.drew.alloc (.cells #[.slice a2 gl c2] 24)).alloc (.cells #[.slice a8 p.length c8,.slice b8 out.length d8] 28)) rfl (.tmp 77) (.tmp 82) 55 rfl w1.heap.size 24 i0 (.slice none 0 0) 1 24 Tryz.underlying55 hi hz0 hz1 hz2 rfl (by decide) (.slice a4 fs.length c4) fs.length (fwU fs) (by simp [Act.eval]) (HXb.out.own HF2.out.us) (some ⟨wz.heap.size,0,none⟩) 1 1 [.slice a2 gl c2] (by simp [Act.eval]) (fun h=>by cases h) rfl (fun ad h=>by cases h;exact zrU wz _ _ _) (by simp [Value.oneCell']) hb1 hb2 (Nat.le_trans hsz9 HXb.out.size) ?_;intro us' wB hoU hgU;obtain ⟨a20,c20,rfl⟩:=zec hoU;have HU:=hid ((HF2.out.ext HXb.out).putU hgU hoU);have HXB:=hid ((HX.out.trans HXb.out).grown hgU (fun r e=>(HUr.out r e).1));have hSB:wB.cell? ⟨gg,i,none⟩=some (.slice a2 gl c2)∧wB.cell? ⟨bk,0,none⟩=some (.slice a8 p.length c8)∧wB.cell? ⟨bk,1,none⟩=some (.slice b8 out.length d8):=zrP hgU ⟨HXb.out.cell x1,HXb.out.cell k0,HXb.out.cell k1⟩ (fun r e=>HUr.out r e) hgg hbk;have Hwsz:=hid (Nat.le_trans HXb.out.size hgU.size);have HmB:=hid (zp7 hgU (zrR wz (.cells #[.slice a2 gl c2] 24) (.slice a8 p.length c8) (.slice b8 out.length d8) 28) (fun r e=>by have:=HUr.out r e;omega));clear hoU hgU)
        | (refine zpM (wz.drew.alloc (.cells #[.slice a2 gl c2] 24)) rfl (.tmp 77) (.tmp 82) 55 rfl w1.heap.size 24 i0 (.slice none 0 0) 1 24 Tryz.underlying55 hi hz0 hz1 hz2 rfl (by decide) (.slice a4 fs.length c4) fs.length (fwU fs) (by simp [Act.eval]) (HXa.out.own HF2.out.us) (some ⟨wz.heap.size,0,none⟩) 1 1 [.slice a2 gl c2] (by simp [Act.eval]) (fun h=>by cases h) rfl (fun ad h=>by cases h;exact cell_one_new wz.drew _ _) (by simp [Value.oneCell']) hb1 hb2 (Nat.le_trans hsz9 HXa.out.size) ?_;intro us' wB hoU hgU;obtain ⟨a20,c20,rfl⟩:=zec hoU;have HU:=hid ((HF2.out.ext HXa.out).putU hgU hoU);have HXB:=hid ((HX.out.trans HXa.out).grown hgU (fun r e=>(HUr.out r e).1));have hSB:wB.cell? ⟨gg,i,none⟩=some (.slice a2 gl c2)∧wB.cell? ⟨bk,0,none⟩=some (.slice a8 p.length c8)∧wB.cell? ⟨bk,1,none⟩=some (.slice b8 out.length d8):=zrP hgU ⟨HXa.out.cell x1,HXa.out.cell k0,HXa.out.cell k1⟩ (fun r e=>HUr.out r e) hgg hbk;have Hwsz:=hid (Nat.le_trans HXa.out.size hgU.size);have HmA:=hid trivial;clear hoU hgU))
          all_goals
           go_wp2_with fail
           go_roundw
           case rel=>first | exact ⟨i+1,_,by go_num,by omega,HF4.out,hid (by rw [List.map_append];exact HN2.out),HXC.out⟩ | ((repeat apply Exists.intro);exact ⟨⟨i+1,_,by go_num,by omega,HF4.out,hid (by rw [List.map_append];exact HN2.out),HXC.out⟩,rfl⟩)
           case measure=>simp [zam];omega
  ·obtain rfl:i=gs.length:=by omega
   have hfin:fs.map Fw.l=alL P b p N M cs:=(by rw [HT.out,Hgl.out,Hfull.out]);have HA:=hid (hA.ls (by omega));have Hfin:=hid hfin;have HE:=hid (Hx1.out.trans hE);clear hfin hA hE;go_wp2_with fail
   go_ret2
   exact ⟨_,fwI fs,rfl,HA.out,by rw [zrC];exact Hfin.out,HE.out⟩
end
section
open Go.RowKit Go.Lib Go.Shelf
def zrW : List Int→List Int→Int
 | [],[]=>0
 | [],_::_=>-1
 | _::_,[]=>1
 | a::x,b::y=>if a<b then -1 else if b<a then 1 else zrW x y
theorem zrX {x y:List Int}{k:Nat}(h1:k<x.length)(h2:k<y.length):zrW (x.drop k) (y.drop k)=if (x[k]?).getD 0<(y[k]?).getD 0 then -1 else if (y[k]?).getD 0<(x[k]?).getD 0 then 1 else zrW (x.drop (k+1)) (y.drop (k+1)):=by
 have e:∀ {l:List Int}(h:k<l.length),l.drop k=(l[k]?).getD 0::l.drop (k+1):=fun {l} h=>by
  rw [List.drop_eq_getElem_cons h,List.getElem?_eq_getElem h];rfl
 rw [e h1,e h2,zrW]
theorem zrY {l:List Int}{k:Nat}(h:k<l.length):(zaq l)[k]?=some (.int .i64 ((l[k]?).getD 0)):=by
 unfold zaq;rw [List.getElem?_map,List.getElem?_eq_getElem h];rfl
theorem zrZ (va vb:Value)(x y:List Int)(w:World)(hx:Sl w va (zaq x))(hy:Sl w vb (zaq y))(hl:x.length≤1000000)(_hl2:y.length≤1000000) :
  Calls Tryz.prog 74 #[va,vb] w fun e w'=>e=.returned (.int .i64 (zrW x y))∧w=w':=by
 obtain ⟨aa,ca,rfl,_,_,hcx⟩:=hx.parts;obtain ⟨ab,cb,rfl,_,_,hcy⟩:=hy.parts;rw [zas] at *;rw [zas] at *;have Hcx:=hid hcx;clear hcx hx;have Hcy:=hid hcy;clear hcy hy;obtain ⟨r,hr⟩:∃ r,r=zrW x y:=⟨_,rfl⟩;rw [← hr];have Hr:=hid hr;clear hr;go_enter Tryz.func74,Tryz.ntmps74
 go_wp2
 go_loop [11] (fun i=>∃ k:Nat,i=.int .i64 k∧k≤x.length∧k≤y.length∧r=zrW (x.drop k) (y.drop k)) (fun i=>x.length - (zam i).toNat)
 case atStart=>exact ⟨0,rfl,Nat.zero_le _,Nat.zero_le _,by rw [List.drop_zero,List.drop_zero];exact Hr.out⟩
 case round =>
  obtain ⟨k,rfl,hk,hky0,hrk⟩:=hrel;by_cases hlt:k<x.length
  ·obtain ⟨bx,ox,rfl,hcx⟩:=Hcx.out k _ (zrY hlt);by_cases hky:k<y.length
   ·obtain ⟨b2,oy,rfl,hcy⟩:=Hcy.out k _ (zrY hky);rw [zrX hlt hky] at hrk;have hnk:¬ (y.length:Int)≤(k:Int):=(by omega);generalize (x[k]?).getD 0=a at *;generalize (y[k]?).getD 0=b at *;have hcmp:=fun w=>AnyG.cmp_Compare_int Tryz.lCompare a b w;have hci:compareInt a b=if a<b then -1 else if b<a then 1 else 0:=rfl;by_cases h1:a<b
    ·rw [if_pos h1] at hrk hci;rw [hci] at hcmp;have Hcmp:=hid hcmp;have Hrk:=hid hrk;clear hcmp hrk hci h1;go_wp2_with fail
     refine (Hcmp.out w).mono ?_;rintro e w1 ⟨rfl,rfl⟩;go_wp2
     go_ret
     exact ⟨zbk Hrk.out.symm,rfl⟩
    ·by_cases h2:b<a
     ·rw [if_neg h1,if_pos h2] at hrk hci;rw [hci] at hcmp;have Hcmp:=hid hcmp;have Hrk:=hid hrk;clear hcmp hrk hci h1 h2;go_wp2_with fail
      refine (Hcmp.out w).mono ?_;rintro e w1 ⟨rfl,rfl⟩;go_wp2
      go_ret
      exact ⟨zbk Hrk.out.symm,rfl⟩
     ·rw [if_neg h1,if_neg h2] at hrk hci;rw [hci] at hcmp;have Hcmp:=hid hcmp;have Hrk:=hid hrk;clear hcmp hrk hci h1 h2;go_wp2_with fail
      refine (Hcmp.out w).mono ?_;rintro e w1 ⟨rfl,rfl⟩;go_wp2
      go_round
      case rel=>exact ⟨k+1,by go_num,by omega,by omega,Hrk.out⟩
      case measure=>simp [zam];omega
   ·obtain rfl:k=y.length:=by omega
    have hr1:r=1:=by
     rw [hrk,List.drop_length];rw [List.drop_eq_getElem_cons hlt];rfl
    have Hr1:=hid hr1;clear hr1 hrk;have hle:(y.length:Int)≤(y.length:Int):=(by omega);go_wp2
    go_ret
    exact ⟨zbk Hr1.out.symm,rfl⟩
  ·obtain rfl:k=x.length:=by omega
   by_cases hxy:x.length<y.length
   ·have hr1:r=-1:=by
     rw [hrk,List.drop_length,List.drop_eq_getElem_cons hxy];rfl
    have Hr1:=hid hr1;clear hr1 hrk;go_wp2
    go_ret
    exact ⟨zbk Hr1.out.symm,rfl⟩
   ·have hr1:r=0:=by
     rw [hrk,List.drop_length,List.drop_eq_nil_of_le (by omega)];rfl
    have Hr1:=hid hr1;clear hr1 hrk;go_wp2
    go_ret
    exact ⟨zbk Hr1.out.symm,rfl⟩
end
end Go.Proofs.YtiameffonflhgaaGreatDoor
