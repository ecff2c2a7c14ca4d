/- Lists of rows laid out of constants: out of XLwB. (KEEPALL) (Printed by rebase.py.) Walk: law 37's known returns true. (KEEPALL) Walks: what the functions of epimorphism return for a wrong set (printed by epe.py). (KEEPALL) -/
import Derived.Test.YtkdgmahilfnnmaaGreatDoorPa23
import Derived.Test.YtkdgmahilfnnmaaGreatDoorPa14
import Derived.Deep.RegionHeld3
import Derived.RegionTactic
import Derived.ChangeAlike
set_option maxRecDepth 100000
set_option maxHeartbeats 4000000
namespace Go.Proofs.YtkdgmahilfnnmaaGreatDoor
section
open Go.RowKit Go.Lib
open Go.RowKit Go.Lib Go.Shelf
theorem znx {w:World}{b:Nat}{xs:List Value}{t:TypeId}(h:w.heap[b]?=some (.cells xs.toArray t (0,0)))(hm:xs.length≤maxLen):Sl w (.slice (some ⟨b,0,none⟩) xs.length xs.length) xs:=by
 refine .inr ⟨b,0,xs.length,rfl,Nat.le_refl _,hm,fun i u hu=>?_⟩;unfold World.cell?;rw [h];simpa using hu
theorem zny {w:World}{b:Nat}{us:List Value}{l:List (List Int)}{t:TypeId}(h:w.heap[b]?=some (.cells us.toArray t (0,0)))(hl:us.length=l.length)(hm:us.length≤maxLen)(hr:∀ i u,us[i]?=some u→Sl w u (zaA (l.getD i []))):Mat w (.slice (some ⟨b,0,none⟩) us.length us.length) l :=
 ⟨us,hl,znx h hm,hr⟩
theorem znz {w:World}{b n:Nat}{cs:Array Value}{t:TypeId}(xs:List Value)(h:w.heap[b]?=some (.cells cs t (0,0)))(hx:cs.toList=xs)(hn:xs.length=n)(hm:n≤1000):Sl w (.slice (some ⟨b,0,none⟩) n n) xs:=by
 subst hn;subst hx;exact znx (t:=t) h (by unfold maxLen;omega)
def zn0 (b:Nat)(rows:List (List Int)):List Obj:=rows.map (fun x=>Obj.cells (zaA x).toArray 3 (0,0))++[Obj.cells ((List.range rows.length).map fun i=>Value.slice (some ⟨b+i,0,none⟩) (rows.getD i []).length (rows.getD i []).length).toArray 26 (0,0)]
def zn1 (w:World)(rows:List (List Int)):World:=(zn0 w.heap.size rows).foldl World.alloc w
theorem zn2 (w:World)(rows:List (List Int))(h:rows.length≤1000)(hr:∀ x∈rows,x.length≤1000):Mat (zn1 w rows) (.slice (some ⟨w.heap.size+rows.length,0,none⟩) rows.length rows.length) rows∧Ext w (zn1 w rows):=by
 refine ⟨?_,znw w _⟩;have hl:(zn0 w.heap.size rows).length=rows.length+1:=by simp [zn0]
 have hb:=znv (zn0 w.heap.size rows) w rows.length (by omega);have e:(zn0 w.heap.size rows)[rows.length]?=some (Obj.cells ((List.range rows.length).map fun i=>Value.slice (some ⟨w.heap.size+i,0,none⟩) (rows.getD i []).length (rows.getD i []).length).toArray 26 (0,0)):=by
  unfold zn0;rw [List.getElem?_append_right (by simp)];simp
 rw [e] at hb;have hlen:((List.range rows.length).map fun i=>Value.slice (some ⟨w.heap.size+i,0,none⟩) (rows.getD i []).length (rows.getD i []).length).length=rows.length:=by simp
 have:=zny (w:=zn1 w rows) (l:=rows) hb hlen (by rw [hlen];unfold maxLen;omega) (fun i u hu=>by
  rw [List.getElem?_map] at hu;rcases Nat.lt_or_ge i rows.length with g | g
  ·rw [List.getElem?_range g] at hu;simp only [Option.map_some,Option.some.injEq] at hu;subst hu;have hi:=znv (zn0 w.heap.size rows) w i (by omega);have e2:(zn0 w.heap.size rows)[i]?=some (Obj.cells (zaA (rows.getD i [])).toArray 3 (0,0)):=by
    unfold zn0;rw [List.getElem?_append_left (by simpa using g),List.getElem?_map,List.getD_eq_getElem?_getD,List.getElem?_eq_getElem g];rfl
   rw [e2] at hi;exact znz (zaA (rows.getD i [])) hi rfl (by rw [zaC]) (by
    rw [List.getD_eq_getElem?_getD,List.getElem?_eq_getElem g];exact hr _ (List.getElem_mem g))
  ·rw [List.getElem?_eq_none (by simpa using g)] at hu;cases hu)
 rw [hlen] at this;exact this
end
section
open Go.RowKit Go.Lib Go.Shelf
def zn3 (w:World)(b:Nat)(rows:List (List Int)):World:=(zn0 b rows).foldl World.alloc w
theorem zn4 (w:World)(b:Nat)(rows:List (List Int))(hb:w.heap.size=b)(h:rows.length≤1000)(hr:∀ x∈rows,x.length≤1000):Mat (zn3 w b rows) (.slice (some ⟨b+rows.length,0,none⟩) rows.length rows.length) rows∧Ext w (zn3 w b rows):=by
 subst hb;exact zn2 w rows h hr
theorem zn5 : ∀ (os:List Obj)(w:World),(os.foldl World.alloc w).heap.size=w.heap.size+os.length
 | [],_=>rfl
 | o::os,w=>by
  rw [List.foldl_cons,zn5 os,World.size_alloc,List.length_cons];omega
theorem zn6 (w:World)(b:Nat)(rows:List (List Int)):(zn3 w b rows).heap.size=w.heap.size+(rows.length+1):=by
 unfold zn3;rw [zn5];unfold zn0;rw [List.length_append,List.length_map];rfl
theorem zn7 (w:World):Calls Tryz.prog 22 #[] w fun e w'=>∃ p b n q c m,e=.returned (.agg #[.slice p b n,.slice q c m])∧Sl w' (.slice p b n) (zaA [2,3,5])∧Mat w' (.slice q c m) zgi∧Ext w w':=by
 have hb:=zmX.new 32 w (.slice none 0 0) (.slice none 0 0);have c0:=hb.c0;have c1:=hb.c1;have z0:=hb.fz 0;have z1:=hb.fz 1;have hB:=(Ext.refl w).alloc (.cells #[.slice (some ⟨w.heap.size+1,0,none⟩) 3 3,.slice (some ⟨w.heap.size+1+1+7,0,none⟩) 7 7] 32);have hs1:(w.alloc (.cells #[.slice (some ⟨w.heap.size+1,0,none⟩) 3 3,.slice (some ⟨w.heap.size+1+1+7,0,none⟩) 7 7] 32)).heap.size=w.heap.size+1:=World.size_alloc ..;have hp0:=World.alloc_heap_new (w.alloc (.cells #[.slice (some ⟨w.heap.size+1,0,none⟩) 3 3,.slice (some ⟨w.heap.size+1+1+7,0,none⟩) 7 7] 32)) (.cells #[.int .i64 2,.int .i64 3,.int .i64 5] 3);have hs2:((w.alloc (.cells #[.slice (some ⟨w.heap.size+1,0,none⟩) 3 3,.slice (some ⟨w.heap.size+1+1+7,0,none⟩) 7 7] 32)).alloc (.cells #[.int .i64 2,.int .i64 3,.int .i64 5] 3)).heap.size=w.heap.size+1+1:=by rw [World.size_alloc,hs1]
 obtain ⟨hm,hE⟩:=zn4 _ (w.heap.size+1+1) zgi hs2 (by decide) (by decide);rw [hs1] at hp0;have hp1:=hE.sl (znz (n:=3) (zaA [2,3,5]) hp0 rfl rfl (by omega));have hE9:=(hB.alloc (.cells #[.int .i64 2,.int .i64 3,.int .i64 5] 3)).trans hE;have hbx:=zmX.ext (((Ext.refl _).alloc (.cells #[.int .i64 2,.int .i64 3,.int .i64 5] 3)).trans hE) (zmX.new 32 w (.slice (some ⟨w.heap.size+1,0,none⟩) 3 3) (.slice (some ⟨w.heap.size+1+1+7,0,none⟩) 7 7));have Hm:=hid hm;have Hp1:=hid hp1;have HE9:=hid hE9;have Hbx:=hid hbx;clear hm hp1 hE9 hbx;clear hb hB hs1 hs2 hp0 hE;go_enter Tryz.func22,Tryz.ntmps22
 go_wp2_with fail
 show bodyPost _ _ _ _ _ (zn3 ((w.alloc (.cells #[.slice (some ⟨w.heap.size+1,0,none⟩) 3 3,.slice (some ⟨w.heap.size+1+1+7,0,none⟩) 7 7] 32)).alloc (.cells #[.int .i64 2,.int .i64 3,.int .i64 5] 3)) (w.heap.size+1+1) zgi);generalize zn3 ((w.alloc (.cells #[.slice (some ⟨w.heap.size+1,0,none⟩) 3 3,.slice (some ⟨w.heap.size+1+1+7,0,none⟩) 7 7] 32)).alloc (.cells #[.int .i64 2,.int .i64 3,.int .i64 5] 3)) (w.heap.size+1+1) zgi=W9 at *;have hd0:=Hbx.out.c0;have hd1:=Hbx.out.c1;exact bodyPost_ret (v:=.agg #[.slice (some ⟨w.heap.size+1,0,none⟩) 3 3,.slice (some ⟨w.heap.size+1+1+7,0,none⟩) 7 7]) (by simp [results,Tryz.results22,go_sem,hd0,hd1]) rfl ⟨_,_,_,_,_,_,rfl,Hp1.out,Hm.out,HE9.out⟩
def zn8 : List (List Int):=[[-3,2,0],[-2,0,1],[-1,1,0],[1,0,0]]
def ofZ : List (List Int):=[[0,1,0],[0,2,0],[0,3,0],[0,4,0],[0,0,0]]
def zn9 : List (List Int):=[[-1,1,0],[-3,2,0],[-4,3,0],[-6,4,0],[0,0,0]]
def znA : List (List Int):=[[-3,2,0],[-6,4,0],[-1,1,0],[-4,3,0]]
theorem znB {l:List (List Int)}{k:Nat}(h:(zgd l 0 [] []).map (fun r=>r.1.length)=some (k+1)):∀ mF aF,zgd l 0 [] []=some (mF,aF)→0<mF.length:=fun mF aF e=>by
 rw [e] at h;have:=Option.some.inj h;dsimp only at this;omega
theorem znC : (zgd zgi 0 [] []).map (fun r=>r.1.length)=some (2+1):=by decide +kernel
theorem znD : (zgd zn8 0 [] []).map (fun r=>r.1.length)=some (2+1):=by decide +kernel
theorem znE : (zgd (znA++[zi6 2]) 0 [] []).map (fun r=>r.1.length)=some (1+1):=by decide +kernel
theorem znF : ziI [2,3,5] zgi=0:=by decide +kernel
theorem znG : ziI [2,3,5] zn8=0:=by decide +kernel
theorem znH : ziI [2,3,5] (znA++[zi6 2])=0:=by decide +kernel
def znI (x:List Int):Rat:=if x=[-3,2,0] then 0 else if x=[-6,4,0] then 1 else if x=[-1,1,0] then 2 else 3
theorem znJ : ∀ x∈zn9.filter nzI,∀ y∈zn9.filter nzI,(ziT [2,3,5] x y<0 ↔ znI x<znI y):=by decide +kernel
theorem znK : ∀ x∈zn9.filter nzI,∀ y∈zn9.filter nzI,znI x=znI y→x=y:=by decide +kernel
theorem znL : znA.Perm (zn9.filter nzI):=by decide +kernel
theorem znM : znA.Pairwise fun x y=>znI x≤znI y:=by decide +kernel
theorem znN (d:List (List Int))(h:d.Perm (zn9.filter nzI))(hs:d.Pairwise fun x y=>znI x≤znI y):d=znA:=by
 refine List.Perm.eq_of_pairwise (le:=fun x y=>znI x≤znI y) (fun x y hx hy h1 h2=>?_) hs znM (h.trans znL.symm);exact znK x (h.mem_iff.1 hx) y (znL.mem_iff.1 hy) (Rat.le_antisymm h1 h2)
theorem znO : ∀ (i:Nat)(x o:List Int),ofZ[i]?=some x→zn9[i]?=some o→znr [2,3,5] 2 x o:=fun i x o hx ho=>by
 match i,hx,ho with
 | 0,hx,ho=>obtain rfl:=Option.some.inj hx;obtain rfl:=Option.some.inj ho;exact ⟨⟨0,[1,0],1,rfl,rfl,by decide +kernel,.inr (by unfold okE;decide +kernel),by decide +kernel,by decide,by decide,by decide +kernel⟩,by decide +kernel⟩
 | 1,hx,ho=>obtain rfl:=Option.some.inj hx;obtain rfl:=Option.some.inj ho;exact ⟨⟨0,[2,0],3,rfl,rfl,by decide +kernel,.inr (by unfold okE;decide +kernel),by decide +kernel,by decide,by decide,by decide +kernel⟩,by decide +kernel⟩
 | 2,hx,ho=>obtain rfl:=Option.some.inj hx;obtain rfl:=Option.some.inj ho;exact ⟨⟨0,[3,0],4,rfl,rfl,by decide +kernel,.inr (by unfold okE;decide +kernel),by decide +kernel,by decide,by decide,by decide +kernel⟩,by decide +kernel⟩
 | 3,hx,ho=>obtain rfl:=Option.some.inj hx;obtain rfl:=Option.some.inj ho;exact ⟨⟨0,[4,0],6,rfl,rfl,by decide +kernel,.inr (by unfold okE;decide +kernel),by decide +kernel,by decide,by decide,by decide +kernel⟩,by decide +kernel⟩
 | 4,hx,ho=>obtain rfl:=Option.some.inj hx;obtain rfl:=Option.some.inj ho;exact ⟨⟨0,[0,0],0,rfl,rfl,by decide +kernel,.inl (by decide +kernel),by decide +kernel,by decide,by decide,by decide +kernel⟩,by decide +kernel⟩
 | i+5,hx,_=>simp [ofZ] at hx
theorem znP : zn9.filter nzI ≠ []:=by decide +kernel
theorem znQ : ∀ j,j<znA.length→zj6 znA j=true:=by decide +kernel
theorem znR : zhe [2,3,5] (zi6 2)=0∧zhv [2,3,5] (zi6 2)=1:=by decide +kernel
theorem znS : zgW [2,3,5] ofZ=0:=by decide +kernel
theorem znT (w:World)(he:Env w):Calls Tryz.prog 5 #[] w fun e w'=>e=.returned (.bool true)∧Ext w w':=by
 have hva:=fun vp vl (l:List (List Int))(R:Option (List Int)) k W (hE:Ext w W)(hp:Sl W vp (zaA [2,3,5]))(hl:Mat W vl l)(h1:ziI [2,3,5] l=0)(h2:zgh l=some R)(h3:(zgd l 0 [] []).map (fun r=>r.1.length)=some (k+1))=>znl vp vl [2,3,5] l R W (he.ext hE) hp hl h1 (by decide) h2 (znB h3);have hof:=fun vp vq vl W (hE:Ext w W)(hp:Sl W vp (zaA [2,3,5]))(hq:Sl W vq (zaA (zi6 2)))(hl:Mat W vl ofZ)=>znt vp vq vl [2,3,5] 2 5 ofZ zn9 znA znI W (he.ext hE) hp hq hl rfl (.inr ⟨rfl,rfl⟩) rfl (by decide) rfl znR.1 znR.2 znS znO znP znJ znN znQ;have hma:=fun W=>zn7 W;have Hva:=hid hva;have Hof:=hid hof;have Hma:=hid hma;clear hva hof hma;clear he;go_enter Tryz.func5,Tryz.ntmps5
 go_wp2_with fail
 refine (Hma.out w).mono ?_;rintro e w1 ⟨p1,b1,n1,q1,c1,m1,rfl,hp1,hm1,hx1⟩;have hv1:=Hva.out _ _ zgi (some [7,11,16]) 2 w1 hx1 hp1 hm1 znF zgj znC;have Hx1:=hid hx1;have Hv1:=hid hv1;clear hx1 hv1;clear hp1 hm1;go_wp2_with fail
 refine Hv1.out.mono ?_;rintro e w2 ⟨⟨v,rfl,_,hs⟩,hx2⟩;obtain ⟨hs2,_⟩:=hs _ rfl;obtain ⟨av,cv,rfl,_,_,_⟩:=hs2.parts;have Hx2:=hid (Hx1.out.trans hx2);have Hs2:=hid hs2;clear hs hs2 hx2
 -- the second set
 have hp0:=World.alloc_heap_new w2 (.cells #[.int .i64 2,.int .i64 3,.int .i64 5] 3)
 have hsz:=World.size_alloc w2 (.cells #[.int .i64 2,.int .i64 3,.int .i64 5] 3)
 obtain ⟨hm3,hE3⟩:=zn4 _ (w2.heap.size+1) zn8 hsz (by decide) (by decide)
 have hp3:=hE3.sl (znz (n:=3) (zaA [2,3,5]) hp0 rfl rfl (by omega))
 have hX3:=((Ext.refl w2).alloc (.cells #[.int .i64 2,.int .i64 3,.int .i64 5] 3)).trans hE3
 have hbx:=zmX.new 32 (zn3 (w2.alloc (.cells #[.int .i64 2,.int .i64 3,.int .i64 5] 3)) (w2.heap.size+1) zn8) (.slice (some ⟨w2.heap.size,0,none⟩) 3 3) (.slice (some ⟨w2.heap.size+1+4,0,none⟩) 4 4)
 have hls:(zn3 (w2.alloc (.cells #[.int .i64 2,.int .i64 3,.int .i64 5] 3)) (w2.heap.size+1) zn8).heap.size=w2.heap.size+1+1+1+1+1+1:=by rw [zn6,hsz];rfl
 rw [hls] at hbx
 have hX4:=(hX3.alloc (.cells #[.slice (some ⟨w2.heap.size,0,none⟩) 3 3,.slice (some ⟨w2.heap.size+1+4,0,none⟩) 4 4] 32))
 have hY4:=(Ext.refl (zn3 (w2.alloc (.cells #[.int .i64 2,.int .i64 3,.int .i64 5] 3)) (w2.heap.size+1) zn8)).alloc (.cells #[.slice (some ⟨w2.heap.size,0,none⟩) 3 3,.slice (some ⟨w2.heap.size+1+4,0,none⟩) 4 4] 32)
 have hm4:=hY4.mat hm3
 have hp4:=hY4.sl hp3
 have Hm4:=hid hm4;have Hp4:=hid hp4;have HX4:=hid hX4;have Hbx:=hid hbx;clear hm4 hp4 hX4 hbx
 clear hp0 hsz hE3 hls hX3 hY4 hm3 hp3
 go_upto_region 3 with fail
 show Code.wp _ _ _ _ ((zn3 (w2.alloc (.cells #[.int .i64 2,.int .i64 3,.int .i64 5] 3)) (w2.heap.size+1) zn8).alloc (.cells #[.slice (some ⟨w2.heap.size,0,none⟩) 3 3,.slice (some ⟨w2.heap.size+1+4,0,none⟩) 4 4] 32))
 generalize (zn3 (w2.alloc (.cells #[.int .i64 2,.int .i64 3,.int .i64 5] 3)) (w2.heap.size+1) zn8).alloc (.cells #[.slice (some ⟨w2.heap.size,0,none⟩) 3 3,.slice (some ⟨w2.heap.size+1+4,0,none⟩) 4 4] 32)=w3 at *
 have HX3:=hid (Hx2.out.trans HX4.out)
 have Hs3:=hid (HX4.out.sl Hs2.out)
 have hv3:=Hva.out _ _ zn8 none 2 w3 HX3.out Hp4.out Hm4.out znG zgk znD
 have c0:=Hbx.out.c0
 have c1:=Hbx.out.c1
 have Hv3:=hid hv3;clear hv3
 go_wp2_with fail
 refine Hv3.out.mono ?_
 rintro e w4 ⟨⟨v4,rfl,hn4,_⟩,hx4⟩
 have hn5:=hn4 rfl
 subst hn5
 have Hx4:=hid (HX3.out.trans hx4)
 have Hs4:=hid (hx4.sl Hs3.out)
 clear hn4 hx4 c0 c1
 -- five fifths
 have hp0:=World.alloc_heap_new w4 (.cells #[.int .i64 2,.int .i64 3,.int .i64 5] 3)
 have hq0:=World.alloc_heap_new (w4.alloc (.cells #[.int .i64 2,.int .i64 3,.int .i64 5] 3)) (.cells #[.int .i64 1,.int .i64 0,.int .i64 0] 3)
 rw [World.size_alloc] at hq0
 have hsz:((w4.alloc (.cells #[.int .i64 2,.int .i64 3,.int .i64 5] 3)).alloc (.cells #[.int .i64 1,.int .i64 0,.int .i64 0] 3)).heap.size=w4.heap.size+1+1:=by rw [World.size_alloc,World.size_alloc]
 obtain ⟨hm5,hE5⟩:=zn4 _ (w4.heap.size+1+1) ofZ hsz (by decide) (by decide)
 have hp5:=hE5.sl (((Ext.refl _).alloc (.cells #[.int .i64 1,.int .i64 0,.int .i64 0] 3)).sl (znz (n:=3) (zaA [2,3,5]) hp0 rfl rfl (by omega)))
 have hq5:=hE5.sl (znz (n:=3) (zaA (zi6 2)) hq0 rfl rfl (by omega))
 have hX5:=(((Ext.refl w4).alloc (.cells #[.int .i64 2,.int .i64 3,.int .i64 5] 3)).alloc (.cells #[.int .i64 1,.int .i64 0,.int .i64 0] 3)).trans hE5
 have ho5:=Hof.out _ _ _ (zn3 ((w4.alloc (.cells #[.int .i64 2,.int .i64 3,.int .i64 5] 3)).alloc (.cells #[.int .i64 1,.int .i64 0,.int .i64 0] 3)) (w4.heap.size+1+1) ofZ) (Hx4.out.trans hX5) hp5 hq5 hm5
 have Ho5:=hid ho5;have HX5:=hid hX5;clear ho5 hX5
 clear hp0 hq0 hsz hE5 hm5 hp5 hq5
 go_wp2_with fail
 refine Ho5.out.mono ?_
 rintro e w6 ⟨vp6,vn6,rfl,hp6,hm6,hx6⟩
 obtain ⟨ap6,cp6,rfl,_,_,_⟩:=hp6.parts
 have hm6':=hm6
 obtain ⟨vs6,hvl6,hvs6,_⟩:=hm6'
 obtain ⟨am6,cm6,rfl,_,_,_⟩:=hvs6.parts
 have hl6:vs6.length=5:=by rw [hvl6];rfl
 rw [hl6] at hm6 ⊢
 have hl7:(zaA [2,3,5]).length=3:=rfl
 rw [hl7] at hp6 ⊢
 have Hx6:=hid ((Hx4.out.trans HX5.out).trans hx6)
 have Hs6:=hid ((HX5.out.trans hx6).sl Hs4.out)
 have hbx6:=zmX.new 32 w6 (.slice ap6 3 cp6) (.slice am6 5 cm6)
 have hy6:=(Ext.refl w6).alloc (.cells #[.slice ap6 3 cp6,.slice am6 5 cm6] 32)
 have hv6:=Hva.out _ _ (znA++[zi6 2]) (some [5,8,0]) 1 _ (Hx6.out.trans hy6) (hy6.sl hp6) (hy6.mat hm6) znH zgl znE
 have c0:=hbx6.c0
 have c1:=hbx6.c1
 have Hv6:=hid hv6;have Hbx6:=hid hbx6;have Hy6:=hid hy6;clear hv6 hbx6 hy6
 clear hx6 hp6 hm6 hvs6 hvl6 hl6 hl7
 go_wp2_with fail
 refine Hv6.out.mono ?_
 rintro e w7 ⟨⟨v7,rfl,_,hs7⟩,hx7⟩
 obtain ⟨hs8,_⟩:=hs7 _ rfl
 obtain ⟨a7,c7,rfl,_,_,_⟩:=hs8.parts
 have hbx7:=zmX.ext hx7 Hbx6.out
 have Hx7:=hid ((Hx6.out.trans Hy6.out).trans hx7)
 have Hs7:=hid ((Hy6.out.trans hx7).sl Hs6.out)
 have Hs8:=hid hs8
 clear hs7 hs8 hx7 c0 c1
 have c0:=hbx7.c0
 have c1:=hbx7.c1
 -- the first row
 have ha0:=World.alloc_heap_new w7 (.cells #[.int .i64 7,.int .i64 11,.int .i64 16] 3)
 have hy7:=(Ext.refl w7).alloc (.cells #[.int .i64 7,.int .i64 11,.int .i64 16] 3)
 have he7:=zj4 _ _ [7,11,16] [7,11,16] _ (hy7.sl Hs7.out) (znz (n:=3) (zaA [7,11,16]) ha0 rfl rfl (by omega)) (by decide) (by decide)
 rw [decide_eq_true rfl] at he7
 have He7:=hid he7;have Hy7:=hid hy7;have Hbx7:=hid hbx7;clear he7 hy7 hbx7
 clear ha0
 go_wp2_with fail
 refine He7.out.mono ?_
 rintro e w8 ⟨rfl,hq8⟩
 have hx8:=Hy7.out.trans hq8.ext
 have hb8:=zmX.ext hx8 Hbx7.out
 have Hx8:=hid (Hx7.out.trans hx8)
 have Hs9:=hid (hx8.sl Hs8.out)
 clear hq8 hx8 c0 c1
 have c0:=hb8.c0
 have c1:=hb8.c1
 have ha0:=World.alloc_heap_new w8 (.cells #[.int .i64 5,.int .i64 8,.int .i64 0] 3)
 have hy8:=(Ext.refl w8).alloc (.cells #[.int .i64 5,.int .i64 8,.int .i64 0] 3)
 have he8:=zj4 _ _ [5,8,0] [5,8,0] _ (hy8.sl Hs9.out) (znz (n:=3) (zaA [5,8,0]) ha0 rfl rfl (by omega)) (by decide) (by decide)
 rw [decide_eq_true rfl] at he8
 have He8:=hid he8;have Hy8:=hid hy8;clear he8 hy8
 clear ha0 hb8
 go_wp2_with fail
 refine He8.out.mono ?_
 rintro e w9 ⟨rfl,hq9⟩
 have Hx9:=hid ((Hx8.out.trans Hy8.out).trans hq9.ext)
 clear hq9 c0 c1
 go_wp2
 go_ret
 exact ⟨rfl,Hx9.out⟩
structure znU (w:World)(vp vl:Value)(p:List Int)(l:List (List Int)):Prop where
 e:Env w
 sp:Sl w vp (zaA p)
 sl:Mat w vl l
 fp:p.length≤1000
 fl:l.length≤1000
 fr:∀ i,(l.getD i []).length≤1000
section
variable {w W : World} {vp vl : Value} {p : List Int} {l : List (List Int)}
theorem znU.ext (h:znU w vp vl p l)(hx:Ext w W):znU W vp vl p l:=⟨h.e.ext hx,hx.sl h.sp,hx.mat h.sl,h.fp,h.fl,h.fr⟩
theorem znU.check (h:znU w vp vl p l):Calls Tryz.prog 14 #[.agg #[vp,vl]] w fun e w'=>e=.returned (.int .i64 (ziI p l))∧Ext w w':=zmz vp vl p l w h.e h.sp h.sl h.fp h.fl h.fr
theorem znU.shape (h:znU w vp vl p l):∃ ap cp am cm,vp=.slice ap p.length cp∧vl=.slice am l.length cm:=by
 obtain ⟨ap,cp,e1,_,_,_⟩:=h.sp.parts;obtain ⟨vs,hvl,hvs,_⟩:=h.sl;obtain ⟨am,cm,e2,_,_,_⟩:=hvs.parts;rw [zaC] at e1;rw [hvl] at e2;exact ⟨_,_,_,_,e1,e2⟩
end
theorem znV (k:Int)(vp vl:Value)(p:List Int)(l:List (List Int))(w:World)(h:znU w vp vl p l)(h0:ziI p l ≠ 0) :
  Calls Tryz.prog 16 #[.agg #[vp,vl],.int .i64 k] w fun e w'=>e=.returned (.tuple #[.slice none 0 0,.int .i64 (ziI p l)])∧Ext w w':=by
 have hck:=fun W (hE:Ext w W)=>(h.ext hE).check;have ht:(ziI p l != 0)=true:=by rw [bne_iff_ne];exact h0
 obtain ⟨ap,cp,am,cm,rfl,rfl⟩:=h.shape;generalize p.length=n at *;generalize l.length=m at *;have hE0:Ext w (w.alloc (.cells #[.slice ap n cp,.slice am m cm] 32)):=(Ext.refl w).alloc _;have hb:=zmX.new 32 w (.slice ap n cp) (.slice am m cm);have c0:=hb.c0;have c1:=hb.c1;generalize ziI p l=r at *;have Hck:=hid hck;have HE0:=hid hE0;clear hck hE0;clear h hb;go_enter Tryz.func16,Tryz.ntmps16
 go_wp2_with fail
 refine (Hck.out _ HE0.out).mono ?_;rintro e w1 ⟨rfl,hx1⟩;have Hx1:=hid hx1;clear hx1;clear c0 c1;go_wp2
 go_ret2
 exact ⟨rfl,HE0.out.trans Hx1.out⟩
theorem znW (vp vl:Value)(p:List Int)(l:List (List Int))(w:World)(h:znU w vp vl p l)(h0:ziI p l ≠ 0) :
  Calls Tryz.prog 17 #[.agg #[vp,vl]] w fun e w'=>e=.returned (.tuple #[.slice none 0 0,.int .i64 (ziI p l)])∧Ext w w':=by
 have hck:=fun W (hE:Ext w W)=>(h.ext hE).check;have ht:(ziI p l != 0)=true:=by rw [bne_iff_ne];exact h0
 obtain ⟨ap,cp,am,cm,rfl,rfl⟩:=h.shape;generalize p.length=n at *;generalize l.length=m at *;have hE0:Ext w (w.alloc (.cells #[.slice ap n cp,.slice am m cm] 32)):=(Ext.refl w).alloc _;have hb:=zmX.new 32 w (.slice ap n cp) (.slice am m cm);have c0:=hb.c0;have c1:=hb.c1;generalize ziI p l=r at *;have Hck:=hid hck;have HE0:=hid hE0;clear hck hE0;clear h hb;go_enter Tryz.func17,Tryz.ntmps17
 go_wp2_with fail
 refine (Hck.out _ HE0.out).mono ?_;rintro e w1 ⟨rfl,hx1⟩;have Hx1:=hid hx1;clear hx1;clear c0 c1;go_wp2
 go_ret2
 exact ⟨rfl,HE0.out.trans Hx1.out⟩
theorem znX (vp vl:Value)(p:List Int)(l:List (List Int))(w:World)(h:znU w vp vl p l)(h0:ziI p l ≠ 0) :
  Calls Tryz.prog 20 #[.agg #[vp,vl]] w fun e w'=>e=.returned (.tuple #[.slice none 0 0,.int .i64 (ziI p l)])∧Ext w w':=by
 have hck:=fun W (hE:Ext w W)=>(h.ext hE).check;have ht:(ziI p l != 0)=true:=by rw [bne_iff_ne];exact h0
 obtain ⟨ap,cp,am,cm,rfl,rfl⟩:=h.shape;generalize p.length=n at *;generalize l.length=m at *;have hE0:Ext w (w.alloc (.cells #[.slice ap n cp,.slice am m cm] 32)):=(Ext.refl w).alloc _;have hb:=zmX.new 32 w (.slice ap n cp) (.slice am m cm);have c0:=hb.c0;have c1:=hb.c1;generalize ziI p l=r at *;have Hck:=hid hck;have HE0:=hid hE0;clear hck hE0;clear h hb;go_enter Tryz.func20,Tryz.ntmps20
 go_wp2_with fail
 refine (Hck.out _ HE0.out).mono ?_;rintro e w1 ⟨rfl,hx1⟩;have Hx1:=hid hx1;clear hx1;clear c0 c1;go_wp2
 go_ret2
 exact ⟨rfl,HE0.out.trans Hx1.out⟩
theorem znY (vx:Value)(vp vl:Value)(p:List Int)(l:List (List Int))(w:World)(h:znU w vp vl p l)(h0:ziI p l ≠ 0) :
  Calls Tryz.prog 21 #[.agg #[vp,vl],vx] w fun e w'=>e=.returned (.tuple #[.slice none 0 0,.int .i64 (ziI p l)])∧Ext w w':=by
 have hck:=fun W (hE:Ext w W)=>(h.ext hE).check;have ht:(ziI p l != 0)=true:=by rw [bne_iff_ne];exact h0
 obtain ⟨ap,cp,am,cm,rfl,rfl⟩:=h.shape;generalize p.length=n at *;generalize l.length=m at *;have hE0:Ext w (w.alloc (.cells #[.slice ap n cp,.slice am m cm] 32)):=(Ext.refl w).alloc _;have hb:=zmX.new 32 w (.slice ap n cp) (.slice am m cm);have c0:=hb.c0;have c1:=hb.c1;generalize ziI p l=r at *;have Hck:=hid hck;have HE0:=hid hE0;clear hck hE0;clear h hb;go_enter Tryz.func21,Tryz.ntmps21
 go_wp2_with fail
 refine (Hck.out _ HE0.out).mono ?_;rintro e w1 ⟨rfl,hx1⟩;have Hx1:=hid hx1;clear hx1;clear c0 c1;go_wp2
 go_ret2
 exact ⟨rfl,HE0.out.trans Hx1.out⟩
theorem znZ (ax:Option Addr)(nx cx:Nat)(vp vl:Value)(p:List Int)(l:List (List Int))(w:World)(h:znU w vp vl p l)(h0:ziI p l ≠ 0) :
  Calls Tryz.prog 9 #[.agg #[vp,vl],.slice ax nx cx] w fun e w'=>e=.returned (.tuple #[.int .i64 0,.bool false,.int .i64 (ziI p l)])∧Ext w w':=by
 have hck:=fun W (hE:Ext w W)=>(h.ext hE).check;have ht:(ziI p l != 0)=true:=by rw [bne_iff_ne];exact h0
 obtain ⟨ap,cp,am,cm,rfl,rfl⟩:=h.shape;generalize p.length=n at *;generalize l.length=m at *;have hE0:Ext w (w.alloc (.cells #[.slice ap n cp,.slice am m cm] 32)):=(Ext.refl w).alloc _;have hb:=zmX.new 32 w (.slice ap n cp) (.slice am m cm);have hE0:Ext w ((w.alloc (.cells #[.slice ap n cp,.slice am m cm] 32)).alloc (.cells #[.slice ax nx cx] 26)):=hE0.alloc _;have hb:=zmX.ext ((Ext.refl _).alloc (.cells #[.slice ax nx cx] 26)) hb;have c0:=hb.c0;have c1:=hb.c1;generalize ziI p l=r at *;have Hck:=hid hck;have HE0:=hid hE0;clear hck hE0;clear h hb;go_enter Tryz.func9,Tryz.ntmps9
 go_wp2_with fail
 refine (Hck.out _ HE0.out).mono ?_;rintro e w1 ⟨rfl,hx1⟩;have Hx1:=hid hx1;clear hx1;clear c0 c1;go_wp2
 go_ret3
 exact ⟨rfl,HE0.out.trans Hx1.out⟩
theorem zoa (ax:Option Addr)(nx cx:Nat)(vp vl:Value)(p:List Int)(l:List (List Int))(w:World)(h:znU w vp vl p l)(h0:ziI p l ≠ 0) :
  Calls Tryz.prog 8 #[.agg #[vp,vl],.slice ax nx cx] w fun e w'=>e=.returned (.tuple #[.bool false,.int .i64 (ziI p l)])∧Ext w w':=by
 have hck:=fun W (hE:Ext w W)=>znZ ax nx cx vp vl p l W (h.ext hE) h0;have ht:(ziI p l == 0)=false:=beq_eq_false_iff_ne.2 h0;obtain ⟨ap,cp,am,cm,rfl,rfl⟩:=h.shape;generalize p.length=n at *;generalize l.length=m at *;have hE0:Ext w (w.alloc (.cells #[.slice ap n cp,.slice am m cm] 32)):=(Ext.refl w).alloc _;have hb:=zmX.new 32 w (.slice ap n cp) (.slice am m cm);have c0:=hb.c0;have c1:=hb.c1;generalize ziI p l=r at *;have Hck:=hid hck;have HE0:=hid hE0;clear hck hE0;clear h hb;go_enter Tryz.func8,Tryz.ntmps8
 go_wp2_with fail
 refine (Hck.out _ HE0.out).mono ?_;rintro e w1 ⟨rfl,hx1⟩;have Hx1:=hid hx1;clear hx1;clear c0 c1;go_wp2
 go_ret2
 exact ⟨rfl,HE0.out.trans Hx1.out⟩
theorem zob (vp vl:Value)(p:List Int)(l:List (List Int))(w:World)(h:znU w vp vl p l)(h0:ziI p l ≠ 0) :
  Calls Tryz.prog 15 #[.agg #[vp,vl]] w fun e w'=>e=.returned (.tuple #[.agg #[.slice none 0 0,.slice none 0 0],.int .i64 (ziI p l)])∧Ext w w':=by
 have hck:=fun W (hE:Ext w W)=>(h.ext hE).check;have ht:(ziI p l != 0)=true:=by rw [bne_iff_ne];exact h0
 obtain ⟨ap,cp,am,cm,rfl,rfl⟩:=h.shape;generalize p.length=n at *;generalize l.length=m at *;have hE0:Ext w ((w.alloc (.cells #[.slice ap n cp,.slice am m cm] 32)).alloc (.cells #[.slice none 0 0,.slice none 0 0] 47)):=((Ext.refl w).alloc _).alloc _;have hb:=zmX.ext ((Ext.refl _).alloc (.cells #[.slice none 0 0,.slice none 0 0] 47)) (zmX.new 32 w (.slice ap n cp) (.slice am m cm));have hr:=zmX.new 47 (w.alloc (.cells #[.slice ap n cp,.slice am m cm] 32)) (.slice none 0 0) (.slice none 0 0);rw [World.size_alloc] at hr;have c0:=hb.c0;have c1:=hb.c1;generalize ziI p l=r at *;have Hck:=hid hck;have HE0:=hid hE0;have Hr:=hid hr;clear hck hE0 hr;clear h hb;go_enter Tryz.func15,Tryz.ntmps15
 go_wp2_with fail
 refine (Hck.out _ HE0.out).mono ?_;rintro e w1 ⟨rfl,hx1⟩;have hr1:=zmX.ext hx1 Hr.out;have Hx1:=hid (HE0.out.trans hx1);clear c0 c1 hx1;have c0:=hr1.c0;have c1:=hr1.c1;have z0:=hr1.fz 0;have z1:=hr1.fz 1;have hr2:=hr1.put (.slice none 0 0) (.slice none 0 0);have hd0:=hr2.c0;have hd1:=hr2.c1;have hE2:=(Hx1.out.setCell (p:=⟨w.heap.size+1,0,none⟩) (Nat.le_succ _) (.slice none 0 0)).setCell (p:=⟨w.heap.size+1,1,none⟩) (Nat.le_succ _) (.slice none 0 0);have HE2:=hid hE2;clear hE2;clear hr1 hr2;go_wp2_with fail
 exact bodyPost_ret (v:=.tuple #[.agg #[.slice none 0 0,.slice none 0 0],.int .i64 r]) (by simp [results,Tryz.results15,go_sem,hd0,hd1]) rfl ⟨rfl,HE2.out⟩
theorem zoc (k:Int)(vp vl:Value)(p:List Int)(l:List (List Int))(w:World)(h:znU w vp vl p l)(h0:ziI p l ≠ 0) :
  Calls Tryz.prog 18 #[.agg #[vp,vl],.int .i64 k] w fun e w'=>e=.returned (.tuple #[.agg #[.slice none 0 0,.slice none 0 0],.int .i64 (ziI p l)])∧Ext w w':=by
 have hck:=fun W (hE:Ext w W)=>(h.ext hE).check;have ht:(ziI p l != 0)=true:=by rw [bne_iff_ne];exact h0
 obtain ⟨ap,cp,am,cm,rfl,rfl⟩:=h.shape;generalize p.length=n at *;generalize l.length=m at *;have hE0:Ext w ((w.alloc (.cells #[.slice ap n cp,.slice am m cm] 32)).alloc (.cells #[.slice none 0 0,.slice none 0 0] 32)):=((Ext.refl w).alloc _).alloc _;have hb:=zmX.ext ((Ext.refl _).alloc (.cells #[.slice none 0 0,.slice none 0 0] 32)) (zmX.new 32 w (.slice ap n cp) (.slice am m cm));have hr:=zmX.new 32 (w.alloc (.cells #[.slice ap n cp,.slice am m cm] 32)) (.slice none 0 0) (.slice none 0 0);rw [World.size_alloc] at hr;have c0:=hb.c0;have c1:=hb.c1;generalize ziI p l=r at *;have Hck:=hid hck;have HE0:=hid hE0;have Hr:=hid hr;clear hck hE0 hr;clear h hb;go_enter Tryz.func18,Tryz.ntmps18
 go_wp2_with fail
 refine (Hck.out _ HE0.out).mono ?_;rintro e w1 ⟨rfl,hx1⟩;have hr1:=zmX.ext hx1 Hr.out;have Hx1:=hid (HE0.out.trans hx1);clear c0 c1 hx1;have c0:=hr1.c0;have c1:=hr1.c1;have z0:=hr1.fz 0;have z1:=hr1.fz 1;have hr2:=hr1.put (.slice none 0 0) (.slice none 0 0);have hd0:=hr2.c0;have hd1:=hr2.c1;have hE2:=(Hx1.out.setCell (p:=⟨w.heap.size+1,0,none⟩) (Nat.le_succ _) (.slice none 0 0)).setCell (p:=⟨w.heap.size+1,1,none⟩) (Nat.le_succ _) (.slice none 0 0);have HE2:=hid hE2;clear hE2;clear hr1 hr2;go_wp2_with fail
 exact bodyPost_ret (v:=.tuple #[.agg #[.slice none 0 0,.slice none 0 0],.int .i64 r]) (by simp [results,Tryz.results18,go_sem,hd0,hd1]) rfl ⟨rfl,HE2.out⟩
theorem zod (vp vl:Value)(p:List Int)(l:List (List Int))(w:World)(h:znU w vp vl p l)(h0:ziI p l ≠ 0) :
  Calls Tryz.prog 19 #[.agg #[vp,vl]] w fun e w'=>e=.returned (.tuple #[.slice none 0 0,.bool false,.int .i64 (ziI p l)])∧Ext w w':=by
 have hck:=fun W (hE:Ext w W)=>(h.ext hE).check;have ht:(ziI p l != 0)=true:=by rw [bne_iff_ne];exact h0
 obtain ⟨ap,cp,am,cm,rfl,rfl⟩:=h.shape;generalize p.length=n at *;generalize l.length=m at *;have hE0:Ext w ((w.alloc (.cells #[.slice ap n cp,.slice am m cm] 32)).alloc (.cells #[.slice none 0 0] 26)):=((Ext.refl w).alloc _).alloc _;have hb:=zmX.ext ((Ext.refl _).alloc (.cells #[.slice none 0 0] 26)) (zmX.new 32 w (.slice ap n cp) (.slice am m cm));have hr:=One.new 26 (w.alloc (.cells #[.slice ap n cp,.slice am m cm] 32)) (.slice none 0 0);rw [World.size_alloc] at hr;have c0:=hb.c0;have c1:=hb.c1;generalize ziI p l=r at *;have Hck:=hid hck;have HE0:=hid hE0;have Hr:=hid hr;clear hck hE0 hr;clear h hb;go_enter Tryz.func19,Tryz.ntmps19
 go_wp2_with fail
 refine (Hck.out _ HE0.out).mono ?_;rintro e w1 ⟨rfl,hx1⟩;have hr1:=One.ext hx1 Hr.out;have Hx1:=hid (HE0.out.trans hx1);clear c0 c1 hx1;have c0:=hr1.cell;have z0:=hr1.fz;have hd0:=(hr1.put (.slice none 0 0)).cell;have hE2:=Hx1.out.setCell (p:=⟨w.heap.size+1,0,none⟩) (Nat.le_succ _) (.slice none 0 0);have HE2:=hid hE2;clear hE2;clear hr1;go_wp2_with fail
 exact bodyPost_ret (v:=.tuple #[.slice none 0 0,.bool false,.int .i64 r]) (by simp [results,Tryz.results19,go_sem,hd0]) rfl ⟨rfl,HE2.out⟩
end
end Go.Proofs.YtkdgmahilfnnmaaGreatDoor
