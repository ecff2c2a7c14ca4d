/- Walk: law 37's known returns true. (KEEPALL) A row of noughts just made. (KEEPALL) Walk: law 37's Make. (KEEPALL) A scale as a value. (KEEPALL) Plain: the scale of a planned set is right: the few bits tell each note from the one before. (KEEPALL) -/
import Derived.Test.YtipkdebkdnbieaaGreatDoorPe29
import Derived.Test.YtipkdebkdnbieaaGreatDoorPe18
import Derived.Test.YtipkdebkdnbieaaGreatDoorPe08
import Derived.Test.YtipkdebkdnbieaaGreatDoorPe13
import Derived.Test.YtipkdebkdnbieaaGreatDoorPe17
import Derived.Test.YtipkdebkdnbieaaGreatDoorPe16
set_option maxRecDepth 100000
set_option maxHeartbeats 4000000
namespace Go.Proofs.YtipkdebkdnbieaaGreatDoor
section
open Go.RowKit Go.Lib Go.Shelf
def zoP (w:World)(b:Nat)(rows:List (List Int)):World:=(zoM b rows).foldl World.alloc w
theorem zoQ (w:World)(b:Nat)(rows:List (List Int))(hb:w.heap.size=b)(h:rows.length≤1000)(hr:∀ x∈rows,x.length≤1000):Mat (zoP w b rows) (.slice (some ⟨b+rows.length,0,none⟩) rows.length rows.length) rows∧Ext w (zoP w b rows):=by
 subst hb;exact zoO w rows h hr
theorem zoR : ∀ (os:List Obj)(w:World),(os.foldl World.alloc w).heap.size=w.heap.size+os.length
 | [],_=>rfl
 | o::os,w=>by
  rw [List.foldl_cons,zoR os,World.size_alloc,List.length_cons];omega
theorem zoS (w:World)(b:Nat)(rows:List (List Int)):(zoP w b rows).heap.size=w.heap.size+(rows.length+1):=by
 unfold zoP;rw [zoR];unfold zoM;rw [List.length_append,List.length_map];rfl
theorem zoT (w:World):Calls Tryz.prog 27 #[] w fun e w'=>∃ p b n q c m,e=.returned (.agg #[.slice p b n,.slice q c m])∧Sl w' (.slice p b n) (zap [2,3,5])∧Mat w' (.slice q c m) ziW∧Ext w w':=by
 have hb:=zoi.new 31 w (.slice none 0 0) (.slice none 0 0);have c0:=hb.c0;have c1:=hb.c1;have z0:=hb.fz 0;have z1:=hb.fz 1;have hB:=(Ext.refl w).alloc (.cells #[.slice (some ⟨w.heap.size+1,0,none⟩) 3 3,.slice (some ⟨w.heap.size+1+1+7,0,none⟩) 7 7] 31);have hs1:(w.alloc (.cells #[.slice (some ⟨w.heap.size+1,0,none⟩) 3 3,.slice (some ⟨w.heap.size+1+1+7,0,none⟩) 7 7] 31)).heap.size=w.heap.size+1:=World.size_alloc ..;have hp0:=World.alloc_heap_new (w.alloc (.cells #[.slice (some ⟨w.heap.size+1,0,none⟩) 3 3,.slice (some ⟨w.heap.size+1+1+7,0,none⟩) 7 7] 31)) (.cells #[.int .i64 2,.int .i64 3,.int .i64 5] 3);have hs2:((w.alloc (.cells #[.slice (some ⟨w.heap.size+1,0,none⟩) 3 3,.slice (some ⟨w.heap.size+1+1+7,0,none⟩) 7 7] 31)).alloc (.cells #[.int .i64 2,.int .i64 3,.int .i64 5] 3)).heap.size=w.heap.size+1+1:=by rw [World.size_alloc,hs1]
 obtain ⟨hm,hE⟩:=zoQ _ (w.heap.size+1+1) ziW hs2 (by decide) (by decide);rw [hs1] at hp0;have hp1:=hE.sl (zoL (n:=3) (zap [2,3,5]) hp0 rfl rfl (by omega));have hE9:=(hB.alloc (.cells #[.int .i64 2,.int .i64 3,.int .i64 5] 3)).trans hE;have hbx:=zoi.ext (((Ext.refl _).alloc (.cells #[.int .i64 2,.int .i64 3,.int .i64 5] 3)).trans hE) (zoi.new 31 w (.slice (some ⟨w.heap.size+1,0,none⟩) 3 3) (.slice (some ⟨w.heap.size+1+1+7,0,none⟩) 7 7));have Hm:=hid hm;have Hp1:=hid hp1;have HE9:=hid hE9;have Hbx:=hid hbx;clear hm hp1 hE9 hbx;clear hb hB hs1 hs2 hp0 hE;go_enter Tryz.func27,Tryz.ntmps27
 go_wp2_with fail
 show bodyPost _ _ _ _ _ (zoP ((w.alloc (.cells #[.slice (some ⟨w.heap.size+1,0,none⟩) 3 3,.slice (some ⟨w.heap.size+1+1+7,0,none⟩) 7 7] 31)).alloc (.cells #[.int .i64 2,.int .i64 3,.int .i64 5] 3)) (w.heap.size+1+1) ziW);generalize zoP ((w.alloc (.cells #[.slice (some ⟨w.heap.size+1,0,none⟩) 3 3,.slice (some ⟨w.heap.size+1+1+7,0,none⟩) 7 7] 31)).alloc (.cells #[.int .i64 2,.int .i64 3,.int .i64 5] 3)) (w.heap.size+1+1) ziW=W9 at *;have hd0:=Hbx.out.c0;have hd1:=Hbx.out.c1;exact bodyPost_ret (v:=.agg #[.slice (some ⟨w.heap.size+1,0,none⟩) 3 3,.slice (some ⟨w.heap.size+1+1+7,0,none⟩) 7 7]) (by simp [results,Tryz.results27,go_sem,hd0,hd1]) rfl ⟨_,_,_,_,_,_,rfl,Hp1.out,Hm.out,HE9.out⟩
def zoU : List (List Int):=[[-3,2,0],[-2,0,1],[-1,1,0],[1,0,0]]
def ofZ : List (List Int):=[[0,1,0],[0,2,0],[0,3,0],[0,4,0],[0,0,0]]
def zoV : List (List Int):=[[-1,1,0],[-3,2,0],[-4,3,0],[-6,4,0],[0,0,0]]
def zoW : List (List Int):=[[-3,2,0],[-6,4,0],[-1,1,0],[-4,3,0]]
theorem zoX {l:List (List Int)}{k:Nat}(h:(ziR l 0 [] []).map (fun r=>r.1.length)=some (k+1)):∀ mF aF,ziR l 0 [] []=some (mF,aF)→0<mF.length:=fun mF aF e=>by
 rw [e] at h;have:=Option.some.inj h;dsimp only at this;omega
theorem zoY : (ziR ziW 0 [] []).map (fun r=>r.1.length)=some (2+1):=by decide +kernel
theorem zoZ : (ziR zoU 0 [] []).map (fun r=>r.1.length)=some (2+1):=by decide +kernel
theorem zpa : (ziR (zoW++[zjT 2]) 0 [] []).map (fun r=>r.1.length)=some (1+1):=by decide +kernel
theorem zpb : zgO [2,3,5] ziW=0:=by decide +kernel
theorem zpc : zgO [2,3,5] zoU=0:=by decide +kernel
theorem zpd : zgO [2,3,5] (zoW++[zjT 2])=0:=by decide +kernel
def zpe (x:List Int):Rat:=if x=[-3,2,0] then 0 else if x=[-6,4,0] then 1 else if x=[-1,1,0] then 2 else 3
theorem zpf : ∀ x∈zoV.filter nzI,∀ y∈zoV.filter nzI,(zhE [2,3,5] x y<0 ↔ zpe x<zpe y):=by decide +kernel
theorem zpg : ∀ x∈zoV.filter nzI,∀ y∈zoV.filter nzI,zpe x=zpe y→x=y:=by decide +kernel
theorem zph : zoW.Perm (zoV.filter nzI):=by decide +kernel
theorem zpi : zoW.Pairwise fun x y=>zpe x≤zpe y:=by decide +kernel
theorem zpj (d:List (List Int))(h:d.Perm (zoV.filter nzI))(hs:d.Pairwise fun x y=>zpe x≤zpe y):d=zoW:=by
 refine List.Perm.eq_of_pairwise (le:=fun x y=>zpe x≤zpe y) (fun x y hx hy h1 h2=>?_) hs zpi (h.trans zph.symm);exact zpg x (h.mem_iff.1 hx) y (zph.mem_iff.1 hy) (Rat.le_antisymm h1 h2)
theorem zpk : ∀ (i:Nat)(x o:List Int),ofZ[i]?=some x→zoV[i]?=some o→zo7 [2,3,5] 2 x o:=fun i x o hx ho=>by
 match i,hx,ho with
 | 0,hx,ho=>obtain rfl:=Option.some.inj hx;obtain rfl:=Option.some.inj ho;exact ⟨⟨0,[1,0],1,rfl,rfl,by decide +kernel,.inr (by unfold okE;decide +kernel),by decide +kernel,by decide,by decide,by decide +kernel⟩,by decide +kernel⟩
 | 1,hx,ho=>obtain rfl:=Option.some.inj hx;obtain rfl:=Option.some.inj ho;exact ⟨⟨0,[2,0],3,rfl,rfl,by decide +kernel,.inr (by unfold okE;decide +kernel),by decide +kernel,by decide,by decide,by decide +kernel⟩,by decide +kernel⟩
 | 2,hx,ho=>obtain rfl:=Option.some.inj hx;obtain rfl:=Option.some.inj ho;exact ⟨⟨0,[3,0],4,rfl,rfl,by decide +kernel,.inr (by unfold okE;decide +kernel),by decide +kernel,by decide,by decide,by decide +kernel⟩,by decide +kernel⟩
 | 3,hx,ho=>obtain rfl:=Option.some.inj hx;obtain rfl:=Option.some.inj ho;exact ⟨⟨0,[4,0],6,rfl,rfl,by decide +kernel,.inr (by unfold okE;decide +kernel),by decide +kernel,by decide,by decide,by decide +kernel⟩,by decide +kernel⟩
 | 4,hx,ho=>obtain rfl:=Option.some.inj hx;obtain rfl:=Option.some.inj ho;exact ⟨⟨0,[0,0],0,rfl,rfl,by decide +kernel,.inl (by decide +kernel),by decide +kernel,by decide,by decide,by decide +kernel⟩,by decide +kernel⟩
 | i+5,hx,_=>simp [ofZ] at hx
theorem zpl : zoV.filter nzI ≠ []:=by decide +kernel
theorem zpm : ∀ j,j<zoW.length→zkY zoW j=true:=by decide +kernel
theorem zpn : zgr [2,3,5] (zjT 2)=0∧zg8 [2,3,5] (zjT 2)=1:=by decide +kernel
theorem zpo : zgj [2,3,5] ofZ=0:=by decide +kernel
theorem zpp (w:World)(he:Env w):Calls Tryz.prog 6 #[] w fun e w'=>e=.returned (.bool true)∧Ext w w':=by
 have hva:=fun vp vl (l:List (List Int))(R:Option (List Int)) k W (hE:Ext w W)(hp:Sl W vp (zap [2,3,5]))(hl:Mat W vl l)(h1:zgO [2,3,5] l=0)(h2:ziV l=some R)(h3:(ziR l 0 [] []).map (fun r=>r.1.length)=some (k+1))=>zo1 vp vl [2,3,5] l R W (he.ext hE) hp hl h1 (by decide) h2 (zoX h3);have hof:=fun vp vq vl W (hE:Ext w W)(hp:Sl W vp (zap [2,3,5]))(hq:Sl W vq (zap (zjT 2)))(hl:Mat W vl ofZ)=>zo9 vp vq vl [2,3,5] 2 5 ofZ zoV zoW zpe W (he.ext hE) hp hq hl rfl (.inr ⟨rfl,rfl⟩) rfl (by decide) rfl zpn.1 zpn.2 zpo zpk zpl zpf zpj zpm;have hma:=fun W=>zoT W;have Hva:=hid hva;have Hof:=hid hof;have Hma:=hid hma;clear hva hof hma;clear he;go_enter Tryz.func6,Tryz.ntmps6
 go_wp2_with fail
 refine (Hma.out w).mono ?_;rintro e w1 ⟨p1,b1,n1,q1,c1,m1,rfl,hp1,hm1,hx1⟩;have hv1:=Hva.out _ _ ziW (some [7,11,16]) 2 w1 hx1 hp1 hm1 zpb ziX zoY;have Hx1:=hid hx1;have Hv1:=hid hv1;clear hx1 hv1;clear hp1 hm1;go_wp2_with fail
 refine Hv1.out.mono ?_;rintro e w2 ⟨⟨v,rfl,_,hs⟩,hx2⟩;obtain ⟨hs2,_⟩:=hs _ rfl;obtain ⟨av,cv,rfl,_,_,_⟩:=hs2.parts;have Hx2:=hid (Hx1.out.trans hx2);have Hs2:=hid hs2;clear hs hs2 hx2
 -- the second set
 have hp0:=World.alloc_heap_new w2 (.cells #[.int .i64 2,.int .i64 3,.int .i64 5] 3)
 have hsz:=World.size_alloc w2 (.cells #[.int .i64 2,.int .i64 3,.int .i64 5] 3)
 obtain ⟨hm3,hE3⟩:=zoQ _ (w2.heap.size+1) zoU hsz (by decide) (by decide)
 have hp3:=hE3.sl (zoL (n:=3) (zap [2,3,5]) hp0 rfl rfl (by omega))
 have hX3:=((Ext.refl w2).alloc (.cells #[.int .i64 2,.int .i64 3,.int .i64 5] 3)).trans hE3
 have hbx:=zoi.new 31 (zoP (w2.alloc (.cells #[.int .i64 2,.int .i64 3,.int .i64 5] 3)) (w2.heap.size+1) zoU) (.slice (some ⟨w2.heap.size,0,none⟩) 3 3) (.slice (some ⟨w2.heap.size+1+4,0,none⟩) 4 4)
 have hls:(zoP (w2.alloc (.cells #[.int .i64 2,.int .i64 3,.int .i64 5] 3)) (w2.heap.size+1) zoU).heap.size=w2.heap.size+1+1+1+1+1+1:=by rw [zoS,hsz];rfl
 rw [hls] at hbx
 have hX4:=(hX3.alloc (.cells #[.slice (some ⟨w2.heap.size,0,none⟩) 3 3,.slice (some ⟨w2.heap.size+1+4,0,none⟩) 4 4] 31))
 have hY4:=(Ext.refl (zoP (w2.alloc (.cells #[.int .i64 2,.int .i64 3,.int .i64 5] 3)) (w2.heap.size+1) zoU)).alloc (.cells #[.slice (some ⟨w2.heap.size,0,none⟩) 3 3,.slice (some ⟨w2.heap.size+1+4,0,none⟩) 4 4] 31)
 have hm4:=hY4.mat hm3
 have hp4:=hY4.sl hp3
 have Hm4:=hid hm4;have Hp4:=hid hp4;have HX4:=hid hX4;have Hbx:=hid hbx;clear hm4 hp4 hX4 hbx
 clear hp0 hsz hE3 hls hX3 hY4 hm3 hp3
 go_upto_region 3 with fail
 show Code.wp _ _ _ _ ((zoP (w2.alloc (.cells #[.int .i64 2,.int .i64 3,.int .i64 5] 3)) (w2.heap.size+1) zoU).alloc (.cells #[.slice (some ⟨w2.heap.size,0,none⟩) 3 3,.slice (some ⟨w2.heap.size+1+4,0,none⟩) 4 4] 31))
 generalize (zoP (w2.alloc (.cells #[.int .i64 2,.int .i64 3,.int .i64 5] 3)) (w2.heap.size+1) zoU).alloc (.cells #[.slice (some ⟨w2.heap.size,0,none⟩) 3 3,.slice (some ⟨w2.heap.size+1+4,0,none⟩) 4 4] 31)=w3 at *
 have HX3:=hid (Hx2.out.trans HX4.out)
 have Hs3:=hid (HX4.out.sl Hs2.out)
 have hv3:=Hva.out _ _ zoU none 2 w3 HX3.out Hp4.out Hm4.out zpc ziY zoZ
 have c0:=Hbx.out.c0
 have c1:=Hbx.out.c1
 have Hv3:=hid hv3;clear hv3
 go_wp2_with fail
 refine Hv3.out.mono ?_
 rintro e w4 ⟨⟨v4,rfl,hn4,_⟩,hx4⟩
 have hn5:=hn4 rfl
 subst hn5
 have Hx4:=hid (HX3.out.trans hx4)
 have Hs4:=hid (hx4.sl Hs3.out)
 clear hn4 hx4 c0 c1
 -- five fifths
 have hp0:=World.alloc_heap_new w4 (.cells #[.int .i64 2,.int .i64 3,.int .i64 5] 3)
 have hq0:=World.alloc_heap_new (w4.alloc (.cells #[.int .i64 2,.int .i64 3,.int .i64 5] 3)) (.cells #[.int .i64 1,.int .i64 0,.int .i64 0] 3)
 rw [World.size_alloc] at hq0
 have hsz:((w4.alloc (.cells #[.int .i64 2,.int .i64 3,.int .i64 5] 3)).alloc (.cells #[.int .i64 1,.int .i64 0,.int .i64 0] 3)).heap.size=w4.heap.size+1+1:=by rw [World.size_alloc,World.size_alloc]
 obtain ⟨hm5,hE5⟩:=zoQ _ (w4.heap.size+1+1) ofZ hsz (by decide) (by decide)
 have hp5:=hE5.sl (((Ext.refl _).alloc (.cells #[.int .i64 1,.int .i64 0,.int .i64 0] 3)).sl (zoL (n:=3) (zap [2,3,5]) hp0 rfl rfl (by omega)))
 have hq5:=hE5.sl (zoL (n:=3) (zap (zjT 2)) hq0 rfl rfl (by omega))
 have hX5:=(((Ext.refl w4).alloc (.cells #[.int .i64 2,.int .i64 3,.int .i64 5] 3)).alloc (.cells #[.int .i64 1,.int .i64 0,.int .i64 0] 3)).trans hE5
 have ho5:=Hof.out _ _ _ (zoP ((w4.alloc (.cells #[.int .i64 2,.int .i64 3,.int .i64 5] 3)).alloc (.cells #[.int .i64 1,.int .i64 0,.int .i64 0] 3)) (w4.heap.size+1+1) ofZ) (Hx4.out.trans hX5) hp5 hq5 hm5
 have Ho5:=hid ho5;have HX5:=hid hX5;clear ho5 hX5
 clear hp0 hq0 hsz hE5 hm5 hp5 hq5
 go_wp2_with fail
 refine Ho5.out.mono ?_
 rintro e w6 ⟨vp6,vn6,rfl,hp6,hm6,hx6⟩
 obtain ⟨ap6,cp6,rfl,_,_,_⟩:=hp6.parts
 have hm6':=hm6
 obtain ⟨vs6,hvl6,hvs6,_⟩:=hm6'
 obtain ⟨am6,cm6,rfl,_,_,_⟩:=hvs6.parts
 have hl6:vs6.length=5:=by rw [hvl6];rfl
 rw [hl6] at hm6 ⊢
 have hl7:(zap [2,3,5]).length=3:=rfl
 rw [hl7] at hp6 ⊢
 have Hx6:=hid ((Hx4.out.trans HX5.out).trans hx6)
 have Hs6:=hid ((HX5.out.trans hx6).sl Hs4.out)
 have hbx6:=zoi.new 31 w6 (.slice ap6 3 cp6) (.slice am6 5 cm6)
 have hy6:=(Ext.refl w6).alloc (.cells #[.slice ap6 3 cp6,.slice am6 5 cm6] 31)
 have hv6:=Hva.out _ _ (zoW++[zjT 2]) (some [5,8,0]) 1 _ (Hx6.out.trans hy6) (hy6.sl hp6) (hy6.mat hm6) zpd ziZ zpa
 have c0:=hbx6.c0
 have c1:=hbx6.c1
 have Hv6:=hid hv6;have Hbx6:=hid hbx6;have Hy6:=hid hy6;clear hv6 hbx6 hy6
 clear hx6 hp6 hm6 hvs6 hvl6 hl6 hl7
 go_wp2_with fail
 refine Hv6.out.mono ?_
 rintro e w7 ⟨⟨v7,rfl,_,hs7⟩,hx7⟩
 obtain ⟨hs8,_⟩:=hs7 _ rfl
 obtain ⟨a7,c7,rfl,_,_,_⟩:=hs8.parts
 have hbx7:=zoi.ext hx7 Hbx6.out
 have Hx7:=hid ((Hx6.out.trans Hy6.out).trans hx7)
 have Hs7:=hid ((Hy6.out.trans hx7).sl Hs6.out)
 have Hs8:=hid hs8
 clear hs7 hs8 hx7 c0 c1
 have c0:=hbx7.c0
 have c1:=hbx7.c1
 -- the first row
 have ha0:=World.alloc_heap_new w7 (.cells #[.int .i64 7,.int .i64 11,.int .i64 16] 3)
 have hy7:=(Ext.refl w7).alloc (.cells #[.int .i64 7,.int .i64 11,.int .i64 16] 3)
 have he7:=zkW _ _ [7,11,16] [7,11,16] _ (hy7.sl Hs7.out) (zoL (n:=3) (zap [7,11,16]) ha0 rfl rfl (by omega)) (by decide) (by decide)
 rw [decide_eq_true rfl] at he7
 have He7:=hid he7;have Hy7:=hid hy7;have Hbx7:=hid hbx7;clear he7 hy7 hbx7
 clear ha0
 go_wp2_with fail
 refine He7.out.mono ?_
 rintro e w8 ⟨rfl,hq8⟩
 have hx8:=Hy7.out.trans hq8.ext
 have hb8:=zoi.ext hx8 Hbx7.out
 have Hx8:=hid (Hx7.out.trans hx8)
 have Hs9:=hid (hx8.sl Hs8.out)
 clear hq8 hx8 c0 c1
 have c0:=hb8.c0
 have c1:=hb8.c1
 have ha0:=World.alloc_heap_new w8 (.cells #[.int .i64 5,.int .i64 8,.int .i64 0] 3)
 have hy8:=(Ext.refl w8).alloc (.cells #[.int .i64 5,.int .i64 8,.int .i64 0] 3)
 have he8:=zkW _ _ [5,8,0] [5,8,0] _ (hy8.sl Hs9.out) (zoL (n:=3) (zap [5,8,0]) ha0 rfl rfl (by omega)) (by decide) (by decide)
 rw [decide_eq_true rfl] at he8
 have He8:=hid he8;have Hy8:=hid hy8;clear he8 hy8
 clear ha0 hb8
 go_wp2_with fail
 refine He8.out.mono ?_
 rintro e w9 ⟨rfl,hq9⟩
 have Hx9:=hid ((Hx8.out.trans Hy8.out).trans hq9.ext)
 clear hq9 c0 c1
 go_wp2
 go_ret
 exact ⟨rfl,Hx9.out⟩
end
section
open Go.RowKit Go.Lib
theorem zpq {w:World}{B g n:Nat}(h:w.ownsRow B 3 1 (.slice (some ⟨g,0,none⟩) n n) n (madeCells (Value.int .i64 0).cells (n * 1)).toList):zc2 w B (.slice (some ⟨g,0,none⟩) (zgM n).length n) (zgM n):=by
 have hzz:(zgM n).length=n:=List.length_replicate;have e:zap (zgM n)=(madeCells #[Value.int .i64 0] (n * 1)).toList:=by
  unfold zgM;rw [Nat.mul_one,toList_madeCells_one];simp [zap]
 unfold zc2;rw [hzz,e];exact h
end
section
open Go.RowKit Go.Lib Go.Shelf
theorem zpr (b k:Nat)(hb:b<256):(bits .and .u8 ((b:Int) / 2 ^ k) 1 == 0)=!b.testBit k:=by
 have e:((b:Int) / 2 ^ k)=((b / 2 ^ k:Nat):Int):=by
  rw [Int.natCast_ediv,Int.natCast_pow];rfl
 have hlt:b / 2 ^ k≤b:=Nat.div_le_self _ _;have h1:(BitVec.ofInt 8 ((b / 2 ^ k:Nat):Int)).toNat=b / 2 ^ k:=by
  rw [BitVec.ofInt_natCast,BitVec.toNat_ofNat];exact Nat.mod_eq_of_lt (by omega)
 have h2:(BitVec.ofInt 8 (1:Int)).toNat=1:=by decide
 have h3:bits .and .u8 ((b:Int) / 2 ^ k) 1=((b / 2 ^ k % 2:Nat):Int):=by
  rw [e];show IntKind.u8.wrap ((BitVec.ofInt 8 ((b / 2 ^ k:Nat):Int) &&& BitVec.ofInt 8 (1:Int)).toNat:Int)=_;rw [BitVec.toNat_and,h1,h2,Nat.and_one_is_mod];have:b / 2 ^ k % 2<2:=Nat.mod_lt _ (by omega);generalize b / 2 ^ k % 2=z at *;have:z=0∨z=1:=by omega
  rcases this with rfl | rfl <;> decide
 rw [h3,Nat.testBit_eq_decide_div_mod_eq,Bool.eq_iff_iff,beq_iff_eq,Bool.not_eq_true',decide_eq_false_iff_not];omega
def zps (o k:Nat):List (List Int):=((List.range k).filter fun i=>i == 6 || !o.testBit i).map fun i=>ziW.getD i []
theorem zpt (o k:Nat):zps o (k+1)=zps o k++if (k == 6 || !o.testBit k)=true then [ziW.getD k []] else []:=by
 unfold zps;rw [List.range_succ,List.filter_append,List.map_append];congr 1;by_cases h:(k == 6 || !o.testBit k)=true
 ·rw [if_pos h,List.filter_cons_of_pos (p:=fun i=>i == 6 || !o.testBit i) h];rfl
 ·rw [if_neg h,List.filter_cons_of_neg (p:=fun i=>i == 6 || !o.testBit i) h];rfl
theorem zpu (o k:Nat):(zps o k).length≤k:=by
 unfold zps;rw [List.length_map];exact Nat.le_trans (List.length_filter_le _ _) (by rw [List.length_range];exact Nat.le_refl _)
theorem zpv : ∀ o,o<256→zgO [2,3,5] (zps o 7)=0:=by decide +kernel
theorem zpw : ∀ o,o<256→(zps o 7).getD ((zps o 7).length - 1) []=zh6 ([2,3,5]:List Int).length:=by decide +kernel
theorem zpx (o:Nat):0<(zps o 7).length:=by
 rw [show (7:Nat)=6+1 from rfl,zpt,if_pos (by rfl),List.length_append];exact Nat.lt_of_lt_of_le Nat.one_pos (Nat.le_add_left _ _)
theorem zpy : zhs [2,3,5]:=by
 have h:let p:List Int:=[2,3,5];zcw p=0∧(0<p.length∧p.length≤4)∧(∀ i,i<p.length→2≤(zas p i).toNat)∧(∀ i,i<p.length→∀ j,j<i→Nat.gcd (zas p i).toNat (zas p j).toNat=1)∧prN p (fun i=>if i=0 then 0 else 9) p.length<(zas p 0).toNat ^ 100:=by decide +kernel
 obtain ⟨h1,h2,h3,h4,h5⟩:=h;exact ⟨h1,h2,h3,fun i j hi hj=>h4 i hi j hj,h5⟩
structure MjS (w0:World)(rs:List Rw)(v:Value)(wr:World):Prop where
 o:wr.ownsRow w0.heap.size 33 1 v rs.length (rwc rs)
 r:∀ r∈rs,Sl w0 r.u (zap r.x)
 x:Ext w0 wr
section
variable {w0 wr V : World} {v : Value} {rs : List Rw}
theorem MjS.ext (h:MjS w0 rs v wr)(hx:Ext wr V):MjS w0 rs v V:=⟨hx.own h.o,h.r,h.x.trans hx⟩
theorem MjS.nil (w:World):MjS w [] (.slice none 0 0) w:=by
 refine ⟨World.ownsRow_nil _ _ _ 1,fun r h=>?_,Ext.refl _⟩
 cases h
theorem MjS.more {v9:Value}(h:MjS w0 rs v wr)(r:Rw)(hr:Sl w0 r.u (zap r.x))(ho:V.ownsRow w0.heap.size 33 1 v9 (rs.length+1) (rwc rs++[r.u]))(hE:Ext w0 V):MjS w0 (rs++[r]) v9 V:=by
 refine ⟨?_,fun q hq=>?_,hE⟩
 ·unfold rwc at *;rw [List.length_append,List.map_append];exact ho
 ·rcases List.mem_append.1 hq with g | g
  ·exact h.r q g
  ·rw [List.mem_singleton.1 g];exact hr
theorem MjS.mat (h:MjS w0 rs v wr):Mat wr v (rs.map Rw.x):=by
 refine ⟨rwc rs,by simp [rwc],zan h.o,fun i u hu=>?_⟩;unfold rwc at hu;rw [List.getElem?_map] at hu
 cases hr:rs[i]? with
 | none=>rw [hr] at hu;cases hu
 | some r =>
  rw [hr] at hu
  obtain rfl:=Option.some.inj hu
  rw [List.getD_eq_getElem?_getD,List.getElem?_map,hr]
  exact h.x.sl (h.r r (List.mem_of_getElem? hr))
end
theorem Sl.apart {T:TypeId}{w W:World}{b:Nat}{v x y:Value}{xs:List Value}(h:Sl w v xs)(hb:zoi T w b x y)(hx:∀ u∈xs,u ≠ x∧u ≠ y)(hW:∀ c,c ≠ b→W.heap[c]?=w.heap[c]?):Sl W v xs:=by
 rcases h with h | ⟨c,off,cap,e,h1,h2,h3⟩
 ·exact .inl h
 ·refine .inr ⟨c,off,cap,e,h1,h2,fun i u hu=>?_⟩;have hc:=h3 i u hu;have hne:c ≠ b:=fun e=>by
   subst e;unfold zoi at hb;unfold World.cell? at hc;dsimp only at hc;rw [hb] at hc;have hxu:=hx u (List.mem_of_getElem? hu);generalize off+i=z at hc;match z,hc with
   | 0,hc=>exact hxu.1 (Option.some.inj hc).symm
   | 1,hc=>exact hxu.2 (Option.some.inj hc).symm
   | z+2,hc=>simp at hc
  unfold World.cell? at hc ⊢;dsimp only at hc ⊢;rw [hW c hne];exact hc
theorem zpz (l:List Int)(a b:Option Addr)(n c m d:Nat):∀ u∈zap l,u ≠ .slice a n c∧u ≠ .slice b m d:=fun u hu=>by
 unfold zap at hu;obtain ⟨z,_,rfl⟩:=List.mem_map.1 hu;exact ⟨(by intro h;cases h),(by intro h;cases h)⟩
theorem zp0 {w:World}{u:Value}{x:List Int}(h:Sl w u (zap x))(hx:0<x.length):u ≠ .slice none 0 0:=by
 rcases h with ⟨_,_,_,_,h⟩ | ⟨b,off,cap,rfl,_,_,_⟩
 ·have:=congrArg List.length h;rw [zar] at this;simp only [List.length_nil] at this;omega
 ·rw [zar];intro h
  cases h
theorem Mat.apart {T:TypeId}{w W:World}{b:Nat}{v:Value}{l:List (List Int)}(h:Mat w v l)(hl:∀ x∈l,0<x.length)(hb:zoi T w b (.slice none 0 0) (.slice none 0 0))(hW:∀ c,c ≠ b→W.heap[c]?=w.heap[c]?):Mat W v l:=by
 obtain ⟨vs,hv,hs,hr⟩:=h;have hz:∀ i u,vs[i]?=some u→0<(l.getD i []).length:=fun i u hu=>by
  have hi:=(List.getElem?_eq_some_iff.1 hu).1;rw [hv] at hi;rw [List.getD_eq_getElem?_getD,List.getElem?_eq_getElem hi];exact hl _ (List.getElem_mem _)
 refine ⟨vs,hv,hs.apart hb (fun u hu=>?_) hW,fun i u hu=>(hr i u hu).apart hb (zpz _ _ _ _ _ _ _) hW⟩;obtain ⟨i,hi⟩:=List.mem_iff_getElem?.1 hu;have:=zp0 (hr i u hi) (hz i u hi);exact ⟨this,this⟩
theorem zp1 (w:World)(b:Nat)(x y:Value):∀ c,c ≠ b→((w.setCell ⟨b,0,none⟩ x).setCell ⟨b,1,none⟩ y).heap[c]?=w.heap[c]?:=fun c h=>by
 rw [heap_setCell_other _ ⟨b,1,none⟩ c _ h,heap_setCell_other _ ⟨b,0,none⟩ c _ h]
theorem MjS.set {T:TypeId}{w0 wr:World}{b n m c d:Nat}{v:Value}{a1 a2:Option Addr}{rs:List Rw}(h:MjS w0 rs v wr)(hb:zoi T wr b (.slice a1 n c) (.slice a2 m d))(hne:T ≠ 33)(z:Value):Mat (wr.setCell ⟨b,1,none⟩ z) v (rs.map Rw.x):=by
 have ho:=zf8 hb h.o hne 1 z;refine ⟨rwc rs,by simp [rwc],zan ho,fun i u hu=>?_⟩;unfold rwc at hu;rw [List.getElem?_map] at hu
 cases hr:rs[i]? with
 | none=>rw [hr] at hu;cases hu
 | some r =>
  rw [hr] at hu
  obtain rfl:=Option.some.inj hu
  rw [List.getD_eq_getElem?_getD,List.getElem?_map,hr]
  exact (h.x.sl (h.r r (List.mem_of_getElem? hr))).apart hb (zpz _ _ _ _ _ _ _) fun c hc=>heap_setCell_other wr ⟨b,1,none⟩ c z hc
def zp2 (p:List Int)(rs:List (List Int)):Prop:=∀ x∈rs,x.length=p.length∧(∀ i,-200≤zas x i∧zas x i≤200)∧Tl9 x∧(-100≤zas x 0∧zas x 0≤101)
theorem zp3 (o k:Nat)(h7:k≤7):zp2 [2,3,5] (zps o k):=fun x hx=>by
 unfold zps at hx;obtain ⟨j,hj,rfl⟩:=List.mem_map.1 hx;have hj:=List.mem_range.1 (List.mem_filter.1 hj).1;have h:∀ j,j<7→(ziW.getD j []).length=3∧∀ i,i<3→-9≤zas (ziW.getD j []) i∧zas (ziW.getD j []) i≤9:=by decide
 obtain ⟨h1,h2⟩:=h j (by omega);have h3:∀ i,-9≤zas (ziW.getD j []) i∧zas (ziW.getD j []) i≤9:=fun i=>by
  rcases Nat.lt_or_ge i 3 with q | q
  ·exact h2 i q
  ·generalize ziW.getD j []=y at *;unfold zas;rw [List.getD_eq_getElem?_getD,List.getElem?_eq_none (by omega)];decide
 exact ⟨h1,fun i=>(by have:=h3 i;omega),fun i _=>(by have:=h3 i;omega),(by have:=h3 0;omega)⟩
theorem zkk.rowsB {p:List Int}{rs:List (List Int)}(h:zkk p rs):zp2 p rs:=fun x hx=>by
 refine ⟨(h.iv x hx).len,fun i=>?_,(h.iv x hx).tl,h.bd x hx⟩;by_cases e:i=0
 ·subst e;have:=h.bd x hx;omega
 ·have:=(h.iv x hx).tl i (by omega);omega
theorem zp4 (o k:Nat)(h7:k≤7):∀ x∈zps o k,0<x.length:=fun x hx=>by
 unfold zps at hx;obtain ⟨i,hi,rfl⟩:=List.mem_map.1 hx;have hi:=List.mem_range.1 (List.mem_filter.1 hi).1;have h:∀ j,j<7→0<(ziW.getD j []).length:=by decide
 exact h i (by omega)
theorem zp5 (n o m cm:Nat)(M:Bool)(am:Option Addr)(Q:List Q4)(w:World)(he:Env w)(hn:n<256)(ho:o<256)(hQ:QIn w am Q)(hm:Q.length=m)(h8:m≤8)(hb:zoG Q) :
  Calls Tryz.prog 8 #[.agg #[.int .u8 n,.slice am m cm,.bool M,.int .u8 o]] w fun e w'=>∃ vp vl,e=.returned (.agg #[vp,vl])∧∃ p rs,Sl w' vp (zap p)∧Mat w' vl rs∧zhs p∧zgO p rs=0∧0<rs.length∧rs.length≤9∧zp2 p rs∧(∃ r,p=zgS (zha r))∧rs.getD (rs.length - 1) []=zh6 p.length∧Ext w w':=by
 obtain ⟨j0,hj,hy0,hy1,hy2⟩:=info_parts zmu;have hma:=fun W=>zoT W;have hep:=zpv o ho;have hp0:=World.alloc_heap_new w (.cells #[.int .u8 n,.slice am m cm,.bool M,.int .u8 o] 24);have hb0:=zoi.new 31 (w.alloc (.cells #[.int .u8 n,.slice am m cm,.bool M,.int .u8 o] 24)) (.slice none 0 0) (.slice none 0 0);rw [World.size_alloc] at hb0;have hXa:=(Ext.refl (w.alloc (.cells #[.int .u8 n,.slice am m cm,.bool M,.int .u8 o] 24))).alloc (.cells #[.slice none 0 0,.slice none 0 0] 31);have hX0:=((Ext.refl w).alloc (.cells #[.int .u8 n,.slice am m cm,.bool M,.int .u8 o] 24)).trans hXa;have hp1:=hXa.heap hp0;have hpl:∀ V,Ext ((w.alloc (.cells #[.int .u8 n,.slice am m cm,.bool M,.int .u8 o] 24)).alloc (.cells #[.slice none 0 0,.slice none 0 0] 31)) V→V.cell? ⟨w.heap.size,1,none⟩=some (.slice am m cm)∧V.cell? ⟨w.heap.size,3,none⟩=some (.int .u8 o):=fun V hE=>by
  have h:=hE.heap hp1;unfold World.cell?;dsimp only;rw [h];exact ⟨rfl,rfl⟩
 clear hp0 hXa hp1;have Hma:=hid hma;have Hep:=hid hep;have HX0:=hid hX0;have Hb0:=hid hb0;have Hpl:=hid hpl;clear hma hep hX0 hb0 hpl;go_enter Tryz.func8,Tryz.ntmps8
 cases M with
 | true =>
  clear hQ hm h8 hb
  go_wp2_with fail
  generalize (w.alloc (.cells #[.int .u8 n,.slice am m cm,.bool true,.int .u8 o] 24)).alloc (.cells #[.slice none 0 0,.slice none 0 0] 31)=W0 at *
  refine (Hma.out _).mono ?_
  rintro e w1 ⟨p1,b1,n1,q1,c1,m1,rfl,hp1,hm1,hx1⟩
  obtain ⟨vs,hvl,hvs,hrows⟩:=hm1
  obtain ⟨a2,cap2,e2,_,_,hcm⟩:=hvs.parts
  rw [show vs.length=7 from hvl] at e2
  rw [e2]
  have hb3:=zoi.new 31 w1 (.slice p1 b1 n1) (.slice a2 7 cap2)
  have hx3:=(Ext.refl w1).alloc (.cells #[.slice p1 b1 n1,.slice a2 7 cap2] 31)
  have hX3:=hx1.trans hx3
  have hp3:=hx3.sl hp1
  have hb2:=zoi.ext hX3 Hb0.out
  have hlt:w.heap.size+1<w1.heap.size:=(zoi.ext hx1 Hb0.out).lt
  have hcc:∀ i,i<7→∃ u bl off,a2=some ⟨bl,off,none⟩∧(w1.alloc (.cells #[.slice p1 b1 n1,.slice a2 7 cap2] 31)).cell? ⟨bl,off+i,none⟩=some u∧Sl (w1.alloc (.cells #[.slice p1 b1 n1,.slice a2 7 cap2] 31)) u (zap (ziW.getD i [])):=fun i hi=>by
   obtain ⟨u,hu⟩:∃ u,vs[i]?=some u:=⟨_,List.getElem?_eq_getElem (by rw [show vs.length=7 from hvl];exact hi)⟩;obtain ⟨bl,off,e,h⟩:=hcm i u hu;exact ⟨u,bl,off,e,hx3.cell h,hx3.sl (hrows i u hu)⟩
  have Hlt:=hid hlt
  clear hlt
  have Hb3:=hid hb3;have HX3:=hid hX3;have Hp3:=hid hp3;have Hb2:=hid hb2;have Hcc:=hid hcc;clear hb3 hX3 hp3 hb2 hcc
  clear e2 hvl hvs hrows hcm hx1 hx3 hp1 Hb0
  go_upto_region 3 with fail
  generalize w1.alloc (.cells #[.slice p1 b1 n1,.slice a2 7 cap2] 31)=W3 at *
  have hS0:=MjS.nil W3
  have HS0:=hid hS0;clear hS0
  clear Hma
  go_wp2_with fail
  go_loopw [4,5] (fun v4 v5 wr=>∃ (i:Nat)(rs:List Rw),v5=.int .i64 i∧i≤7∧Hid (MjS W3 rs v4 wr)∧Hid (rs.map Rw.x=zps o i)) (fun _ v5 _=>7 - (zal v5).toNat)
  case atStart=>exact ⟨0,[],rfl,Nat.zero_le _,HS0,hid rfl⟩
  case round =>
   obtain ⟨i,rs,rfl,hi7,HS,HM⟩:=hrel
   obtain ⟨a4,c4,e4⟩:=zc3 HS.out.o
   subst e4
   have hrl:rs.length≤i:=by
    have h:=congrArg List.length HM.out;rw [List.length_map] at h;have:=zpu o i;omega
   have hbr:=zoi.ext HS.out.x Hb3.out
   have hc1:=hbr.c1
   obtain ⟨_,hc3⟩:=Hpl.out wr (HX3.out.trans HS.out.x)
   have hfz1:=hbr.fz 1
   by_cases hin:i<7
   ·obtain ⟨u,bl,off,e2,g1,g2⟩:=Hcc.out i hin
    have hcu:=HS.out.x.cell g1
    have hk1:(i:Int)<7:=by omega
    have hk2:(0:Int)≤(i:Int):=by omega
    have hbit:=zpr o i ho
    have hsucc:=zpt o i
    obtain ⟨au,cu,eu,_,_,_⟩:=g2.parts
    rw [zar] at eu
    subst e2 eu
    have Hg2:=hid g2
    have Hrl:=hid hrl
    clear g1 g2 hrl
    by_cases hi6:i=6
    ·subst hi6
     clear hbit
     have hm3:rs.length+1≤maxLen:=by unfold maxLen;have:=Hrl.out;omega
     have hm4:(rs.length+1) * 24≤140737488355328:=by have:=Hrl.out;omega
     have hbase:=HS.out.x.size
     go_wp2_with (at_builtin;refine wpList_append_own _ rfl _ _ 29 rfl W3.heap.size 33 j0 (.slice none 0 0) 1 24 Tryz.underlying29 hj hy0 hy1 hy2 rfl (by decide) _ _ _ rfl (HS.out.o.alloc _) ⟨wr.heap.size,0,none⟩ 1 1 [.slice au (ziW[6]?.getD []).length cu] rfl rfl (cell_one_new _ _ _) (by simp [Value.oneCell']) hm3 hm4 (by rw [World.size_alloc];omega) ?_;intro v7 V7 hown7 hgrow7 _)
     go_roundw
     case rel=>exact ⟨6+1,rs++[⟨ziW.getD 6 [],.slice au (ziW[6]?.getD []).length cu,rfl⟩],by go_num,by omega,hid (HS.out.more ⟨ziW.getD 6 [],.slice au (ziW[6]?.getD []).length cu,rfl⟩ Hg2.out hown7 ((HS.out.x.alloc _).grown hgrow7 fun q hq=>(World.ownsRow.lt HS.out.o q hq).1)),hid (by rw [hsucc,if_pos (by rfl),List.map_append,HM.out];rfl)⟩
     case measure=>simp [zal]
    ·have hi7:((i:Int) == 6)=false:=by
      rw [beq_eq_false_iff_ne];omega
     have hi8:(i == 6)=false:=by
      rw [beq_eq_false_iff_ne];exact hi6
     cases htb:o.testBit i with
     | true =>
      rw [htb] at hbit hsucc
      rw [hi8] at hsucc
      go_wp2_with fail
      go_roundw
      case rel=>exact ⟨i+1,rs,by go_num,by omega,HS,hid (by rw [hsucc,if_neg (by decide),List.append_nil,HM.out])⟩
      case measure=>simp [zal];omega
     | false =>
      rw [htb] at hbit hsucc
      rw [hi8] at hsucc
      have hm3:rs.length+1≤maxLen:=by unfold maxLen;have:=Hrl.out;omega
      have hm4:(rs.length+1) * 24≤140737488355328:=by have:=Hrl.out;omega
      have hbase:=HS.out.x.size
      go_wp2_with (at_builtin;refine wpList_append_own _ rfl _ _ 29 rfl W3.heap.size 33 j0 (.slice none 0 0) 1 24 Tryz.underlying29 hj hy0 hy1 hy2 rfl (by decide) _ _ _ rfl (HS.out.o.alloc _) ⟨wr.heap.size,0,none⟩ 1 1 [.slice au (ziW[i]?.getD []).length cu] rfl rfl (cell_one_new _ _ _) (by simp [Value.oneCell']) hm3 hm4 (by rw [World.size_alloc];omega) ?_;intro v7 V7 hown7 hgrow7 _)
      go_roundw
      case rel=>exact ⟨i+1,rs++[⟨ziW.getD i [],.slice au (ziW[i]?.getD []).length cu,rfl⟩],by go_num,by omega,hid (HS.out.more ⟨ziW.getD i [],.slice au (ziW[i]?.getD []).length cu,rfl⟩ Hg2.out hown7 ((HS.out.x.alloc _).grown hgrow7 fun q hq=>(World.ownsRow.lt HS.out.o q hq).1)),hid (by rw [hsucc,if_pos (by rfl),List.map_append,HM.out];rfl)⟩
      case measure=>simp [zal];omega
   ·have hni:¬ (i:Int)<7:=by omega
    have hie:i=7:=by omega
    subst hie
    have hb2r:=zoi.ext HS.out.x Hb2.out
    have hmt:=HS.out.set (Hb3.out.ext HS.out.x) zoB (.slice a4 rs.length c4)
    have hpt:=(HS.out.x.sl Hp3.out).apart (Hb3.out.ext HS.out.x) (zpz _ _ _ _ _ _ _) fun c hc=>heap_setCell_other wr ⟨w1.heap.size,1,none⟩ c (.slice a4 rs.length c4) hc
    have hxn:=((HX0.out.trans HX3.out).trans HS.out.x).setCell (p:=⟨w1.heap.size,1,none⟩) (by show w.heap.size≤w1.heap.size;have:=Hlt.out;omega) (.slice a4 rs.length c4)
    have hkl:=congrArg List.length HM.out
    rw [List.length_map] at hkl
    rw [HM.out] at hmt
    have Hmt:=hid hmt;have Hpt:=hid hpt;have Hxn:=hid hxn;have Hkl:=hid hkl;clear hmt hpt hxn hkl
    have Hne:=hid (show w1.heap.size ≠ w.heap.size+1 by have:=Hlt.out;omega)
    have Hbr:=hid hbr;have Hb2r:=hid hb2r;clear hbr hb2r
    go_upto_region 10 with fail
    have hbn:=Hbr.out.put1 (.slice a4 rs.length c4)
    have hb2n:=Hb2r.out.past1 1 Hne.out.symm (.slice a4 rs.length c4)
    have hEn:=(Ext.refl W3).trans HS.out.x
    have hcn0:=hbn.c0
    have hcn1:=hbn.c1
    have hr0:=hb2n.c0
    have hr1:=hb2n.c1
    have hz0:=hb2n.fz 0
    have hz1:=hb2n.fz 1
    go_wp2_with fail
    generalize wr.setCell ⟨w1.heap.size,1,none⟩ (.slice a4 rs.length c4)=W9 at *
    have hfin:=hb2n.put (.slice p1 b1 n1) (.slice a4 rs.length c4)
    have hd0:=hfin.c0
    have hd1:=hfin.c1
    have hap:=zp1 W9 (w.heap.size+1) (.slice p1 b1 n1) (.slice a4 rs.length c4)
    have hkl:=zpu o 7
    have hlst:=zpw o ho
    exact bodyPost_ret (v:=.agg #[.slice p1 b1 n1,.slice a4 rs.length c4]) (by simp [results,Tryz.results8,go_sem,hd0,hd1]) rfl ⟨_,_,rfl,[2,3,5],Hpt.out.apart hb2n (zpz _ _ _ _ _ _ _) hap,zps o 7,Hmt.out.apart (zp4 o 7 (Nat.le_refl _)) hb2n hap,zpy,Hep.out,zpx o,by omega,zp3 o 7 (Nat.le_refl _),⟨0,rfl⟩,hlst,(Hxn.out.setCell (p:=⟨w.heap.size+1,0,none⟩) (by show w.heap.size≤w.heap.size+1;omega) _).setCell (p:=⟨w.heap.size+1,1,none⟩) (by show w.heap.size≤w.heap.size+1;omega) _⟩
 | false =>
  clear Hep Hma
  have hok:=zht n
  have h4:=hok.len
  obtain ⟨i0,hi,hz0,hz1,hz2⟩:=info_parts zc1
  have hpr:=fun W=>zhh n W hn
  have hten:∃ r,zgS (zha n)=zgS (zha r):=⟨n,rfl⟩
  generalize hpp:zgS (zha n)=p at hpr hok h4 hten
  clear hpp
  obtain ⟨nn,hnn⟩:∃ nn,p.length=nn+1:=⟨p.length - 1,by omega⟩
  have Hpr:=hid hpr;have Hok:=hid hok;have Hten:=hid hten;clear hpr hok hten
  go_wp2_with fail
  generalize (w.alloc (.cells #[.int .u8 n,.slice am m cm,.bool false,.int .u8 o] 24)).alloc (.cells #[.slice none 0 0,.slice none 0 0] 31)=W0 at *
  refine (Hpr.out _).mono ?_
  rintro e w1 ⟨v1,rfl,ho1,hx1⟩
  have hs9:∃ a c,v1=.slice a (nn+1) c:=by
   obtain ⟨a,c,e⟩:=zc3 ho1;rw [hnn] at e;exact ⟨a,c,e⟩
  obtain ⟨a1,c1,rfl⟩:=hs9
  have hp1:=ho1.sl
  have Hp1:=hid hp1;have Hx1:=hid hx1;clear hp1 hx1
  clear ho1 Hpr
  have hn4:nn+1≤4:=by omega
  go_wp2_with (at_make;refine wpList_make_full _ rfl _ _ 33 rfl w1.heap.size 3 i0 (.int .i64 0) 1 Tryz.underlying33 hi hz0 hz1 _ _ _ _ (nn+1) rfl rfl (by simp) (by simp) (by rw [hz2];omega) (by unfold maxLen;omega) (Nat.le_refl _) ?_;intro w2 hown hgrow;have hO:=zpq hown;have hc0:=zhI hO 0 (by show 0<(zgM (nn+1)).length;unfold zgM;rw [List.length_replicate];omega);have hfz:w2.frozen? ⟨w1.heap.size,0,none⟩=false:=World.ownsRow.frozenAt hO 0;have hset:=zhH hO 0 1;have hx2:Ext w1 w2:=(Ext.refl _).grown hgrow (by simp);have hx3:Ext w1 (w2.setCell ⟨w1.heap.size,0,none⟩ (.int .i64 1)):=hx2.setCell (p:=⟨w1.heap.size,0,none⟩) (Nat.le_refl _) _;have hpl1:=(Hpl.out _ (Hx1.out.trans hx3)).1;have Hx3:=hid hx3;have hO2:=hid hset;clear hO hown hset hgrow hx2 hx3)
  rw [show (zgM (nn+1)).set 0 1=zjT nn from rfl,show (zgM (nn+1)).length=nn+1 from List.length_replicate] at hO2
  generalize w2.setCell ⟨w1.heap.size,0,none⟩ (.int .i64 1)=w3 at *
  have hX3:=Hx1.out.trans Hx3.out
  have hiv:=zoI (.slice a1 (nn+1) c1) am cm m p Q w3 (Hx3.out.sl Hp1.out) (by omega) (hQ.ext (HX0.out.trans hX3)) hm h8 hb
  have Hiv:=hid hiv;have HX3:=hid hX3;clear hiv hX3
  clear hc0 hfz hpl1
  refine Hiv.out.mono ?_
  rintro e w4 ⟨v4,rfl,rs,hR,hMx,hx4⟩
  have hMt:Mat w4 v4 (ivs p.length Q):=by rw [← hMx];exact RwM.reads hR
  have hrl:rs.length=m:=by
   have h:=congrArg List.length hMx;unfold ivs at h;rw [List.length_map,List.length_map,hm] at h;exact h
  have hv4:∃ a c,v4=.slice a m c:=by
   obtain ⟨a,c,e⟩:=zc3 hR.1;rw [hrl] at e;exact ⟨a,c,e⟩
  obtain ⟨a4,c4,rfl⟩:=hv4
  have hcol:=fun W (hE:Ext w4 W)=>zoF (.slice a1 (nn+1) c1) (.slice (some ⟨w1.heap.size,0,none⟩) (nn+1) (nn+1)) (.slice a4 m c4) p (ivs p.length Q) nn m W (he.ext (((HX0.out.trans HX3.out).trans hx4).trans hE)) (((Hx3.out.trans hx4).trans hE).sl Hp1.out) ((hx4.trans hE).sl hO2.out.sl) (hE.mat hMt) Hok.out hnn (by unfold ivs;rw [List.length_map];exact hm) h8 (fun x hx=>by
   unfold ivs at hx;obtain ⟨e,_,rfl⟩:=List.mem_map.1 hx;exact zoH e)
  have hX4:=HX3.out.trans hx4
  have hp4:=(Hx3.out.trans hx4).sl Hp1.out
  have Hcol:=hid hcol;have HX4:=hid hX4;have Hp4:=hid hp4;clear hcol hX4 hp4
  clear hR hMx hMt hx4
  go_wp2_with fail
  refine (Hcol.out w4 (Ext.refl _)).mono ?_
  rintro e w5 ⟨v5,rfl,ss,hm5,hS5,hl5,hx5⟩
  have hv5:∃ a n c,v5=.slice a n c:=by
   obtain ⟨vs,_,hvs,_⟩:=hm5;obtain ⟨a,c,e,_⟩:=hvs.parts;exact ⟨a,_,c,e⟩
  obtain ⟨a5,n5,c5,rfl⟩:=hv5
  have hb2n:=zoi.ext (HX4.out.trans hx5) Hb0.out
  have hp5:=hx5.sl Hp4.out
  have hX5:=HX0.out.trans (HX4.out.trans hx5)
  have hr0:=hb2n.c0
  have hr1:=hb2n.c1
  have hz8:=hb2n.fz 0
  have hz9:=hb2n.fz 1
  have Hm5:=hid hm5;have HS5:=hid hS5;have Hl5:=hid hl5;have HX5:=hid hX5;have Hp5:=hid hp5;clear hm5 hS5 hl5 hX5 hp5
  clear hx5
  go_wp2_with fail
  have hfin:=hb2n.put (.slice a1 (nn+1) c1) (.slice a5 n5 c5)
  have hd0:=hfin.c0
  have hd1:=hfin.c1
  have hap:=zp1 w5 (w.heap.size+1) (.slice a1 (nn+1) c1) (.slice a5 n5 c5)
  have hlS:=HS5.out.ne
  have hl9:=Hl5.out
  exact bodyPost_ret (v:=.agg #[.slice a1 (nn+1) c1,.slice a5 n5 c5]) (by simp [results,Tryz.results8,go_sem,hd0,hd1]) rfl ⟨_,_,rfl,p,ss,Hp5.out.apart hb2n (zpz _ _ _ _ _ _ _) hap,Hm5.out.apart (fun x hx=>by rw [(HS5.out.iv x hx).len];omega) hb2n hap,Hok.out,HS5.out.ep Hok.out (by omega),hlS,by omega,HS5.out.rowsB,Hten.out,HS5.out.last,(HX5.out.setCell (p:=⟨w.heap.size+1,0,none⟩) (by show w.heap.size≤w.heap.size+1;omega) _).setCell (p:=⟨w.heap.size+1,1,none⟩) (by show w.heap.size≤w.heap.size+1;omega) _⟩
end
section
open Go.RowKit Go.Lib
def ScV (w:World)(v:Value)(p:List Int)(rs:List Qw):Prop:=∃ vp vn,v=.agg #[vp,vn]∧Sl w vp (zap p)∧RdM w vn rs
theorem ScV.ext {w w':World}{v:Value}{p:List Int}{rs:List Qw}(h:ScV w v p rs)(hx:Ext w w'):ScV w' v p rs:=by
 obtain ⟨vp,vn,e,a,b⟩:=h;exact ⟨vp,vn,e,hx.sl a,hx.rdM b⟩
def Sm (x:List Int):Prop:=Tl9 x∧-101≤zas x 0∧zas x 0≤101
theorem Sm.at {x:List Int}(h:Sm x)(i:Nat)(hi:0<i):-9≤zas x i∧zas x i≤9:=by have:=h.1 i hi;omega
theorem zp6 {p b x:List Int}{l:List (List Int)}(h:zgN p b (x::l)=0):zgr p x=0∧zgI p b x<0∧zgN p x l=0:=by
 unfold zgN at h;by_cases h1:zgr p x ≠ 0
 ·rw [if_pos h1] at h;exact absurd h h1
 ·rw [if_neg h1] at h;by_cases h2:0≤zgI p b x
  ·rw [if_pos h2] at h;cases h
  ·rw [if_neg h2] at h;exact ⟨Decidable.not_not.1 h1,by omega,h⟩
theorem zp7 {p:List Int}:∀ {l:List (List Int)}{b:List Int},zgN p b l=0→∀ k,k<l.length→zgI p (if k=0 then b else l.getD (k - 1) []) (l.getD k [])<0
 | [],_,_,k,hk=>by simp at hk
 | x::l,b,h,k,hk=>by
  obtain ⟨_,h2,h3⟩:=zp6 h
  cases k with
  | zero=>exact h2
  | succ j =>
   have ih:=zp7 h3 j (by simpa using hk)
   rw [if_neg (by omega)]
   cases j with
   | zero=>exact ih
   | succ i=>exact ih
theorem zp8 {p:List Int}{l:List (List Int)}(h:zgO p l=0):∀ k,k<l.length→zgI p (if k=0 then zgM p.length else l.getD (k - 1) []) (l.getD k [])<0:=by
 unfold zgO at h;(repeat' split at h)
 ·exact absurd h (by assumption)
 ·cases h
 ·cases h
 ·exact fun k hk=>zp7 h k hk
end
end Go.Proofs.YtipkdebkdnbieaaGreatDoor
