/- Walk: the law SubsetStricter. -/
import Derived.Test.YtipjmpdndokdlaaGreatDoorPc44
import Derived.Test.YtipjmpdndokdlaaGreatDoorPc43
set_option maxRecDepth 100000
set_option maxHeartbeats 8000000
namespace Go.Proofs.YtipjmpdndokdlaaGreatDoor
open Go.RowKit Go.Lib Go.Shelf
attribute [local go_sem] Oper.semAt_some
/-- Six answers under way: the query's block, the list, and the row of answers. -/
structure StR (w2 : World) (vp vn vm : Value) (len : Int) (b : Bool) (va : Value) (la : List Int) (F : Int → Bool) (B8 B : Nat) (k : Nat) (wr : World) : Prop where
 x:Ext w2 wr
 box:∃ P,Box6 wr w2.heap.size vp vn len P vm b
 own:OwnI wr B va la
 arr:∃ arr:Array Value,wr.heap[B8]?=some (.cells arr 57 (0,0))∧arr.size=7∧∀ j:Nat,1≤j→j<k→arr[j]?=some (.bool (F j))
section
variable {w2 wr w' : World} {vp vn vm : Value} {len : Int} {b : Bool} {va : Value} {la : List Int} {F : Int → Bool} {B8 B k : Nat}
theorem StR.set3 (h:StR w2 vp vn vm len b va la F B8 B k wr)(h8:w2.heap.size<B8)(z:Int) :
  Box6 (wr.setCell ⟨w2.heap.size,3,none⟩ (.int .i64 z)) w2.heap.size vp vn len z vm b∧StR w2 vp vn vm len b va la F B8 B k (wr.setCell ⟨w2.heap.size,3,none⟩ (.int .i64 z)):=by
 obtain ⟨hx,⟨P,hb⟩,ho,arr,ha,hs,hj⟩:=h
 exact ⟨hb.set3 z,hx.setCell (Nat.le_refl _) _,⟨z,hb.set3 z⟩,own_set_apart hb ho (by decide) 3 _,arr,(heap_setCell_other _ _ _ _ (by dsimp only;omega)).trans ha,hs,hj⟩
theorem StR.ext (h:StR w2 vp vn vm len b va la F B8 B k wr)(hx:Ext wr w'):StR w2 vp vn vm len b va la F B8 B k w':=by
 obtain ⟨h1,⟨P,hb⟩,ho,arr,ha,hs,hj⟩:=h
 exact ⟨h1.trans hx,⟨P,hb.ext hx⟩,hx.ownI ho,arr,hx.heap ha,hs,hj⟩
theorem StR.put (h:StR w2 vp vn vm len b va la F B8 B k wr)(h8:w2.heap.size<B8)(hk:k<7):StR w2 vp vn vm len b va la F B8 B (k+1) (wr.setCell ⟨B8,k,none⟩ (.bool (F k))):=by
 obtain ⟨h1,⟨P,hb⟩,ho,arr,ha,hs,hj⟩:=h
 refine ⟨h1.setCell (Nat.le_of_lt h8) _,⟨P,(heap_setCell_other _ _ _ _ (by dsimp only;omega)).trans hb⟩,own_set_apart ha ho (by decide) k _,arr.setIfInBounds k (.bool (F k)),heap_setCell_same _ _ k _ _ _ ha,by simpa using hs,fun j h1 hjk=>?_⟩
 rw [Array.getElem?_setIfInBounds]
 by_cases e:k=j
 ·subst e
  rw [if_pos rfl,if_pos (by omega)]
 ·rw [if_neg e]
  exact hj j h1 (by omega)
theorem StR.cell (h:StR w2 vp vn vm len b va la F B8 B k wr){j:Nat}(h1:1≤j)(hj:j<k):wr.cell? ⟨B8,j,none⟩=some (.bool (F j)):=by
 obtain ⟨_,_,_,arr,ha,_,h2⟩:=h
 rw [cell_of_row wr B8 j _ _ _ ha]
 exact h2 j h1 hj
theorem StR.old (h:StR w2 vp vn vm len b va la F B8 B k wr){j:Nat}(hj:j<7):(∃ u,wr.cell? ⟨B8,j,none⟩=some u)∧wr.frozen? ⟨B8,j,none⟩=false:=by
 obtain ⟨_,_,_,arr,ha,hs,_⟩:=h
 rw [cell_of_row wr B8 j _ _ _ ha]
 exact ⟨⟨_,Array.getElem?_eq_getElem (by omega)⟩,frozen_of_row wr B8 j _ _ ha⟩
end
theorem strictL_c (d:Dl)(bs:Nat)(w:World)(he:Env w)(hd:d.Ok)(hbs:bs<65536) :
  Calls Tryz.prog 5 #[d.v,.int .u16 (bs:Int)] w fun e w'=>e=.returned (.bool true)∧Ext w w':=by
 have hkn:=fun W (hE:Ext w W)=>known38_c W (he.ext hE)
 have hmk:=fun W (hE:Ext w W)=>lmk_c d W (he.ext hE) hd
 have hrl:=dl_box d w
 have hun:=Tryz.underlying49
 have hin:=dl_info d
 have hE0:Ext w (w.alloc (.cells d.cs 49)):=(Ext.refl w).alloc _
 have Hkn:=hid hkn;have Hmk:=hid hmk;have Hrl:=hid hrl;have Hun:=hid hun;have Hin:=hid hin;have HE0:=hid hE0;clear hkn hmk hrl hun hin hE0
 have He:=hid he;clear he hd
 have hv:d.v=.agg d.cs:=rfl
 have Hv:=hid hv
 rw [hv]
 clear hv
 rw [dl_lit]
 go_enter Tryz.func5,Tryz.ntmps5
 rw [← dl_lit]
 go_wp2_with fail
 refine (Hkn.out _ HE0.out).mono ?_
 rintro e w1 ⟨rfl,hx1⟩
 have hrl1:=Hrl.out w1 hx1
 have Hx1:=hid (HE0.out.trans hx1);have Hrl1:=hid hrl1
 clear hx1 hrl1
 have Hmk1:=hid (Hmk.out w1 Hx1.out)
 go_wp2_with (refine wpList_load_mid rfl 49 (.tmp 2) rfl w.heap.size 0 rfl d.cs.toList _ Hrl1.out Hun.out rfl Hin.out ?_)
 rw [← Hv.out]
 refine Hmk1.out.mono ?_
 rintro e w2 ⟨v2,rs,rfl,hq2,hc2,hx2⟩
 have hw2:=wl_wc d.wl hc2
 obtain ⟨ap,cp,an,cn,am,cm,rfl,hs2,hm2⟩:=hq2.let
 have hpos:=hw2.wd.pos
 have hfew:=hw2.few
 have hlm:(rs.map Qw.x).length=rs.length:=List.length_map ..
 rw [hlm] at hpos hfew
 obtain ⟨hqe,hm1,hmn,hP1,hP6,hM0,hML⟩:=dl_qry d hpos
 have hE3:=(Ext.refl w2).alloc (.cells #[.slice ap d.wl.p.length cp,.slice an rs.length cn,.int .i64 (d.m rs.length:Int),.int .i64 d.P,.slice am (d.M rs.length).length cm,.bool d.modes] 39)
 have hb3:=Box6.new w2 (.slice ap d.wl.p.length cp) (.slice an rs.length cn) (d.m rs.length:Int) d.P (.slice am (d.M rs.length).length cm) d.modes
 have hq3:=hq2.ext hE3
 have hx3:=Hx1.out.trans hx2
 have hck:=lchk_c _ d.wl.p rs _ _ _ _ _ (He.out.ext (hx3.trans hE3)) hq3 hw2.wd (by omega) hqe
 obtain ⟨vp2,vn2,ev2,hsp2,hsn2⟩:=hs2
 injection ev2 with ev2
 injection ev2 with ev2
 injection ev2 with ev21 ev22
 injection ev22 with ev22 _
 subst ev21 ev22
 obtain ⟨q0,q1,q2,q3,q4,q5⟩:=hb3.cs
 have Hck:=hid hck;have Hb3:=hid hb3;have Hx3:=hid hx3;have Hw2:=hid hw2;have HE3:=hid hE3;have Hsp:=hid hsp2;have Hsn:=hid hsn2;have Hsm:=hid hm2;have HM0:=hid hM0
 have Hz3:=hid (show (w2.alloc (.cells #[.slice ap d.wl.p.length cp,.slice an rs.length cn,.int .i64 (d.m rs.length:Int),.int .i64 d.P,.slice am (d.M rs.length).length cm,.bool d.modes] 39)).heap.size=w2.heap.size+1 from World.size_alloc _ _)
 clear hck hb3 hx3 hw2 hE3 hsp2 hsn2 hm2 hq2 hq3 hx2 hc2 hM0 hlm hqe Hmk1 Hkn Hmk Hrl Hrl1 Hun Hin hm1 hmn hP1 hP6
 generalize hn:rs.length=n at *
 generalize hMl:(d.M n).length=ML at *
 have Hn:=hid hn;have HMl:=hid hMl
 clear hn hMl
 go_wp2_with fail
 generalize w2.alloc (.cells #[.slice ap d.wl.p.length cp,.slice an n cn,.int .i64 (d.m n:Int),.int .i64 d.P,.slice am ML cm,.bool d.modes] 39)=W3 at *
 refine Hck.out.mono ?_
 rintro e w4 ⟨rfl,hx4⟩
 obtain ⟨i0,hj,hz0,hz1,hz2⟩:=info_parts info_int
 obtain ⟨p,hp⟩:∃ p:Nat→Bool,p=fun i=>bs.testBit i:=⟨_,rfl⟩
 have Hp:=hid hp;have Hx4:=hid hx4
 clear hp hx4 q0 q1 q2 q3 q4 q5
 obtain ⟨q0,q1,q2,q3,q4,q5⟩:=(Hb3.out.ext Hx4.out).cs
 go_wp2_with fail
 clear q0 q1 q2 q3 q4 q5
 go_loopw [6,7] (fun v6 v7 wr=>∃ k:Nat,v7=.int .i64 k∧k≤n∧OwnI wr W3.heap.size v6 (bitL k p)∧Ext W3 wr) (fun _ v7 _=>n - (intOf v7).toNat)
 case atStart=>exact ⟨0,rfl,Nat.zero_le _,⟨rfl,.inl ⟨rfl,rfl⟩⟩,Hx4.out⟩
 case round =>
  obtain ⟨k,rfl,hk,ho,hE⟩:=hrel
  obtain ⟨al,cl,rfl⟩:=own_shape ho
  have hLk:=bitL_len k p
  have hsp:=bitL_succ k p
  obtain ⟨q0,q1,q2,q3,q4,q5⟩:=(Hb3.out.ext hE).cs
  have ha:=ho
  unfold OwnI at ha
  have hwr:=hE.size
  generalize hla:(bitL k p).length=L at *
  have Hla:=hid hla;have Ho:=hid ho;have HE:=hid hE;have Ha:=hid ha
  clear hla ho hE ha
  by_cases hkn:k<n
  ·have hk0:(k:Int)<(n:Int):=by omega
   have hq1:=bit_u16 bs k hbs
   rw [show bs.testBit k=p k by rw [Hp.out]] at hq1
   cases hb1:p k with
   | true =>
    have Hs1:=hid (show bitL (k+1) p=bitL k p++[(k:Int)] by rw [hsp,hb1];simp)
    rw [hb1] at hq1
    have hm3:L+1≤maxLen:=by unfold maxLen;omega
    have hm4:(L+1) * 8≤140737488355328:=by omega
    clear hsp
    go_wp2_with (at_builtin;refine wpList_append_own _ rfl _ _ 28 rfl W3.heap.size 3 i0 (.int .i64 0) 1 8 Tryz.underlying28 hj hz0 hz1 hz2 rfl (by decide) _ _ _ rfl (Ha.out.alloc _) ⟨wr.heap.size,0,none⟩ 1 1 [.int .i64 (k:Int)] rfl rfl (cell_one_new _ _ _) (by simp [Value.oneCell']) hm3 hm4 (by rw [World.size_alloc];omega) ?_;intro v7 V7 hown7 hgrow7 _)
    go_roundw
    case rel=>exact ⟨k+1,by go_num,hkn,by rw [Hs1.out];unfold OwnI;rw [List.length_append,List.length_singleton,Hla.out,i64s,List.map_append];exact hown7,(HE.out.alloc _).grown hgrow7 fun k hk=>(World.ownsRow.lt Ha.out k hk).1⟩
    case measure=>simp [intOf];omega
   | false =>
    have Hs1:=hid (show bitL (k+1) p=bitL k p by rw [hsp,hb1];simp)
    rw [hb1] at hq1
    clear hsp
    go_wp2_with fail
    go_roundw
    case rel=>exact ⟨k+1,by go_num,hkn,by rw [Hs1.out];exact Ho.out,HE.out⟩
    case measure=>simp [intOf];omega
  ·obtain rfl:k=n:=by omega
   have hkn2:¬ (k:Int)<(k:Int):=by omega
   clear hsp Ha
   have hb:=Hb3.out.ext HE.out
   by_cases hL0:L=0
   ·subst hL0
    obtain ⟨la,hlaZ⟩:∃ la:List Int,la=[0]:=⟨_,rfl⟩
    have hlen:la.length=1:=by rw [hlaZ];rfl
    have hlne:la ≠ []:=by rw [hlaZ];simp
    have hlb:∀ x∈la,0≤x∧x<(k:Int):=by rw [hlaZ];intro x hx;rw [List.mem_singleton] at hx;omega
    have hlp:la.Pairwise (·<·):=by rw [hlaZ];exact List.pairwise_singleton _ _
    have ho7:OwnI (wr.alloc (.cells #[.int .i64 0] 3)) W3.heap.size (.slice (some ⟨wr.heap.size,0,none⟩) 1 1) la:=by
     rw [hlaZ]
     exact own_lit 3 #[.int .i64 0] hwr (by unfold maxLen;simp)
    have hx7:=HE.out.alloc (.cells #[.int .i64 0] 3)
    have hb7:=hb.ext ((Ext.refl wr).alloc (.cells #[.int .i64 0] 3))
    clear hlaZ hb q0 q2 q3 q4 q5
    have hsub:subE k la=0:=sub_yesE hlne hlb hlp
    have hwsub:Wc d.wl.p (subN d.wl.p (rs.map Qw.x) la):=sub_wc Hw2.out hlne (by omega) (by rw [List.length_map,Hn.out];exact hlb) hlp
    obtain ⟨A,hA⟩:∃ A,A=!((d.M k).any fun x=>!la.contains x):=⟨_,rfl⟩
    obtain ⟨F,hF⟩:∃ F:Int→Bool,F=fun z=>A && tst z d.wl.p (subN d.wl.p (rs.map Qw.x) la):=⟨_,rfl⟩
    have hF5:F 5=true→F 4=true∧F 6=true:=fun e=>by
     rw [hF] at e ⊢
     dsimp only at e ⊢
     rw [Bool.and_eq_true] at e
     obtain ⟨a,b⟩:=tst_strict hwsub e.2
     rw [e.1,a,b]
     exact ⟨rfl,rfl⟩
    have hF2:F 2=true→F 5=true:=fun e=>by
     rw [hF] at e ⊢
     dsimp only at e ⊢
     rw [Bool.and_eq_true] at e
     rw [e.1,tst_even hwsub e.2]
     rfl
    have hft:=fun (z:Int)(z1:1≤z)(z6:z≤6) W (hx:Ext w2 W)(ho:OwnI W W3.heap.size (.slice (some ⟨wr.heap.size,0,none⟩) 1 1) la)=>(show Calls Tryz.prog 10 #[.agg #[.slice ap d.wl.p.length cp,.slice an k cn,.int .i64 1,.int .i64 z,.slice am ML cm,.bool d.modes],.slice (some ⟨wr.heap.size,0,none⟩) 1 1] W fun e w'=>e=.returned (.tuple #[.bool (F z),.int .i64 0])∧Ext W w' from by
     have:=fits_c _ (.slice (some ⟨wr.heap.size,0,none⟩) 1 1) d.wl.p rs 1 z (d.M k) d.modes la W (He.out.ext (Hx3.out.trans hx)) ⟨_,_,_,rfl,hx.sl Hsp.out,hx.rdM Hsn.out,hx.sl Hsm.out⟩ Hw2.out.wd (sl_own ho) (by omega) (by
      rw [Hn.out]
      unfold qryE
      rw [if_neg (by omega),if_neg (by omega)]
      rw [HMl.out]
      exact HM0.out) (by rw [HMl.out];omega) (fun _ _ _=>hwsub)
     rw [Hn.out] at this
     have e2:fitV z d.wl.p (rs.map Qw.x) k 1 (d.M k) la=.tuple #[.bool (F z),.int .i64 0]:=by
      unfold fitV
      rw [if_pos hsub,decide_eq_true (by omega:((la.length:Int)=1)),hF,hA]
      rfl
     rw [e2] at this
     exact this)
    have hf1:=fun W (hx:Ext w2 W)(ho:OwnI W W3.heap.size (.slice (some ⟨wr.heap.size,0,none⟩) 1 1) la)=>(show Calls Tryz.prog 10 #[.agg #[.slice ap d.wl.p.length cp,.slice an k cn,.int .i64 1,.int .i64 1,.slice none 0 0,.bool d.modes],.slice (some ⟨wr.heap.size,0,none⟩) 1 1] W fun e w'=>e=.returned (.tuple #[.bool true,.int .i64 0])∧Ext W w' from by
     have:=fits_c _ (.slice (some ⟨wr.heap.size,0,none⟩) 1 1) d.wl.p rs 1 1 [] d.modes la W (He.out.ext (Hx3.out.trans hx)) ⟨_,_,_,rfl,hx.sl Hsp.out,hx.rdM Hsn.out,.inl ⟨none,0,rfl,Nat.zero_le _,rfl⟩⟩ Hw2.out.wd (sl_own ho) (by omega) (by
      rw [Hn.out]
      unfold qryE
      rw [if_neg (by omega),if_neg (by omega)]
      rfl) (by simp) (fun _ _ _=>hwsub)
     rw [Hn.out] at this
     have e2:fitV 1 d.wl.p (rs.map Qw.x) k 1 [] la=.tuple #[.bool true,.int .i64 0]:=by
      unfold fitV
      rw [if_pos hsub,decide_eq_true (by omega:((la.length:Int)=1))]
      rfl
     rw [e2] at this
     exact this)
    have Hft:=hid hft;have Hf1:=hid hf1;have HF5:=hid hF5;have HF2:=hid hF2;have Hb7:=hid hb7;have Hx7:=hid hx7;have Ho7:=hid ho7
    have h8:w2.heap.size<(wr.heap.size+1):=Nat.lt_of_lt_of_le (by rw [Hz3.out];exact Nat.lt_succ_self _) (Nat.le_trans hx7.size (by simp))
    clear hft hf1 hF5 hF2 hF hA hwsub hsub hlb hlp hlne hb7 hx7 ho7
    have q2:=Hb7.out.cs.2.2.1
    have z2:=Hb7.out.fz 2
    go_wp2_with fail
    clear q1 q2 z2
    go_loopw [9,10,11] (fun v9 v10 v11 wq=>∃ j:Nat,v9=.int .i64 j∧1≤j∧j≤7∧StR w2 (.slice ap d.wl.p.length cp) (.slice an k cn) (.slice am ML cm) 1 d.modes (.slice (some ⟨wr.heap.size,0,none⟩) 1 1) la F (wr.heap.size+1) W3.heap.size j wq) (fun v9 _ _ _=>7 - (intOf v9).toNat)
    case atStart =>
     refine ⟨1,rfl,Nat.le_refl _,by omega,?_⟩
     have hx8:Ext w2 ((wr.alloc (.cells #[.int .i64 0] 3)).setCell ⟨w2.heap.size,2,none⟩ (.int .i64 1)):=(HE3.out.trans Hx7.out).setCell (Nat.le_refl _) _
     have hz8:((wr.alloc (.cells #[.int .i64 0] 3)).setCell ⟨w2.heap.size,2,none⟩ (.int .i64 1)).heap.size=(wr.heap.size+1):=by simp
     have ho8:=own_set_apart Hb7.out Ho7.out (by decide) 2 (.int .i64 1)
     have hx9:=(Ext.refl ((wr.alloc (.cells #[.int .i64 0] 3)).setCell ⟨w2.heap.size,2,none⟩ (.int .i64 1))).alloc (.cells #[.bool false,.bool false,.bool false,.bool false,.bool false,.bool false,.bool false] 57)
     refine ⟨hx8.trans hx9,⟨_,(Hb7.out.set2 1).ext hx9⟩,hx9.ownI ho8,#[.bool false,.bool false,.bool false,.bool false,.bool false,.bool false,.bool false],?_,rfl,fun j h1 h2=>by omega⟩
     rw [← hz8]
     exact World.alloc_heap_new _ _
    case round =>
     obtain ⟨j,rfl,hj1,hj7,hS⟩:=hrel
     have HS:=hid hS
     clear hS
     obtain ⟨P0,hb0⟩:=HS.out.box
     have q3:=hb0.cs.2.2.2.1
     have z3:=hb0.fz 3
     clear hb0
     by_cases hj6:j<7
     ·have hj0:(0:Int)≤(j:Int):=by omega
      have hji:(j:Int)≤6:=by omega
      have hji7:(j:Int)<7:=by omega
      obtain ⟨hB3,hS3⟩:=HS.out.set3 h8 (j:Int)
      obtain ⟨r0,r1,r2,r3,r4,r5⟩:=hB3.cs
      have hf:=Hft.out (j:Int) (by omega) (by omega) _ hS3.x hS3.own
      have Hf:=hid hf;have HS3:=hid hS3
      clear hf hS3 hB3
      go_wp2_with fail
      refine Hf.out.mono ?_
      rintro e wf ⟨rfl,hxf⟩
      have hS4:=HS3.out.ext hxf
      obtain ⟨⟨uo,co⟩,zo⟩:=hS4.old hj6
      have HS5:=hid (hS4.put h8 hj6)
      clear hS4 hxf r0 r1 r2 r3 r4 r5 q3 z3
      go_wp2_with fail
      go_roundw
      case rel=>exact ⟨j+1,by go_num,by omega,by omega,HS5.out⟩
      case measure=>simp [intOf];omega
     ·obtain rfl:j=7:=by omega
      have c5:=HS.out.cell (j:=5) (by omega) (by omega)
      rw [show ((5:Nat):Int)=5 from rfl] at c5
      have c4:=HS.out.cell (j:=4) (by omega) (by omega)
      rw [show ((4:Nat):Int)=4 from rfl] at c4
      have c6:=HS.out.cell (j:=6) (by omega) (by omega)
      rw [show ((6:Nat):Int)=6 from rfl] at c6
      have c2:=HS.out.cell (j:=2) (by omega) (by omega)
      rw [show ((2:Nat):Int)=2 from rfl] at c2
      obtain ⟨P1,hb1⟩:=HS.out.box
      have q4:=hb1.cs.2.2.2.2.1
      have z4:=hb1.fz 4
      have z3':=(hb1.set4 (.slice none 0 0)).fz 3
      have q3':=(hb1.set4 (.slice none 0 0)).cs.2.2.2.1
      have hbE:=(hb1.set4 (.slice none 0 0)).set3 1
      obtain ⟨r0,r1,r2,r3,r4,r5⟩:=hbE.cs
      have hxE:Ext w2 ((wr.setCell ⟨w2.heap.size,4,none⟩ (.slice none 0 0)).setCell ⟨w2.heap.size,3,none⟩ (.int .i64 1)):=(HS.out.x.setCell (Nat.le_refl _) (.slice none 0 0)).setCell (Nat.le_refl _) (.int .i64 1)
      have hoE:=own_set_apart (hb1.set4 (.slice none 0 0)) (own_set_apart hb1 HS.out.own (by decide) 4 (.slice none 0 0)) (by decide) 3 (.int .i64 1)
      have hfE:=Hf1.out _ hxE hoE
      have HfE:=hid hfE;have HxE:=hid (Hx3.out.trans hxE)
      clear hb1 hbE hxE hoE hfE
      have hF5:=HF5.out
      have hF2:=HF2.out
      generalize F 5=F5 at *
      generalize F 2=F2 at *
      generalize F 4=F4 at *
      generalize F 6=F6 at *
      rcases (show (F5=true∧F4=true∧F6=true)∨(F5=false∧F2=false) from by
       cases F5 with
       | true=>exact .inl ⟨rfl,hF5 rfl⟩
       | false=>exact .inr ⟨rfl,by cases F2 with | true=>exact absurd (hF2 rfl) (by decide) | false=>rfl⟩) with ⟨rfl,rfl,rfl⟩ | ⟨rfl,rfl⟩
      ·cases F2
       all_goals
        clear hF5 hF2
        go_wp2_with fail
        refine HfE.out.mono ?_
        rintro e wl ⟨rfl,hxl⟩
        have HxL:=hid (HxE.out.trans hxl)
        clear hxl r0 r1 r2 r3 r4 r5
        go_wp2_with fail
        go_ret
        exact ⟨rfl,HxL.out⟩
      ·clear hF5 hF2
       go_wp2_with fail
       refine HfE.out.mono ?_
       rintro e wl ⟨rfl,hxl⟩
       have HxL:=hid (HxE.out.trans hxl)
       clear hxl r0 r1 r2 r3 r4 r5
       go_wp2_with fail
       go_ret
       exact ⟨rfl,HxL.out⟩
   ·have hL1:¬ (L:Int)=0:=by omega
    have hL2:((L:Int) == 0)=false:=by simpa using hL0
    have hok:=bitL_ok k p
    obtain ⟨la,hlaZ⟩:∃ la:List Int,la=bitL k p:=⟨_,rfl⟩
    rw [← hlaZ] at hok
    have hlen:la.length=L:=by rw [hlaZ];exact Hla.out
    have hlne:la ≠ []:=by intro e;rw [e] at hlen;exact hL0 hlen.symm
    have hlb:=hok.1
    have hlp:=hok.2
    have ho7:OwnI wr W3.heap.size (.slice al L cl) la:=by rw [hlaZ];exact Ho.out
    have hx7:=HE.out
    have hb7:=hb
    clear hlaZ hb hok q0 q2 q3 q4 q5
    have hsub:subE k la=0:=sub_yesE hlne hlb hlp
    have hwsub:Wc d.wl.p (subN d.wl.p (rs.map Qw.x) la):=sub_wc Hw2.out hlne (by omega) (by rw [List.length_map,Hn.out];exact hlb) hlp
    obtain ⟨A,hA⟩:∃ A,A=!((d.M k).any fun x=>!la.contains x):=⟨_,rfl⟩
    obtain ⟨F,hF⟩:∃ F:Int→Bool,F=fun z=>A && tst z d.wl.p (subN d.wl.p (rs.map Qw.x) la):=⟨_,rfl⟩
    have hF5:F 5=true→F 4=true∧F 6=true:=fun e=>by
     rw [hF] at e ⊢
     dsimp only at e ⊢
     rw [Bool.and_eq_true] at e
     obtain ⟨a,b⟩:=tst_strict hwsub e.2
     rw [e.1,a,b]
     exact ⟨rfl,rfl⟩
    have hF2:F 2=true→F 5=true:=fun e=>by
     rw [hF] at e ⊢
     dsimp only at e ⊢
     rw [Bool.and_eq_true] at e
     rw [e.1,tst_even hwsub e.2]
     rfl
    have hft:=fun (z:Int)(z1:1≤z)(z6:z≤6) W (hx:Ext w2 W)(ho:OwnI W W3.heap.size (.slice al L cl) la)=>(show Calls Tryz.prog 10 #[.agg #[.slice ap d.wl.p.length cp,.slice an k cn,.int .i64 (L:Int),.int .i64 z,.slice am ML cm,.bool d.modes],.slice al L cl] W fun e w'=>e=.returned (.tuple #[.bool (F z),.int .i64 0])∧Ext W w' from by
     have:=fits_c _ (.slice al L cl) d.wl.p rs (L:Int) z (d.M k) d.modes la W (He.out.ext (Hx3.out.trans hx)) ⟨_,_,_,rfl,hx.sl Hsp.out,hx.rdM Hsn.out,hx.sl Hsm.out⟩ Hw2.out.wd (sl_own ho) (by omega) (by
      rw [Hn.out]
      unfold qryE
      rw [if_neg (by omega),if_neg (by omega)]
      rw [HMl.out]
      exact HM0.out) (by rw [HMl.out];omega) (fun _ _ _=>hwsub)
     rw [Hn.out] at this
     have e2:fitV z d.wl.p (rs.map Qw.x) k (L:Int) (d.M k) la=.tuple #[.bool (F z),.int .i64 0]:=by
      unfold fitV
      rw [if_pos hsub,decide_eq_true (by omega:((la.length:Int)=(L:Int))),hF,hA]
      rfl
     rw [e2] at this
     exact this)
    have hf1:=fun W (hx:Ext w2 W)(ho:OwnI W W3.heap.size (.slice al L cl) la)=>(show Calls Tryz.prog 10 #[.agg #[.slice ap d.wl.p.length cp,.slice an k cn,.int .i64 (L:Int),.int .i64 1,.slice none 0 0,.bool d.modes],.slice al L cl] W fun e w'=>e=.returned (.tuple #[.bool true,.int .i64 0])∧Ext W w' from by
     have:=fits_c _ (.slice al L cl) d.wl.p rs (L:Int) 1 [] d.modes la W (He.out.ext (Hx3.out.trans hx)) ⟨_,_,_,rfl,hx.sl Hsp.out,hx.rdM Hsn.out,.inl ⟨none,0,rfl,Nat.zero_le _,rfl⟩⟩ Hw2.out.wd (sl_own ho) (by omega) (by
      rw [Hn.out]
      unfold qryE
      rw [if_neg (by omega),if_neg (by omega)]
      rfl) (by simp) (fun _ _ _=>hwsub)
     rw [Hn.out] at this
     have e2:fitV 1 d.wl.p (rs.map Qw.x) k (L:Int) [] la=.tuple #[.bool true,.int .i64 0]:=by
      unfold fitV
      rw [if_pos hsub,decide_eq_true (by omega:((la.length:Int)=(L:Int)))]
      rfl
     rw [e2] at this
     exact this)
    have Hft:=hid hft;have Hf1:=hid hf1;have HF5:=hid hF5;have HF2:=hid hF2;have Hb7:=hid hb7;have Hx7:=hid hx7;have Ho7:=hid ho7
    have h8:w2.heap.size<wr.heap.size:=Nat.lt_of_lt_of_le (by rw [Hz3.out];exact Nat.lt_succ_self _) (Nat.le_trans hx7.size (by simp))
    clear hft hf1 hF5 hF2 hF hA hwsub hsub hlb hlp hlne hb7 hx7 ho7
    have q2:=Hb7.out.cs.2.2.1
    have z2:=Hb7.out.fz 2
    go_wp2_with fail
    clear q1 q2 z2
    go_loopw [9,10,11] (fun v9 v10 v11 wq=>∃ j:Nat,v9=.int .i64 j∧1≤j∧j≤7∧StR w2 (.slice ap d.wl.p.length cp) (.slice an k cn) (.slice am ML cm) (L:Int) d.modes (.slice al L cl) la F wr.heap.size W3.heap.size j wq) (fun v9 _ _ _=>7 - (intOf v9).toNat)
    case atStart =>
     refine ⟨1,rfl,Nat.le_refl _,by omega,?_⟩
     have hx8:Ext w2 (wr.setCell ⟨w2.heap.size,2,none⟩ (.int .i64 (L:Int))):=(HE3.out.trans Hx7.out).setCell (Nat.le_refl _) _
     have hz8:(wr.setCell ⟨w2.heap.size,2,none⟩ (.int .i64 (L:Int))).heap.size=wr.heap.size:=by simp
     have ho8:=own_set_apart Hb7.out Ho7.out (by decide) 2 (.int .i64 (L:Int))
     have hx9:=(Ext.refl (wr.setCell ⟨w2.heap.size,2,none⟩ (.int .i64 (L:Int)))).alloc (.cells #[.bool false,.bool false,.bool false,.bool false,.bool false,.bool false,.bool false] 57)
     refine ⟨hx8.trans hx9,⟨_,(Hb7.out.set2 (L:Int)).ext hx9⟩,hx9.ownI ho8,#[.bool false,.bool false,.bool false,.bool false,.bool false,.bool false,.bool false],?_,rfl,fun j h1 h2=>by omega⟩
     rw [← hz8]
     exact World.alloc_heap_new _ _
    case round =>
     obtain ⟨j,rfl,hj1,hj7,hS⟩:=hrel
     have HS:=hid hS
     clear hS
     obtain ⟨P0,hb0⟩:=HS.out.box
     have q3:=hb0.cs.2.2.2.1
     have z3:=hb0.fz 3
     clear hb0
     by_cases hj6:j<7
     ·have hj0:(0:Int)≤(j:Int):=by omega
      have hji:(j:Int)≤6:=by omega
      have hji7:(j:Int)<7:=by omega
      obtain ⟨hB3,hS3⟩:=HS.out.set3 h8 (j:Int)
      obtain ⟨r0,r1,r2,r3,r4,r5⟩:=hB3.cs
      have hf:=Hft.out (j:Int) (by omega) (by omega) _ hS3.x hS3.own
      have Hf:=hid hf;have HS3:=hid hS3
      clear hf hS3 hB3
      go_wp2_with fail
      refine Hf.out.mono ?_
      rintro e wf ⟨rfl,hxf⟩
      have hS4:=HS3.out.ext hxf
      obtain ⟨⟨uo,co⟩,zo⟩:=hS4.old hj6
      have HS5:=hid (hS4.put h8 hj6)
      clear hS4 hxf r0 r1 r2 r3 r4 r5 q3 z3
      go_wp2_with fail
      go_roundw
      case rel=>exact ⟨j+1,by go_num,by omega,by omega,HS5.out⟩
      case measure=>simp [intOf];omega
     ·obtain rfl:j=7:=by omega
      have c5:=HS.out.cell (j:=5) (by omega) (by omega)
      rw [show ((5:Nat):Int)=5 from rfl] at c5
      have c4:=HS.out.cell (j:=4) (by omega) (by omega)
      rw [show ((4:Nat):Int)=4 from rfl] at c4
      have c6:=HS.out.cell (j:=6) (by omega) (by omega)
      rw [show ((6:Nat):Int)=6 from rfl] at c6
      have c2:=HS.out.cell (j:=2) (by omega) (by omega)
      rw [show ((2:Nat):Int)=2 from rfl] at c2
      obtain ⟨P1,hb1⟩:=HS.out.box
      have q4:=hb1.cs.2.2.2.2.1
      have z4:=hb1.fz 4
      have z3':=(hb1.set4 (.slice none 0 0)).fz 3
      have q3':=(hb1.set4 (.slice none 0 0)).cs.2.2.2.1
      have hbE:=(hb1.set4 (.slice none 0 0)).set3 1
      obtain ⟨r0,r1,r2,r3,r4,r5⟩:=hbE.cs
      have hxE:Ext w2 ((wr.setCell ⟨w2.heap.size,4,none⟩ (.slice none 0 0)).setCell ⟨w2.heap.size,3,none⟩ (.int .i64 1)):=(HS.out.x.setCell (Nat.le_refl _) (.slice none 0 0)).setCell (Nat.le_refl _) (.int .i64 1)
      have hoE:=own_set_apart (hb1.set4 (.slice none 0 0)) (own_set_apart hb1 HS.out.own (by decide) 4 (.slice none 0 0)) (by decide) 3 (.int .i64 1)
      have hfE:=Hf1.out _ hxE hoE
      have HfE:=hid hfE;have HxE:=hid (Hx3.out.trans hxE)
      clear hb1 hbE hxE hoE hfE
      have hF5:=HF5.out
      have hF2:=HF2.out
      generalize F 5=F5 at *
      generalize F 2=F2 at *
      generalize F 4=F4 at *
      generalize F 6=F6 at *
      rcases (show (F5=true∧F4=true∧F6=true)∨(F5=false∧F2=false) from by
       cases F5 with
       | true=>exact .inl ⟨rfl,hF5 rfl⟩
       | false=>exact .inr ⟨rfl,by cases F2 with | true=>exact absurd (hF2 rfl) (by decide) | false=>rfl⟩) with ⟨rfl,rfl,rfl⟩ | ⟨rfl,rfl⟩
      ·cases F2
       all_goals
        clear hF5 hF2
        go_wp2_with fail
        refine HfE.out.mono ?_
        rintro e wl ⟨rfl,hxl⟩
        have HxL:=hid (HxE.out.trans hxl)
        clear hxl r0 r1 r2 r3 r4 r5
        go_wp2_with fail
        go_ret
        exact ⟨rfl,HxL.out⟩
      ·clear hF5 hF2
       go_wp2_with fail
       refine HfE.out.mono ?_
       rintro e wl ⟨rfl,hxl⟩
       have HxL:=hid (HxE.out.trans hxl)
       clear hxl r0 r1 r2 r3 r4 r5
       go_wp2_with fail
       go_ret
       exact ⟨rfl,HxL.out⟩
end Go.Proofs.YtipjmpdndokdlaaGreatDoor
