/- Walk: law 38's Make: the query of a draft. Walks: law 38's indices, check, isMode. What the laws of drafts begin with. What the rows' condition gives the walks, and the last step of a law (the seat of chapters 31 and 32). -/
import Derived.Test.YtipjmpdndokdlaaGreatDoorPc27
import Derived.Test.YtipjmpdndokdlaaGreatDoorPc29
import Derived.Test.YtipjmpdndokdlaaGreatDoorPc43
import Derived.Test.YtipjmpdndokdlaaGreatDoorPc10
import Derived.Test.YtipjmpdndokdlaaGreatDoorPc35
import Derived.Test.YtipjmpdndokdlaaGreatDoorPc34
import Derived.Test.YtipjmpdndokdlaaGreatDoorPc41
import Derived.Test.YtipjmpdndokdlaaGreatDoorPc00
import Derived.Below
import Derived.ChangeSame
import Derived.OpenShut
import Derived.LaidMore
import Derived.ProofKit
import Derived.Stop.Joined
import Derived.Laws.IdiomArrays
import Derived.Test.YtipjmpdndokdlaaGreatDoorRows
import Derived.Test.YtipjmpdndokdlaaGreatDoorTie
import Derived.Test.YtipjmpdndokdlaaGreatDoorCards
import Derived.Handy
import Derived.Lay
import Derived.SevenTiedAt
import Derived.Stop.LaidErr
import Derived.Carry
set_option maxRecDepth 100000
set_option maxHeartbeats 4000000
namespace Go.Proofs.YtipjmpdndokdlaaGreatDoor
open Go.RowKit Go.Lib Go.Shelf
attribute [local go_sem] Oper.semAt_some
/-- A draft: a world, and how many notes, which property, which notes must be, and whether one mode is enough. -/
structure Dl where
 wl:Wl
 size:Nat
 prop:Nat
 must:Nat
 modes:Bool
namespace Dl
def cs (d : Dl) : Array Value:=#[.bool d.wl.three,.int .u8 d.wl.kind,.int .u8 d.wl.num,.int .i8 (d.wl.xs 0).a,.int .i8 (d.wl.xs 0).b,.int .i8 (d.wl.xs 0).c,.int .i8 (d.wl.xs 1).a,.int .i8 (d.wl.xs 1).b,.int .i8 (d.wl.xs 1).c,.int .i8 (d.wl.xs 2).a,.int .i8 (d.wl.xs 2).b,.int .i8 (d.wl.xs 2).c,.int .i8 (d.wl.xs 3).a,.int .i8 (d.wl.xs 3).b,.int .i8 (d.wl.xs 3).c,.int .i8 (d.wl.xs 4).a,.int .i8 (d.wl.xs 4).b,.int .i8 (d.wl.xs 4).c,.int .i8 (d.wl.xs 5).a,.int .i8 (d.wl.xs 5).b,.int .i8 (d.wl.xs 5).c,.int .i8 (d.wl.xs 6).a,.int .i8 (d.wl.xs 6).b,.int .i8 (d.wl.xs 6).c,.int .i8 (d.wl.xs 7).a,.int .i8 (d.wl.xs 7).b,.int .i8 (d.wl.xs 7).c,.int .u8 (d.size : Int),.int .u8 (d.prop : Int),.int .u16 (d.must : Int),.bool d.modes]
def v (d : Dl) : Value:=.agg d.cs
structure Ok (d : Dl) : Prop where
 wl:d.wl.Ok
 size:d.size<256
 prop:d.prop<256
 must:d.must<65536
/-- How many notes, which property and which notes a draft asks for, of a scale of n notes. -/
def m (d : Dl) (n : Nat) : Nat:=1+d.size % n
def P (d : Dl) : Int:=1+((d.prop : Int) % 6)
def M (d : Dl) (n : Nat) : List Int:=bitL n fun i => d.must.testBit i
end Dl
theorem dl_cs (d:Dl):d.cs.toList=d.wl.cs.toList++[.int .u8 (d.size:Int),.int .u8 (d.prop:Int),.int .u16 (d.must:Int),.bool d.modes]:=rfl
theorem dl_lit (d:Dl):Dl.cs d=#[.bool d.wl.three,.int .u8 d.wl.kind,.int .u8 d.wl.num,.int .i8 (d.wl.xs 0).a,.int .i8 (d.wl.xs 0).b,.int .i8 (d.wl.xs 0).c,.int .i8 (d.wl.xs 1).a,.int .i8 (d.wl.xs 1).b,.int .i8 (d.wl.xs 1).c,.int .i8 (d.wl.xs 2).a,.int .i8 (d.wl.xs 2).b,.int .i8 (d.wl.xs 2).c,.int .i8 (d.wl.xs 3).a,.int .i8 (d.wl.xs 3).b,.int .i8 (d.wl.xs 3).c,.int .i8 (d.wl.xs 4).a,.int .i8 (d.wl.xs 4).b,.int .i8 (d.wl.xs 4).c,.int .i8 (d.wl.xs 5).a,.int .i8 (d.wl.xs 5).b,.int .i8 (d.wl.xs 5).c,.int .i8 (d.wl.xs 6).a,.int .i8 (d.wl.xs 6).b,.int .i8 (d.wl.xs 6).c,.int .i8 (d.wl.xs 7).a,.int .i8 (d.wl.xs 7).b,.int .i8 (d.wl.xs 7).c,.int .u8 (d.size:Int),.int .u8 (d.prop:Int),.int .u16 (d.must:Int),.bool d.modes]:=rfl
theorem dl_cells {W:World}{k:Nat}{d:Dl}(h:W.heap[k]?=some (.cells d.cs 49 (0,0))) :
  W.rangeAt k 0 d.wl.cs.toList∧W.cell? ⟨k,27,none⟩=some (.int .u8 (d.size:Int))∧W.cell? ⟨k,28,none⟩=some (.int .u8 (d.prop:Int))∧W.cell? ⟨k,29,none⟩=some (.int .u16 (d.must:Int))∧W.cell? ⟨k,30,none⟩=some (.bool d.modes):=by
 have hc:∀ j,W.cell? ⟨k,j,none⟩=d.cs[j]?:=fun j=>by
  unfold World.cell?
  dsimp only
  rw [h]
  rfl
 refine ⟨fun j v hj=>?_,?_,?_,?_,?_⟩
 ·have hl:=(List.getElem?_eq_some_iff.1 hj).1
  rw [hc,Nat.zero_add,← Array.getElem?_toList,dl_cs,List.getElem?_append_left hl]
  exact hj
 all_goals (rw [hc];rfl)
/-- What holds none of a block's cells reads as it did when the block turns. -/
theorem not_in_blockV {w:World}{k:Nat}{arr:Array Value}{T:TypeId}(hk:w.heap[k]?=some (.cells arr T (0,0))){b o:Nat}{u:Value}(hc:w.cell? ⟨b,o,none⟩=some u)(hn:∀ x∈arr.toList,x ≠ u):b ≠ k:=by
 intro e
 subst e
 have h2:w.cell? ⟨b,o,none⟩=arr[o]?:=by
  unfold World.cell?
  dsimp only
  rw [hk]
  rfl
 rw [h2,← Array.getElem?_toList] at hc
 exact hn u (List.mem_of_getElem? hc) rfl
theorem sl_beyond {w W:World}{k:Nat}{arr:Array Value}{T:TypeId}{v:Value}{us:List Value}(hk:w.heap[k]?=some (.cells arr T (0,0)))(h:Sl w v us)(hn:∀ u∈us,∀ x∈arr.toList,x ≠ u)(hW:∀ b o,b ≠ k→W.cell? ⟨b,o,none⟩=w.cell? ⟨b,o,none⟩):Sl W v us:=by
 rcases h with h | ⟨b,off,cap,e,h1,h2,hc⟩
 ·exact .inl h
 ·exact .inr ⟨b,off,cap,e,h1,h2,fun i u hu=>by
   have h3:=hc i u hu
   rw [hW b (off+i) (not_in_blockV hk h3 (hn u (List.mem_of_getElem? hu)))]
   exact h3⟩
theorem rd_beyond {w W:World}{k:Nat}{arr:Array Value}{T:TypeId}{v:Value}{x:List Rat}(hk:w.heap[k]?=some (.cells arr T (0,0)))(h:Rd w v x)(hn:∀ s,Value.string s ∉ arr.toList)(hW:∀ b o,b ≠ k→W.cell? ⟨b,o,none⟩=w.cell? ⟨b,o,none⟩):Rd W v x:=by
 rcases h with h | ⟨b,off,cap,e,h1,h2,hc⟩
 ·exact .inl h
 ·exact .inr ⟨b,off,cap,e,h1,h2,fun i r hr=>by
   have h3:=hc i r hr
   have hb:=not_in_blockV hk h3.1 (fun x hx e=>hn _ (e ▸ hx))
   rw [hW b _ hb,hW b _ hb]
   exact h3⟩
theorem rdM_beyond {w W:World}{k:Nat}{arr:Array Value}{T:TypeId}{v:Value}{rs:List Qw}(hk:w.heap[k]?=some (.cells arr T (0,0)))(h:RdM w v rs)(hs:∀ s,Value.string s ∉ arr.toList)(hn:∀ a n c,0<n→Value.slice a n c ∉ arr.toList)(hl:∀ r∈rs,0<r.x.length)(hW:∀ b o,b ≠ k→W.cell? ⟨b,o,none⟩=w.cell? ⟨b,o,none⟩):RdM W v rs:=by
 refine ⟨sl_beyond hk h.1 (fun u hu x hx e=>?_) hW,fun r hr=>rd_beyond hk (h.2 r hr) hs hW⟩
 unfold qwc at hu
 obtain ⟨r,hr,rfl⟩:=List.mem_map.1 hu
 obtain ⟨a,c,e2,_⟩:=(h.2 r hr).parts
 rw [e2] at e
 exact hn a r.x.length c (hl r hr) (e ▸ hx)
/-- The query of a draft under way. -/
def MkR (W0 : World) (vp vn : Value) (m P : Int) (b : Bool) (l : List Int) (wr : World) : Prop:=∃ vm,Box6 wr W0.heap.size vp vn m P vm b ∧ OwnI wr W0.heap.size vm l ∧ Ext W0 wr
theorem MkR.more {W0 wr V:World}{vp vn vm v7:Value}{m P:Int}{b:Bool}{l:List Int}{n:Nat}{x:Int}{o:Obj}(hb:Box6 wr W0.heap.size vp vn m P vm b)(ho:OwnI wr W0.heap.size vm l)(hE:Ext W0 wr)(hn:l.length=n)
  (hown:V.ownsRow W0.heap.size 3 1 v7 (n+1) (i64s l++[.int .i64 x])) (hg:(wr.alloc o).grownBy V vm.ownBlock):MkR W0 vp vn m P b (l++[x]) (V.setCell ⟨W0.heap.size,4,none⟩ v7):=by
 subst hn
 have hbV:Box6 V W0.heap.size vp vn m P vm b:=kept_box (((Ext.refl wr).alloc o).heap hb) (World.ownsRow.alloc ho o) (by decide) hg
 refine ⟨v7,heap_setCell_same _ _ 4 _ _ v7 hbV,?_,((hE.alloc o).grown hg fun k e=>(World.ownsRow.lt ho k e).1).setCell (Nat.le_refl _) _⟩
 refine own_set_apart hbV ?_ (by decide) 4 v7
 rw [List.length_append,List.length_singleton,i64s,List.map_append]
 exact hown
theorem lmk_c (d:Dl)(w:World)(he:Env w)(hd:d.Ok) :
  Calls Tryz.prog 11 #[d.v] w fun e w'=>∃ v rs,e=.returned v∧QyV w' v d.wl.p rs (d.m rs.length:Int) d.P (d.M rs.length) d.modes∧Coll d.wl.p d.wl.sizes (rs.map Qw.x)∧Ext w w':=by
 have hmk:=fun W (hE:Ext w W)=>lMake_c d.wl W (he.ext hE) hd.wl
 obtain ⟨W1,hW1⟩:∃ W1,W1=(w.alloc (.cells d.cs 49)).alloc (.cells #[.slice none 0 0,.slice none 0 0,.int .i64 0,.int .i64 0,.slice none 0 0,.bool false] 39):=⟨_,rfl⟩
 have hE1:Ext w W1:=by rw [hW1];exact ((Ext.refl w).alloc _).alloc _
 have hbd:W1.heap[w.heap.size]?=some (.cells d.cs 49 (0,0)):=by
  rw [hW1]
  exact ((Ext.refl _).alloc _).heap (World.alloc_heap_new w _)
 have hb0:Box6 W1 (w.heap.size+1) (.slice none 0 0) (.slice none 0 0) 0 0 (.slice none 0 0) false:=by
  have:=Box6.new (w.alloc (.cells d.cs 49)) (.slice none 0 0) (.slice none 0 0) 0 0 (.slice none 0 0) false
  rw [World.size_alloc] at this
  rw [hW1]
  exact this
 have hmk1:=hmk W1 hE1
 have hrl1:=(dl_cells hbd).1
 rw [hW1] at hrl1
 have hun:=Tryz.underlying47
 have hin:=wl_info d.wl
 have hv1:d.wl.v=.agg d.wl.cs:=rfl
 have Hmk1:=Lib.hid hmk1;have Hrl1:=Lib.hid hrl1;have Hun:=Lib.hid hun;have Hin:=Lib.hid hin;have HE1:=Lib.hid hE1;have Hbd:=Lib.hid hbd;have Hb0:=Lib.hid hb0;have Hv:=Lib.hid hv1;have Hd:=Lib.hid hd
 clear hmk hmk1 hrl1 hun hin hE1 hbd hb0 hv1 hd he
 have hv:d.v=.agg d.cs:=rfl
 rw [hv]
 clear hv
 rw [dl_lit]
 go_enter Tryz.func11,Tryz.ntmps11
 rw [← dl_lit]
 go_wp2_with (refine wpList_load_mid rfl 47 (.tmp 7) rfl w.heap.size 0 rfl d.wl.cs.toList _ Hrl1.out Hun.out rfl Hin.out ?_)
 rw [← Hv.out,← hW1]
 refine Hmk1.out.mono ?_
 rintro e w2 ⟨v2,rs,rfl,hs2,hc2,hx2⟩
 have hw2:=wl_wc d.wl hc2
 obtain ⟨a2,c2,b2,d2,rfl,hs2⟩:=scv_let hs2
 have hb2:=BoxT.new 32 w2 (.slice a2 d.wl.p.length c2) (.slice b2 rs.length d2)
 have hE2:=(Ext.refl w2).alloc (.cells #[.slice a2 d.wl.p.length c2,.slice b2 rs.length d2] 32)
 have hE3:=hx2.trans hE2
 have hpos:=hw2.wd.pos
 rw [List.length_map] at hpos
 have hfew:=hw2.few
 rw [List.length_map] at hfew
 have Hs2:=Lib.hid (hs2.ext hE2);have HE3:=Lib.hid hE3;have Hb2:=Lib.hid hb2;have Hc2:=Lib.hid hc2
 have q0:=hb2.c0
 have q1:=hb2.c1
 clear hx2 hs2 hE2 hE3 hb2 hc2 hw2 Hmk1 Hrl1 Hun Hin
 obtain ⟨n,hn⟩:∃ n,n=rs.length:=⟨_,rfl⟩
 rw [← hn] at hpos hfew Hs2 Hb2 q1 q0 HE3
 simp only [← hn]
 have Hn:=Lib.hid hn
 clear hn
 have hn0:¬ (n:Int)=0:=by omega
 have hn0':((n:Int) == 0)=false:=by simpa using hn0
 go_wp2_with fail
 generalize w2.alloc (.cells #[.slice a2 d.wl.p.length c2,.slice b2 n d2] 32)=W3 at *
 obtain ⟨_,c27,c28,c29,c30⟩:=dl_cells (HE3.out.heap Hbd.out)
 obtain ⟨s0,hs0⟩:∃ s0:Nat,d.size % n=s0:=⟨_,rfl⟩
 have hsz:(d.size:Int) % (n:Int)=(s0:Int):=by rw [← hs0];rfl
 have hsn:s0<n:=by rw [← hs0];exact Nat.mod_lt _ hpos
 have hd1:=Hd.out.size
 have hd2:=Hd.out.prop
 have Hm:=Lib.hid (show ((d.m n:Nat):Int)=1+(s0:Int) by unfold Dl.m;rw [hs0];omega)
 have HP:=Lib.hid (show d.P=1+((d.prop:Int) % 6) from rfl)
 have htm:(d.size:Int).tmod (n:Int)=(s0:Int):=by rw [Int.tmod_eq_emod_of_nonneg (by omega)];exact hsz
 have hws:IntKind.i64.wrap (s0:Int)=(s0:Int):=IntWalk.i64_in _ (by omega)
 have hw1:IntKind.i64.wrap (1+(s0:Int))=1+(s0:Int):=IntWalk.i64_in _ (by omega)
 have hS:=fun W (hE:Ext W3 W)=>(show Ext W3 W∧W.cell? ⟨w2.heap.size,0,none⟩=some (.slice a2 d.wl.p.length c2)∧W.cell? ⟨w2.heap.size,1,none⟩=some (.slice b2 n d2)∧W.cell? ⟨w.heap.size,27,none⟩=some (.int .u8 (d.size:Int))∧W.cell? ⟨w.heap.size,28,none⟩=some (.int .u8 (d.prop:Int))∧W.cell? ⟨w.heap.size,30,none⟩=some (.bool d.modes) from ⟨hE,hE.cell q0,hE.cell q1,hE.cell c27,hE.cell c28,hE.cell c30⟩)
 have HS:=Lib.hid hS
 clear hs0 hS
 have hnN:¬ n=0:=by omega
 have htp:(d.prop:Int).tmod 6=(d.prop:Int) % 6:=Int.tmod_eq_emod_of_nonneg (by omega)
 have hwp:IntKind.i64.wrap ((d.prop:Int) % 6)=(d.prop:Int) % 6:=IntWalk.i64_in _ (by omega)
 have hwp1:IntKind.i64.wrap (1+(d.prop:Int) % 6)=1+(d.prop:Int) % 6:=IntWalk.i64_in _ (by omega)
 have hwz:IntKind.i64.wrap (d.size:Int)=(d.size:Int):=IntWalk.i64_in _ (by omega)
 go_region_held3 (fun w'=>Ext W3 w'∧w'.cell? ⟨w2.heap.size,0,none⟩=some (.slice a2 d.wl.p.length c2)∧w'.cell? ⟨w2.heap.size,1,none⟩=some (.slice b2 n d2)∧w'.cell? ⟨w.heap.size,27,none⟩=some (.int .u8 (d.size:Int))∧w'.cell? ⟨w.heap.size,28,none⟩=some (.int .u8 (d.prop:Int))∧w'.cell? ⟨w.heap.size,30,none⟩=some (.bool d.modes))
  (first | (with_reducible assumption) | exact HS.out _ (Ext.refl W3).drew | exact HS.out _ (((Ext.refl W3).alloc _).drew))
  (fail)
 go_wp2_with fail
 have hb4:Box6 (W3.alloc (.cells #[.slice a2 d.wl.p.length c2,.slice b2 n d2,.int .i64 (1+(s0:Int)),.int .i64 (1+(d.prop:Int) % 6),.slice none 0 0,.bool d.modes] 39)).drew W3.heap.size (.slice a2 d.wl.p.length c2) (.slice b2 n d2) (1+(s0:Int)) (1+(d.prop:Int) % 6) (.slice none 0 0) d.modes:=(Box6.new W3 _ _ _ _ _ _).ext (Ext.refl _).drew
 have hE4:=((Ext.refl W3).alloc (.cells #[.slice a2 d.wl.p.length c2,.slice b2 n d2,.int .i64 (1+(s0:Int)),.int .i64 (1+(d.prop:Int) % 6),.slice none 0 0,.bool d.modes] 39)).drew
 generalize (W3.alloc (.cells #[.slice a2 d.wl.p.length c2,.slice b2 n d2,.int .i64 (1+(s0:Int)),.int .i64 (1+(d.prop:Int) % 6),.slice none 0 0,.bool d.modes] 39)).drew=W4 at *
 have H4:=Lib.hid (show MkR W3 (.slice a2 d.wl.p.length c2) (.slice b2 n d2) (1+(s0:Int)) (1+(d.prop:Int) % 6) d.modes [] W4 from ⟨_,hb4,⟨rfl,.inl ⟨rfl,rfl⟩⟩,hE4⟩)
 have hlt0:w.heap.size<W3.heap.size:=(Array.getElem?_eq_some_iff.1 (HE3.out.heap Hbd.out)).1
 have hlt1:w.heap.size+1<W3.heap.size:=(Array.getElem?_eq_some_iff.1 (HE3.out.heap Hb0.out)).1
 obtain ⟨p,hp⟩:∃ p:Nat→Bool,p=fun i=>d.must.testBit i:=⟨_,rfl⟩
 have hmb:=Hd.out.must
 obtain ⟨i0,hj,hz0,hz1,hz2⟩:=info_parts info_int
 have Hp:=Lib.hid hp;have C29:=Lib.hid c29
 clear htp hwp hwp1 hb4 hE4 hp c27 c28 c29 c30 q0 q1 htm hws hw1 hwz hsz HS
 go_loopw [6] (fun v6 wr=>∃ k:Nat,v6=.int .i64 k∧k≤n∧MkR W3 (.slice a2 d.wl.p.length c2) (.slice b2 n d2) (1+(s0:Int)) (1+(d.prop:Int) % 6) d.modes (bitL k p) wr) (fun v6 _=>n - (intOf v6).toNat)
 case atStart=>exact ⟨0,rfl,Nat.zero_le _,H4.out⟩
 case round =>
  clear H4
  obtain ⟨k,rfl,hk,vm,hbk,hok,hEk⟩:=hrel
  obtain ⟨am,cm,rfl⟩:=own_shape hok
  have hLk:=bitL_len k p
  have hsp:=bitL_succ k p
  have c29:=hEk.cell C29.out
  obtain ⟨q0,q1,q2,q3,q4,q5⟩:=hbk.cs
  by_cases hkn:k<n
  ·have hk0:(k:Int)<(n:Int):=by omega
   have hq1:=bit_u16 d.must k hmb
   rw [show d.must.testBit k=p k by rw [Hp.out]] at hq1
   cases hb1:p k with
   | true =>
    have Hs1:=Lib.hid (show bitL (k+1) p=bitL k p++[(k:Int)] by rw [hsp,hb1];simp)
    rw [hb1] at hq1
    clear hsp
    generalize hla:(bitL k p).length=L at *
    have ha:=hok
    unfold OwnI at ha
    rw [hla] at ha
    have hm3:L+1≤maxLen:=by unfold maxLen;omega
    have hm4:(L+1) * 8≤140737488355328:=by omega
    have hwr:=hEk.size
    have Hla:=Lib.hid hla;have Ha:=Lib.hid ha;have Hbk:=Lib.hid hbk;have Hok:=Lib.hid hok;have HEk:=Lib.hid hEk
    clear hla ha hbk hok hEk
    go_wp2_with (at_builtin;refine wpList_append_own _ rfl _ _ 28 rfl W3.heap.size 3 i0 (.int .i64 0) 1 8 Tryz.underlying28 hj hz0 hz1 hz2 rfl (by decide) _ _ _ rfl (Ha.out.alloc _) ⟨wr.heap.size,0,none⟩ 1 1 [.int .i64 (k:Int)] rfl rfl (cell_one_new _ _ _) (by simp [Value.oneCell']) hm3 hm4 (by rw [World.size_alloc];omega) ?_;intro v7 V7 hown7 hgrow7 _;have hbV:Box6 V7 W3.heap.size (.slice a2 d.wl.p.length c2) (.slice b2 n d2) (1+(s0:Int)) (1+(d.prop:Int) % 6) (.slice am L cm) d.modes:=kept_box (((Ext.refl wr).alloc _).heap Hbk.out) (World.ownsRow.alloc Ha.out (.cells #[.int .i64 (k:Int)] 3)) (by decide) hgrow7;have d4:=hbV.cs.2.2.2.2.1;have e4:=frozen_of_row V7 W3.heap.size 4 _ _ hbV;obtain ⟨a7,c7,rfl⟩:=own_shape hown7)
    have hR:=MkR.more Hbk.out Hok.out HEk.out Hla.out hown7 hgrow7
    rw [← Hs1.out] at hR
    have HR:=Lib.hid hR
    clear hR d4 e4 hgrow7 hown7 hbV
    go_roundw
    case rel=>exact ⟨k+1,by go_num,hkn,HR.out⟩
    case measure=>simp [intOf];omega
   | false =>
    have Hs1:=Lib.hid (show bitL (k+1) p=bitL k p by rw [hsp,hb1];simp)
    rw [hb1] at hq1
    have HR:=Lib.hid (show MkR W3 (.slice a2 d.wl.p.length c2) (.slice b2 n d2) (1+(s0:Int)) (1+(d.prop:Int) % 6) d.modes (bitL k p) wr from ⟨_,hbk,hok,hEk⟩)
    clear hsp hbk hok hEk
    go_wp2_with fail
    go_roundw
    case rel=>exact ⟨k+1,by go_num,hkn,by rw [Hs1.out];exact HR.out⟩
    case measure=>simp [intOf];omega
  ·obtain rfl:k=n:=by omega
   have hkn2:¬ (k:Int)<(k:Int):=by omega
   clear hsp
   have hr0:Box6 wr (w.heap.size+1) (.slice none 0 0) (.slice none 0 0) 0 0 (.slice none 0 0) false:=hEk.heap (HE3.out.heap Hb0.out)
   obtain ⟨r0,r1,r2,r3,r4,r5⟩:=hr0.cs
   have z0:=frozen_of_row wr (w.heap.size+1) 0 _ _ hr0
   have z1:=frozen_of_row wr (w.heap.size+1) 1 _ _ hr0
   have z2:=frozen_of_row wr (w.heap.size+1) 2 _ _ hr0
   have z3:=frozen_of_row wr (w.heap.size+1) 3 _ _ hr0
   have z4:=frozen_of_row wr (w.heap.size+1) 4 _ _ hr0
   have z5:=frozen_of_row wr (w.heap.size+1) 5 _ _ hr0
   have Hr0:=Lib.hid hr0;have Hok:=Lib.hid hok;have HEk:=Lib.hid hEk
   clear hr0 hok hEk hbk
   go_wp2_with fail
   have b0:=heap_setCell_same _ _ 0 _ _ (.slice a2 d.wl.p.length c2) Hr0.out
   have b1:=heap_setCell_same _ _ 1 _ _ (.slice b2 k d2) b0
   have b2':=heap_setCell_same _ _ 2 _ _ (.int .i64 (1+(s0:Int))) b1
   have b3:=heap_setCell_same _ _ 3 _ _ (.int .i64 (1+(d.prop:Int) % 6)) b2'
   have b4:=heap_setCell_same _ _ 4 _ _ (.slice am (bitL k p).length cm) b3
   have b5:=heap_setCell_same _ _ 5 _ _ (.bool d.modes) b4
   have o0:=own_set_apart Hr0.out Hok.out (by decide) 0 (.slice a2 d.wl.p.length c2)
   have o1:=own_set_apart b0 o0 (by decide) 1 (.slice b2 k d2)
   have o2:=own_set_apart b1 o1 (by decide) 2 (.int .i64 (1+(s0:Int)))
   have o3:=own_set_apart b2' o2 (by decide) 3 (.int .i64 (1+(d.prop:Int) % 6))
   have o4:=own_set_apart b3 o3 (by decide) 4 (.slice am (bitL k p).length cm)
   have o5:=own_set_apart b4 o4 (by decide) 5 (.bool d.modes)
   generalize hWE:((((((wr.setCell ⟨w.heap.size+1,0,none⟩ (.slice a2 d.wl.p.length c2)).setCell ⟨w.heap.size+1,1,none⟩ (.slice b2 k d2)).setCell ⟨w.heap.size+1,2,none⟩ (.int .i64 (1+(s0:Int)))).setCell ⟨w.heap.size+1,3,none⟩ (.int .i64 (1+(d.prop:Int) % 6))).setCell ⟨w.heap.size+1,4,none⟩ (.slice am (bitL k p).length cm)).setCell ⟨w.heap.size+1,5,none⟩ (.bool d.modes))=WE at *
   have hoth:∀ b o,b ≠ w.heap.size+1→WE.cell? ⟨b,o,none⟩=wr.cell? ⟨b,o,none⟩:=fun b o hb=>by
    rw [← hWE]
    refine World.cell?_of_block ?_
    dsimp only
    rw [heap_setCell_other _ _ _ _ hb,heap_setCell_other _ _ _ _ hb,heap_setCell_other _ _ _ _ hb,heap_setCell_other _ _ _ _ hb,heap_setCell_other _ _ _ _ hb,heap_setCell_other _ _ _ _ hb]
   have hEw:Ext w wr:=(HE1.out.trans HE3.out).trans HEk.out
   have hEE:Ext w WE:=by
    rw [← hWE]
    exact (((((hEw.setCell (Nat.le_succ _) _).setCell (Nat.le_succ _) _).setCell (Nat.le_succ _) _).setCell (Nat.le_succ _) _).setCell (Nat.le_succ _) _).setCell (Nat.le_succ _) _
   have hB6:Box6 WE (w.heap.size+1) (.slice a2 d.wl.p.length c2) (.slice b2 k d2) (1+(s0:Int)) (1+(d.prop:Int) % 6) (.slice am (bitL k p).length cm) d.modes:=b5
   obtain ⟨e0,e1,e2,e3,e4,e5⟩:=hB6.cs
   obtain ⟨vp3,vn3,ev3,hsp3,hsn3⟩:=Hs2.out.ext HEk.out
   injection ev3 with ev3
   injection ev3 with ev3
   injection ev3 with ev31 ev32
   injection ev32 with ev32 _
   subst ev31 ev32
   have hlen:∀ r∈rs,0<r.x.length:=fun r hr=>by
    have h1:=(wl_wc d.wl Hc2.out).wd.len r.x (List.mem_map_of_mem hr)
    rw [h1]
    rcases d.wl.pw with e | e <;> rw [e] <;> decide
   have hpz:∀ u∈i64s d.wl.p,∀ x∈(#[.slice none 0 0,.slice none 0 0,.int .i64 0,.int .i64 0,.slice none 0 0,.bool false]:Array Value).toList,x ≠ u:=fun u hu x hx e=>by
    subst e
    rcases d.wl.pw with e | e <;> rw [e] at hu <;> simp [i64s] at hu hx <;> rcases hx with rfl | rfl | rfl | rfl | rfl | rfl <;> simp at hu
   have hP:=sl_beyond Hr0.out hsp3 hpz hoth
   have hN:=rdM_beyond Hr0.out hsn3 (by simp) (by intro a n c h;simp;omega) hlen hoth
   have hM:Sl WE (.slice am (bitL k p).length cm) (i64s (bitL k p)):=sl_own o5
   refine bodyPost_ret (v:=.agg #[.slice a2 d.wl.p.length c2,.slice b2 k d2,.int .i64 (1+(s0:Int)),.int .i64 (1+(d.prop:Int) % 6),.slice am (bitL k p).length cm,.bool d.modes]) (by simp [results,Tryz.results11,go_sem,e0,e1,e2,e3,e4,e5]) rfl ⟨_,rfl,rs,?_,Hc2.out,hEE⟩
   rw [← Hn.out,Hm.out,HP.out,show d.M k=bitL k p by rw [Hp.out];rfl]
   exact ⟨_,_,_,rfl,hP,hN,hM⟩
end Go.Proofs.YtipjmpdndokdlaaGreatDoor

namespace Go.Proofs.YtipjmpdndokdlaaGreatDoor
open Go.RowKit Go.Lib Go.Shelf
attribute [local go_sem] Oper.semAt_some
theorem lidx_c (vl:Value)(l:List Int)(n:Nat)(w:World)(hvl:Sl w vl (i64s l))(hl:l.length≤1000000) :
  Calls Tryz.prog 13 #[vl,.int .i64 (n:Int)] w fun e w'=>e=.returned (.int .i64 (subFrom n l 0 l.length))∧Ext w w':=by
 obtain ⟨al,cl,rfl,_,_,_⟩:=hvl.parts
 rw [i64s_length] at *
 have hlat:=sl_ints_at hvl
 have Hlat:=Lib.hid hlat
 clear hvl hlat
 generalize hLl:l.length=L at *
 have HLl:=Lib.hid hLl
 clear hLl
 go_enter Tryz.func13,Tryz.ntmps13
 go_wp2_with fail
 go_loopw [5] (fun v5 wr=>∃ k:Nat,v5=.int .i64 k∧k≤L∧Hid (subFrom n l 0 L=subFrom n l k (L - k))∧Ext w wr) (fun v5 _=>L - (intOf v5).toNat)
 case atStart=>exact ⟨0,rfl,Nat.zero_le _,Lib.hid rfl,Ext.refl _⟩
 case round =>
  obtain ⟨k,rfl,hk,HS,hE⟩:=hrel
  have HE:=Lib.hid hE
  by_cases hkl:k<L
  ·obtain ⟨b,off,rfl,hc0⟩:=Hlat.out k hkl
   have hc:=hE.cell hc0
   clear hE hc0
   have hgo:stepE n l k=0→subFrom n l 0 L=subFrom n l (k+1) (L - (k+1)):=fun e=>by
    have:=sub_go (n:=n) (l:=l) (k:=k) (by rw [HLl.out];exact hkl) e
    rw [HLl.out] at this
    exact HS.out.trans this
   have hst:stepE n l k ≠ 0→subFrom n l 0 L=stepE n l k:=fun e=>by
    have:=sub_stop (n:=n) (l:=l) (k:=k) (by rw [HLl.out];exact hkl) e
    rw [HLl.out] at this
    exact HS.out.trans this
   have hun:stepE n l k=if (l[k]?).getD 0<0∨(n:Int)≤(l[k]?).getD 0 then 3 else if 0<k∧(l[k]?).getD 0≤(l[k - 1]?).getD 0 then 6 else 0:=rfl
   have hpv:=fun (h0:0<k)=>Hlat.out (k - 1) (by omega)
   generalize (l[k]?).getD 0=x at *
   generalize (l[k - 1]?).getD 0=y at *
   have hk0:(0:Int)≤(k:Int):=by omega
   have hk1:(k:Int)<(L:Int):=by omega
   have Hgo:=Lib.hid hgo;have Hst:=Lib.hid hst;have Hun:=Lib.hid hun;have Hpv:=Lib.hid hpv
   clear hgo hst hun hpv
   by_cases hx0:x<0
   ·have hec:subFrom n l 0 L=3:=by
     have hs:stepE n l k=3:=by rw [Hun.out,if_pos (.inl hx0)]
     exact (Hst.out (by rw [hs];decide)).trans hs
    have Hec:=Lib.hid hec
    clear hec
    go_wp2_with fail
    go_ret
    exact ⟨by rw [Hec.out];rfl,HE.out⟩
   ·by_cases hxn:(n:Int)≤x
    ·have hec:subFrom n l 0 L=3:=by
      have hs:stepE n l k=3:=by rw [Hun.out,if_pos (.inr hxn)]
      exact (Hst.out (by rw [hs];decide)).trans hs
     have Hec:=Lib.hid hec
     clear hec
     go_wp2_with fail
     go_ret
     exact ⟨by rw [Hec.out];rfl,HE.out⟩
    ·rcases Nat.eq_zero_or_pos k with hk00 | hk00
     ·subst hk00
      have hs:stepE n l 0=0:=by rw [Hun.out,if_neg (by omega),if_neg (by omega)]
      have Hnx:=Lib.hid (Hgo.out hs)
      clear hs
      rw [Nat.add_zero] at hc
      go_wp2_with fail
      go_quiet (fail)
      go_wp2_with fail
      go_roundw
      case rel=>exact ⟨1,by go_num,by omega,Hnx,HE.out.drewN _⟩
      case measure=>simp [intOf];omega
     ·obtain ⟨j,rfl⟩:∃ j,k=j+1:=⟨k - 1,by omega⟩
      obtain ⟨b',off',e',hc1⟩:=Hpv.out hk00
      cases e'
      have hc':=HE.out.cell hc1
      clear hc1
      rw [Nat.add_sub_cancel] at hc'
      have hwj:IntKind.i64.wrap (((j+1:Nat):Int) - 1)=(j:Int):=by rw [show (((j+1:Nat):Int) - 1)=(j:Int) by omega];exact IntWalk.i64_in _ (by omega)
      have hwj2:IntKind.i64.wrap (j:Int)=(j:Int):=IntWalk.i64_in _ (by omega)
      have hj0:(0:Int)≤(j:Int):=by omega
      have hj1:(j:Int)<(L:Int):=by omega
      have hjc:((j+1:Nat):Int)=(j:Int)+1:=by omega
      have hjp:(0:Int)<(j:Int)+1:=by omega
      by_cases hxy:x≤y
      ·have hec:subFrom n l 0 L=6:=by
        have hs:stepE n l (j+1)=6:=by rw [Hun.out,if_neg (by omega),if_pos ⟨hk00,hxy⟩]
        exact (Hst.out (by rw [hs];decide)).trans hs
       have Hec:=Lib.hid hec
       clear hec
       go_wp2_with fail
       go_quiet (fail)
       go_wp2_with fail
       go_ret
       exact ⟨by rw [Hec.out];rfl,HE.out.drewN _⟩
      ·have hs:stepE n l (j+1)=0:=by rw [Hun.out,if_neg (by omega),if_neg (fun g=>hxy g.2)]
       have Hnx:=Lib.hid (Hgo.out hs)
       clear hs
       go_wp2_with fail
       go_quiet (fail)
       go_wp2_with fail
       go_roundw
       case rel=>exact ⟨j+1+1,by go_num,by omega,Hnx,HE.out.drewN _⟩
       case measure=>simp [intOf];omega
  ·obtain rfl:k=L:=by omega
   have hec:subFrom n l 0 k=0:=by rw [HS.out,Nat.sub_self];rfl
   have Hec:=Lib.hid hec
   clear hec hE
   go_wp2_with fail
   go_ret
   exact ⟨by rw [Hec.out];rfl,HE.out⟩
/-- A right query. -/
theorem lchk_c (v:Value)(p:List Int)(rs:List Qw)(m P:Int)(M:List Int)(b:Bool)(w:World)(he:Env w)(hv:QyV w v p rs m P M b)(h:Wd p (rs.map Qw.x))(hM:M.length≤1000000)(hq:qryE rs.length m P M=0) :
  Calls Tryz.prog 12 #[v] w fun e w'=>e=.returned (.int .i64 0)∧Ext w w':=by
 have hck:=fun W sv (hE:Ext w W)(hs:ScV W sv p rs)=>scCheck_c sv p rs W (he.ext hE) hs h.right
 obtain ⟨ap,cp,an,cn,am,cm,rfl,hs,hm⟩:=hv.let
 have hE0:Ext w (w.alloc (.cells #[.slice ap p.length cp,.slice an rs.length cn,.int .i64 m,.int .i64 P,.slice am M.length cm,.bool b] 39)):=(Ext.refl w).alloc _
 have hb:=Box6.new w (.slice ap p.length cp) (.slice an rs.length cn) m P (.slice am M.length cm) b
 have hc1:=hck _ _ hE0 (hs.ext hE0)
 have hnt:=fun W (hE:Ext w W)=>lidx_c (.slice am M.length cm) M rs.length W (hE.sl hm) hM
 obtain ⟨h1,h2,h3,h4,h5⟩:¬ m<1∧¬ (rs.length:Int)<m∧¬ P<1∧¬ 6<P∧subFrom rs.length M 0 M.length=0:=by
  unfold qryE at hq
  split at hq
  ·cases hq
  ·split at hq
   ·cases hq
   ·rename_i a c
    exact ⟨fun e=>a (.inl e),fun e=>a (.inr e),fun e=>c (.inl e),fun e=>c (.inr e),hq⟩
 rw [h5] at hnt
 have Hc1:=Lib.hid hc1;have Hnt:=Lib.hid hnt;have HE0:=Lib.hid hE0;have Hb:=Lib.hid hb
 clear hs hm hc1 hnt hE0 hb hq hck hv h5 he h
 generalize rs.length=n at *
 generalize M.length=L at *
 obtain ⟨q0,q1,_,_,_,_⟩:=Hb.out.cs
 go_enter Tryz.func12,Tryz.ntmps12
 go_wp2_with fail
 refine Hc1.out.mono ?_
 rintro e w1 ⟨rfl,hx1⟩
 obtain ⟨q0,q1,q2,q3,q4,_⟩:=(Hb.out.ext hx1).cs
 have Hx1:=Lib.hid (HE0.out.trans hx1)
 clear hx1
 go_wp2_with fail
 refine (Hnt.out _ Hx1.out).mono ?_
 rintro e w2 ⟨rfl,hx2⟩
 have Hx2:=Lib.hid (Hx1.out.trans hx2)
 clear hx2
 go_wp2_with fail
 go_ret
 exact ⟨rfl,Hx2.out⟩
theorem isMode_c (v1 v2:Value)(p:List Int)(rs ts:List Qw)(w:World)(he:Env w)(h1:ScV w v1 p rs)(h2:ScV w v2 p ts)(g1:Wd p (rs.map Qw.x))(g2:Wd p (ts.map Qw.x)) :
  Calls Tryz.prog 18 #[v1,v2] w fun e w'=>e=.returned (.bool (rotB p (rs.map Qw.x) (ts.map Qw.x)))∧Ext w w':=by
 have hr:=fun W u1 u2 (hE:Ext w W)(k1:ScV W u1 p rs)(k2:ScV W u2 p ts)=>(scRot_c u1 u2 p p rs ts W (he.ext hE) k1 k2 g1 g2).mono fun e w' ⟨k,b,e1,e2,e3⟩=>(show ∃ k:Int,e=Ending.returned (.tuple #[.int .i64 k,.bool (rotB p (rs.map Qw.x) (ts.map Qw.x)),.int .i64 0])∧Ext W w' from by
  have e4:b=rotB p (rs.map Qw.x) (ts.map Qw.x):=by
   rcases e2 with ⟨rfl,_,h⟩ | ⟨rfl,i,_,hi,_,e,_⟩
   ·refine (Bool.eq_false_iff.2 fun g=>?_).symm
    obtain ⟨i,hi,e⟩:=rotB_iff.1 g
    exact h i hi ⟨rfl,e⟩
   ·exact (rotB_iff.2 ⟨i,hi,e⟩).symm
  exact ⟨k,by rw [e1,e4],e3⟩)
 obtain ⟨a1,c1,b1,d1,rfl,h1⟩:=scv_let h1
 obtain ⟨a2,c2,b2,d2,rfl,h2⟩:=scv_let h2
 obtain ⟨hb1,hb2,hE⟩:=two_boxes w (.slice a1 p.length c1) (.slice b1 rs.length d1) (.slice a2 p.length c2) (.slice b2 ts.length d2)
 have hc:=hr _ _ _ hE (h1.ext hE) (h2.ext hE)
 have q0:=hb1.c0;have q1:=hb1.c1;have q2:=hb2.c0;have q3:=hb2.c1
 have Hc:=Lib.hid hc;have HE:=Lib.hid hE
 clear hr hc hE h1 h2 g1 g2 he hb1 hb2
 generalize rotB p (rs.map Qw.x) (ts.map Qw.x)=R at *
 go_enter Tryz.func18,Tryz.ntmps18
 go_wp2_with fail
 refine Hc.out.mono ?_
 rintro e w1 ⟨k,rfl,hx⟩
 have HE1:=Lib.hid (HE.out.trans hx)
 clear hx q0 q1 q2 q3
 go_wp2_with fail
 go_ret
 exact ⟨rfl,HE1.out⟩
end Go.Proofs.YtipjmpdndokdlaaGreatDoor

namespace Go.Proofs.YtipjmpdndokdlaaGreatDoor
open Go.RowKit Go.Lib Go.Shelf
theorem dl_box (d:Dl)(w W:World)(h:Ext (w.alloc (.cells d.cs 49)) W):W.rangeAt w.heap.size 0 d.cs.toList:=fun j v hj=>by
 unfold World.cell?
 dsimp only
 rw [h.heap (World.alloc_heap_new w _),Nat.zero_add]
 show d.cs[j]?=some v
 rw [← Array.getElem?_toList]
 exact hj
theorem dl_info (d:Dl):(Tryz.prog.info? 49).map (·.size)=some d.cs.toList.length:=by
 rw [Array.length_toList]
 kernel_rfl
theorem dl_qry (d:Dl){n:Nat}(h0:0<n):qryE n (d.m n:Int) d.P (d.M n)=0∧1≤d.m n∧d.m n≤n∧1≤d.P∧d.P≤6∧subFrom n (d.M n) 0 (d.M n).length=0∧(d.M n).length≤n:=by
 have h1:d.size % n<n:=Nat.mod_lt _ h0
 have h2:1≤d.m n∧d.m n≤n:=by unfold Dl.m;omega
 have h3:1≤d.P∧d.P≤6:=by unfold Dl.P;omega
 have h4:=bitL_ok n fun i=>d.must.testBit i
 have h5:subFrom n (d.M n) 0 (d.M n).length=0:=sub_yes h4.1 h4.2
 refine ⟨?_,h2.1,h2.2,h3.1,h3.2,h5,bitL_len n _⟩
 unfold qryE
 rw [if_neg (by omega),if_neg (by omega)]
 exact h5
section
variable {w : World} {k : Nat} {vp vn vm : Value} {m P : Int} {b : Bool}
theorem Box6.set2 (h:Box6 w k vp vn m P vm b)(z:Int):Box6 (w.setCell ⟨k,2,none⟩ (.int .i64 z)) k vp vn z P vm b:=heap_setCell_same _ _ 2 _ _ _ h
theorem Box6.set3 (h:Box6 w k vp vn m P vm b)(z:Int):Box6 (w.setCell ⟨k,3,none⟩ (.int .i64 z)) k vp vn m z vm b:=heap_setCell_same _ _ 3 _ _ _ h
theorem Box6.set4 (h:Box6 w k vp vn m P vm b)(u:Value):Box6 (w.setCell ⟨k,4,none⟩ u) k vp vn m P u b:=heap_setCell_same _ _ 4 _ _ _ h
theorem Box6.fz (h:Box6 w k vp vn m P vm b)(j:Nat):w.frozen? ⟨k,j,none⟩=false:=frozen_of_row w k j _ _ h
end
end Go.Proofs.YtipjmpdndokdlaaGreatDoor

namespace Go.Proofs.YtipjmpdndokdlaaGreatDoor
open Go.ChangeShapes Go.WideShapes Go.ChangeAt Go.WideMaps Go.WideElems Go.RowKit
theorem bounds_u8 {n:Int}(h:(Lit.int .u8 n).wf=true):0≤n∧n≤255:=by
 simp [Lit.wf,IntKind.min,IntKind.max,IntKind.signed,IntKind.bits] at h
 omega
section
variable {H : Type} {enc : TypeId × Value → H} {P : Program}
theorem post_of_below {f:Func}{s:ChangeSpec}{apart fresh handsOn again:Bool}{W W':World}{args:Array Value}{v:Value}{ds gs:List (DataW H)}{before pa pv:List MemPlace}
  (hW:DataW.Whole enc P f.params.toList s.vars apart W args.toList ds gs before)
  (hres:∀ (b:Nat)(sp:Nat→Bool)(hd:Bool),DataW.TrodAll enc P W' b sp hd f.resultTypes.toList (v.resultList f.resultTypes.size) (s.fn H (ds++gs)).results [])
  (hargs:∀ sp:Nat→Bool,(∀ p∈before,sp p.block=true)→DataW.TrodAll enc P W' 0 sp true f.params.toList args.toList (s.fn H (ds++gs)).args pa)
  (hvars:∀ sp:Nat→Bool,(∀ p∈before,sp p.block=true)→DataW.TrodVars enc P W' sp s.vars (s.fn H (ds++gs)).vars pv)
  (hps:before=pa++pv) (hb:Below W.heap.size W W')
  (hok:∀ (j:Nat)(t:TypeId)(r:Value),f.resultTypes[j]?=some t→(v.resultList f.resultTypes.size)[j]?=some r→Value.okWide P W' .any 0 t r) :
  s.post enc P f apart fresh handsOn again W args v W':=by
 have hlt:∀ p∈before,p.block<W.heap.size:=fun p hp=>hW.lt p hp
 have hold:∀ p∈before,(fun b=>decide (b<W.heap.size)) p.block=true:=fun p hp=>by simpa using hlt p hp
 refine ⟨ds,gs,before,[],pa,pv,hW,hres _ _ _,hargs _ hold,hvars _ hold,World.keptBut_mono (fun p hp=>⟨hp,?_⟩) (hb.frame (·∈before)),fun _=>?_⟩
 ·rw [hps,List.mem_append] at hp
  exact Or.inr hp
 ·obtain ⟨_,_,_,_,_,hz,hn⟩:=hW
  refine ⟨hok,_,_,([]++pa)++pv,⟨[]++pa,pv,trodAll_append (hargs _ (fun _ _=>rfl)) (hres _ _ _),hvars _ (fun _ _=>rfl),rfl,?_,?_⟩,?_⟩
  ·intro b off hp
   have hin:MemPlace.cell b off∈before:=by rw [hps];simpa using hp
   rw [hb.frozen (hlt _ hin)]
   exact hz b off hin
  ·intro ha
   have:=hn ha
   rw [hps] at this
   simpa using this
  ·intro p hp _
   rw [hps]
   simpa using hp
end
theorem ownKnob_none : ownKnob Tryz.prog.godebug=none:=by kernel_rfl
theorem pow10_type : (Tryz.prog.globals[0]?).map (·.type)=some 310:=by kernel_rfl
theorem cells_u64 : Tryz.prog.cellsOf 211=1:=by kernel_rfl
theorem cells_pow10 : Tryz.prog.cellsOf 310=20:=by kernel_rfl
theorem env_of_laid {W : World} (h : laidMetH Tryz.prog [("math/bits.deBruijn32tab", Rows.laid_math_bits_deBruijn32tab), ("math/bits.deBruijn64tab", Rows.laid_math_bits_deBruijn64tab), ("internal/strconv.uint64pow10", Rows.laid_internal_strconv_uint64pow10), ("strconv.ErrRange", Rows.laid_strconv_ErrRange), ("strconv.ErrSyntax", Rows.laid_strconv_ErrSyntax)] W) : Env W := by
 rw [MakeChecks.laidMetH_plain _ _ _ (by kernel_rfl)] at h
 exact Lib.tabIs_of_head (k:=.u64) (zs:=Lib.pow10Tab) globalAt pow10_type Tryz.underlying310 Tryz.underlying211 cells_u64 cells_pow10 h.tail.tail
/-- The cells that the rows list. -/
def rowLaid : List (String × DataW Unit) := [("math/bits.deBruijn32tab", Rows.laid_math_bits_deBruijn32tab), ("math/bits.deBruijn64tab", Rows.laid_math_bits_deBruijn64tab), ("internal/strconv.uint64pow10", Rows.laid_internal_strconv_uint64pow10), ("strconv.ErrRange", Rows.laid_strconv_ErrRange), ("strconv.ErrSyntax", Rows.laid_strconv_ErrSyntax)]
theorem rows_shaped (os:Os)(args:Array Value):((World.laidAll Tryz.prog os rowLaid).forCall (fun _ _=>0) ⟨#[],args,[]⟩).Shaped Tryz.prog:=World.shaped_of_ZipB (by kernel_rfl) (by kernel_rfl)
theorem rows_met (os:Os)(args:Array Value):laidMetH Tryz.prog rowLaid ((World.laidAll Tryz.prog os rowLaid).forCall (fun _ _=>0) ⟨#[],args,[]⟩).memory:=by
 rw [MakeChecks.laidMetH_plain _ _ _ (by kernel_rfl)];exact laidMet_laidAll _ (by kernel_rfl) (by kernel_rfl)
theorem laidOut_yes : laidOutB Tryz.prog=true:=by kernel_rfl
section
variable {H : Type} {enc : TypeId × Value → H} {W W' : World} {sp : Nat → Bool}
theorem trodAll_stays : ∀ {ts:List TypeId}{vs:List Value}{ds:List (DataW H)}{ps:List MemPlace},(∀ t∈ts,Tryz.prog.readableRec t=true∧t<Tryz.prog.types.size) →
  DataW.TrodAll enc Tryz.prog W 0 (fun _=>true) true ts vs ds ps→(∀ x∈ps,W.sameAt W' x)→(∀ x∈ps,sp x.block=true)→DataW.TrodAll enc Tryz.prog W' 0 sp true ts vs ds ps
 | [],_,_,_,_,h,_,_=>by
  obtain ⟨rfl,rfl,rfl⟩:=trodAll_nil h
  exact trodAll_mk0
 | t::ts,vs,ds,ps,hts,h,hs,hp=>by
  obtain ⟨v,vs',d,ds',p,p',rfl,rfl,rfl,h1,h2⟩:=trodAll_cons h
  obtain ⟨hr,hw⟩:=hts t (List.mem_cons_self ..)
  exact trodAll_cons_mk (WideElems.Trod_stays laidOut_yes hr hw h1 (fun x hx=>hs x (List.mem_append_left _ hx)) (fun x hx=>hp x (List.mem_append_left _ hx)))
   (trodAll_stays (fun t ht=>hts t (List.mem_cons_of_mem _ ht)) h2 (fun x hx=>hs x (List.mem_append_right _ hx)) (fun x hx=>hp x (List.mem_append_right _ hx)))
end
/-- A law that returned true, and laid new blocks alone. -/
theorem law_post {H:Type}{enc:TypeId × Value→H}{f:Func}{s:ChangeSpec}{W W':World}{args:Array Value}{ds:List (DataW H)}{before:List MemPlace}(hv:s.vars=[])(hts:∀ t∈f.params.toList,Tryz.prog.readableRec t=true∧t<Tryz.prog.types.size)
  (hres:f.resultTypes=#[4]) (hfn:s.fn H ds={ results:=[.lit (.bool true)],args:=ds })
  (hW:DataW.Whole enc Tryz.prog f.params.toList s.vars false W args.toList ds [] before) (hb:Below W.heap.size W W'):s.post enc Tryz.prog f false true false false W args (.bool true) W':=by
 have hW':=hW
 obtain ⟨p,q,hA0,hV,rfl,_,_⟩:=hW
 rw [hv] at hV
 obtain ⟨_,rfl⟩:=trodVars_none hV
 have hlt:∀ x∈p++[],x.block<W.heap.size:=fun x hx=>hW'.lt x hx
 refine post_of_below (pa:=p) (pv:=[]) hW' (fun _ _ _=>?_) (fun sp hsp=>?_) (fun _ _=>?_) rfl hb ?_
 ·rw [List.append_nil,hfn,hres]
  exact trodAll_mk1 (shut_bool Tryz.underlying4 _)
 ·rw [List.append_nil,hfn]
  exact trodAll_stays hts hA0 (fun x hx=>hb.same (hlt x (List.mem_append_left _ hx))) (fun x hx=>hsp x (List.mem_append_left _ hx))
 ·rw [List.append_nil,hfn,hv];rfl
 ·exact ok_one hres rfl (okWide_bool_mk Tryz.underlying4 _)
end Go.Proofs.YtipjmpdndokdlaaGreatDoor
