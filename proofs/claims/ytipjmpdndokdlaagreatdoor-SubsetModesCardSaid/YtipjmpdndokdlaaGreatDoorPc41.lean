/- What a search of subsets has found, in memory. What a round of a search leaves where a subset is added. A region that draws, within a round of a loop over a function, at the wide fence: by the walk that holds a statement. Walks: scale.two, scale.Same. Walks: scale.Rotation. An append of a slice, nil or not, to a row that the call owns, as one step of a region that draws. -/
import Derived.Test.YtipjmpdndokdlaaGreatDoorPc40
import Derived.Test.YtipjmpdndokdlaaGreatDoorPc16
import Derived.Test.YtipjmpdndokdlaaGreatDoorPc00
import Derived.Deep.RegionHeld3
import Derived.Test.YtipjmpdndokdlaaGreatDoorPc10
import Derived.Test.YtipjmpdndokdlaaGreatDoorPc29
import Derived.Test.YtipjmpdndokdlaaGreatDoorPc36
import Derived.Test.YtipjmpdndokdlaaGreatDoorPc07
import Derived.Laws.OwnMore
import Derived.Deep.RegionLaw
import Derived.Deep.AppendLies
set_option maxRecDepth 100000
set_option maxHeartbeats 800000
namespace Go.Proofs.YtipjmpdndokdlaaGreatDoor
open Go.RowKit Go.Lib Go.Shelf
theorem info_ints : (Tryz.prog.info? 28).map (fun i=>(i.zero,i.size,i.bytes))=some (some (.slice none 0 0),1,24):=by kernel_rfl
theorem info_scale : (Tryz.prog.info? 32).map (fun i=>(i.zero,i.size,i.bytes))=some (some (.agg #[.slice none 0 0,.slice none 0 0]),2,48):=by kernel_rfl
/-- A subset found: its list, and its scale. -/
structure Fw where
 u:Value
 l:List Int
 vp:Value
 vn:Value
 rs:List Qw
def fwU (fs : List Fw) : List Value:=fs.map Fw.u
def fwS (fs : List Fw) : List Value:=fs.flatMap fun f => [f.vp,f.vn]
theorem fwU_snoc (fs:List Fw)(f:Fw):fwU (fs++[f])=fwU fs++[f.u]:=by unfold fwU;rw [List.map_append];rfl
theorem fwS_snoc (fs:List Fw)(f:Fw):fwS (fs++[f])=fwS fs++[f.vp,f.vn]:=by unfold fwS;rw [List.flatMap_append];rfl
theorem fwS_cons (f:Fw)(fs:List Fw):fwS (f::fs)=f.vp::f.vn::fwS fs:=rfl
theorem fwS_at : ∀ {fs:List Fw}{i:Nat}{f:Fw},fs[i]?=some f→(fwS fs)[i * 2]?=some f.vp∧(fwS fs)[i * 2+1]?=some f.vn
 | [],_,_,h=>by cases h
 | s::fs,0,f,h=>by
  cases h
  exact ⟨rfl,rfl⟩
 | s::fs,i+1,f,h=>by
  have:=fwS_at (fs:=fs) (i:=i) (f:=f) (by simpa using h)
  rw [fwS_cons,show (i+1) * 2=i * 2+1+1 by omega]
  simpa using this
/-- The lists found and their scales: rows of blocks from B on. -/
structure Fnd (W : World) (B : Nat) (p : List Int) (N : List (List Rat)) (us vs : Value) (fs : List Fw) : Prop where
 us:W.ownsRow B 28 1 us fs.length (fwU fs)
 vs:W.ownsRow B 32 2 vs fs.length (fwS fs)
 all:∀ f∈fs,OwnI W B f.u f.l∧OwnI W B f.vp p∧QwM W B B f.vn f.rs∧f.rs.map Qw.x=subN p N f.l∧Wd p (subN p N f.l)
theorem any_fw {p:List Int}{N C:List (List Rat)}:∀ {fs:List Fw},(∀ f∈fs,f.rs.map Qw.x=subN p N f.l)→((fs.map Fw.l).any fun a=>rotB p (subN p N a) C)=fs.any fun f=>rotB p (f.rs.map Qw.x) C
 | [],_=>rfl
 | f::fs,h=>by
  rw [List.map_cons,List.any_cons,List.any_cons,h f (List.mem_cons_self ..),any_fw fun g hg=>h g (List.mem_cons_of_mem _ hg)]
section
variable {W W' : World} {B : Nat} {p : List Int} {N : List (List Rat)} {us vs : Value} {fs : List Fw}
theorem Fnd.nil (W:World)(B:Nat)(p:List Int)(N:List (List Rat)):Fnd W B p N (.slice none 0 0) (.slice none 0 0) []:=⟨⟨rfl,.inl ⟨rfl,rfl⟩⟩,⟨rfl,.inl ⟨rfl,rfl⟩⟩,fun f hf=>by cases hf⟩
theorem Fnd.ext (h:Fnd W B p N us vs fs)(hx:Ext W W'):Fnd W' B p N us vs fs :=
 ⟨hx.own h.us,hx.own h.vs,fun f hf=>let ⟨a,b,c,d⟩:=h.all f hf;⟨hx.ownI a,hx.ownI b,hx.qwM c,d⟩⟩
theorem Fnd.mono {B':Nat}(h:Fnd W B p N us vs fs)(hB:B'≤B):Fnd W B' p N us vs fs :=
 ⟨own_mono h.us hB,own_mono h.vs hB,fun f hf=>let ⟨a,b,c,d⟩:=h.all f hf;⟨own_mono a hB,own_mono b hB,c.mono hB hB,d⟩⟩
/-- Where a row of some other kind turns, or a block below. -/
theorem Fnd.grown {row:Option Nat}(h:Fnd W B p N us vs fs)(hg:W.grownBy W' row)(hr:∀ r,row=some r→r<B):Fnd W' B p N us vs fs:=by
 have key:∀ {E s n:Nat}{v:Value}{xs:List Value},W.ownsRow B E s v n xs→W'.ownsRow B E s v n xs:=fun {E s n v xs} k =>
  World.ownsRow.kept k hg (by
   cases hv:v.ownBlock with
   | none=>exact .inl rfl
   | some r=>exact .inr fun e=>by have:=(World.ownsRow.lt k r hv).1;have:=hr r e.symm;omega)
 exact ⟨key h.us,key h.vs,fun f hf=>let ⟨a,b,c,d⟩:=h.all f hf;⟨key a,key b,⟨key c.1,fun r hr=>key (c.2 r hr)⟩,d⟩⟩
end
/-- While a subset is laid down: the two rows with the values in them, and what they point to. -/
structure Fn2 (W : World) (B : Nat) (p : List Int) (N : List (List Rat)) (us vs : Value) (nu nv : Nat) (xu xv : List Value) (gs : List Fw) : Prop where
 us:W.ownsRow B 28 1 us nu xu
 vs:W.ownsRow B 32 2 vs nv xv
 all:∀ f∈gs,OwnI W B f.u f.l∧OwnI W B f.vp p∧QwM W B B f.vn f.rs∧f.rs.map Qw.x=subN p N f.l∧Wd p (subN p N f.l)
section
variable {W W' : World} {B : Nat} {p : List Int} {N : List (List Rat)} {us vs : Value} {nu nv : Nat} {xu xv : List Value} {gs : List Fw}
theorem Fn2.ext (h:Fn2 W B p N us vs nu nv xu xv gs)(hx:Ext W W'):Fn2 W' B p N us vs nu nv xu xv gs :=
 ⟨hx.own h.us,hx.own h.vs,fun f hf=>let ⟨a,b,c,d⟩:=h.all f hf;⟨hx.ownI a,hx.ownI b,hx.qwM c,d⟩⟩
theorem Fn2.putU {us' u:Value}(h:Fn2 W B p N us vs nu nv xu xv gs)(hg:W.grownBy W' us.ownBlock)(ho:W'.ownsRow B 28 1 us' (nu+1) (xu++[u])):Fn2 W' B p N us' vs (nu+1) nv (xu++[u]) xv gs:=by
 have key:∀ {E s n:Nat}{v:Value}{xs:List Value},E ≠ 28→W.ownsRow B E s v n xs→W'.ownsRow B E s v n xs:=fun {E s n v xs} hE k=>World.ownsRow.kept k hg (own_ne k h.us hE)
 exact ⟨ho,key (by decide) h.vs,fun f hf=>let ⟨a,b,c,d⟩:=h.all f hf;⟨key (by decide) a,key (by decide) b,⟨key (by decide) c.1,fun r hr=>key (by decide) (c.2 r hr)⟩,d⟩⟩
theorem Fn2.putV {vs' x y:Value}(h:Fn2 W B p N us vs nu nv xu xv gs)(hg:W.grownBy W' vs.ownBlock)(ho:W'.ownsRow B 32 2 vs' (nv+1) (xv++[x,y])):Fn2 W' B p N us vs' nu (nv+1) xu (xv++[x,y]) gs:=by
 have key:∀ {E s n:Nat}{v:Value}{xs:List Value},E ≠ 32→W.ownsRow B E s v n xs→W'.ownsRow B E s v n xs:=fun {E s n v xs} hE k=>World.ownsRow.kept k hg (own_ne k h.vs hE)
 exact ⟨key (by decide) h.us,ho,fun f hf=>let ⟨a,b,c,d⟩:=h.all f hf;⟨key (by decide) a,key (by decide) b,⟨key (by decide) c.1,fun r hr=>key (by decide) (c.2 r hr)⟩,d⟩⟩
theorem Fnd.two {f:Fw}{fs:List Fw}(h:Fnd W B p N us vs fs)(hf:OwnI W B f.u f.l∧OwnI W B f.vp p∧QwM W B B f.vn f.rs∧f.rs.map Qw.x=subN p N f.l∧Wd p (subN p N f.l)):Fn2 W B p N us vs fs.length fs.length (fwU fs) (fwS fs) (fs++[f]) :=
 ⟨h.us,h.vs,fun g hg=>by
  rcases List.mem_append.1 hg with e | e
  ·exact h.all g e
  ·rw [List.mem_singleton] at e
   subst e
   exact hf⟩
theorem Fn2.done {f:Fw}{fs:List Fw}(h:Fn2 W B p N us vs (fs.length+1) (fs.length+1) (fwU fs++[f.u]) (fwS fs++[f.vp,f.vn]) (fs++[f])):Fnd W B p N us vs (fs++[f]) :=
 ⟨by rw [List.length_append,List.length_singleton,fwU_snoc];exact h.us,by rw [List.length_append,List.length_singleton,fwS_snoc];exact h.vs,h.all⟩
end
theorem wd_sub0 {p:List Int}{N:List (List Rat)}(h:Wd p N){l:List Int}(hse:subE N.length l=0)(h60:l.length≤60):Wd p (subN p N l):=by
 unfold subE at hse
 split at hse
 ·cases hse
 ·rename_i hne
  have:=sub_ok hse
  exact sub_wd h hne h60 this.1 this.2
/-- Between two rounds of a search. -/
def SrI (w : World) (B : Nat) (p : List Int) (N : List (List Rat)) (vp vn vm : Value) (m P : Int) (b : Bool) (pre : List Iw) (W : World) : Prop :=
 Ext w W∧Box6 W w.heap.size vp vn m P vm b∧Boxed W (w.heap.size+1+1+1) 33 (.int .i64 0) ∧
  ∃ us vs fs,Boxed W (w.heap.size+1) 70 us∧Boxed W (w.heap.size+1+1) 59 vs∧Fnd W B p N us vs fs∧fs.map Fw.l=srL P b p N (pre.map Iw.l)
theorem SrI.stays (w:World)(D:Nat)(p:List Int)(N:List (List Rat))(vp vn vm:Value)(m P:Int)(b:Bool)(hD:w.heap.size+4≤D):Stays D (D+2+3) (SrI w (D+2+3) p N vp vn vm m P b):=by
 rintro pre A C row ⟨h1,h2,h3,us,vs,fs,h4,h5,h6,h7⟩ hg hr
 have low:∀ {k:Nat}{o:Obj},k<D→A.heap[k]?=some o→C.heap[k]?=some o:=fun {k o} hk ho=>(hg.block k (Array.getElem?_eq_some_iff.1 ho).1 fun e=>by have:=hr k e.symm;omega).trans ho
 refine ⟨h1.grown hg fun k e=>by have:=hr k e;omega,low (by omega) h2,low (by omega) h3,us,vs,fs,low (by omega) h4,low (by omega) h5,h6.grown hg fun r e=>by have:=hr r e;omega,h7⟩
end Go.Proofs.YtipjmpdndokdlaaGreatDoor

namespace Go.Proofs.YtipjmpdndokdlaaGreatDoor
open Go.RowKit Go.Lib Go.Shelf
theorem grown_box (W:World)(B:Nat)(v:Value):W.grownBy (W.setCell ⟨B,0,none⟩ v) (some B) :=
 have h:Below 0 W (W.setCell ⟨B,0,none⟩ v):=(Below.refl 0 W).setCell (Nat.zero_le _) v
 ⟨h.os,h.tape,h.output,h.size,fun k _ hk=>Below.heap_setCell W ⟨B,0,none⟩ v k (fun e=>hk (by rw [e]))⟩
theorem addr_block (a:Addr)(j:Nat):(a.add j).block=a.block:=by
 unfold Addr.add
 split <;> rfl
theorem cells_grown {A C:World}{row:Option Nat}{k:Nat}{us:List Value}(hg:A.grownBy C row)(h:∀ j u,us[j]?=some u→A.cell? ((⟨k,0,none⟩:Addr).add j)=some u)(hr:∀ r,row=some r→r<k):∀ j u,us[j]?=some u→C.cell? ((⟨k,0,none⟩:Addr).add j)=some u :=
 fun j u hj=>hg.cell (h j u hj) fun e=>by have:=hr _ e.symm;rw [addr_block] at this;exact absurd this (Nat.lt_irrefl _)
theorem cell_one_first (W:World)(x:Value)(t:TypeId)(o:Obj):∀ j u,[x][j]?=some u→((W.alloc (.cells #[x] t)).alloc o).drew.cell? ((⟨W.heap.size,0,none⟩:Addr).add j)=some u :=
 fun j u hj=>((Ext.refl (W.alloc (.cells #[x] t))).alloc o).drew.cell (cell_one_new W x t j u hj)
theorem cell_two_first (W:World)(x y:Value)(t:TypeId)(o:Obj):∀ j u,[x,y][j]?=some u→((W.alloc (.cells #[x,y] t)).alloc o).drew.cell? ((⟨W.heap.size,0,none⟩:Addr).add j)=some u :=
 fun j u hj=>((Ext.refl (W.alloc (.cells #[x,y] t))).alloc o).drew.cell (cell_two_new W x y t j u hj)
theorem cell_one_second (W:World)(o:Obj)(x:Value)(t:TypeId):∀ j u,[x][j]?=some u→((W.alloc o).alloc (.cells #[x] t)).drew.cell? ((⟨W.heap.size+1,0,none⟩:Addr).add j)=some u:=by
 have h:=cell_one_new (W.alloc o) x t
 rw [World.size_alloc] at h
 exact h
theorem cell_two_second (W:World)(o:Obj)(x y:Value)(t:TypeId):∀ j u,[x,y][j]?=some u→((W.alloc o).alloc (.cells #[x,y] t)).drew.cell? ((⟨W.heap.size+1,0,none⟩:Addr).add j)=some u:=by
 have h:=cell_two_new (W.alloc o) x y t
 rw [World.size_alloc] at h
 exact h
/-- Two appends, each behind what else is laid. -/
theorem two_grown {w W WA wB WB wC:World}{u v:Option Nat}{B:Nat}(h0:Ext w W)(h1:Ext W WA)(g1:WA.grownBy wB u)(h2:Ext wB WB)(g2:WB.grownBy wC v)(hu:∀ r,u=some r→B≤r)(hv:∀ r,v=some r→B≤r)(hB:w.heap.size≤B) :
  Ext w wC∧W.heap.size≤wC.heap.size∧∀ k o,k<B→W.heap[k]?=some o→wC.heap[k]?=some o:=by
 have e1:Ext w wB:=(h0.trans h1).grown g1 fun k e=>by have:=hu k e;omega
 refine ⟨(e1.trans h2).grown g2 fun k e=>by have:=hv k e;omega,Nat.le_trans (Nat.le_trans h1.size g1.size) (Nat.le_trans h2.size g2.size),fun k o hk ho=>?_⟩
 have a1:=h1.heap ho
 have a2:=(g1.block k (Array.getElem?_eq_some_iff.1 a1).1 fun e=>by have:=hu k e.symm;omega).trans a1
 have a3:=h2.heap a2
 exact (g2.block k (Array.getElem?_eq_some_iff.1 a3).1 fun e=>by have:=hv k e.symm;omega).trans a3
theorem srI_end {w W wC:World}{d2 D:Nat}{p:List Int}{N:List (List Rat)}{vp vn vm us vs us2 vs2:Value}{m P:Int}{b:Bool}{pre:List Iw}{fs2:List Fw}
  (hd0:w.heap.size+4≤d2) (hD:D=d2+2) (hx:Ext w wC) (hsz:W.heap.size≤wC.heap.size) (hlow:∀ k o,k<D+2+3→W.heap[k]?=some o→wC.heap[k]?=some o)
  (h6:Box6 W w.heap.size vp vn m P vm b) (h3:Boxed W (w.heap.size+1+1+1) 33 (.int .i64 0)) (h1:Boxed W (w.heap.size+1) 70 us) (h2:Boxed W (w.heap.size+1+1) 59 vs)
  (hF:Fnd wC (D+2+3) p N us2 vs2 fs2) (hl:fs2.map Fw.l=srL P b p N (pre.map Iw.l)) :
  Keep (fun r=>(r<w.heap.size∨r=d2∨r=d2+1∨(D+2≤r∧r<D+5))∨r=D∨r=D+1) W ((wC.setCell ⟨w.heap.size+1,0,none⟩ us2).setCell ⟨w.heap.size+1+1,0,none⟩ vs2) ∧
   SrI w (D+2+3) p N vp vn vm m P b pre ((wC.setCell ⟨w.heap.size+1,0,none⟩ us2).setCell ⟨w.heap.size+1+1,0,none⟩ vs2):=by
 have o1:=fun k (hk:k ≠ w.heap.size+1)=>Below.heap_setCell wC ⟨w.heap.size+1,0,none⟩ us2 k hk
 have o2:=fun k (hk:k ≠ w.heap.size+1+1)=>Below.heap_setCell (wC.setCell ⟨w.heap.size+1,0,none⟩ us2) ⟨w.heap.size+1+1,0,none⟩ vs2 k hk
 have g1:=grown_box wC (w.heap.size+1) us2
 have g2:=grown_box (wC.setCell ⟨w.heap.size+1,0,none⟩ us2) (w.heap.size+1+1) vs2
 have b1:Boxed wC (w.heap.size+1) 70 us:=hlow _ _ (by omega) h1
 have b2:Boxed wC (w.heap.size+1+1) 59 vs:=hlow _ _ (by omega) h2
 have n1:Boxed _ (w.heap.size+1) 70 us2:=(o2 _ (by omega)).trans (Boxed.set us2 b1)
 have n2:Boxed _ (w.heap.size+1+1) 59 vs2:=Boxed.set vs2 (show Boxed _ _ _ _ from (o1 _ (by omega)).trans b2)
 refine ⟨⟨Nat.le_trans hsz (Nat.le_trans g1.size g2.size),fun r hr hlt=>?_⟩,(hx.grown g1 fun k e=>by cases e;omega).grown g2 fun k e=>by cases e;omega,?_,?_,us2,vs2,fs2,n1,n2,(hF.grown g1 fun k e=>by cases e;omega).grown g2 fun k e=>by cases e;omega,hl⟩
 ·obtain ⟨o,ho⟩:∃ o,W.heap[r]?=some o:=⟨_,Array.getElem?_eq_getElem hlt⟩
  rw [ho,o2 r (by omega),o1 r (by omega)]
  exact hlow r o (by omega) ho
 ·exact (o2 _ (by omega)).trans ((o1 _ (by omega)).trans (hlow _ _ (by omega) h6))
 ·exact (o2 _ (by omega)).trans ((o1 _ (by omega)).trans (hlow _ _ (by omega) h3))
end Go.Proofs.YtipjmpdndokdlaaGreatDoor

namespace Go.Proofs.YtipjmpdndokdlaaGreatDoor
open Go
section
variable {n l : Nat} {P : Program} {ops : Array Oper} {Q : Exit → Act → World → Prop} {md : Region.Mode}
theorem oper_wide {o:Oper}{a:Act}{w:World}{K:Act→World→Prop}(h:o.wp P a w K Q):o.wpIn Fence.wide n P a w K Q:=by
 unfold Oper.wp at h
 refine ⟨fun _ _=>trivial,?_⟩
 show o.uponIn Fence.wide n P a K Q ((execOp a.eval o).run P w)
 generalize (execOp a.eval o).run P w=r at h
 unfold Oper.upon at h
 unfold Oper.uponIn
 split at h
 ·exact h
 ·exact h
 ·exact h
 ·exact ⟨fun g=>absurd g (by simp [Fence.wide]),callsIn_wide.2 h⟩
 ·exact ⟨fun g=>absurd g (by simp [Fence.wide]),fun c cs _=>let ⟨v,w',r,s⟩:=h c cs;⟨v,w',r,stepsIn_wide.2 s⟩⟩
 ·exact h
 ·exact h.elim
theorem wpAny_wide (hL:¬ LetsOut Q):∀ (fuel:Nat)(listed:Array Bool)(a:Act)(w:World),wpAny P md ops Q fuel listed a w→wpAnyIn Fence.wide n P md ops Q fuel listed a w
 | 0,_,_,_,h=>h
 | fuel+1,listed,a,w,h=>⟨h.1,fun i hi=>by
   have hi2:=h.2 i hi
   unfold wpOp at hi2
   unfold wpOpIn
   cases ho:ops[i]? with
   | none=>rw [ho] at hi2;exact wpAny_wide hL fuel _ a w hi2
   | some o =>
    rw [ho] at hi2
    dsimp only at hi2 ⊢
    split at hi2
    ·rename_i hw
     rw [if_pos hw]
     rcases hi2 with g | ⟨_,g⟩
     ·exact Oper.wpIn_mono (fun a w k=>wpAny_wide hL fuel _ a w k) (oper_wide g)
     ·exact absurd g hL
    ·rename_i hw
     rw [if_neg hw]
     exact ⟨fun _ _=>trivial,wpAny_wide hL fuel _ _ w hi2⟩⟩
theorem wpIn_region_roundZ {id:Nat}{a:Act}{w:World}(z:Nat)(S:World→Prop)(hm:P.follows .mixedOrders=true)(h:noDefer ops=true)(hL:¬ LetsOut (NoPanic Q))(hS:S w.drew)
  (H:S w.drew→anyZ P .any ops (NoPanic Q) S z ops.size (Array.replicate ops.size false) a w.drew):(Code.region id ops true).wpIn (Fence.wide.inRound l) n P Q a w :=
 wpIn_region_round (F:=Fence.wide) hm h (wpAny_wide hL _ _ _ _ (anyZ.any (H hS)))
/-- Two may come up, neither among the last. -/
theorem anyZ_two {S:World→Prop}{z i j:Nat}{o u:Oper}{f:Nat}{ls:Array Bool}{a:Act}{w:World}(hr:Region.ready md ops ls=[i,j])(ho:ops[i]?=some o)(hu:ops[j]?=some u)
  (h1:∀ K:Act→World→Prop,Shut (∀ a w,S w→(S w→anyZ P md ops Q S z f (ls.setIfInBounds i true) a w)→K a w)→if Region.wanted o (yielded ops a.tmps)=true then Oper.wp P o a w K Q else K (a.put o.dst undef) w)
  (h2:∀ K:Act→World→Prop,Shut (∀ a w,S w→(S w→anyZ P md ops Q S z f (ls.setIfInBounds j true) a w)→K a w)→if Region.wanted u (yielded ops a.tmps)=true then Oper.wp P u a w K Q else K (a.put u.dst undef) w):anyZ P md ops Q S z (f+1) ls a w:=by
 refine ⟨fun e=>(by rw [hr] at e;cases e),fun k hk=>?_⟩
 rw [hr] at hk
 rcases List.mem_cons.1 hk with rfl | hk
 ·exact wpOp_step ho fun K hK=>h1 K fun a w hS g=>hK a w ⟨fun _=>hS,g hS⟩
 ·rw [List.mem_singleton] at hk
  subst hk
  exact wpOp_step hu fun K hK=>h2 K fun a w hS g=>hK a w ⟨fun _=>hS,g hS⟩
end
end Go.Proofs.YtipjmpdndokdlaaGreatDoor

namespace Go.Proofs.YtipjmpdndokdlaaGreatDoor
open Go.RowKit Go.Lib Go.Shelf
attribute [local go_sem] Oper.semAt_some
/-- Two scales in their boxes. -/
theorem two_boxes (w:World)(x y z u:Value):BoxT 32 ((w.alloc (.cells #[x,y] 32)).alloc (.cells #[z,u] 32)) w.heap.size x y∧BoxT 32 ((w.alloc (.cells #[x,y] 32)).alloc (.cells #[z,u] 32)) (w.heap.size+1) z u∧Ext w ((w.alloc (.cells #[x,y] 32)).alloc (.cells #[z,u] 32)):=by
 refine ⟨(BoxT.new 32 w x y).ext ((Ext.refl _).alloc _),?_,((Ext.refl w).alloc _).alloc _⟩
 have:=BoxT.new 32 (w.alloc (.cells #[x,y] 32)) z u
 rwa [World.size_alloc] at this
theorem scTwo_c (v1 v2:Value)(p q:List Int)(rs ts:List Qw)(w:World)(he:Env w)(h1:ScV w v1 p rs)(h2:ScV w v2 q ts)(g1:Right p rs)(g2:Right q ts) :
  Calls Tryz.prog 79 #[v1,v2] w fun e w'=>e=.returned (.int .i64 0)∧Ext w w':=by
 obtain ⟨a1,c1,b1,d1,rfl,h1⟩:=scv_let h1
 obtain ⟨a2,c2,b2,d2,rfl,h2⟩:=scv_let h2
 have hc1:=fun W (hE:Ext w W)=>scCheck_c _ p rs W (he.ext hE) (h1.ext hE) g1
 have hc2:=fun W (hE:Ext w W)=>scCheck_c _ q ts W (he.ext hE) (h2.ext hE) g2
 have hb:=two_boxes w (.slice a1 p.length c1) (.slice b1 rs.length d1) (.slice a2 q.length c2) (.slice b2 ts.length d2)
 have Hc1:=Lib.hid hc1;have Hc2:=Lib.hid hc2;have Hb:=Lib.hid hb
 clear hc1 hc2 hb h1 h2 g1 g2 he
 go_enter Tryz.func79,Tryz.ntmps79
 have q0:=Hb.out.1.c0
 have q1:=Hb.out.1.c1
 go_wp2_with fail
 refine (Hc1.out _ Hb.out.2.2).mono ?_
 rintro e w1 ⟨rfl,hx1⟩
 have r0:=(Hb.out.2.1.ext hx1).c0
 have r1:=(Hb.out.2.1.ext hx1).c1
 have Hx1:=Lib.hid (Hb.out.2.2.trans hx1)
 clear hx1 q0 q1
 go_wp2_with fail
 refine (Hc2.out _ Hx1.out).mono ?_
 rintro e w2 ⟨rfl,hx2⟩
 have Hx2:=Lib.hid (Hx1.out.trans hx2)
 clear hx2
 go_wp2
 go_ret
 exact ⟨rfl,Hx2.out⟩
end Go.Proofs.YtipjmpdndokdlaaGreatDoor

namespace Go.Proofs.YtipjmpdndokdlaaGreatDoor
open Go.RowKit Go.Lib Go.Shelf
attribute [local go_sem] Oper.semAt_some
/-- Where the mode of a scale is another scale: the first index, if there is one. -/
def RotAt (p q : List Int) (N M : List (List Rat)) (k : Int) (b : Bool) : Prop :=
 (b=false∧k=0∧∀ i:Nat,i<N.length→¬ (p=q∧md p N (i:Int)=M))∨(b=true∧∃ i:Nat,k=i∧i<N.length∧p=q∧md p N (i:Int)=M∧∀ j:Nat,j<i→¬ (p=q∧md p N (j:Int)=M))
theorem scRot_c (v1 v2:Value)(p q:List Int)(rs ts:List Qw)(w:World)(he:Env w)(h1:ScV w v1 p rs)(h2:ScV w v2 q ts)(g1:Wd p (rs.map Qw.x))(g2:Wd q (ts.map Qw.x)) :
  Calls Tryz.prog 44 #[v1,v2] w fun e w'=>∃ k b,e=.returned (.tuple #[.int .i64 k,.bool b,.int .i64 0])∧RotAt p q (rs.map Qw.x) (ts.map Qw.x) k b∧Ext w w':=by
 obtain ⟨a1,c1,b1,d1,rfl,h1⟩:=scv_let h1
 obtain ⟨a2,c2,b2,d2,rfl,h2⟩:=scv_let h2
 have hp:=pr_one g1.pr
 have hq:=pr_one g2.pr
 have hp3:p.length≤3:=by rcases g1.pr with ⟨e,_⟩ | ⟨e,_⟩ <;> rw [e] <;> decide
 have hq3:q.length≤3:=by rcases g2.pr with ⟨e,_⟩ | ⟨e,_⟩ <;> rw [e] <;> decide
 have hr:=g1.few
 have ht:=g2.few
 have hN:(rs.map Qw.x).length=rs.length:=List.length_map ..
 rw [List.length_map] at hr ht
 have hc1:=fun W (hE:Ext w W)=>scTwo_c _ _ p q rs ts W (he.ext hE) (h1.ext hE) (h2.ext hE) g1.right g2.right
 have hmo:=fun (m:Nat)(hm:m<rs.length) W (hE:Ext w W)=>mode_c _ p rs (m:Int) W (he.ext hE) (h1.ext hE) g1 (by omega) (by omega)
 have hsa:=fun (m:Nat) W v out (hE:Ext w W)(hv:ScV W v p out)(hm:out.map Qw.x=md p (rs.map Qw.x) (m:Int))=>(show Calls Tryz.prog 81 #[v,.agg #[.slice a2 q.length c2,.slice b2 ts.length d2]] W fun e w'=>e=.returned (.bool (decide (p=q) && decide (md p (rs.map Qw.x) (m:Int)=ts.map Qw.x)))∧Ext W w' by
  have hw:=g1.mode (m:Int)
  have hol:out.length≤60:=by have:=hw.few;rw [← hm,List.length_map] at this;exact this
  have:=scSame_c v _ p q out ts W hv (h2.ext hE) (by omega) (by omega) (by omega) (by omega) (fun r hr=>by rw [hw.len _ (by rw [← hm];exact List.mem_map_of_mem hr)];omega) (fun r hr=>by rw [g2.len _ (List.mem_map_of_mem hr)];omega)
  rw [hm] at this
  exact this)
 have hb:=two_boxes w (.slice a1 p.length c1) (.slice b1 rs.length d1) (.slice a2 q.length c2) (.slice b2 ts.length d2)
 have hra:RotAt p q (rs.map Qw.x) (ts.map Qw.x)=RotAt p q (rs.map Qw.x) (ts.map Qw.x):=rfl
 have Hc1:=Lib.hid hc1;have Hmo:=Lib.hid hmo;have Hsa:=Lib.hid hsa;have Hb:=Lib.hid hb;have HN:=Lib.hid hN
 clear hc1 hmo hsa hb h1 h2 g1 g2 he hp hq hN hra
 generalize hn:rs.length=n at *
 have Hn:=Lib.hid hn
 clear hn
 go_enter Tryz.func44,Tryz.ntmps44
 have q0:=Hb.out.1.c0
 have q1:=Hb.out.1.c1
 have r0:=Hb.out.2.1.c0
 have r1:=Hb.out.2.1.c1
 go_wp2_with fail
 refine (Hc1.out _ Hb.out.2.2).mono ?_
 rintro e w1 ⟨rfl,hx1⟩
 have HB1:=Lib.hid (Hb.out.1.ext hx1);have HB2:=Lib.hid (Hb.out.2.1.ext hx1)
 have q1:=HB1.out.c1
 have Hx1:=Lib.hid (Hb.out.2.2.trans hx1)
 clear hx1 q0 r0 r1
 go_wp2_with fail
 go_loopw [8,9,10,20] (fun v8 v9 v10 v20 wr=>∃ k:Nat,v20=.int .i64 k∧k≤n∧Hid (∀ j:Nat,j<k→¬ (p=q∧md p (rs.map Qw.x) (j:Int)=ts.map Qw.x))∧Ext w1 wr) (fun _ _ _ v20 _=>n - (intOf v20).toNat)
 case atStart=>exact ⟨0,rfl,Nat.zero_le _,Lib.hid (fun j h=>absurd h (Nat.not_lt_zero j)),Ext.refl _⟩
 case round =>
  obtain ⟨k,rfl,hk,Hj,hEr⟩:=hrel
  by_cases hkn:k<n
  ·have hk0:(0:Int)≤(k:Int):=by omega
   have hk1:(k:Int)<(n:Int):=by omega
   have hmk:=Hmo.out k hkn wr (Hx1.out.trans hEr)
   have q0:=(HB1.out.ext hEr).c0
   have q1:=(HB1.out.ext hEr).c1
   have Hmk:=Lib.hid hmk;have HEr:=Lib.hid hEr
   clear hmk hEr
   go_wp2_with fail
   refine Hmk.out.mono ?_
   rintro e w2 ⟨u2,out,rfl,ho2,hm2,hx2⟩
   obtain ⟨a5,c5,b5,d5,rfl,hs5⟩:=scv_let ho2.scV
   have hb5:=BoxT.new 32 w2 (.slice a5 p.length c5) (.slice b5 out.length d5)
   have hE5:=(Ext.refl w2).alloc (.cells #[.slice a5 p.length c5,.slice b5 out.length d5] 32)
   have hx5:=HEr.out.trans (hx2.trans hE5)
   have hsa5:=Hsa.out k _ _ out (Hx1.out.trans hx5) (hs5.ext hE5) hm2
   have k0:=hb5.c0
   have k1:=hb5.c1
   have r0:=(HB2.out.ext hx5).c0
   have r1:=(HB2.out.ext hx5).c1
   have Hsa5:=Lib.hid hsa5;have Hx5:=Lib.hid hx5
   clear hsa5 hx5 hb5 hE5 hs5 ho2 hm2 hx2 q0 q1
   go_wp2_with fail
   refine Hsa5.out.mono ?_
   rintro e w6 ⟨rfl,hx6⟩
   have Hx6:=Lib.hid (Hx5.out.trans hx6)
   clear hx6 k0 k1 r0 r1
   by_cases hyes:p=q∧md p (rs.map Qw.x) (k:Int)=ts.map Qw.x
   ·have hB:(decide (p=q) && decide (md p (rs.map Qw.x) (k:Int)=ts.map Qw.x))=true:=by rw [decide_eq_true hyes.1,decide_eq_true hyes.2];rfl
    have Hyes:=Lib.hid hyes
    rw [hB]
    clear hB hyes
    go_wp2_with fail
    exact bodyPost_ret (v:=.tuple #[.int .i64 (k:Int),.bool true,.int .i64 0]) (by simp [results,Tryz.results44,go_sem]) rfl ⟨_,_,rfl,.inr ⟨rfl,k,rfl,by rw [HN.out];exact hkn,Hyes.out.1,Hyes.out.2,Hj.out⟩,Hx1.out.trans Hx6.out⟩
   ·have hB:(decide (p=q) && decide (md p (rs.map Qw.x) (k:Int)=ts.map Qw.x))=false:=by
     rw [Bool.and_eq_false_iff]
     by_cases e:p=q
     ·exact .inr (decide_eq_false fun e2=>hyes ⟨e,e2⟩)
     ·exact .inl (decide_eq_false e)
    have Hno:=Lib.hid hyes
    rw [hB]
    clear hB hyes
    go_wp2_with fail
    go_roundw
    case rel=>exact ⟨k+1,by go_num,by omega,Lib.hid (fun j hj=>by
     rcases (by omega:j<k∨j=k) with e | e
     ·exact Hj.out j e
     ·rw [e];exact Hno.out),Hx6.out⟩
    case measure=>simp [intOf];omega
  ·obtain rfl:k=n:=by omega
   have HEr:=Lib.hid hEr
   clear hEr
   go_wp2_with fail
   exact bodyPost_ret (v:=.tuple #[.int .i64 0,.bool false,.int .i64 0]) (by simp [results,Tryz.results44,go_sem]) rfl ⟨_,_,rfl,.inl ⟨rfl,rfl,fun i hi=>Hj.out i (by rw [HN.out] at hi;exact hi)⟩,Hx1.out.trans HEr.out⟩
end Go.Proofs.YtipjmpdndokdlaaGreatDoor

namespace Go.Proofs.YtipjmpdndokdlaaGreatDoor
open Go.RowKit Go.Lib
theorem step_append_any {P:Program}(w:World){ops:Array Oper}{o:Oper}{a:Act}{K:Act→World→Prop}{Q:Exit→Act→World→Prop}{E:Prop}(hgd:o.guard=none)(s x:Operand)(t:TypeId)
  (ho:o.op=.call { callee:=.builtin .append,args:=#[s,x],argTypes:=#[t,t] })
  (base:Nat) (e:TypeId) (i:TypeInfo) (z:Value) (size bytes:Nat) (ht:P.underlying t=some (.slice e)) (hi:P.info? e=some i) (hz:i.zero=some z)
  (hsize:i.size=size) (hby:i.bytes=bytes) (hzs:z.cells.size=size) (hsz:0<size)
  (v:Value) (n:Nat) (xs:List Value) (hs:a.eval s=v) (hown:w.ownsRow base e size v n xs)
  (ao:Option Addr) (m c:Nat) (news:List Value) (hx:a.eval x=.slice ao m c) (hnone:ao=none→m=0∧c=0) (hl:news.length=m * size) (hnews:∀ ad,ao=some ad→∀ j u,news[j]?=some u→w.cell? (ad.add j)=some u) (h1:∀ u∈news,u.oneCell'=true)
  (h63:n+m≤maxLen) (hbytes:(n+m) * bytes≤140737488355328) (hbase:base≤w.heap.size)
  (h:∀ v' w',w'.ownsRow base e size v' (n+m) (xs++news)→w.grownBy w' v.ownBlock→K (a.put o.dst v') w') :
  if Region.wanted o (yielded ops a.tmps)=true then Oper.wp P o a w K Q else E:=by
 have hw:Region.wanted o (yielded ops a.tmps)=true:=by simp [Region.wanted,hgd]
 rw [if_pos hw]
 cases ao with
 | none =>
  obtain ⟨rfl,rfl⟩:=hnone rfl
  obtain rfl:news=[]:=List.eq_nil_of_length_eq_zero (by simpa using hl)
  have hr:=run_append_owned_none (P:=P) (w:=w) base t o.type e i size ht hi v n xs hown
  unfold Oper.wp
  simp [execOp,ho,resolve,invoke,builtin,hs,hx,hr,Result.andThen]
  exact h v w (by rw [List.append_nil];exact hown) ⟨rfl,rfl,rfl,Nat.le_refl _,fun _ _ _=>rfl⟩
 | some ad =>
  obtain ⟨v',w',hr,h2,h3,_⟩:=run_append_own (P:=P) w base t o.type e i z size bytes ht hi hz hsize hby hzs hsz v n xs hown ad m c news hl (hnews ad rfl) h1 h63 hbytes hbase
  unfold Oper.wp
  simp [execOp,ho,resolve,invoke,builtin,hs,hx,hr,Result.andThen]
  exact h v' w' h2 h3
end Go.Proofs.YtipjmpdndokdlaaGreatDoor
