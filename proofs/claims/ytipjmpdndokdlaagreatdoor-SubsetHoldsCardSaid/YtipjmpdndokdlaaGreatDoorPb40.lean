/- Walks: subset.subsets: the recursion that yields the candidates in order. Walks: subset.subsets: the recursion where the list is full. Walks: subset.subsets: the recursion yields the candidates. (Printed by sbg.py.) -/
import Derived.Test.YtipjmpdndokdlaaGreatDoorPb35
import Derived.Test.YtipjmpdndokdlaaGreatDoorPb39
import Derived.Test.YtipjmpdndokdlaaGreatDoorPb11
import Derived.Shelf.RegionOpen
import Derived.Laws.OwnMore
set_option maxRecDepth 100000
set_option maxHeartbeats 4000000
namespace Go.Proofs.YtipjmpdndokdlaaGreatDoor
open Go.RowKit Go.Lib Go.Shelf
attribute [local go_sem] Oper.semAt_some
/-- A list of ints as a value. -/
structure Iw where
 u:Value
 l:List Int
def PreI (V : List Int → Prop) (B : Nat) (x : Iw) (W : World) : Prop:=OwnI W B x.u x.l ∧ V x.l
theorem Ext.grows {w w' : World} (h : Ext w w') : w.grownBy w' none:=⟨h.os,h.tape,h.output,h.size,fun k hk _ => h.block k hk⟩
theorem Stays.ext {β : Type} {b c : Nat} {I : β → World → Prop} (h : Stays b c I) {s : β} {w w' : World} (hs : I s w) (hx : Ext w w') : I s w':=h s w w' none hs hx.grows fun r e => by cases e
theorem Stays.row {β : Type} {b c : Nat} {I : β → World → Prop} (h : Stays b c I) {s : β} {w w' : World} {g : Nat} (hs : I s w) (hx : w.grownBy w' (some g)) (h1 : b ≤ g) (h2 : g < c) : I s w':=h s w w' (some g) hs hx fun r e => by cases e;exact ⟨h1,h2⟩
theorem Keep.ext {R : Nat → Prop} {w w' : World} (h : Ext w w') : Keep R w w':=⟨h.size,fun r _ hl => h.block r hl⟩
/-- What the recursion finds in memory. -/
structure ItS (W : World) (n0 Bq Bn By Bc r0 ly : Nat) (vp vn : Value) (n m : Nat) (P : Int) (am : Option Addr) (cm : Nat) (b : Bool) (M ns : List Int) : Prop where
 q:Box6 W Bq vp vn (m:Int) P (.slice am M.length cm) b
 bn:Boxed W Bn 3 (.int .i64 (n:Int))
 by_:Boxed W By 170 (.func (.yield ly) #[] #[])
 bc:Boxed W Bc 171 (.func (.func 121) #[] #[.pointer (some ⟨Bq,0,none⟩),.pointer (some ⟨By,0,none⟩),.pointer (some ⟨Bn,0,none⟩),.pointer (some ⟨Bc,0,none⟩)])
 row:W.ownsRow r0 3 1 (.slice (some ⟨r0,0,none⟩) ns.length m) ns.length (i64s ns)
 must:∀ i z,M[i]?=some z→∃ g off,am=some ⟨g,off,none⟩∧g < n0∧W.cell? ⟨g,off + i,none⟩=some (.int .i64 z)
/-- The blocks of the recursion but for its list. -/
def ItR (n0 Bq Bn By Bc r : Nat) : Prop:=r < n0 ∨ r=Bq ∨ r=Bn ∨ r=By ∨ r=Bc
section
variable {W W' : World} {n0 Bq Bn By Bc r0 ly : Nat} {vp vn : Value} {n m : Nat} {P : Int} {am : Option Addr} {cm : Nat} {b : Bool} {M ns : List Int}
theorem cell_same {w w' : World} {a : Addr} (h : w'.heap[a.block]?=w.heap[a.block]?) : w'.cell? a=w.cell? a:=by unfold World.cell?;rw [h]
theorem ItS.keepRow (h : ItS W n0 Bq Bn By Bc r0 ly vp vn n m P am cm b M ns) (hk : Keep (ItR n0 Bq Bn By Bc) W W') {ns' : List Int} (hr : W'.ownsRow r0 3 1 (.slice (some ⟨r0,0,none⟩) ns'.length m) ns'.length (i64s ns')) :
  ItS W' n0 Bq Bn By Bc r0 ly vp vn n m P am cm b M ns':=by
 have lt:∀ {r:Nat} {o:Obj},W.heap[r]?=some o→r < W.heap.size:=fun h=>(Array.getElem?_eq_some_iff.1 h).1
 refine ⟨(hk.2 Bq (.inr (.inl rfl)) (lt h.q)).trans h.q,(hk.2 Bn (.inr (.inr (.inl rfl))) (lt h.bn)).trans h.bn,(hk.2 By (.inr (.inr (.inr (.inl rfl)))) (lt h.by_)).trans h.by_,
  (hk.2 Bc (.inr (.inr (.inr (.inr rfl)))) (lt h.bc)).trans h.bc,hr,fun i z hz=>?_⟩
 obtain ⟨g,off,e,hg,hc⟩:=h.must i z hz
 have hlt:=World.block_lt_of_cell? _ _ hc
 exact ⟨g,off,e,hg,(cell_same (a:=⟨g,off + i,none⟩) (hk.2 g (.inl hg) hlt)).trans hc⟩
theorem ItS.keep (h : ItS W n0 Bq Bn By Bc r0 ly vp vn n m P am cm b M ns) (hk : Keep (fun r => ItR n0 Bq Bn By Bc r ∨ r=r0) W W') : ItS W' n0 Bq Bn By Bc r0 ly vp vn n m P am cm b M ns:=by
 refine h.keepRow (hk.mono fun r hr=>.inl hr) ?_
 obtain ⟨h1,h2⟩:=h.row
 refine ⟨h1,?_⟩
 rcases h2 with h2 | ⟨g,cap,cur,e,hb,hh,rest⟩
 ·exact .inl h2
 ·refine .inr ⟨g,cap,cur,e,hb,?_,rest⟩
  have e2:g=r0:=by injection e with e;injection e with e;injection e with e1;exact e1.symm
  subst e2
  exact (hk.2 g (.inr rfl) (Array.getElem?_eq_some_iff.1 hh).1).trans hh
theorem ItS.ext (h : ItS W n0 Bq Bn By Bc r0 ly vp vn n m P am cm b M ns) (hx : Ext W W') : ItS W' n0 Bq Bn By Bc r0 ly vp vn n m P am cm b M ns:=h.keep (Keep.ext hx)
/-- A shorter list. -/
theorem row_less {g cap : Nat} {x : Int} {ns : List Int} (h : W.ownsRow g 3 1 (.slice (some ⟨g,0,none⟩) (ns ++ [x]).length cap) (ns ++ [x]).length (i64s (ns ++ [x]))) : W.ownsRow g 3 1 (.slice (some ⟨g,0,none⟩) ns.length cap) ns.length (i64s ns):=by
 obtain ⟨_,h2⟩:=h
 refine ⟨by rw [i64s_length,Nat.mul_one],?_⟩
 rcases h2 with ⟨e,_⟩ | ⟨g',cap',cur,e,hb,hh,hn,hc,hs,ht⟩
 ·cases e
 ·injection e with e1 e2 e3
  subst e3
  injection e1 with e1
  injection e1 with e1
  subst e1
  rw [List.length_append,List.length_singleton] at hn ht
  refine .inr ⟨g,cap,cur,rfl,hb,hh,by omega,hc,hs,?_⟩
  have:=congrArg (List.take ns.length) ht
  rw [List.take_take,show min ns.length ((ns.length + 1) * 1)=ns.length * 1 by omega] at this
  rw [this,i64s,List.map_append,List.take_left' (by rw [List.length_map])]
  rfl
theorem ItS.less {x : Int} (h : ItS W n0 Bq Bn By Bc r0 ly vp vn n m P am cm b M (ns ++ [x])) : ItS W n0 Bq Bn By Bc r0 ly vp vn n m P am cm b M ns :=
 ⟨h.q,h.bn,h.by_,h.bc,row_less h.row,h.must⟩
end
theorem cho_full {n m : Nat} {M : List Int} {f : Nat} {l : List Int} {u : Nat} (h : l.length=m) : cho n m M f l u=if u < M.length then [] else [l]:=by
 cases f <;> rw [cho,if_pos h]
theorem cho_over {n m : Nat} {M : List Int} {f : Nat} {l : List Int} {u : Nat} (h : l.length ≠ m) (hk : f < m - l.length) : cho n m M f l u=[]:=by
 cases f with
 | zero=>rw [cho,if_neg h]
 | succ f=>rw [cho,if_neg h,if_neg (by omega)]
theorem cho_hit {n m : Nat} {M : List Int} {f : Nat} {l : List Int} {u : Nat} (h : l.length ≠ m) (hk : m - l.length ≤ f + 1) (hit : M[u]?=some ((n - (f + 1) : Nat) : Int)) :
  cho n m M (f + 1) l u=if M.length ≤ (u + 1) + (m - l.length - 1) then cho n m M f (l ++ [((n - (f + 1):Nat):Int)]) (u + 1) else []:=by
 rw [cho,if_neg h,if_pos hk,if_pos hit]
theorem cho_miss {n m : Nat} {M : List Int} {f : Nat} {l : List Int} {u : Nat} (h : l.length ≠ m) (hk : m - l.length ≤ f + 1) (hit : ¬ M[u]?=some ((n - (f + 1) : Nat) : Int)) :
  cho n m M (f + 1) l u=(if M.length ≤ u + (m - l.length - 1) then cho n m M f (l ++ [((n - (f + 1):Nat):Int)]) u else []) ++ cho n m M f l u:=by
 rw [cho,if_neg h,if_pos hk,if_neg hit]
/-- append where there is room, as one step of a region that draws (guarded or not). -/
theorem step_append_fitsW {P : Program} {ops : Array Oper} {o : Oper} {a : Act} {w : World} {K : Act → World → Prop} {Q : Exit → Act → World → Prop} {E : Prop}
  (hw:Region.wanted o (yielded ops a.tmps)=true) (s x:Operand) (t:TypeId) (hop:o.op=Op.call { callee:=Callee.builtin Builtin.append,args:=#[s,x],argTypes:=#[t,t] })
  (base:Nat) (e:TypeId) (i:TypeInfo) (size:Nat) (h1:P.underlying t=some (.slice e)) (h2:P.info? e=some i) (h4:i.size=size)
  (g k cap:Nat) (xs:List Value) (hs:a.eval s=.slice (some ⟨g,0,none⟩) k cap) (hown:w.ownsRow base e size (.slice (some ⟨g,0,none⟩) k cap) k xs)
  (ad:Addr) (m c:Nat) (news:List Value) (hx:a.eval x=.slice (some ad) m c) (hn:news.length=m * size) (hc:∀ j u,news[j]?=some u→w.cell? (ad.add j)=some u) (h1c:∀ u ∈ news,u.oneCell'=true) (b1:k + m ≤ cap)
  (hK:∀ w',w'.ownsRow base e size (.slice (some ⟨g,0,none⟩) (k + m) cap) (k + m) (xs ++ news)→w.grownBy w' (some g)→K (a.put o.dst (.slice (some ⟨g,0,none⟩) (k + m) cap)) w') :
  if Region.wanted o (yielded ops a.tmps)=true then Oper.wp P o a w K Q else E:=by
 rw [if_pos hw]
 subst h4
 obtain ⟨w',hrun,r1,r2⟩:=run_append_fits (P:=P) w base t o.type e i i.size h1 h2 rfl g k cap xs hown ad m c news hn hc h1c b1
 unfold Oper.wp
 simp [execOp,hop,resolve,invoke,builtin,hs,hx,hrun,Result.andThen]
 exact hK w' r1 r2
end Go.Proofs.YtipjmpdndokdlaaGreatDoor

namespace Go.Proofs.YtipjmpdndokdlaaGreatDoor
open Go.RowKit Go.Lib Go.Shelf
attribute [local go_sem] Oper.semAt_some
theorem round_any {m m' : Nat} {P : Program} {l : Nat} {f : FuncId} {tmps : Array Value} {assign body : Code} {w : World} {R : Ending → World → Prop} (h : RoundIn Fence.wide m P l f tmps assign body w R) : RoundIn Fence.wide m' P l f tmps assign body w R :=
 ⟨h.1,fun c cs _=>h.2 c cs fun d hd=>by cases hd⟩
section
variable {W : World} {n0 Bq Bn By Bc r0 ly : Nat} {vp vn : Value} {n m : Nat} {P : Int} {am : Option Addr} {cm : Nat} {b : Bool} {M ns : List Int}
/-- Indices that must be are left: nothing is yielded. -/
theorem choose_lack (h : ItS W n0 Bq Bn By Bc r0 ly vp vn n m P am cm b M ns) (hl : ns.length=m) (k u : Nat) (hu : u < M.length) :
  Calls Tryz.prog 121 #[.slice (some ⟨r0,0,none⟩) ns.length m,.int .i64 (k:Int),.int .i64 (u:Int),.pointer (some ⟨Bq,0,none⟩),.pointer (some ⟨By,0,none⟩),.pointer (some ⟨Bn,0,none⟩),.pointer (some ⟨Bc,0,none⟩)] W
   fun e w'=>e=.returned (.bool true)∧Ext W w':=by
 obtain ⟨_,_,q2,_,q4,_⟩:=h.q.cs
 rw [hl]
 clear h hl
 generalize M.length=L at *
 have hd1:decide (u < L)=true:=decide_eq_true hu
 have hd2:(u:Int) < (L:Int):=by omega
 have hd3:decide ((u:Int) < (L:Int))=true:=decide_eq_true hd2
 go_enter Tryz.func121,Tryz.ntmps121
 go_wp2_with fail
 go_quiet (fail)
 go_wp2_with fail
 go_ret
 exact ⟨rfl,(Ext.refl W).drewN _⟩
/-- The list is yielded. -/
theorem choose_full {V : List Int → Prop} {c N : Nat} {J : List Iw → World → Prop} {R : Nat → Prop} (hJ : Stays By c J) (hR : ∀ r,ItR n0 Bq Bn By Bc r ∨ r=r0 → R r)
  (hY:∀ pre x W1,J pre W1→PreI V c x W1→c ≤ W1.heap.size→pre.length < N→YieldAt Fence.wide 1 Tryz.prog ly #[x.u] W1 fun e W'=>e=.returned (.bool true)∧J (pre ++ [x]) W'∧Keep R W1 W')
  {pre:List Iw} (hV:V ns) (hj:J pre W) (hpn:pre.length < N) (hW:c ≤ W.heap.size)
  (h:ItS W n0 Bq Bn By Bc r0 ly vp vn n m P am cm b M ns) (hl:ns.length=m) (k u:Nat) (hu:¬ u < M.length) (_hM:M.length ≤ 1000) (hm:m ≤ 1000) :
  Calls Tryz.prog 121 #[.slice (some ⟨r0,0,none⟩) ns.length m,.int .i64 (k:Int),.int .i64 (u:Int),.pointer (some ⟨Bq,0,none⟩),.pointer (some ⟨By,0,none⟩),.pointer (some ⟨Bn,0,none⟩),.pointer (some ⟨Bc,0,none⟩)] W
   fun e w'=>e=.returned (.bool true)∧∃ x:Iw,x.l=ns∧J (pre ++ [x]) w'∧ItS w' n0 Bq Bn By Bc r0 ly vp vn n m P am cm b M ns∧W.heap.size ≤ w'.heap.size:=by
 obtain ⟨_,_,q2,_,q4,_⟩:=h.q.cs
 have q5:=h.by_.cell
 have hcl:=fun W1 (hE:Ext W W1)=>cloneI_c r0 0 m ns W1 (by omega) (fun j z hz=>by
  have hr:=World.ownsRow.cells (hE.own h.row) (g:=r0) rfl j (.int .i64 z) (by unfold i64s;rw [List.getElem?_map,hz];rfl)
  rw [Addr.add_lit] at hr
  exact hr)
 rw [hl] at hcl ⊢
 have hyy:=fun W1 u1 (hE:Ext W W1) (ho:OwnI W1 c u1 ns)=>hY pre ⟨u1,ns⟩ W1 (hJ.ext hj hE) ⟨ho,hV⟩ (Nat.le_trans hW hE.size) hpn
 have Hcl:=Lib.hid hcl;have Hyy:=Lib.hid hyy;have HI:=Lib.hid h;have HW:=Lib.hid hW;have HR:=Lib.hid hR
 clear hcl hyy h hY hJ hj hpn hW hR
 generalize hLL:M.length=L at *
 have hd1:decide (u < L)=false:=decide_eq_false hu
 have hd2:¬ (u:Int) < (L:Int):=by omega
 have hd3:decide ((u:Int) < (L:Int))=false:=decide_eq_false hd2
 refine (callsIn_wide (n:=3)).1 ?_
 refine callsIn_of_wp Tryz.func121 rfl trivial ?_ rfl
 simp only [Tryz.ntmps121,List.size_toArray,List.length_cons,List.length_nil,Nat.reduceAdd,Nat.reduceSub,Array.replicate_succ,Array.replicate_zero,List.push_toArray,List.append_toArray,List.nil_append,List.cons_append]
 gi_wp2_with fail
 have hmo:Tryz.prog.follows .mixedOrders=true:=by kernel_rfl
 gi_region_with_o (first
  | (refine ⟨trivial,?_⟩;gi_at_call 37;refine (callsIn_wide.2 (Hcl.out _ (Ext.refl W).drew)).mono ?_;rintro e W1 ⟨u1,rfl,ho,hne,hx⟩;have hx1:=(Ext.refl W).drew.trans hx;have q6:=hx1.cell q5;obtain ⟨fn,tmps,assign,body,hy,hR⟩:=Hyy.out W1 u1 hx1 (own_mono ho HW.out);have HR1:=Lib.hid hR;have Hx1:=Lib.hid hx1;clear hR hx1 hx ho hne)
  | (refine (round_any HR1.out).mono ?_;rintro e W2 ⟨rfl,hj2,hk2⟩;have Hj2:=Lib.hid hj2;have Hk2:=Lib.hid hk2;clear hj2 hk2))
 all_goals
  gi_wp2_with fail
  go_ret
  exact ⟨rfl,⟨u1,ns⟩,rfl,Hj2.out,(HI.out.ext Hx1.out).keep (Hk2.out.mono HR.out),Nat.le_trans Hx1.out.size Hk2.out.1⟩
end
end Go.Proofs.YtipjmpdndokdlaaGreatDoor

namespace Go.Proofs.YtipjmpdndokdlaaGreatDoor
open Go.RowKit Go.Lib Go.Shelf
attribute [local go_sem] Oper.semAt_some
/-- The recursion under way: the index k is next. -/
def ChR (J : List Iw → World → Prop) (n0 Bq Bn By Bc r0 ly : Nat) (vp vn : Value) (n m : Nat) (P : Int) (am : Option Addr) (cm : Nat) (b : Bool) (M ns : List Int) (pre : List Iw) (u : Nat) (C : List (List Int)) (S k : Nat) (wr : World) : Prop :=
 ∃ ys:List Iw,C=ys.map Iw.l ++ cho n m M (n - k) ns u∧J (pre ++ ys) wr∧ItS wr n0 Bq Bn By Bc r0 ly vp vn n m P am cm b M ns∧S ≤ wr.heap.size
/-- What a call of the recursion answers. -/
def ChE (J : List Iw → World → Prop) (n0 Bq Bn By Bc r0 ly : Nat) (vp vn : Value) (n m : Nat) (P : Int) (am : Option Addr) (cm : Nat) (b : Bool) (M ns : List Int) (pre : List Iw) (C : List (List Int)) (S : Nat) (w' : World) : Prop :=
 ∃ ys:List Iw,ys.map Iw.l=C∧J (pre ++ ys) w'∧ItS w' n0 Bq Bn By Bc r0 ly vp vn n m P am cm b M ns∧S ≤ w'.heap.size
section
variable {J : List Iw → World → Prop} {n0 Bq Bn By Bc r0 ly : Nat} {vp vn : Value} {n m : Nat} {P : Int} {am : Option Addr} {cm : Nat} {b : Bool} {M ns : List Int} {pre : List Iw} {u : Nat} {C : List (List Int)} {S k : Nat} {wr : World}
theorem ChR.done (h : ChR J n0 Bq Bn By Bc r0 ly vp vn n m P am cm b M ns pre u C S k wr) (hc : cho n m M (n - k) ns u=[]) : ChE J n0 Bq Bn By Bc r0 ly vp vn n m P am cm b M ns pre C S wr:=by
 obtain ⟨ys,e,hj,hi,hs⟩:=h
 exact ⟨ys,by rw [e,hc,List.append_nil],hj,hi,hs⟩
end
theorem choose_c {n0 Bq Bn By Bc r0 ly : Nat} {vp vn : Value} {n m : Nat} {P : Int} {am : Option Addr} {cm : Nat} {b : Bool} {M : List Int} {c N : Nat} {J : List Iw → World → Prop} {R : Nat → Prop} {V : List Int → Prop}
  (hJ:Stays By c J) (hc:c=By + 3) (hBc:Bc=By + 1) (hr0:r0=By + 2) (hlo:n0 ≤ By∧Bq < By∧Bn < By) (hR:∀ r,ItR n0 Bq Bn By Bc r ∨ r=r0→R r)
  (hY:∀ pre x W1,J pre W1→PreI V c x W1→c ≤ W1.heap.size→pre.length < N→YieldAt Fence.wide 1 Tryz.prog ly #[x.u] W1 fun e W'=>e=.returned (.bool true)∧J (pre ++ [x]) W'∧Keep R W1 W')
  (hM:M.length ≤ 1000) (hm:m ≤ 1000) (hn:n ≤ 1000) (f:Nat) :
  ∀ (ns:List Int) (u:Nat) (pre:List Iw) (W:World),f ≤ n→ns.length ≤ m→u ≤ M.length→J pre W→ItS W n0 Bq Bn By Bc r0 ly vp vn n m P am cm b M ns→c ≤ W.heap.size→pre.length + (cho n m M f ns u).length ≤ N→(∀ l ∈ cho n m M f ns u,V l) →
  Calls Tryz.prog 121 #[.slice (some ⟨r0,0,none⟩) ns.length m,.int .i64 ((n - f:Nat):Int),.int .i64 (u:Int),.pointer (some ⟨Bq,0,none⟩),.pointer (some ⟨By,0,none⟩),.pointer (some ⟨Bn,0,none⟩),.pointer (some ⟨Bc,0,none⟩)] W
   fun e w'=>e=.returned (.bool true)∧ChE J n0 Bq Bn By Bc r0 ly vp vn n m P am cm b M ns pre (cho n m M f ns u) W.heap.size w':=by
 induction f using Nat.strongRecOn with
 | ind f ih =>
 intro ns u pre W hf hlm hu hj hI hW hN hVV
 by_cases hfull:ns.length=m
 ·by_cases hul:u < M.length
  ·refine (choose_lack hI hfull (n - f) u hul).mono fun e w' ⟨he,hx⟩=>⟨he,[],?_,by rw [List.append_nil];exact hJ.ext hj hx,hI.ext hx,hx.size⟩
   rw [cho_full hfull,if_pos hul];rfl
  ·have hch:=cho_full (n:=n) (M:=M) (f:=f) (u:=u) hfull
   rw [if_neg hul] at hch
   refine (choose_full hJ hR hY (hVV ns (by rw [hch];exact List.mem_singleton.2 rfl)) hj (by rw [hch] at hN;simp at hN;omega) hW hI hfull (n - f) u hul hM hm).mono fun e w' ⟨he,x,hx,hj2,hi2,hs2⟩=>⟨he,[x],?_,hj2,hi2,hs2⟩
   rw [hch,← hx];rfl
 ·obtain ⟨i0,hi,hz0,hz1,hz2⟩:=info_parts info_int
  have hrec:=fun (g:Nat) (hg:g < f) (z:Int) (v:Nat) (pre2:List Iw) (W7:World) (hz:z=((n - (g + 1):Nat):Int)) (hv:v ≤ M.length) (hj7:J pre2 W7) (hi7:ItS W7 n0 Bq Bn By Bc r0 ly vp vn n m P am cm b M (ns ++ [z])) (hW7:c ≤ W7.heap.size) (hN7:pre2.length + (cho n m M g (ns ++ [z]) v).length ≤ N) (hV7:∀ l ∈ cho n m M g (ns ++ [z]) v,V l) =>
   (show Calls Tryz.prog 121 #[.slice (some ⟨r0,0,none⟩) (ns.length + 1) m,.int .i64 (z + 1),.int .i64 (v:Int),.pointer (some ⟨Bq,0,none⟩),.pointer (some ⟨By,0,none⟩),.pointer (some ⟨Bn,0,none⟩),.pointer (some ⟨Bc,0,none⟩)] W7 fun e w'=>e=.returned (.bool true)∧ChE J n0 Bq Bn By Bc r0 ly vp vn n m P am cm b M ns pre2 (cho n m M g (ns ++ [z]) v) W7.heap.size w' by
    have h:=ih g hg (ns ++ [z]) v pre2 W7 (by omega) (by rw [List.length_append,List.length_singleton];omega) hv hj7 hi7 hW7 hN7 hV7
    rw [List.length_append,List.length_singleton,show ((n - g:Nat):Int)=z + 1 by omega] at h
    exact h.mono fun e w' ⟨he,ys,h1,h2,h3,h4⟩=>⟨he,ys,h1,h2,h3.less,h4⟩)
  have hrow7:=fun (wr w7:World) (z:Int) (ob:Obj) (hi6:ItS wr n0 Bq Bn By Bc r0 ly vp vn n m P am cm b M ns) (ho:w7.ownsRow r0 3 1 (.slice (some ⟨r0,0,none⟩) (ns.length + 1) m) (ns.length + 1) (i64s ns ++ [.int .i64 z])) (hg:(wr.drew.alloc ob).grownBy w7 (some r0)) =>
   (show ItS w7 n0 Bq Bn By Bc r0 ly vp vn n m P am cm b M (ns ++ [z]) by
    refine (hi6.ext ((Ext.refl wr).drew.alloc ob)).keepRow ⟨hg.size,fun r hr hl=>hg.block r hl fun e=>?_⟩ ?_
    ·injection e with e
     rcases hr with h | h | h | h | h <;> omega
    ·rw [List.length_append,List.length_singleton,i64s,List.map_append]
     exact ho)
  have hj7:=fun (pre2:List Iw) (wr w7:World) (ob:Obj) (h:J pre2 wr) (hg:(wr.drew.alloc ob).grownBy w7 (some r0))=>(show J pre2 w7 from Stays.row hJ (hJ.ext h ((Ext.refl wr).drew.alloc ob)) hg (by omega) (by omega))
  have hR0:ChR J n0 Bq Bn By Bc r0 ly vp vn n m P am cm b M ns pre u (cho n m M f ns u) W.heap.size (n - f) W:=⟨[],by rw [show n - (n - f)=f by omega];rfl,by rw [List.append_nil];exact hj,hI,Nat.le_refl _⟩
  have hover:=fun (g:Nat) (h:g < m - ns.length)=>cho_over (n:=n) (M:=M) (u:=u) hfull h
  have hhit:=fun (g k:Nat) (hg:m - ns.length ≤ g + 1) (hk:k=n - (g + 1)) (h:M[u]?=some (k:Int))=>(show cho n m M (g + 1) ns u=if M.length ≤ (u + 1) + (m - ns.length - 1) then cho n m M g (ns ++ [(k:Int)]) (u + 1) else [] by
   subst hk
   exact cho_hit hfull hg h)
  have hmiss:=fun (g k:Nat) (hg:m - ns.length ≤ g + 1) (hk:k=n - (g + 1)) (h:¬ M[u]?=some (k:Int))=>(show cho n m M (g + 1) ns u=(if M.length ≤ u + (m - ns.length - 1) then cho n m M g (ns ++ [(k:Int)]) u else []) ++ cho n m M g ns u by
   subst hk
   exact cho_miss hfull hg h)
  have hMu:∀ z,M[u]?=some z→u < M.length:=fun z h=>(List.getElem?_eq_some_iff.1 h).1
  have hMe:u < M.length→∃ z,M[u]?=some z:=fun h=>⟨_,List.getElem?_eq_getElem h⟩
  generalize hCC:cho n m M f ns u=CC at *
  have Hrec:=Lib.hid hrec;have Hrow7:=Lib.hid hrow7;have Hj7:=Lib.hid hj7;have HR0:=Lib.hid hR0;have Hover:=Lib.hid hover;have Hhit:=Lib.hid hhit;have Hmiss:=Lib.hid hmiss;have HMu:=Lib.hid hMu;have HMe:=Lib.hid hMe;have HN:=Lib.hid hN;have HVV:=Lib.hid hVV;have HW:=Lib.hid hW;have HJ:=Lib.hid hJ;have Hlo:=Lib.hid hlo
  have hLt:ns.length < m:=by omega
  have q2:=hI.q.cs.2.2.1
  clear hVV hrec hrow7 hj7 hR0 hover hhit hmiss hMu hMe hN hCC ih hY hR hJ hj hW hfull hlm hc hBc hr0
  generalize hLL:ns.length=L at *
  generalize hML:M.length=ML at *
  have HLL:=Lib.hid hLL;have HML:=Lib.hid hML
  clear hLL hML hlo hI
  have hne1:((L:Int) == (m:Int))=false:=by simp;omega
  go_enter Tryz.func121,Tryz.ntmps121
  go_wp2_with fail
  clear q2 hne1
  go_loopw [11,12] (fun v11 v12 wr=>∃ (k:Nat) (z12:Value),v11=.int .i64 (k:Int)∧v12=z12∧n - f ≤ k∧k ≤ n∧Hid (ChR J n0 Bq Bn By Bc r0 ly vp vn n m P am cm b M ns pre u CC W.heap.size k wr)) (fun v11 _ _=>n + 1 - (intOf v11).toNat)
  case atStart=>exact ⟨n - f,_,rfl,rfl,Nat.le_refl _,by omega,HR0⟩
  case round =>
   obtain ⟨k,z12,rfl,rfl,hk0,hkn,HC⟩:=hrel
   obtain ⟨ys,hCC,hj,hI,hS⟩:=HC.out
   have q2:=hI.q.cs.2.2.1
   have q4:=hI.q.cs.2.2.2.2.1
   have qn:=hI.bn.cell
   have qc:=hI.bc.cell
   have hmust:=hI.must
   have Hj:=Lib.hid hj;have HI:=Lib.hid hI;have HCC:=Lib.hid hCC;have HS:=Lib.hid hS;have Hmust:=Lib.hid hmust
   clear hj hI hCC hS hmust
   rw [HML.out] at q4
   have hb1:(0:Int) ≤ (n:Int) - (k:Int):=by omega
   have hb2:(0:Int) ≤ (m:Int) - (L:Int):=by omega
   rcases Nat.lt_or_ge (n - k) (m - L) with hcond | hcond
   ·have ht:¬ (m:Int) - (L:Int) ≤ (n:Int) - (k:Int):=by omega
    have Hno:=Lib.hid (Hover.out (n - k) hcond)
    clear qc q4
    go_wp2_with fail
    go_ret
    exact ⟨rfl,HC.out.done Hno.out⟩
   ·obtain ⟨g,hg⟩:∃ g,n - k=g + 1:=⟨n - k - 1,by omega⟩
    have ht:(m:Int) - (L:Int) ≤ (n:Int) - (k:Int):=by omega
    have hkg:k=n - (g + 1):=by omega
    have hkz:(k:Int)=((n - (g + 1):Nat):Int):=by omega
    have hgf:g < f:=by omega
    have hgn:n - (k + 1)=g:=by omega
    have hmg:m - L ≤ g + 1:=by omega
    have Hg:=Lib.hid hg;have Hkg:=Lib.hid hkg;have Hkz:=Lib.hid hkz;have Hgn:=Lib.hid hgn
    clear hg hkg hkz hgn
    by_cases hul:u < ML
    ·obtain ⟨z,hz⟩:=HMe.out hul
     obtain ⟨bg,bo,rfl,hlt,hcu⟩:=Hmust.out u z hz
     have hui:(u:Int) < (ML:Int):=by omega
     have hu0:(0:Int) ≤ (u:Int):=by omega
     clear hlt
     by_cases hzk:z=(k:Int)
     ·subst hzk
      have Hit:=Lib.hid hz
      clear hz
      by_cases hG:ML ≤ (u + 1) + (m - L - 1)
      ·skip
       have hgi:(ML:Int) - ((u:Int) + 1) ≤ (m:Int) - (L:Int) - 1:=by omega
       have hgd:decide ((ML:Int) - ((u:Int) + 1) ≤ (m:Int) - (L:Int) - 1)=true:=decide_eq_true hgi
       have hwa:IntKind.i64.wrap ((m:Int) - (L:Int))=(m:Int) - (L:Int):=IntWalk.i64_in _ (by omega)
       have hwb:IntKind.i64.wrap ((m:Int) - (L:Int) - 1)=(m:Int) - (L:Int) - 1:=IntWalk.i64_in _ (by omega)
       have hwc:IntKind.i64.wrap ((ML:Int) - ((u:Int) + 1))=(ML:Int) - ((u:Int) + 1):=IntWalk.i64_in _ (by omega)
       have hLm1:L + 1 ≤ m:=by omega
       have hvM:(u + 1) ≤ ML:=by omega
       have hk1w:IntKind.i64.wrap ((k:Int) + 1)=(k:Int) + 1:=IntWalk.i64_in _ (by omega)
       have hch:=Hhit.out g k hmg Hkg.out Hit.out
       rw [if_pos (by omega)] at hch
       have hcr:=Hrec.out g hgf (k:Int) (u + 1) (pre ++ ys)
       have hCt:=HCC.out
       rw [Hg.out,hch] at hCt
       have hNN:(pre ++ ys).length + (cho n m M g (ns ++ [(k:Int)]) (u + 1)).length ≤ N:=by
        have h1:=HN.out
        rw [hCt] at h1
        simp only [List.length_append,List.length_map] at h1 ⊢
        omega
       have hun:((u + 1:Nat):Int)=(u:Int) + 1:=by omega
       rw [hun] at hcr
       have Hcr:=Lib.hid hcr;have HCt:=Lib.hid hCt;have HNN:=Lib.hid hNN
       clear hch hcr hCt hNN hun
       have Hown:=Lib.hid (show (wr.drew.alloc (.cells #[.int .i64 (k:Int)] 3)).ownsRow r0 3 1 (.slice (some ⟨r0,0,none⟩) L m) L (i64s ns) by rw [← HLL.out];exact World.ownsRow.alloc ((Ext.refl wr).drew.own HI.out.row) _)
       go_wp2_with fail
       go_region_held3 (fun w'=>w'.cell? ⟨Bq,2,none⟩=some (.int .i64 (m:Int))∧w'.cell? ⟨Bq,4,none⟩=some (.slice (some ⟨bg,bo,none⟩) ML cm)∧w'.cell? ⟨Bc,0,none⟩=some (.func (.func 121) #[] #[.pointer (some ⟨Bq,0,none⟩),.pointer (some ⟨By,0,none⟩),.pointer (some ⟨Bn,0,none⟩),.pointer (some ⟨Bc,0,none⟩)]))
        (first | (with_reducible assumption) | exact ⟨(Ext.refl wr).drew.cell q2,(Ext.refl wr).drew.cell q4,(Ext.refl wr).drew.cell qc⟩ | exact ⟨((Ext.refl wr).drew.alloc _).cell q2,((Ext.refl wr).drew.alloc _).cell q4,((Ext.refl wr).drew.alloc _).cell qc⟩)
        (first
         | (refine step_append_fitsW (by rfl) _ _ 28 rfl r0 3 i0 1 Tryz.underlying28 hi hz1 r0 L m (i64s ns) (by rfl) Hown.out ⟨wr.heap.size,0,none⟩ 1 1 [.int .i64 (k:Int)] (by rfl) rfl (cell_one_new _ _ _) (by simp [Value.oneCell']) hLm1 ?_;intro w7 hown7 hg7;have hi7:=Hrow7.out wr w7 (k:Int) _ HI.out hown7 hg7;have hj7:=Hj7.out (pre ++ ys) wr w7 _ Hj.out hg7;have hsz7:wr.heap.size ≤ w7.heap.size:=Nat.le_trans ((Ext.refl wr).drew.alloc _).size hg7.size;have hS7:w7.cell? ⟨Bq,2,none⟩=some (.int .i64 (m:Int))∧w7.cell? ⟨Bq,4,none⟩=some (.slice (some ⟨bg,bo,none⟩) ML cm)∧w7.cell? ⟨Bc,0,none⟩=some (.func (.func 121) #[] #[.pointer (some ⟨Bq,0,none⟩),.pointer (some ⟨By,0,none⟩),.pointer (some ⟨Bn,0,none⟩),.pointer (some ⟨Bc,0,none⟩)]):=⟨hi7.q.cs.2.2.1,(by have e4:=hi7.q.cs.2.2.2.2.1;rw [HML.out] at e4;exact e4),hi7.bc.cell⟩;have Hi7:=Lib.hid hi7;have HJ7:=Lib.hid hj7;have Hs7:=Lib.hid hsz7;clear hi7 hj7 hsz7 hown7 hg7)
         | (go_at_call 121;refine (Hcr.out w7 Hkz.out hvM HJ7.out Hi7.out (Nat.le_trans HW.out (Nat.le_trans HS.out Hs7.out)) HNN.out (fun l hl=>HVV.out l (by rw [HCt.out];exact List.mem_append.2 (.inr hl)))).mono ?_;rintro e w8 ⟨rfl,hE8⟩;have hS8:w8.cell? ⟨Bq,2,none⟩=some (.int .i64 (m:Int))∧w8.cell? ⟨Bq,4,none⟩=some (.slice (some ⟨bg,bo,none⟩) ML cm)∧w8.cell? ⟨Bc,0,none⟩=some (.func (.func 121) #[] #[.pointer (some ⟨Bq,0,none⟩),.pointer (some ⟨By,0,none⟩),.pointer (some ⟨Bn,0,none⟩),.pointer (some ⟨Bc,0,none⟩)]):=(by obtain ⟨_,_,_,hi8,_⟩:=hE8;exact ⟨hi8.q.cs.2.2.1,(by have e4:=hi8.q.cs.2.2.2.2.1;rw [HML.out] at e4;exact e4),hi8.bc.cell⟩);have HE8:=Lib.hid hE8;clear hE8))
       all_goals
        obtain ⟨ys2,hm2,hj8,hi8,hs8⟩:=HE8.out
        have Hm2:=Lib.hid hm2;have Hj8:=Lib.hid hj8;have Hi8:=Lib.hid hi8;have Hs8:=Lib.hid hs8
        clear hm2 hj8 hi8 hs8
        go_wp2_with fail
        go_ret
        exact ⟨rfl,ys ++ ys2,by rw [List.map_append,Hm2.out,HCt.out],by rw [← List.append_assoc];exact Hj8.out,Hi8.out,Nat.le_trans HS.out (Nat.le_trans Hs7.out Hs8.out)⟩
      ·skip
       have hgi:¬ (ML:Int) - ((u:Int) + 1) ≤ (m:Int) - (L:Int) - 1:=by omega
       have hgd:decide ((ML:Int) - ((u:Int) + 1) ≤ (m:Int) - (L:Int) - 1)=false:=decide_eq_false hgi
       have hwa:IntKind.i64.wrap ((m:Int) - (L:Int))=(m:Int) - (L:Int):=IntWalk.i64_in _ (by omega)
       have hwb:IntKind.i64.wrap ((m:Int) - (L:Int) - 1)=(m:Int) - (L:Int) - 1:=IntWalk.i64_in _ (by omega)
       have hwc:IntKind.i64.wrap ((ML:Int) - ((u:Int) + 1))=(ML:Int) - ((u:Int) + 1):=IntWalk.i64_in _ (by omega)
       have hch:=Hhit.out g k hmg Hkg.out Hit.out
       rw [if_neg (by omega)] at hch
       have hCt:=HCC.out
       rw [Hg.out,hch] at hCt
       have HCt:=Lib.hid hCt
       clear hch hCt
       go_wp2_with fail
       go_quiet (fail)
       go_wp2_with fail
       go_ret
       exact ⟨rfl,ys,by rw [HCt.out,List.append_nil],HJ.out.ext Hj.out ((Ext.refl wr).drewN _),HI.out.ext ((Ext.refl wr).drewN _),HS.out⟩
     ·have hzb:(z == (k:Int))=false:=by simpa using hzk
      have Hit:=Lib.hid (show ¬ M[u]?=some (k:Int) from fun h=>hzk (Option.some.inj (hz.symm.trans h)))
      clear hz hzk
      by_cases hG:ML ≤ u + (m - L - 1)
      ·skip
       have hgi:(ML:Int) - (u:Int) ≤ (m:Int) - (L:Int) - 1:=by omega
       have hgd:decide ((ML:Int) - (u:Int) ≤ (m:Int) - (L:Int) - 1)=true:=decide_eq_true hgi
       have hwa:IntKind.i64.wrap ((m:Int) - (L:Int))=(m:Int) - (L:Int):=IntWalk.i64_in _ (by omega)
       have hwb:IntKind.i64.wrap ((m:Int) - (L:Int) - 1)=(m:Int) - (L:Int) - 1:=IntWalk.i64_in _ (by omega)
       have hwc:IntKind.i64.wrap ((ML:Int) - (u:Int))=(ML:Int) - (u:Int):=IntWalk.i64_in _ (by omega)
       have hLm1:L + 1 ≤ m:=by omega
       have hvM:u ≤ ML:=by omega
       have hk1w:IntKind.i64.wrap ((k:Int) + 1)=(k:Int) + 1:=IntWalk.i64_in _ (by omega)
       have hch:=Hmiss.out g k hmg Hkg.out Hit.out
       rw [if_pos (by omega)] at hch
       have hcr:=Hrec.out g hgf (k:Int) u (pre ++ ys)
       have hCt:=HCC.out
       rw [Hg.out,hch] at hCt
       have hNN:(pre ++ ys).length + (cho n m M g (ns ++ [(k:Int)]) u).length ≤ N:=by
        have h1:=HN.out
        rw [hCt] at h1
        simp only [List.length_append,List.length_map] at h1 ⊢
        omega
       have Hcr:=Lib.hid hcr;have HCt:=Lib.hid hCt;have HNN:=Lib.hid hNN
       clear hch hcr hCt hNN
       have Hown:=Lib.hid (show (wr.drew.alloc (.cells #[.int .i64 (k:Int)] 3)).ownsRow r0 3 1 (.slice (some ⟨r0,0,none⟩) L m) L (i64s ns) by rw [← HLL.out];exact World.ownsRow.alloc ((Ext.refl wr).drew.own HI.out.row) _)
       go_wp2_with fail
       go_region_held3 (fun w'=>w'.cell? ⟨Bq,2,none⟩=some (.int .i64 (m:Int))∧w'.cell? ⟨Bq,4,none⟩=some (.slice (some ⟨bg,bo,none⟩) ML cm)∧w'.cell? ⟨Bc,0,none⟩=some (.func (.func 121) #[] #[.pointer (some ⟨Bq,0,none⟩),.pointer (some ⟨By,0,none⟩),.pointer (some ⟨Bn,0,none⟩),.pointer (some ⟨Bc,0,none⟩)]))
        (first | (with_reducible assumption) | exact ⟨(Ext.refl wr).drew.cell q2,(Ext.refl wr).drew.cell q4,(Ext.refl wr).drew.cell qc⟩ | exact ⟨((Ext.refl wr).drew.alloc _).cell q2,((Ext.refl wr).drew.alloc _).cell q4,((Ext.refl wr).drew.alloc _).cell qc⟩)
        (first
         | (refine step_append_fitsW (by rfl) _ _ 28 rfl r0 3 i0 1 Tryz.underlying28 hi hz1 r0 L m (i64s ns) (by rfl) Hown.out ⟨wr.heap.size,0,none⟩ 1 1 [.int .i64 (k:Int)] (by rfl) rfl (cell_one_new _ _ _) (by simp [Value.oneCell']) hLm1 ?_;intro w7 hown7 hg7;have hi7:=Hrow7.out wr w7 (k:Int) _ HI.out hown7 hg7;have hj7:=Hj7.out (pre ++ ys) wr w7 _ Hj.out hg7;have hsz7:wr.heap.size ≤ w7.heap.size:=Nat.le_trans ((Ext.refl wr).drew.alloc _).size hg7.size;have hS7:w7.cell? ⟨Bq,2,none⟩=some (.int .i64 (m:Int))∧w7.cell? ⟨Bq,4,none⟩=some (.slice (some ⟨bg,bo,none⟩) ML cm)∧w7.cell? ⟨Bc,0,none⟩=some (.func (.func 121) #[] #[.pointer (some ⟨Bq,0,none⟩),.pointer (some ⟨By,0,none⟩),.pointer (some ⟨Bn,0,none⟩),.pointer (some ⟨Bc,0,none⟩)]):=⟨hi7.q.cs.2.2.1,(by have e4:=hi7.q.cs.2.2.2.2.1;rw [HML.out] at e4;exact e4),hi7.bc.cell⟩;have Hi7:=Lib.hid hi7;have HJ7:=Lib.hid hj7;have Hs7:=Lib.hid hsz7;clear hi7 hj7 hsz7 hown7 hg7)
         | (go_at_call 121;refine (Hcr.out w7 Hkz.out hvM HJ7.out Hi7.out (Nat.le_trans HW.out (Nat.le_trans HS.out Hs7.out)) HNN.out (fun l hl=>HVV.out l (by rw [HCt.out];exact List.mem_append.2 (.inr (List.mem_append.2 (.inl hl)))))).mono ?_;rintro e w8 ⟨rfl,hE8⟩;have hS8:w8.cell? ⟨Bq,2,none⟩=some (.int .i64 (m:Int))∧w8.cell? ⟨Bq,4,none⟩=some (.slice (some ⟨bg,bo,none⟩) ML cm)∧w8.cell? ⟨Bc,0,none⟩=some (.func (.func 121) #[] #[.pointer (some ⟨Bq,0,none⟩),.pointer (some ⟨By,0,none⟩),.pointer (some ⟨Bn,0,none⟩),.pointer (some ⟨Bc,0,none⟩)]):=(by obtain ⟨_,_,_,hi8,_⟩:=hE8;exact ⟨hi8.q.cs.2.2.1,(by have e4:=hi8.q.cs.2.2.2.2.1;rw [HML.out] at e4;exact e4),hi8.bc.cell⟩);have HE8:=Lib.hid hE8;clear hE8))
       all_goals
        obtain ⟨ys2,hm2,hj8,hi8,hs8⟩:=HE8.out
        have Hm2:=Lib.hid hm2;have Hj8:=Lib.hid hj8;have Hi8:=Lib.hid hi8;have Hs8:=Lib.hid hs8
        clear hm2 hj8 hi8 hs8
        go_wp2_with fail
        go_roundw
        case rel=>exact ⟨k + 1,_,by go_num,rfl,by omega,by omega,Lib.hid ⟨ys ++ ys2,by rw [Hgn.out,List.map_append,Hm2.out,HCt.out,List.append_assoc],by rw [← List.append_assoc];exact Hj8.out,Hi8.out,Nat.le_trans HS.out (Nat.le_trans Hs7.out Hs8.out)⟩⟩
        case measure=>simp [intOf];omega
      ·skip
       have hgi:¬ (ML:Int) - (u:Int) ≤ (m:Int) - (L:Int) - 1:=by omega
       have hgd:decide ((ML:Int) - (u:Int) ≤ (m:Int) - (L:Int) - 1)=false:=decide_eq_false hgi
       have hwa:IntKind.i64.wrap ((m:Int) - (L:Int))=(m:Int) - (L:Int):=IntWalk.i64_in _ (by omega)
       have hwb:IntKind.i64.wrap ((m:Int) - (L:Int) - 1)=(m:Int) - (L:Int) - 1:=IntWalk.i64_in _ (by omega)
       have hwc:IntKind.i64.wrap ((ML:Int) - (u:Int))=(ML:Int) - (u:Int):=IntWalk.i64_in _ (by omega)
       have hch:=Hmiss.out g k hmg Hkg.out Hit.out
       rw [if_neg (by omega)] at hch
       have hCt:=HCC.out
       rw [Hg.out,hch] at hCt
       have HCt:=Lib.hid hCt
       clear hch hCt
       go_wp2_with fail
       go_quiet (fail)
       go_wp2_with fail
       go_roundw
       case rel=>exact ⟨k + 1,_,by go_num,rfl,by omega,by omega,Lib.hid ⟨ys,by rw [Hgn.out,HCt.out,List.nil_append],HJ.out.ext Hj.out ((Ext.refl wr).drewN _),HI.out.ext ((Ext.refl wr).drewN _),HS.out⟩⟩
       case measure=>simp [intOf];omega
    ·have hui:¬ (u:Int) < (ML:Int):=by omega
     have Hit:=Lib.hid (show ¬ M[u]?=some (k:Int) from fun h=>hul (HMu.out _ h))
     by_cases hG:ML ≤ u + (m - L - 1)
     ·skip
      have hgi:(ML:Int) - (u:Int) ≤ (m:Int) - (L:Int) - 1:=by omega
      have hgd:decide ((ML:Int) - (u:Int) ≤ (m:Int) - (L:Int) - 1)=true:=decide_eq_true hgi
      have hwa:IntKind.i64.wrap ((m:Int) - (L:Int))=(m:Int) - (L:Int):=IntWalk.i64_in _ (by omega)
      have hwb:IntKind.i64.wrap ((m:Int) - (L:Int) - 1)=(m:Int) - (L:Int) - 1:=IntWalk.i64_in _ (by omega)
      have hwc:IntKind.i64.wrap ((ML:Int) - (u:Int))=(ML:Int) - (u:Int):=IntWalk.i64_in _ (by omega)
      have hLm1:L + 1 ≤ m:=by omega
      have hvM:u ≤ ML:=by omega
      have hk1w:IntKind.i64.wrap ((k:Int) + 1)=(k:Int) + 1:=IntWalk.i64_in _ (by omega)
      have hch:=Hmiss.out g k hmg Hkg.out Hit.out
      rw [if_pos (by omega)] at hch
      have hcr:=Hrec.out g hgf (k:Int) u (pre ++ ys)
      have hCt:=HCC.out
      rw [Hg.out,hch] at hCt
      have hNN:(pre ++ ys).length + (cho n m M g (ns ++ [(k:Int)]) u).length ≤ N:=by
       have h1:=HN.out
       rw [hCt] at h1
       simp only [List.length_append,List.length_map] at h1 ⊢
       omega
      have Hcr:=Lib.hid hcr;have HCt:=Lib.hid hCt;have HNN:=Lib.hid hNN
      clear hch hcr hCt hNN
      have Hown:=Lib.hid (show (wr.drew.alloc (.cells #[.int .i64 (k:Int)] 3)).ownsRow r0 3 1 (.slice (some ⟨r0,0,none⟩) L m) L (i64s ns) by rw [← HLL.out];exact World.ownsRow.alloc ((Ext.refl wr).drew.own HI.out.row) _)
      go_wp2_with fail
      go_region_held3 (fun w'=>w'.cell? ⟨Bq,2,none⟩=some (.int .i64 (m:Int))∧w'.cell? ⟨Bq,4,none⟩=some (.slice am ML cm)∧w'.cell? ⟨Bc,0,none⟩=some (.func (.func 121) #[] #[.pointer (some ⟨Bq,0,none⟩),.pointer (some ⟨By,0,none⟩),.pointer (some ⟨Bn,0,none⟩),.pointer (some ⟨Bc,0,none⟩)]))
       (first | (with_reducible assumption) | exact ⟨(Ext.refl wr).drew.cell q2,(Ext.refl wr).drew.cell q4,(Ext.refl wr).drew.cell qc⟩ | exact ⟨((Ext.refl wr).drew.alloc _).cell q2,((Ext.refl wr).drew.alloc _).cell q4,((Ext.refl wr).drew.alloc _).cell qc⟩)
       (first
        | (refine step_append_fitsW (by rfl) _ _ 28 rfl r0 3 i0 1 Tryz.underlying28 hi hz1 r0 L m (i64s ns) (by rfl) Hown.out ⟨wr.heap.size,0,none⟩ 1 1 [.int .i64 (k:Int)] (by rfl) rfl (cell_one_new _ _ _) (by simp [Value.oneCell']) hLm1 ?_;intro w7 hown7 hg7;have hi7:=Hrow7.out wr w7 (k:Int) _ HI.out hown7 hg7;have hj7:=Hj7.out (pre ++ ys) wr w7 _ Hj.out hg7;have hsz7:wr.heap.size ≤ w7.heap.size:=Nat.le_trans ((Ext.refl wr).drew.alloc _).size hg7.size;have hS7:w7.cell? ⟨Bq,2,none⟩=some (.int .i64 (m:Int))∧w7.cell? ⟨Bq,4,none⟩=some (.slice am ML cm)∧w7.cell? ⟨Bc,0,none⟩=some (.func (.func 121) #[] #[.pointer (some ⟨Bq,0,none⟩),.pointer (some ⟨By,0,none⟩),.pointer (some ⟨Bn,0,none⟩),.pointer (some ⟨Bc,0,none⟩)]):=⟨hi7.q.cs.2.2.1,(by have e4:=hi7.q.cs.2.2.2.2.1;rw [HML.out] at e4;exact e4),hi7.bc.cell⟩;have Hi7:=Lib.hid hi7;have HJ7:=Lib.hid hj7;have Hs7:=Lib.hid hsz7;clear hi7 hj7 hsz7 hown7 hg7)
        | (go_at_call 121;refine (Hcr.out w7 Hkz.out hvM HJ7.out Hi7.out (Nat.le_trans HW.out (Nat.le_trans HS.out Hs7.out)) HNN.out (fun l hl=>HVV.out l (by rw [HCt.out];exact List.mem_append.2 (.inr (List.mem_append.2 (.inl hl)))))).mono ?_;rintro e w8 ⟨rfl,hE8⟩;have hS8:w8.cell? ⟨Bq,2,none⟩=some (.int .i64 (m:Int))∧w8.cell? ⟨Bq,4,none⟩=some (.slice am ML cm)∧w8.cell? ⟨Bc,0,none⟩=some (.func (.func 121) #[] #[.pointer (some ⟨Bq,0,none⟩),.pointer (some ⟨By,0,none⟩),.pointer (some ⟨Bn,0,none⟩),.pointer (some ⟨Bc,0,none⟩)]):=(by obtain ⟨_,_,_,hi8,_⟩:=hE8;exact ⟨hi8.q.cs.2.2.1,(by have e4:=hi8.q.cs.2.2.2.2.1;rw [HML.out] at e4;exact e4),hi8.bc.cell⟩);have HE8:=Lib.hid hE8;clear hE8))
      all_goals
       obtain ⟨ys2,hm2,hj8,hi8,hs8⟩:=HE8.out
       have Hm2:=Lib.hid hm2;have Hj8:=Lib.hid hj8;have Hi8:=Lib.hid hi8;have Hs8:=Lib.hid hs8
       clear hm2 hj8 hi8 hs8
       go_wp2_with fail
       go_roundw
       case rel=>exact ⟨k + 1,_,by go_num,rfl,by omega,by omega,Lib.hid ⟨ys ++ ys2,by rw [Hgn.out,List.map_append,Hm2.out,HCt.out,List.append_assoc],by rw [← List.append_assoc];exact Hj8.out,Hi8.out,Nat.le_trans HS.out (Nat.le_trans Hs7.out Hs8.out)⟩⟩
       case measure=>simp [intOf];omega
     ·exact (hG (by omega)).elim
end Go.Proofs.YtipjmpdndokdlaaGreatDoor
