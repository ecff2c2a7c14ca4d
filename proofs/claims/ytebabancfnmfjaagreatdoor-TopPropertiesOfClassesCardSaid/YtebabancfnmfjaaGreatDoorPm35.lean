/- Walks: subset.All, subset.Scales where nothing is wrong. A search of few notes has no errors. Walk: law 38's known. Plain: subsets of equal scales turn into modes when all indices move. Walk: the law SubsetTurns. Walk: law 38's Make: the query of a draft. What the laws of drafts begin with. A list of lists of ints to be read; walks: law 38's sameLists, behind. Walk: law 38's all. Walks: size.Equave, schismatop.division44. Plain: the classes of a subset of an equal scale as whole steps: the spectra of a set, and what an even one is. Plain: which lists are candidates, each once; what a search without modes finds. -/
import Derived.Test.YtebabancfnmfjaaGreatDoorPm34
import Derived.Test.YtebabancfnmfjaaGreatDoorPm32
import Derived.Test.YtebabancfnmfjaaGreatDoorPm28
import Derived.Test.YtebabancfnmfjaaGreatDoorPm33
import Derived.Test.YtebabancfnmfjaaGreatDoorPm25
import Derived.Test.YtebabancfnmfjaaGreatDoorPm23
import Derived.Test.YtebabancfnmfjaaGreatDoorPm22
import Derived.Test.YtebabancfnmfjaaGreatDoorPm08
import Derived.Test.YtebabancfnmfjaaGreatDoorPm29
import Derived.Deep.RegionHeld3
import Derived.Deep.DeepCutAuto
import Derived.Test.YtebabancfnmfjaaGreatDoorPm21
set_option maxRecDepth 100000
set_option maxHeartbeats 2000000
namespace Go.Proofs.YtebabancfnmfjaaGreatDoor
open Go.RowKit Go.Lib Go.Shelf
attribute [local go_sem] Oper.semAt_some
structure zpl (p:List Int)(N:List (List Rat))(m:Nat)(P:Int)(M:List Int):Prop where
 wd:Wd p N
 m1:1≤m
 mn:m≤N.length
 P1:1≤P
 P6:P≤6
 M0:zkU N.length M 0 M.length=0
 few:zoK N.length m M.length≤5000
 cs:(cho N.length m M N.length [] 0).length≤5000
 all:∀ l∈cho N.length m M N.length [] 0,l.length≤60∧zkV N.length l=0∧(2≤P→P≤6→Wc p (zlb p N l))
theorem zpm (v:Value)(p:List Int)(rs:List Qw)(m:Nat)(P:Int)(M:List Int)(b:Bool)(w:World)(he:Env w)(hv:QyV w v p rs (m:Int) P M b)(h:zpl p (rs.map Qw.x) m P M) :
  Calls Tryz.prog 54 #[v] w fun e w'=>∃ us vs fs,e=.returned (.tuple #[us,vs,.int .i64 0])∧Fnd w' w.heap.size p (rs.map Qw.x) us vs fs∧fs.map Fw.l=srL P b p (rs.map Qw.x) (cho rs.length m M rs.length [] 0)∧Ext w w':=by
 have hL:(rs.map Qw.x).length=rs.length:=List.length_map ..;obtain ⟨h1,h2,h3,h4,h5,h6,h7,h8,h9⟩:=h;rw [hL] at h3 h6 h7 h8 h9;exact zpk v p rs m P M b w he hv h1 h2 h3 h4 h5 h6 h7 h8 h9
theorem zpn (v:Value)(p:List Int)(rs:List Qw)(m:Nat)(P:Int)(M:List Int)(b:Bool)(w:World)(he:Env w)(hv:QyV w v p rs (m:Int) P M b)(h:zpl p (rs.map Qw.x) m P M) :
  Calls Tryz.prog 17 #[v] w fun e w'=>∃ us vs fs,e=.returned (.tuple #[us,.int .i64 0])∧Fnd w' w.heap.size p (rs.map Qw.x) us vs fs∧fs.map Fw.l=srL P b p (rs.map Qw.x) (cho rs.length m M rs.length [] 0)∧Ext w w':=by
 have hsr:=fun W u (hE:Ext w W)(hu:QyV W u p rs (m:Int) P M b)=>zpm u p rs m P M b W (he.ext hE) hu h;obtain ⟨ap,cp,an,cn,am,cm,rfl,hs,hmm⟩:=hv.let;have hE0:Ext w (w.alloc (.cells #[.slice ap p.length cp,.slice an rs.length cn,.int .i64 (m:Int),.int .i64 P,.slice am M.length cm,.bool b] 59)):=(Ext.refl w).alloc _;have hb:=znn.new w (.slice ap p.length cp) (.slice an rs.length cn) (m:Int) P (.slice am M.length cm) b;have hs0:=hsr _ _ hE0 (hv.ext hE0);have Hs0:=hid hs0;have HE0:=hid hE0;have Hb:=hid hb;clear hsr hE0 hb hs0 hs hmm hv h he;obtain ⟨q0,q1,q2,q3,q4,q5⟩:=Hb.out.cs;generalize srL P b p (rs.map Qw.x) (cho rs.length m M rs.length [] 0)=L at *;go_enter Tryz.func17,Tryz.ntmps17
 go_wp2_with fail
 refine Hs0.out.mono ?_;rintro e w1 ⟨us,vs,fs,rfl,hf,hm,hx⟩;have hf2:=hf.mono (HE0.out).size;obtain ⟨a1,c1,rfl⟩:=zfj hf2.us;obtain ⟨a2,c2,rfl⟩:=zfj hf2.vs;have Hf:=hid hf2;have Hm:=hid hm;have HE1:=hid (HE0.out.trans hx);clear hf hf2 hm hx q0 q1 q2 q3 q4 q5;go_wp2_with fail
 go_ret2
 exact ⟨_,_,fs,rfl,Hf.out,Hm.out,HE1.out⟩
end Go.Proofs.YtebabancfnmfjaaGreatDoor

namespace Go.Proofs.YtebabancfnmfjaaGreatDoor
open Go.RowKit Go.Lib
theorem zpo {n:Nat}{l:List Int}(hb:∀ x∈l,0≤x∧x<(n:Int))(hp:l.Pairwise (·<·)):zkU n l 0 l.length=0:=by
 have key:∀ i,i<l.length→zkT n l i=0:=fun i hi=>by
  unfold zkT;have h1:=hb _ (List.getElem_mem hi);rw [List.getElem?_eq_getElem hi,Option.getD_some,if_neg (by omega)];by_cases h0:0<i
  ·have h2:=List.pairwise_iff_getElem.1 hp (i - 1) i (by omega) hi (by omega);rw [List.getElem?_eq_getElem (show i - 1<l.length by omega),Option.getD_some,if_neg (by omega)]
  ·rw [if_neg (by omega)]
 have all:∀ m k,k+m=l.length→zkU n l k m=0:=by
  intro m;induction m with
  | zero=>intro k _;rfl
  | succ m ih =>
   intro k hk
   rw [zkU,if_pos (key k (by omega))]
   exact ih (k+1) (by omega)
 exact all l.length 0 (by omega)
theorem zpp {n:Nat}{l:List Int}(hn:l ≠ [])(hb:∀ x∈l,0≤x∧x<(n:Int))(hp:l.Pairwise (·<·)):zkV n l=0:=by
 unfold zkV;rw [if_neg hn];exact zpo hb hp
theorem zpq {n:Nat}{M:List Int}(hb:∀ x∈M,0≤x∧x<(n:Int))(hp:M.Pairwise (·<·)):M.length≤n:=by
 have hs:M ⊆ (List.range n).map (fun (k:Nat)=>(k:Int)):=fun x hx=>by
  have hb:=hb x hx;exact List.mem_map.2 ⟨x.toNat,List.mem_range.2 (by omega),by omega⟩
 have:=zkM (hp.imp (fun h=>by omega)) hs;simpa using this
theorem zpr {n m:Nat}{M l:List Int}(h:l∈zkR n m M):l.length=m∧(∀ x∈l,0≤x∧x<(n:Int))∧l.Pairwise (·<·):=by
 have h1:=(List.mem_filter.1 h).1;have h2:=zkK (Nat.le_refl _) h1;rw [Nat.sub_self] at h2;exact ⟨zkJ h1,h2⟩
theorem zpl.of {p:List Int}{N:List (List Rat)}{m:Nat}{P:Int}{M:List Int}(h:Wc p N)(h1:1≤m)(h2:m≤N.length)(P1:1≤P)(P6:P≤6)(M0:zkU N.length M 0 M.length=0):zpl p N m P M:=by
 obtain ⟨hb,hp⟩:=zkZ M0;have hL:=zpq hb hp;have hf:=h.few;have hcc:=zkS (m:=m) hp hb;refine ⟨h.wd,h1,h2,P1,P6,M0,?_,?_,?_⟩
 ·unfold zoK;split
  ·omega
  ·exact zoC (N.length - M.length) (by omega) (((m:Int) - (M.length:Int)).toNat) (by omega)
 ·rw [hcc];refine Nat.le_trans (List.length_filter_le _ _) ?_;rw [zo3];have a:=zoC N.length (by omega) m (by omega);rw [zoA _ _ h2] at a;omega
 ·rw [hcc];intro l hl;obtain ⟨a,b,c⟩:=zpr hl;have hn:l ≠ []:=by
   intro e;rw [e] at a;simp at a;omega
  exact ⟨by omega,zpp hn b c,fun _ _=>zmO h hn (by omega) b c⟩
end Go.Proofs.YtebabancfnmfjaaGreatDoor

namespace Go.Proofs.YtebabancfnmfjaaGreatDoor
open Go.RowKit Go.Lib Go.Shelf
attribute [local go_sem] Oper.semAt_some
theorem zps {rs:List Qw}{N:List (List Rat)}{n:Nat}(h:rs.map Qw.x=N)(hn:N.length=n):rs.length=n:=by
 have:=congrArg List.length h;rw [List.length_map] at this;omega
theorem zpt {W:World}(l:List Int)(T:TypeId)(h:l.length≤100):Sl (W.alloc (.cells (zaq l).toArray T)) (.slice (some ⟨W.heap.size,0,none⟩) l.length l.length) (zaq l):=by
 have:=zhq (us:=zaq l) (World.alloc_heap_new W (.cells (zaq l).toArray T)) (by rw [zas];unfold maxLen;omega);rw [zas] at this;exact this
end Go.Proofs.YtebabancfnmfjaaGreatDoor

namespace Go.Proofs.YtebabancfnmfjaaGreatDoor
def exl (n:Nat)(l:List Int)(j:Int):Int:=(l[(j % (l.length:Int)).toNat]?).getD 0+j / (l.length:Int) * (n:Int)
theorem zpu {n:Nat}{l:List Int}{i:Nat}(hi:i<l.length):exl n l (i:Int)=(l[i]?).getD 0:=by
 unfold exl;rw [Int.emod_eq_of_lt (by omega) (by omega),Int.ediv_eq_zero_of_lt (by omega) (by omega),Int.toNat_natCast,Int.zero_mul,Int.add_zero]
theorem zpv {n:Nat}{l:List Int}(h0:0<l.length)(j:Int):exl n l (j+(l.length:Int))=exl n l j+n:=by
 unfold exl;rw [Int.add_emod_right,show j+(l.length:Int)=j+1 * (l.length:Int) by omega,Int.add_mul_ediv_right _ _ (by omega),Int.add_mul];omega
section
variable {p : List Int} {N : List (List Rat)} (h : Wd p N)
include h
theorem Wd.nt_sub {l:List Int}(hl:l ≠ [])(j:Int):nt p (zlb p N l) j=zex (nt p N (exl N.length l j)) (nt p N (l.headD 0)):=by
 have h0:=List.length_pos_iff.2 hl;have hm:(0:Int)<(l.length:Int):=by omega
 have a1:=Int.emod_nonneg j (show (l.length:Int) ≠ 0 by omega);have a2:=Int.emod_lt_of_pos j hm;have hML:(zlb p N l).length=l.length:=by unfold zlb;rw [List.length_map,zlc _ hl]
 obtain ⟨i,hi⟩:∃ i:Nat,(i:Int)=j % (l.length:Int):=⟨(j % (l.length:Int)).toNat,by omega⟩;have hz:zat p (zlb p N l) i=zex (nt p N ((l[i]?).getD 0)) (nt p N (l.headD 0)):=by
  unfold zat
  cases i with
  | zero =>
   cases l with
   | nil=>exact absurd rfl hl
   | cons a l =>
    show zer p.length=zex (nt p N a) (nt p N a)
    rw [ziE,h.ntlen]
  | succ i =>
   rw [List.getElem?_cons_succ]
   unfold zlb zla
   rw [List.getElem?_map,List.getElem?_append_left (by rw [List.length_tail];omega),List.getElem?_tail,List.getElem?_eq_getElem (by omega)]
   rfl
 have e:zex (shf (j / (l.length:Int)) (nt p N ((l[i]?).getD 0))) (nt p N (l.headD 0))=shf (j / (l.length:Int)) (zex (nt p N ((l[i]?).getD 0)) (nt p N (l.headD 0))):=by
  have:=ziJ (q:=j / (l.length:Int)) (r:=0) (x:=nt p N ((l[i]?).getD 0)) (y:=nt p N (l.headD 0)) (by rw [h.ntlen,h.ntlen]);rw [ziI,Int.sub_zero] at this;exact this
 unfold exl;rw [← hi,Int.toNat_natCast,h.nt_shift,e,← hz];unfold nt;rw [hML,← hi,Int.toNat_natCast]
end
def zpw (n:Nat)(q:Nat→Bool):List Int:=((List.range n).filter q).map fun (i:Nat)=>(i:Int)
end Go.Proofs.YtebabancfnmfjaaGreatDoor

namespace Go.Proofs.YtebabancfnmfjaaGreatDoor
open Go.RowKit Go.Lib Go.Shelf
attribute [local go_sem] Oper.semAt_some
structure zpx (W0 w:World)(va vb:Value)(la lb:List Int):Prop where
 a:zfi w W0.heap.size va la
 b:zfi w W0.heap.size vb lb
 ne:∀ r,va.ownBlock=some r→vb.ownBlock ≠ some r
 x:Ext W0 w
theorem zpx.nil (W:World):zpx W W (.slice none 0 0) (.slice none 0 0) [] []:=⟨⟨rfl,.inl ⟨rfl,rfl⟩⟩,⟨rfl,.inl ⟨rfl,rfl⟩⟩,fun r h=>(by simp [Value.ownBlock] at h),Ext.refl _⟩
theorem zpx.swap {W0 w:World}{va vb:Value}{la lb:List Int}(h:zpx W0 w va vb la lb):zpx W0 w vb va lb la:=⟨h.b,h.a,fun r e f=>h.ne r f e,h.x⟩
theorem zpx.ext {W0 w w':World}{va vb:Value}{la lb:List Int}(h:zpx W0 w va vb la lb)(hx:Ext w w'):zpx W0 w' va vb la lb:=⟨hx.ownI h.a,hx.ownI h.b,h.ne,h.x.trans hx⟩
theorem zpx.put {W0 w V:World}{va vb:Value}{la lb:List Int}{o:Obj}{x:Int}{g cap n:Nat}(h:zpx W0 w va vb la lb)(hn:la.length=n)
  (hown:V.ownsRow W0.heap.size 3 1 (.slice (some ⟨g,0,none⟩) (n+1) cap) (n+1) (zaq la++[.int .i64 x])) (hg:(w.alloc o).grownBy V va.ownBlock) (hat:va.ownBlock=some g∨g=w.heap.size+1) :
  zpx W0 V (.slice (some ⟨g,0,none⟩) (n+1) cap) vb (la++[x]) lb:=by
 subst hn;refine ⟨?_,?_,fun r e=>?_,?_⟩
 ·unfold zfi;rw [List.length_append,List.length_singleton,zaq,List.map_append];exact hown
 ·refine World.ownsRow.kept (World.ownsRow.alloc h.b o) hg ?_
  cases hv:vb.ownBlock with
  | none=>exact .inl rfl
  | some r=>exact .inr fun e=>h.ne r e.symm hv
 ·have e2:g=r:=by simpa [Value.ownBlock] using e
  subst e2;intro f;rcases hat with k | k
  ·exact h.ne g k f
  ·have:=(World.ownsRow.lt h.b g f).2;omega
 ·exact (h.x.alloc o).grown hg fun k e=>(World.ownsRow.lt h.a k e).1
theorem zpy (b k:Nat)(hb:b<65536):(bits .and .u16 ((b:Int) / 2 ^ k) 1 == 1)=b.testBit k:=by
 have e:((b:Int) / 2 ^ k)=((b / 2 ^ k:Nat):Int):=by
  rw [Int.natCast_ediv,Int.natCast_pow];rfl
 have hlt:b / 2 ^ k≤b:=Nat.div_le_self _ _;have hx:b / 2 ^ k &&& 1<2 ^ 16:=Nat.and_lt_two_pow _ (by omega);have h1:(BitVec.ofInt 16 ((b / 2 ^ k:Nat):Int)).toNat=b / 2 ^ k:=by
  rw [BitVec.ofInt_natCast,BitVec.toNat_ofNat];exact Nat.mod_eq_of_lt (by omega)
 have h2:(BitVec.ofInt 16 (1:Int)).toNat=1:=by decide
 have h3:bits .and .u16 ((b:Int) / 2 ^ k) 1=((b / 2 ^ k % 2:Nat):Int):=by
  rw [e];show IntKind.u16.wrap ((BitVec.ofInt 16 ((b / 2 ^ k:Nat):Int) &&& BitVec.ofInt 16 (1:Int)).toNat:Int)=_;rw [BitVec.toNat_and,h1,h2,Nat.and_one_is_mod];have:b / 2 ^ k % 2<2:=Nat.mod_lt _ (by omega);generalize b / 2 ^ k % 2=z at *;have:z=0∨z=1:=by omega
  rcases this with rfl | rfl <;> decide
 rw [h3,Nat.testBit_eq_decide_div_mod_eq,Bool.eq_iff_iff,beq_iff_eq,decide_eq_true_iff];omega
theorem zpz (k:Nat)(q:Nat→Bool):zpw (k+1) q=zpw k q++if q k=true then [(k:Int)] else []:=by
 unfold zpw;rw [List.range_succ,List.filter_append,List.map_append];congr 1;by_cases h:q k=true
 ·rw [if_pos h,List.filter_cons_of_pos h];rfl
 ·rw [if_neg h,List.filter_cons_of_neg h];rfl
theorem zp0 (k:Nat)(q:Nat→Bool):(∀ x∈zpw k q,0≤x∧x<(k:Int))∧(zpw k q).Pairwise (·<·):=by
 unfold zpw;constructor
 ·intro x hx;obtain ⟨i,hi,rfl⟩:=List.mem_map.1 hx;have:=List.mem_range.1 (List.mem_filter.1 hi).1;omega
 ·rw [List.pairwise_map];exact (List.pairwise_lt_range.sublist List.filter_sublist).imp fun h=>by omega
theorem zp1 (k:Nat)(q:Nat→Bool):(zpw k q).length≤k:=by
 unfold zpw;rw [List.length_map];exact Nat.le_trans (List.length_filter_le _ _) (by rw [List.length_range];exact Nat.le_refl _)
end Go.Proofs.YtebabancfnmfjaaGreatDoor

namespace Go.Proofs.YtebabancfnmfjaaGreatDoor
open Go.RowKit Go.Lib Go.Shelf
attribute [local go_sem] Oper.semAt_some
structure Dl where
 wl:Wl
 size:Nat
 prop:Nat
 must:Nat
 modes:Bool
namespace Dl
def cs (d:Dl):Array Value:=#[.bool d.wl.three,.int .u8 d.wl.kind,.int .u8 d.wl.num,.int .i8 (d.wl.xs 0).a,.int .i8 (d.wl.xs 0).b,.int .i8 (d.wl.xs 0).c,.int .i8 (d.wl.xs 1).a,.int .i8 (d.wl.xs 1).b,.int .i8 (d.wl.xs 1).c,.int .i8 (d.wl.xs 2).a,.int .i8 (d.wl.xs 2).b,.int .i8 (d.wl.xs 2).c,.int .i8 (d.wl.xs 3).a,.int .i8 (d.wl.xs 3).b,.int .i8 (d.wl.xs 3).c,.int .i8 (d.wl.xs 4).a,.int .i8 (d.wl.xs 4).b,.int .i8 (d.wl.xs 4).c,.int .i8 (d.wl.xs 5).a,.int .i8 (d.wl.xs 5).b,.int .i8 (d.wl.xs 5).c,.int .i8 (d.wl.xs 6).a,.int .i8 (d.wl.xs 6).b,.int .i8 (d.wl.xs 6).c,.int .i8 (d.wl.xs 7).a,.int .i8 (d.wl.xs 7).b,.int .i8 (d.wl.xs 7).c,.int .u8 (d.size:Int),.int .u8 (d.prop:Int),.int .u16 (d.must:Int),.bool d.modes]
def v (d:Dl):Value:=.agg d.cs
structure Ok (d:Dl):Prop where
 wl:d.wl.Ok
 size:d.size<256
 prop:d.prop<256
 must:d.must<65536
def m (d:Dl)(n:Nat):Nat:=1+d.size % n
def P (d:Dl):Int:=1+((d.prop:Int) % 6)
def M (d:Dl)(n:Nat):List Int:=zpw n fun i=>d.must.testBit i
end Dl
def MkR (W0:World)(vp vn:Value)(m P:Int)(b:Bool)(l:List Int)(wr:World):Prop:=∃ vm,znn wr W0.heap.size vp vn m P vm b∧zfi wr W0.heap.size vm l∧Ext W0 wr
theorem MkR.more {W0 wr V:World}{vp vn vm v7:Value}{m P:Int}{b:Bool}{l:List Int}{n:Nat}{x:Int}{o:Obj}(hb:znn wr W0.heap.size vp vn m P vm b)(ho:zfi wr W0.heap.size vm l)(hE:Ext W0 wr)(hn:l.length=n)
  (hown:V.ownsRow W0.heap.size 3 1 v7 (n+1) (zaq l++[.int .i64 x])) (hg:(wr.alloc o).grownBy V vm.ownBlock):MkR W0 vp vn m P b (l++[x]) (V.setCell ⟨W0.heap.size,4,none⟩ v7):=by
 subst hn;have hbV:znn V W0.heap.size vp vn m P vm b:=zga (((Ext.refl wr).alloc o).heap hb) (World.ownsRow.alloc ho o) (by decide) hg;refine ⟨v7,heap_setCell_same _ _ 4 _ _ v7 hbV,?_,((hE.alloc o).grown hg fun k e=>(World.ownsRow.lt ho k e).1).setCell (Nat.le_refl _) _⟩;refine zgd hbV ?_ (by decide) 4 v7;rw [List.length_append,List.length_singleton,zaq,List.map_append];exact hown
end Go.Proofs.YtebabancfnmfjaaGreatDoor

namespace Go.Proofs.YtebabancfnmfjaaGreatDoor
open Go.RowKit Go.Lib Go.Shelf
section
variable {w : World} {k : Nat} {vp vn vm : Value} {m P : Int} {b : Bool}
theorem znn.fz (h:znn w k vp vn m P vm b)(j:Nat):w.frozen? ⟨k,j,none⟩=false:=frozen_of_row w k j _ _ h
end
end Go.Proofs.YtebabancfnmfjaaGreatDoor

namespace Go.Proofs.YtebabancfnmfjaaGreatDoor
open Go.RowKit Go.Lib Go.Shelf
attribute [local go_sem] Oper.semAt_some
structure LsR (W:World)(v:Value)(fs:List Iw):Prop where
 row:Sl W v (iwU fs)
 all:∀ f∈fs,Sl W f.u (zaq f.l)
theorem LsR.ext {W W':World}{v:Value}{fs:List Iw}(h:LsR W v fs)(hx:Ext W W'):LsR W' v fs:=⟨hx.sl h.row,fun f hf=>hx.sl (h.all f hf)⟩
theorem LsI.r {W:World}{B:Nat}{v:Value}{fs:List Iw}(h:LsI W B v fs):LsR W v fs:=⟨zao h.row,fun f hf=>zao (h.all f hf)⟩
def fwI (fs:List Fw):List Iw:=fs.map fun f=>⟨f.u,f.l⟩
theorem zp2 (fs:List Fw):iwU (fwI fs)=fwU fs:=by unfold iwU fwI fwU;rw [List.map_map];rfl
theorem zp3 (fs:List Fw):(fwI fs).length=fs.length:=List.length_map ..
theorem Fnd.r {W:World}{B:Nat}{p:List Int}{N:List (List Rat)}{us vs:Value}{fs:List Fw}(h:Fnd W B p N us vs fs):LsR W us (fwI fs) :=
 ⟨by rw [zp2];exact zao h.us,fun f hf=>by
  obtain ⟨g,hg,rfl⟩:=List.mem_map.1 hf;exact zao (h.all g hg).1⟩
theorem LsR.at' {W:World}{fs:List Iw}{a:Option Addr}{L c k:Nat}{f:Iw}(h:LsR W (.slice a L c) fs)(hf:fs[k]?=some f):∃ b off a2 c2,a=some ⟨b,off,none⟩∧W.cell? ⟨b,off+k,none⟩=some (.slice a2 f.l.length c2)∧Sl W (.slice a2 f.l.length c2) (zaq f.l):=by
 obtain ⟨a9,c9,e9,_,_,hc⟩:=h.row.parts;injection e9 with e9 _ _;obtain ⟨b,off,e,hcell⟩:=hc k f.u (by unfold iwU;rw [List.getElem?_map,hf];rfl);have hs:=h.all f (List.mem_of_getElem? hf);obtain ⟨a2,c2,e2,_⟩:=hs.parts;rw [zas] at e2;rw [e2] at hcell hs;exact ⟨b,off,a2,c2,e9.trans e,hcell,hs⟩
structure Alr (W:World)(B1 B:Nat)(p:List Int)(N:List (List Rat))(us vs:Value)(fs:List Fw):Prop where
 us:W.ownsRow B1 24 1 us fs.length (fwU fs)
 vs:W.ownsRow B1 28 2 vs fs.length (fwS fs)
 all:∀ f∈fs,zfi W B f.u f.l∧zfi W B f.vp p∧QwM W B B f.vn f.rs∧f.rs.map Qw.x=zlb p N f.l∧Wd p (zlb p N f.l)
structure Al2 (W:World)(B1 B:Nat)(p:List Int)(N:List (List Rat))(us vs:Value)(nu nv:Nat)(xu xv:List Value)(gs:List Fw):Prop where
 us:W.ownsRow B1 24 1 us nu xu
 vs:W.ownsRow B1 28 2 vs nv xv
 all:∀ f∈gs,zfi W B f.u f.l∧zfi W B f.vp p∧QwM W B B f.vn f.rs∧f.rs.map Qw.x=zlb p N f.l∧Wd p (zlb p N f.l)
section
variable {W W' : World} {B1 B : Nat} {p : List Int} {N : List (List Rat)} {us vs : Value} {nu nv : Nat} {xu xv : List Value} {gs fs : List Fw}
theorem Alr.nil (W:World)(B1 B:Nat)(p:List Int)(N:List (List Rat)):Alr W B1 B p N (.slice none 0 0) (.slice none 0 0) []:=⟨⟨rfl,.inl ⟨rfl,rfl⟩⟩,⟨rfl,.inl ⟨rfl,rfl⟩⟩,fun f hf=>by cases hf⟩
theorem Alr.ext (h:Alr W B1 B p N us vs fs)(hx:Ext W W'):Alr W' B1 B p N us vs fs :=
 ⟨hx.own h.us,hx.own h.vs,fun f hf=>let ⟨a,b,c,d⟩:=h.all f hf;⟨hx.ownI a,hx.ownI b,hx.qwM c,d⟩⟩
theorem Al2.ext (h:Al2 W B1 B p N us vs nu nv xu xv gs)(hx:Ext W W'):Al2 W' B1 B p N us vs nu nv xu xv gs :=
 ⟨hx.own h.us,hx.own h.vs,fun f hf=>let ⟨a,b,c,d⟩:=h.all f hf;⟨hx.ownI a,hx.ownI b,hx.qwM c,d⟩⟩
theorem Al2.putU {us' u:Value}(h:Al2 W B1 B p N us vs nu nv xu xv gs)(hg:W.grownBy W' us.ownBlock)(ho:W'.ownsRow B1 24 1 us' (nu+1) (xu++[u])):Al2 W' B1 B p N us' vs (nu+1) nv (xu++[u]) xv gs:=by
 have key:∀ {D E s n:Nat}{v:Value}{xs:List Value},E ≠ 24→W.ownsRow D E s v n xs→W'.ownsRow D E s v n xs:=fun {D E s n v xs} hE k=>World.ownsRow.kept k hg (zfm k h.us hE);exact ⟨ho,key (by decide) h.vs,fun f hf=>let ⟨a,b,c,d⟩:=h.all f hf;⟨key (by decide) a,key (by decide) b,⟨key (by decide) c.1,fun r hr=>key (by decide) (c.2 r hr)⟩,d⟩⟩
theorem Al2.putV {vs' x y:Value}(h:Al2 W B1 B p N us vs nu nv xu xv gs)(hg:W.grownBy W' vs.ownBlock)(ho:W'.ownsRow B1 28 2 vs' (nv+1) (xv++[x,y])):Al2 W' B1 B p N us vs' nu (nv+1) xu (xv++[x,y]) gs:=by
 have key:∀ {D E s n:Nat}{v:Value}{xs:List Value},E ≠ 28→W.ownsRow D E s v n xs→W'.ownsRow D E s v n xs:=fun {D E s n v xs} hE k=>World.ownsRow.kept k hg (zfm k h.vs hE);exact ⟨key (by decide) h.us,ho,fun f hf=>let ⟨a,b,c,d⟩:=h.all f hf;⟨key (by decide) a,key (by decide) b,⟨key (by decide) c.1,fun r hr=>key (by decide) (c.2 r hr)⟩,d⟩⟩
theorem Alr.two {f:Fw}(h:Alr W B1 B p N us vs fs)(hf:zfi W B f.u f.l∧zfi W B f.vp p∧QwM W B B f.vn f.rs∧f.rs.map Qw.x=zlb p N f.l∧Wd p (zlb p N f.l)):Al2 W B1 B p N us vs fs.length fs.length (fwU fs) (fwS fs) (fs++[f]) :=
 ⟨h.us,h.vs,fun g hg=>by
  rcases List.mem_append.1 hg with e | e
  ·exact h.all g e
  ·rw [List.mem_singleton] at e;subst e;exact hf⟩
theorem Al2.done {f:Fw}(h:Al2 W B1 B p N us vs (fs.length+1) (fs.length+1) (fwU fs++[f.u]) (fwS fs++[f.vp,f.vn]) (fs++[f])):Alr W B1 B p N us vs (fs++[f]) :=
 ⟨by rw [List.length_append,List.length_singleton,zou];exact h.us,by rw [List.length_append,List.length_singleton,zov];exact h.vs,h.all⟩
theorem Alr.ls (h:Alr W B1 B p N us vs fs)(hB:B≤B1):LsI W B us (fwI fs) :=
 ⟨by rw [zp2,zp3];exact zan h.us hB,fun f hf=>by
  obtain ⟨g,hg,rfl⟩:=List.mem_map.1 hf;exact (h.all g hg).1⟩
end
theorem zp4 {W:World}{b B:Nat}{u v x y vp vn:Value}{p:List Int}{out:List Qw}(hb:zic 28 W b u v)(hp:zfi W B vp p)(hn:QwM W B B vn out) :
  zfi ((W.setCell ⟨b,0,none⟩ x).setCell ⟨b,1,none⟩ y) B vp p∧QwM ((W.setCell ⟨b,0,none⟩ x).setCell ⟨b,1,none⟩ y) B B vn out:=by
 have key:∀ {D E s n:Nat}{w:Value}{xs:List Value},28 ≠ E→W.ownsRow D E s w n xs→((W.setCell ⟨b,0,none⟩ x).setCell ⟨b,1,none⟩ y).ownsRow D E s w n xs:=fun {D E s n w xs} hE k =>
  zgd (zic.put0 hb x) (zgd hb k hE 0 x) hE 1 y
 exact ⟨key (by decide) hp,key (by decide) hn.1,fun r hr=>key (by decide) (hn.2 r hr)⟩
theorem zp5 (vp:Value)(p:List Int)(w:World)(he:Env w)(hp:Sl w vp (zaq p))(hpe:zfc p=0)(hp0:0<p.length) :
  Calls Tryz.prog 33 #[vp] w fun e w'=>∃ u,e=.returned (.tuple #[u,.int .i64 0])∧zfx w' w.heap.size u (ov (p.length - 1))∧Ext w w':=by
 have hpl:=(zfg hpe).2.1;have hz:=zhs vp p w he hp hpe;have hnb:=fun W (hE:Ext w W)=>zf3 1 W (he.ext hE) (by decide) (by decide);have hn1:(((1:Int):Int):Rat)=(1:Rat):=rfl;rw [hn1] at hnb;obtain ⟨ap,cp,rfl,_,_,_⟩:=hp.parts;rw [zas];have hrc:((rcs (List.replicate p.length (0:Rat))).set 0 (.string (I (1:Rat).num))).set 1 (.string (I (((1:Rat).den:Nat):Int)))=rcs (ov (p.length - 1)):=by
  obtain ⟨m,hm⟩:∃ m,p.length=m+1:=⟨p.length - 1,by omega⟩;rw [hm,Nat.add_sub_cancel];unfold ov;rw [List.replicate_succ,zfs,zfs];rfl
 have hovl:(ov (p.length - 1)).length=p.length:=by rw [zhJ];omega
 have hrl:(rcs (List.replicate p.length (0:Rat))).length=2 * p.length:=by rw [zfv,List.length_replicate]
 have hlr:(List.replicate p.length (0:Rat)).length=p.length:=List.length_replicate ..;unfold Rv at hnb;generalize I (1:Rat).num=s1 at *;generalize I (((1:Rat).den:Nat):Int)=s2 at *;rw [zas] at hz;generalize hn:p.length=n at *;have Hz:=hid hz;have Hnb:=hid hnb;have Hrc:=hid hrc;have Hovl:=hid hovl;have Hrl:=hid hrl;have Hlr:=hid hlr;clear hp he hz hnb hrc hovl hrl hn hpe hn1 hlr;go_enter Tryz.func33,Tryz.ntmps33
 go_wp2_with fail
 refine Hz.out.mono ?_;rintro e w2 ⟨rfl,ho2,hx2⟩;unfold zfx at ho2;rw [Hlr.out] at ho2;have hnb2:=Hnb.out w2 hx2;have Ho2:=hid ho2;have Hx2:=hid hx2;have Hnb2:=hid hnb2;clear ho2 hx2 hnb2;go_wp2_with fail
 refine Hnb2.out.mono ?_;rintro e w3 ⟨rfl,hx3⟩;have ho3:=hx3.own Ho2.out;have c0:=World.ownsRow.cellAt ho3 0 (by omega);have c1:=World.ownsRow.cellAt ho3 1 (by omega);obtain ⟨e0,he0⟩:∃ q0,(rcs (List.replicate n (0:Rat)))[0]?=some q0:=⟨_,List.getElem?_eq_getElem (by have:=Hrl.out;omega)⟩;obtain ⟨e1,he1⟩:∃ q0,(rcs (List.replicate n (0:Rat)))[1]?=some q0:=⟨_,List.getElem?_eq_getElem (by have:=Hrl.out;omega)⟩;rw [he0] at c0;rw [he1] at c1;have f0:=zjQ ho3 0;have f1:=zjQ ho3 1;have hs0:=World.ownsRow.stored ho3 0 (.string s1);have hs1:=World.ownsRow.stored hs0.1 1 (.string s2);rw [Hrc.out] at hs1;have hE3:=((Hx2.out.trans hx3).setCell (p:=⟨w.heap.size,0,none⟩) (Nat.le_refl _) (.string s1)).setCell (p:=⟨w.heap.size,1,none⟩) (Nat.le_refl _) (.string s2);have Hs1:=hid hs1.1;have HE3:=hid hE3;have hni:(0:Int)<(n:Int):=by omega
 clear hs0 hs1 hE3 ho3 hx3 he0 he1;go_wp2
 go_ret2
 exact ⟨_,rfl,by unfold zfx;rw [Hovl.out];exact Hs1.out,HE3.out⟩
theorem zp6 (n:Nat)(w:World)(he:Env w)(h0:0<n)(h60:n≤60) :
  Calls Tryz.prog 7 #[.int .i64 (n:Int)] w fun e w'=>∃ u out,e=.returned (.tuple #[u,.bool true])∧ScO w' w.heap.size u [2,3] out∧out.map Qw.x=eqN n∧Ext w w':=by
 have hE0:Ext w (w.alloc (.cells #[.slice none 0 0,.slice none 0 0] 28)):=(Ext.refl w).alloc _;have hE1:=hE0.alloc (.cells #[.int .i64 2,.int .i64 3] 3);have hb0:=zic.new 28 w (.slice none 0 0) (.slice none 0 0);have hb1:=hb0.ext ((Ext.refl _).alloc (.cells #[.int .i64 2,.int .i64 3] 3));have hsl:Sl ((w.alloc (.cells #[.slice none 0 0,.slice none 0 0] 28)).alloc (.cells #[.int .i64 2,.int .i64 3] 3)) (.slice (some ⟨w.heap.size+1,0,none⟩) 2 2) (zaq [2,3]):=by
  have:=zpt (W:=w.alloc (.cells #[.slice none 0 0,.slice none 0 0] 28)) [2,3] 3 (by decide);rw [World.size_alloc] at this;exact this
 have heq:=zp5 _ [2,3] _ (he.ext hE1) hsl (by decide +kernel) (by decide);have hsc:=fun W vb (hE:Ext _ W)(hb:Rd W vb (ov 1))=>zni _ vb n W (he.ext (hE1.trans hE)) (hE.sl hsl) hb h0 h60;have HE1:=hid hE1;have Hb1:=hid hb1;have Heq:=hid heq;have Hsc:=hid hsc;clear hE0 hE1 hb0 hb1 hsl heq hsc he;go_enter Tryz.func7,Tryz.ntmps7
 go_wp2_with fail
 generalize hW1:((w.alloc (.cells #[.slice none 0 0,.slice none 0 0] 28)).alloc (.cells #[.int .i64 2,.int .i64 3] 3))=W1 at *;refine Heq.out.mono ?_;rintro e w2 ⟨u2,rfl,ho2,hx2⟩;obtain ⟨a2,c2,rfl⟩:=zfj ho2;have hs2:=Hsc.out w2 _ hx2 ho2.rd;have Hs2:=hid hs2;have Hx2:=hid hx2;clear ho2 hx2 hs2 hW1;go_wp2_with fail
 refine Hs2.out.mono ?_;rintro e w3 ⟨v3,out,rfl,ho3,hm3,hx3⟩;obtain ⟨vp,vn,rfl,hp3,hn3⟩:=ho3;obtain ⟨a3,c3,e3⟩:=zfj hp3;have e3':vp=.slice a3 2 c3:=e3;clear e3;subst e3';obtain ⟨b3,d3,rfl⟩:=zfj hn3.1;have hX3:=Hx2.out.trans hx3;have hbz:=zic.new 28 w3 (.slice a3 2 c3) (.slice b3 out.length d3);have hE4:=(Ext.refl w3).alloc (.cells #[.slice a3 2 c3,.slice b3 out.length d3] 28);have k0:=hbz.c0;have k1:=hbz.c1;have hr:=(Hb1.out.ext hX3).ext hE4;have y0:=hr.c0;have y1:=hr.c1;have z0:=hr.fz 0;have z1:=hr.fz 1;have hbs:w.heap.size≤w2.heap.size:=(HE1.out.trans Hx2.out).size;have hfin:=zp4 (x:=.slice a3 2 c3) (y:=.slice b3 out.length d3) hr (hE4.ownI (zan hp3 hbs)) (hE4.qwM (hn3.mono hbs hbs));have hput:=hr.put (.slice a3 2 c3) (.slice b3 out.length d3);have g0:=hput.c0;have g1:=hput.c1;have hEf:=(((HE1.out.trans hX3).trans hE4).setCell (p:=⟨w.heap.size,0,none⟩) (Nat.le_refl _) (.slice a3 2 c3)).setCell (p:=⟨w.heap.size,1,none⟩) (Nat.le_refl _) (.slice b3 out.length d3);have Hfin:=hid hfin;have HEf:=hid hEf;have Hm3:=hid hm3;clear hfin hEf hm3 hput hr hE4 hbz hX3 hx3 hp3 hn3 hbs;go_wp2_with fail
 exact bodyPost_ret (v:=.tuple #[.agg #[.slice a3 2 c3,.slice b3 out.length d3],.bool true]) (by simp [results,Tryz.results7,go_sem,g0,g1]) rfl ⟨_,out,rfl,⟨_,_,rfl,Hfin.out.1,Hfin.out.2⟩,Hm3.out,HEf.out⟩
end Go.Proofs.YtebabancfnmfjaaGreatDoor

namespace Go.Proofs.YtebabancfnmfjaaGreatDoor
def ivE (n:Nat)(S:List Int)(i d:Int):Int:=exl n S (i+d) - exl n S i
def zp7 (x:Int):List Int→List Int
 | []=>[x]
 | y::t=>if y<x then y::zp7 x t else if y=x then y::t else x::y::t
theorem zp8 {x z:Int}:∀ {l:List Int},z∈zp7 x l ↔ z=x∨z∈l
 | []=>by simp [zp7]
 | y::t=>by
  unfold zp7;split
  ·rw [List.mem_cons,zp8 (l:=t),List.mem_cons];constructor
   ·rintro (e | e | e) <;> simp [e]
   ·rintro (e | e | e) <;> simp [e]
  ·split
   ·rename_i e;rw [List.mem_cons];constructor
    ·exact fun g=>.inr g
    ·rintro (g | g)
     ·exact .inl (g.trans e.symm)
     ·exact g
   ·rw [List.mem_cons]
theorem zp9 {x:Int}:∀ {l:List Int},l.Pairwise (·<·)→(zp7 x l).Pairwise (·<·)
 | [],_=>by unfold zp7;simp
 | y::t,hs=>by
  have hs':=List.pairwise_cons.1 hs;unfold zp7;split
  ·rename_i hlt;rw [List.pairwise_cons];refine ⟨fun z hz=>?_,zp9 (l:=t) hs'.2⟩;rcases zp8.1 hz with rfl | hz
   ·exact hlt
   ·exact hs'.1 z hz
  ·split
   ·exact hs
   ·rw [List.pairwise_cons];refine ⟨fun z hz=>?_,hs⟩;rcases List.mem_cons.1 hz with rfl | hz
    ·omega
    ·have:=hs'.1 z hz;omega
theorem zpA : ∀ {a b:List Int},a.Pairwise (·<·)→b.Pairwise (·<·)→(∀ z,z∈a ↔ z∈b)→a=b
 | [],[],_,_,_=>rfl
 | [],y::b,_,_,h=>by have:=(h y).2 (List.mem_cons_self ..);cases this
 | x::a,[],_,_,h=>by have:=(h x).1 (List.mem_cons_self ..);cases this
 | x::a,y::b,ha,hb,h=>by
  rw [List.pairwise_cons] at ha hb;have e:x=y:=by
   rcases List.mem_cons.1 ((h x).1 (List.mem_cons_self ..)) with e | e
   ·exact e
   ·rcases List.mem_cons.1 ((h y).2 (List.mem_cons_self ..)) with g | g
    ·exact g.symm
    ·have:=ha.1 y g;have:=hb.1 x e;omega
  subst e;rw [zpA ha.2 hb.2 fun z=>?_];constructor
  ·intro hz;rcases List.mem_cons.1 ((h z).1 (List.mem_cons_of_mem _ hz)) with g | g
   ·have:=ha.1 z hz;omega
   ·exact g
  ·intro hz;rcases List.mem_cons.1 ((h z).2 (List.mem_cons_of_mem _ hz)) with g | g
   ·have:=hb.1 z hz;omega
   ·exact g
def zpB (n:Nat)(S:List Int)(d:Int):Nat→List Int
 | 0=>[]
 | m+1=>zp7 (ivE n S (m:Int) d) (zpB n S d m)
def spc (n:Nat)(S:List Int)(d:Int):List Int:=zpB n S d S.length
theorem zpC {n:Nat}{S:List Int}{d x:Int}:∀ {m:Nat},x∈zpB n S d m ↔ ∃ i:Nat,i<m∧x=ivE n S (i:Int) d
 | 0=>by simp [zpB]
 | m+1=>by
  unfold zpB;rw [zp8,zpC (m:=m)];constructor
  ·rintro (e | ⟨i,hi,e⟩)
   ·exact ⟨m,by omega,e⟩
   ·exact ⟨i,by omega,e⟩
  ·rintro ⟨i,hi,e⟩;rcases (by omega:i=m∨i<m) with g | g
   ·left;rw [e,g]
   ·exact .inr ⟨i,g,e⟩
theorem zpD {n:Nat}{S:List Int}{d:Int}:∀ m,(zpB n S d m).Pairwise (·<·)
 | 0=>List.Pairwise.nil
 | m+1=>zp9 (zpD m)
def exs (n:Nat)(S:List Int)(d:Int):List Int:=(List.range S.length).map fun (i:Nat)=>ivE n S (i:Int) d
theorem zpE (n:Nat)(S:List Int)(d:Int):(exs n S d).length=S.length:=by unfold exs;simp
theorem zpF {n:Nat}{S:List Int}{d:Int}{l:List Int}(ha:l.Pairwise (·<·))(hm:∀ z,z∈l ↔ z∈exs n S d):l=spc n S d :=
 zpA ha (zpD _) fun z=>by
  rw [hm];unfold spc exs;rw [zpC,List.mem_map];constructor
  ·rintro ⟨i,hi,e⟩;exact ⟨i,List.mem_range.1 hi,e.symm⟩
  ·rintro ⟨i,hi,e⟩;exact ⟨i,List.mem_range.2 hi,e.symm⟩
def EvA (n:Nat)(S:List Int):Prop:=∀ d:Nat,1≤d→d<S.length→∀ x∈exs n S d,∀ y∈exs n S d,x≤y+1
section
variable {n : Nat} {S : List Int} (h0 : 0<n) (h12 : n≤12) (hS : S ≠ []) (hb : ∀ x∈S,0≤x ∧ x<(n : Int)) (hu : S.Pairwise (·<·))
include h0
theorem zpG {i j:Int}:sF [2,3] (oc3 [2,3] n i)<sF [2,3] (oc3 [2,3] n j) ↔ i<j:=by
 constructor
 ·intro h;rcases Int.lt_trichotomy i j with g | g | g
  ·exact g
  ·rw [g] at h;exact absurd h (by grind)
  ·have:=zna h0 g;grind
 ·exact zna h0
theorem zpH {i j:Int}(h:oc3 [2,3] n i=oc3 [2,3] n j):i=j:=by
 rcases Int.lt_trichotomy i j with g | g | g
 ·have:=zna h0 g;rw [h] at this;grind
 ·exact g
 ·have:=zna h0 g;rw [h] at this;grind
theorem zpI (x:Int):∀ l:List Int,zln [2,3] (oc3 [2,3] n x) (l.map (oc3 [2,3] n))=(zp7 x l).map (oc3 [2,3] n)
 | []=>rfl
 | y::t=>by
  rw [List.map_cons,zln,zp7];by_cases g:y<x
  ·rw [if_pos (zna h0 g),if_pos g,List.map_cons,zpI x t]
  ·rw [if_neg (fun e=>g ((zpG h0).1 e)),if_neg g];by_cases e:y=x
   ·rw [if_pos (by rw [e]),if_pos e];rfl
   ·rw [if_neg (fun k=>e (zpH h0 k)),if_neg e];rfl
include hS h12
theorem zpJ (i d:Int):iv [2,3] (zlb [2,3] (eqN n) S) i d=oc3 [2,3] n (ivE n S i d):=by
 have hw:=znd h0 (show n≤60 by omega);unfold iv ivE;rw [hw.nt_sub hS,hw.nt_sub hS,ziF (by rw [hw.ntlen,hw.ntlen]) (by rw [hw.ntlen,hw.ntlen])];simp only [zmY,znf h0 (show n≤60 by omega),zmL (.inl rfl)]
omit h0 h12 in
theorem zpK : (zlb [2,3] (eqN n) S).length=S.length:=by unfold zlb;rw [List.length_map,zlc _ hS]
theorem zpL (d:Int):∀ m,zlr [2,3] (zlb [2,3] (eqN n) S) d m=(zpB n S d m).map (oc3 [2,3] n)
 | 0=>rfl
 | m+1=>by rw [zlr,zpL d m,zpJ h0 h12 hS,zpI h0];rfl
theorem zpM (d:Int):cls [2,3] (zlb [2,3] (eqN n) S) d=(spc n S d).map (oc3 [2,3] n):=by
 unfold cls spc;rw [zpK hS,zpL h0 h12 hS]
include hb hu
theorem zpN : Wc [2,3] (zlb [2,3] (eqN n) S):=by
 have hl:S.length≤n:=by
  have h1:S.Nodup:=hu.imp fun g=>Int.ne_of_lt g;have h2:=zkM (M:=(List.range n).map fun (i:Nat)=>(i:Int)) h1 fun x hx=>by
   have:=hb x hx;exact List.mem_map.2 ⟨x.toNat,List.mem_range.2 (by omega),by omega⟩
  simpa using h2
 exact zmO (zne h0 h12) hS (by omega) (by rw [zmY];exact hb) hu
theorem zpO {i d e:Int}(h:d<e):ivE n S i d<ivE n S i e:=by
 have:=(zpN h0 h12 hS hb hu).iv_lt (i:=i) h;rw [zpJ h0 h12 hS,zpJ h0 h12 hS] at this;exact (zpG h0).1 this
theorem zpP (he:EvA n S):Pro [2,3] (zlb [2,3] (eqN n) S)∧kd [2,3] (zlb [2,3] (eqN n) S) ≠ 3:=by
 have hw:=zpN h0 h12 hS hb hu;have hl:=zpK (n:=n) hS;have hpos:=List.length_pos_iff.2 hS;have hfull:∀ i:Int,ivE n S i (S.length:Int)=n:=fun i=>by
  unfold ivE;rw [zpv hpos];omega
 -- evenness at all classes
 have hev:∀ d:Nat,1≤d→d≤S.length→∀ i j:Nat,i<S.length→j<S.length→ivE n S (i:Int) d≤ivE n S (j:Int) d+1:=fun d h1 h2 i j hi hj=>by
  rcases (by omega:d<S.length∨d=S.length) with g | g
  ·exact he d h1 g _ (List.mem_map.2 ⟨i,List.mem_range.2 hi,rfl⟩) _ (List.mem_map.2 ⟨j,List.mem_range.2 hj,rfl⟩)
  ·rw [g,hfull,hfull];omega
 constructor
 ·intro d hd x hx y hy
  rw [hl] at hd
  obtain ⟨i,hi,rfl⟩:=zls.1 hx
  obtain ⟨j,hj,rfl⟩:=zls.1 hy
  rw [hl] at hi hj
  rw [zpJ h0 h12 hS,zpJ h0 h12 hS]
  have key:ivE n S (i:Int) (d:Int)≤ivE n S (j:Int) ((d+1:Nat):Int):=by
   rcases (by omega:ivE n S (i:Int) (d:Int)≤ivE n S (j:Int) ((d+1:Nat):Int)∨ivE n S (j:Int) ((d+1:Nat):Int)<ivE n S (i:Int) (d:Int)) with g | g
   ·exact g
   ·have a1:=hev (d+1) (by omega) (by omega) i j hi hj;have a2:=zpO h0 h12 hS hb hu (i:=(i:Int)) (d:=(d:Int)) (e:=((d+1:Nat):Int)) (by omega);omega
  rcases (by omega:ivE n S (i:Int) (d:Int)=ivE n S (j:Int) ((d+1:Nat):Int)∨ivE n S (i:Int) (d:Int)<ivE n S (j:Int) ((d+1:Nat):Int)) with g | g
  ·rw [g];grind
  ·have:=zna h0 g;grind
 ·have hc2:∀ d:Nat,1≤d→d≤S.length→(cls [2,3] (zlb [2,3] (eqN n) S) (d:Int)).length≤2:=fun d h1 h2=>by
   rw [zpM h0 h12 hS,List.length_map];rcases Nat.lt_or_ge 2 (spc n S (d:Int)).length with g | g
   ·exfalso;have hp:=List.pairwise_iff_getElem.1 (zpD (n:=n) (S:=S) (d:=(d:Int)) S.length);have e1:=hp 0 1 (by have:=g;unfold spc at this;omega) (by have:=g;unfold spc at this;omega) (by omega);have e2:=hp 1 2 (by have:=g;unfold spc at this;omega) (by have:=g;unfold spc at this;omega) (by omega);obtain ⟨i,hi,q1⟩:=zpC.1 (List.getElem_mem (l:=zpB n S (d:Int) S.length) (n:=0) (by have:=g;unfold spc at this;omega));obtain ⟨j,hj,q2⟩:=zpC.1 (List.getElem_mem (l:=zpB n S (d:Int) S.length) (n:=2) (by have:=g;unfold spc at this;omega));have:=hev d h1 h2 j i hj hi;omega
   ·exact g
  have hc1:=hw.cls_pos 1
  unfold kd
  rw [hl]
  split
  ·decide
  ·split
   ·rename_i h1 h2
    exfalso
    rcases h2 with h2 | h2
    ·have:=hc2 1 (by omega) (by omega)
     rw [show ((1:Nat):Int)=1 from rfl] at this
     omega
    ·rw [List.any_eq_true] at h2
     obtain ⟨d,hd,h3⟩:=h2
     have h3:=of_decide_eq_true h3
     rw [List.mem_range] at hd
     have:=hc2 (d+1) (by omega) (by omega)
     omega
   ·decide
end
theorem zpQ {n:Nat}:∀ {f k:Nat}{c:List Int},f≤n→c.length=k→(∀ x∈c,((n - f:Nat):Int)≤x∧x<(n:Int))→c.Pairwise (·<·)→c∈cmb n k f
 | f,0,c,_,hl,_,_=>by
  rw [zkI,List.mem_singleton];exact List.eq_nil_of_length_eq_zero hl
 | 0,k+1,[],_,hl,_,_=>by cases hl
 | 0,k+1,x::c,_,_,hb,_=>by
  have:=hb x (List.mem_cons_self ..);omega
 | f+1,k+1,[],_,hl,_,_=>by cases hl
 | f+1,k+1,x::c,hf,hl,hb,hu=>by
  rw [cmb,List.mem_append];have hp:=List.pairwise_cons.1 hu;have hx:=hb x (List.mem_cons_self ..);rcases (by omega:x=((n - (f+1):Nat):Int)∨((n - f:Nat):Int)≤x) with e | e
  ·left;refine List.mem_map.2 ⟨c,zpQ (by omega) (by simpa using hl) (fun y hy=>?_) hp.2,by rw [e]⟩;have h1:=hp.1 y hy;have h2:=hb y (List.mem_cons_of_mem _ hy);omega
  ·right;refine zpQ (by omega) hl (fun y hy=>?_) hu;rcases List.mem_cons.1 hy with g | g
   ·rw [g];exact ⟨e,hx.2⟩
   ·have h1:=hp.1 y g;have h2:=hb y hy;omega
theorem zpR {n:Nat}:∀ {f k:Nat},f≤n→(cmb n k f).Nodup
 | f,0,_=>by rw [zkI];simp
 | 0,k+1,_=>List.Pairwise.nil
 | f+1,k+1,hf=>by
  rw [cmb,List.nodup_append];refine ⟨?_,zpR (by omega),?_⟩
  ·have:=zpR (n:=n) (f:=f) (k:=k) (by omega);rw [List.Nodup,List.pairwise_map];exact this.imp fun h e=>h (List.cons.inj e).2
  ·intro a ha b hb e;subst e;obtain ⟨c,_,rfl⟩:=List.mem_map.1 ha;have:=(zkK (by omega) hb).1 _ (List.mem_cons_self ..);omega
theorem zpS {P:Int}{p:List Int}{N:List (List Rat)}(cs:List (List Int)):srL P false p N cs=cs.filter fun c=>tst P p (zlb p N c):=by
 have key:∀ (cs acc:List (List Int)),cs.foldl (srA P false p N) acc=acc++cs.filter fun c=>tst P p (zlb p N c):=by
  intro cs;induction cs with
  | nil=>intro acc;simp
  | cons c cs ih =>
   intro acc
   rw [List.foldl_cons,ih]
   unfold srA
   cases h:tst P p (zlb p N c) <;> simp [h]
 unfold srL;rw [key,List.nil_append]
theorem zpT {n:Nat}{S:List Int}(h0:(0:Int)∈S)(hb:∀ x∈S,0≤x∧x<(n:Int))(hu:S.Pairwise (·<·)):S∈zkR n S.length [0]:=by
 unfold zkR;rw [List.mem_filter];refine ⟨zpQ (Nat.le_refl _) rfl (fun x hx=>?_) hu,zkO.2 fun x hx=>?_⟩
 ·have:=hb x hx;omega
 ·rw [List.mem_singleton] at hx;rw [hx];exact h0
theorem zpU {n:Nat}{S:List Int}{P:Int}{p:List Int}{N:List (List Rat)}(h0:(0:Int)∈S)(hb:∀ x∈S,0≤x∧x<(n:Int))(hu:S.Pairwise (·<·)) :
  (srL P false p N (zkR n S.length [0])).countP (fun c=>decide (c=S))=if tst P p (zlb p N S)=true then 1 else 0:=by
 have hn:(srL P false p N (zkR n S.length [0])).Nodup:=by
  rw [zpS];unfold zkR;exact ((zpR (Nat.le_refl _)).sublist (List.filter_sublist ..)).sublist (List.filter_sublist ..)
 have hm:S∈srL P false p N (zkR n S.length [0]) ↔ tst P p (zlb p N S)=true:=by
  rw [zpS,List.mem_filter];exact ⟨fun h=>h.2,fun h=>⟨zpT h0 hb hu,h⟩⟩
 generalize srL P false p N (zkR n S.length [0])=L at *;have key:∀ {L:List (List Int)},L.Nodup→L.countP (fun c=>decide (c=S))=if S∈L then 1 else 0:=by
  intro L;induction L with
  | nil=>intro _;rfl
  | cons c L ih =>
   intro h
   have hc:=List.nodup_cons.1 h
   rw [List.countP_cons,ih hc.2]
   by_cases e:c=S
   ·subst e
    rw [if_neg hc.1]
    simp
   ·have e2:(decide (c=S))=false:=decide_eq_false e
    rw [e2]
    by_cases g:S∈L
    ·rw [if_pos g,if_pos (List.mem_cons_of_mem _ g)];rfl
    ·rw [if_neg g,if_neg (c:=S∈c::L)]
     ·rfl
     ·intro k
      rcases List.mem_cons.1 k with k | k
      ·exact e k.symm
      ·exact g k
 rw [key hn];by_cases g:tst P p (zlb p N S)=true
 ·rw [if_pos g,if_pos (hm.2 g)]
 ·rw [if_neg g,if_neg fun k=>g (hm.1 k)]
end Go.Proofs.YtebabancfnmfjaaGreatDoor
