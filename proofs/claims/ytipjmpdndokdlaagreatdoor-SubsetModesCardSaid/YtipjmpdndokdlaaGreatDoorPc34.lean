/- Plain: the tests of properties, equal scales, and what a search of subsets finds. Walk: scale.Equal over the octave of 2.3, at most 60 notes. -/
import Derived.Test.YtipjmpdndokdlaaGreatDoorPc29
import Derived.Test.YtipjmpdndokdlaaGreatDoorPc33
import Derived.Test.YtipjmpdndokdlaaGreatDoorPc27
set_option maxRecDepth 100000
set_option maxHeartbeats 1600000
namespace Go.Proofs.YtipjmpdndokdlaaGreatDoor
theorem sub_wc {p:List Int}{N:List (List Rat)}(h:Wc p N){l:List Int}(hl:l ≠ [])(hl12:l.length≤12)(hb:∀ x∈l,0≤x∧x<(N.length:Int))(hu:l.Pairwise (·<·)):Wc p (subN p N l):=by
 refine ⟨sub_wd h.wd hl (by omega) hb hu,?_,by unfold subN;rw [List.length_map,subK_len _ hl];exact hl12⟩
 obtain ⟨n,hn⟩:=h.iv_nic
 have key:∀ x∈zer p.length::subN p N l,∃ k:Int,x=subZ (nt p N k) (nt p N (l.headD 0)):=fun x hx=>by
  rcases List.mem_cons.1 hx with rfl | hx
  ·exact ⟨l.headD 0,by rw [subZ_self,h.wd.ntlen]⟩
  ·unfold subN at hx
   obtain ⟨k,_,rfl⟩:=List.mem_map.1 hx
   exact ⟨k,rfl⟩
 refine ⟨n,fun x hx y hy=>?_⟩
 obtain ⟨k,rfl⟩:=key x hx
 obtain ⟨j,rfl⟩:=key y hy
 rw [subZ_subZ (by rw [h.wd.ntlen,h.wd.ntlen]) (by rw [h.wd.ntlen,h.wd.ntlen])]
 have:=hn j (k - j)
 unfold iv at this
 rwa [show j+(k - j)=k by omega] at this
instance proD (p : List Int) (N : List (List Rat)) : Decidable (Pro p N):=by unfold Pro;infer_instance
instance strD (p : List Int) (N : List (List Rat)) : Decidable (Str p N):=by unfold Str;infer_instance
theorem cst_iff {p:List Int}{N:List (List Rat)}:Cst p N ↔ ∀ u:Nat,u<N.length+1→∀ d:Nat,d<u→∀ x∈cls p N (d:Int),x ∉ cls p N (u:Int) :=
 ⟨fun h u hu d hd=>h d u hd (by omega),fun h d u hd hu=>h u (by omega) d hd⟩
instance cstD (p : List Int) (N : List (List Rat)) : Decidable (Cst p N):=decidable_of_iff _ cst_iff.symm
/-- Whether a scale has a property. -/
def tst (P : Int) (p : List Int) (N : List (List Rat)) : Bool :=
 if P=2 then decide (kd p N=1) else if P=3 then decide (kd p N=2) else if P=4 then decide (Pro p N) else if P=5 then decide (Str p N) else if P=6 then decide (Cst p N) else true
theorem kd_one {p:List Int}{N:List (List Rat)}(e:kd p N=1):∃ s,cls p N 1=[s]:=by
 unfold kd at e
 split at e
 ·rename_i h1
  exact List.length_eq_one_iff.1 h1
 ·split at e <;> cases e
theorem tst_strict {p:List Int}{N:List (List Rat)}(h:Wc p N)(e:tst 5 p N=true):tst 4 p N=true∧tst 6 p N=true:=by
 have hs:Str p N:=of_decide_eq_true e
 have:=h.str_iff.1 hs
 exact ⟨decide_eq_true this.2,decide_eq_true this.1⟩
theorem tst_even {p:List Int}{N:List (List Rat)}(h:Wc p N)(e:tst 2 p N=true):tst 5 p N=true:=by
 obtain ⟨s,hs⟩:=kd_one (of_decide_eq_true e)
 exact decide_eq_true (h.even hs)
/-- A scale is a mode of another one. -/
def rotB (p : List Int) (N M : List (List Rat)) : Bool:=(List.range N.length).any fun (m : Nat) => md p N (m : Int) == M
theorem rotB_iff {p:List Int}{N M:List (List Rat)}:rotB p N M=true ↔ ∃ i:Nat,i<N.length∧md p N (i:Int)=M:=by
 unfold rotB
 rw [List.any_eq_true]
 constructor
 ·rintro ⟨i,hi,e⟩
  exact ⟨i,List.mem_range.1 hi,beq_iff_eq.1 e⟩
 ·rintro ⟨i,hi,e⟩
  exact ⟨i,List.mem_range.2 hi,beq_iff_eq.2 e⟩
theorem rotB_self {p:List Int}{N:List (List Rat)}(h:Wd p N):rotB p N N=true:=rotB_iff.2 ⟨0,h.pos,h.md_zero⟩
/-- A candidate in a search: whether only the first of its modes is wanted (b). -/
def srA (P : Int) (b : Bool) (p : List Int) (N : List (List Rat)) (acc : List (List Int)) (c : List Int) : List (List Int) :=
 if (tst P p (subN p N c) && !(b && acc.any fun a=>rotB p (subN p N a) (subN p N c)))=true then acc++[c] else acc
def srL (P : Int) (b : Bool) (p : List Int) (N : List (List Rat)) (cs : List (List Int)) : List (List Int):=cs.foldl (srA P b p N) []
theorem srL_snoc (P:Int)(b:Bool)(p:List Int)(N:List (List Rat))(cs:List (List Int))(c:List Int):srL P b p N (cs++[c])=srA P b p N (srL P b p N cs) c:=by
 unfold srL;rw [List.foldl_append];rfl
theorem srA_len (P:Int)(b:Bool)(p:List Int)(N:List (List Rat))(acc:List (List Int))(c:List Int):(srA P b p N acc c).length≤acc.length+1:=by
 unfold srA
 split
 ·rw [List.length_append,List.length_singleton];exact Nat.le_refl _
 ·omega
theorem sr_mem {P:Int}{b:Bool}{p:List Int}{N:List (List Rat)}:∀ (cs acc:List (List Int))(x:List Int),x∈cs.foldl (srA P b p N) acc→x∈acc∨(x∈cs∧tst P p (subN p N x)=true)
 | [],_,_,h=>.inl h
 | c::cs,acc,x,h=>by
  rw [List.foldl_cons] at h
  rcases sr_mem cs _ x h with g | ⟨g,e⟩
  ·unfold srA at g
   split at g
   ·rename_i hc
    rw [Bool.and_eq_true] at hc
    rcases List.mem_append.1 g with g | g
    ·exact .inl g
    ·rw [List.mem_singleton] at g
     exact .inr ⟨by rw [g];exact List.mem_cons_self ..,by rw [g];exact hc.1⟩
   ·exact .inl g
  ·exact .inr ⟨List.mem_cons_of_mem _ g,e⟩
theorem srL_mem {P:Int}{b:Bool}{p:List Int}{N:List (List Rat)}{cs:List (List Int)}{x:List Int}(h:x∈srL P b p N cs):x∈cs∧tst P p (subN p N x)=true:=by
 rcases sr_mem cs [] x h with g | g
 ·cases g
 ·exact g
theorem sr_len {P:Int}{p:List Int}{N:List (List Rat)}:∀ (cs acc acc':List (List Int)),acc.length≤acc'.length→(cs.foldl (srA P true p N) acc).length≤(cs.foldl (srA P false p N) acc').length
 | [],_,_,h=>h
 | c::cs,acc,acc',h=>by
  rw [List.foldl_cons,List.foldl_cons]
  refine sr_len cs _ _ ?_
  unfold srA
  rw [Bool.false_and,Bool.not_false,Bool.and_true]
  by_cases e:tst P p (subN p N c)=true
  ·rw [if_pos e,List.length_append,List.length_singleton]
   split
   ·rw [List.length_append,List.length_singleton];omega
   ·omega
  ·rw [if_neg e,if_neg (by rw [Bool.and_eq_true];exact fun g=>e g.1)]
   exact h
theorem srL_len (P:Int)(p:List Int)(N:List (List Rat))(cs:List (List Int)):(srL P true p N cs).length≤(srL P false p N cs).length:=sr_len cs [] [] (Nat.le_refl _)
theorem sr_le {P:Int}{b:Bool}{p:List Int}{N:List (List Rat)}:∀ (cs acc:List (List Int)),(cs.foldl (srA P b p N) acc).length≤acc.length+cs.length
 | [],_=>Nat.le_refl _
 | c::cs,acc=>by
  rw [List.foldl_cons,List.length_cons]
  have:=sr_le (P:=P) (b:=b) (p:=p) (N:=N) cs (srA P b p N acc c)
  have:=srA_len P b p N acc c
  omega
theorem srL_le (P:Int)(b:Bool)(p:List Int)(N:List (List Rat))(cs:List (List Int)):(srL P b p N cs).length≤cs.length:=by
 have:=sr_le (P:=P) (b:=b) (p:=p) (N:=N) cs []
 rw [List.length_nil,Nat.zero_add] at this
 exact this
theorem sr_apart {P:Int}{p:List Int}{N:List (List Rat)}:∀ (cs acc:List (List Int)),acc.Pairwise (fun a c=>rotB p (subN p N a) (subN p N c)=false)→(cs.foldl (srA P true p N) acc).Pairwise (fun a c=>rotB p (subN p N a) (subN p N c)=false)
 | [],_,h=>h
 | c::cs,acc,h=>by
  rw [List.foldl_cons]
  refine sr_apart cs _ ?_
  unfold srA
  split
  ·rename_i hc
   rw [Bool.and_eq_true,Bool.true_and,Bool.not_eq_true',List.any_eq_false] at hc
   rw [List.pairwise_append]
   exact ⟨h,List.pairwise_singleton _ _,fun a ha x hx=>by
    rw [List.mem_singleton] at hx
    rw [hx]
    exact Bool.eq_false_iff.2 (hc.2 a ha)⟩
  ·exact h
theorem srL_apart (P:Int)(p:List Int)(N:List (List Rat))(cs:List (List Int)):(srL P true p N cs).Pairwise (fun a c=>rotB p (subN p N a) (subN p N c)=false):=sr_apart cs [] List.Pairwise.nil
theorem sr_keep {P:Int}{b:Bool}{p:List Int}{N:List (List Rat)}:∀ (cs acc:List (List Int))(x:List Int),x∈acc→x∈cs.foldl (srA P b p N) acc
 | [],_,_,h=>h
 | c::cs,acc,x,h=>by
  rw [List.foldl_cons]
  refine sr_keep cs _ x ?_
  unfold srA
  split
  ·exact List.mem_append.2 (.inl h)
  ·exact h
theorem sr_has {P:Int}{p:List Int}{N:List (List Rat)}:∀ (cs acc:List (List Int))(c:List Int),c∈cs→tst P p (subN p N c)=true→rotB p (subN p N c) (subN p N c)=true→∃ a∈cs.foldl (srA P true p N) acc,rotB p (subN p N a) (subN p N c)=true
 | [],_,_,h,_,_=>by cases h
 | d::cs,acc,c,h,ht,hr=>by
  rw [List.foldl_cons]
  rcases List.mem_cons.1 h with rfl | h
  ·by_cases e:(acc.any fun a=>rotB p (subN p N a) (subN p N c))=true
   ·obtain ⟨a,ha,g⟩:=List.any_eq_true.1 e
    exact ⟨a,sr_keep cs _ a (by unfold srA;split;exact List.mem_append.2 (.inl ha);exact ha),g⟩
   ·refine ⟨c,sr_keep cs _ c ?_,hr⟩
    unfold srA
    rw [if_pos (by rw [ht,Bool.true_and,Bool.true_and,Bool.not_eq_true'];exact Bool.eq_false_iff.2 e)]
    exact List.mem_append.2 (.inr (List.mem_singleton.2 rfl))
  ·exact sr_has cs _ c h ht hr
theorem srL_has {P:Int}{p:List Int}{N:List (List Rat)}{cs:List (List Int)}{c:List Int}(hc:c∈srL P false p N cs)(hw:Wd p (subN p N c)):∃ a∈srL P true p N cs,rotB p (subN p N a) (subN p N c)=true :=
 sr_has cs [] c (srL_mem hc).1 (srL_mem hc).2 (rotB_self hw)
/-- The equal scale of n notes. -/
def eqN (n : Nat) : List (List Rat):=(List.range n).map fun (i : Nat) => oc3 [2,3] n ((i+1 : Nat) : Int)
theorem eqN_len (n:Nat):(eqN n).length=n:=by unfold eqN;simp
theorem eqN_mem {n:Nat}{x:List Rat}(h:x∈zer [(2:Int),3].length::eqN n):∃ i:Int,0≤i∧i≤(n:Int)∧x=oc3 [2,3] n i:=by
 rcases List.mem_cons.1 h with e | e
 ·exact ⟨0,by omega,by omega,by rw [e];exact oc_zer (.inl rfl) n⟩
 ·unfold eqN at e
  obtain ⟨i,hi,rfl⟩:=List.mem_map.1 e
  rw [List.mem_range] at hi
  exact ⟨((i+1:Nat):Int),by omega,by omega,rfl⟩
theorem oc_lt {n:Nat}(hn:0<n){i j:Int}(hij:i<j):sF [2,3] (oc3 [2,3] n i)<sF [2,3] (oc3 [2,3] n j):=by
 rw [oc_sF (.inl rfl),oc_sF (.inl rfl)]
 have hnp:(0:Rat)<(n:Rat):=Rat.intCast_lt_intCast.2 (show (0:Int)<(n:Int) by omega)
 have e2:(0:Rat)<((67108864:Int):Rat):=Rat.intCast_lt_intCast.2 (show (0:Int)<67108864 by decide)
 have hlt:(i:Rat)<(j:Rat):=Rat.intCast_lt_intCast.2 hij
 have h1:(i:Rat) / (n:Rat)<(j:Rat) / (n:Rat):=by
  have q1:(n:Rat) * ((i:Rat) / (n:Rat))=(i:Rat):=by rw [Rat.mul_comm];exact Rat.div_mul_cancel (nat_ne hn)
  have q2:(n:Rat) * ((j:Rat) / (n:Rat))=(j:Rat):=by rw [Rat.mul_comm];exact Rat.div_mul_cancel (nat_ne hn)
  refine Rat.lt_of_mul_lt_mul_left ?_ (Rat.le_of_lt hnp)
  rw [q1,q2];exact hlt
 exact Rat.mul_lt_mul_of_pos_right h1 e2
theorem oc_whole {n:Nat}(hn:0<n):oc3 [2,3] n (n:Int)=ov 1:=by
 rw [oc_two]
 have e:((n:Int):Rat) / (n:Rat)=1:=by
  rw [Rat.intCast_natCast]
  exact by rw [Rat.div_def];exact Rat.mul_inv_cancel _ (nat_ne hn)
 rw [e];rfl
theorem oc_shift {n:Nat}(hn:0<n)(i q:Int):oc3 [2,3] n (i+q * n)=shf q (oc3 [2,3] n i):=by
 rw [oc_two,oc_two]
 simp only [shf]
 congr 1
 have q2:((n:Int):Rat) / (n:Rat)=1:=by
  rw [Rat.intCast_natCast]
  exact by rw [Rat.div_def];exact Rat.mul_inv_cancel _ (nat_ne hn)
 rw [Rat.intCast_add,Rat.intCast_mul]
 rw [Rat.div_def] at q2 ⊢
 rw [Rat.add_mul,Rat.mul_assoc,q2,Rat.mul_one,Rat.div_def]
theorem eq_wd {n:Nat}(h0:0<n)(h:n≤60):Wd [2,3] (eqN n):=by
 refine ⟨.inl ⟨rfl,rfl⟩,?_,by rw [eqN_len];exact h,fun x hx=>?_,?_,?_,n,fun x hx y hy=>?_⟩
 ·intro e
  have:=eqN_len n
  rw [e] at this
  simp at this
  omega
 ·obtain ⟨i,_,_,rfl⟩:=eqN_mem (List.mem_cons_of_mem _ hx)
  exact oc_len (.inl rfl) ..
 ·rw [eqN_len]
  unfold eqN
  rw [List.getElem?_map,List.getElem?_range (by omega),Option.map_some,show n - 1+1=n by omega]
  exact congrArg some (oc_whole h0)
 ·unfold Srt
  rw [List.pairwise_cons]
  constructor
  ·intro x hx
   unfold eqN at hx
   obtain ⟨i,hi,rfl⟩:=List.mem_map.1 hx
   rw [show zer [(2:Int),3].length=oc3 [2,3] n 0 from oc_zer (.inl rfl) n]
   exact oc_lt h0 (by omega)
  ·unfold eqN
   rw [List.pairwise_map]
   exact List.pairwise_lt_range.imp fun {a b} g=>oc_lt h0 (by omega)
 ·obtain ⟨i,_,_,rfl⟩:=eqN_mem hx
  obtain ⟨j,_,_,rfl⟩:=eqN_mem hy
  rw [oc3_sub (.inl rfl)]
  exact .inr ⟨h0,h,oc_oc (.inl rfl) h0 _⟩
theorem eq_wc {n:Nat}(h0:0<n)(h:n≤12):Wc [2,3] (eqN n):=by
 refine ⟨eq_wd h0 (by omega),⟨n,fun x hx y hy=>?_⟩,by rw [eqN_len];exact h⟩
 obtain ⟨i,_,_,rfl⟩:=eqN_mem hx
 obtain ⟨j,_,_,rfl⟩:=eqN_mem hy
 rw [oc3_sub (.inl rfl)]
 exact .inr ⟨h0,by omega,oc_oc (.inl rfl) h0 _⟩
theorem eq_nt {n:Nat}(h0:0<n)(h:n≤60)(k:Int):nt [2,3] (eqN n) k=oc3 [2,3] n k:=by
 have hw:=eq_wd h0 h
 have a1:=Int.emod_nonneg k (show (n:Int) ≠ 0 by omega)
 have a2:=Int.emod_lt_of_pos k (show (0:Int)<(n:Int) by omega)
 have a3:=Int.mul_ediv_add_emod k (n:Int)
 have e:=oc_shift h0 (k % (n:Int)) (k / (n:Int))
 rw [show k % (n:Int)+k / (n:Int) * (n:Int)=k by rw [Int.mul_comm (k / _)];omega] at e
 unfold nt
 rw [eqN_len,e]
 congr 1
 obtain ⟨i,hi⟩:∃ i:Nat,(i:Int)=k % (n:Int):=⟨(k % (n:Int)).toNat,by omega⟩
 rw [← hi,Int.toNat_natCast]
 unfold zat
 cases i with
 | zero=>exact oc_zer (.inl rfl) n
 | succ i =>
  rw [List.getElem?_cons_succ]
  unfold eqN
  rw [List.getElem?_map,List.getElem?_range (by omega)]
  rfl
/-- What the known answers of the chapter ask. -/
theorem sbt_known : tst 3 [2,3] (subN [2,3] (eqN 12) [0,2,4,7,9])=true∧tst 3 [2,3] (subN [2,3] (eqN 12) [0,1,4,7,9])=false:=by decide +kernel
theorem sbt_one : srL 2 true [2,3] (eqN 12) (cands 12 1 [])=[[0]]:=by decide +kernel
end Go.Proofs.YtipjmpdndokdlaaGreatDoor

namespace Go.Proofs.YtipjmpdndokdlaaGreatDoor
open Go.RowKit Go.Lib Go.Shelf
attribute [local go_sem] Oper.semAt_some
theorem oc_mkr (n:Nat)(i:Int):mulZ (ov 1) (mkRat i n)=oc3 [2,3] n i:=by
 rw [oc_two,Rat.mkRat_eq_div]
 show [(1:Rat) * _,(0:Rat) * _]=_
 rw [Rat.one_mul,Rat.zero_mul]
theorem eq_at (n:Nat)(i:Nat)(hi:i<n):(eqN n).take (i+1)=(eqN n).take i++[oc3 [2,3] n ((i:Int)+1)]:=by
 have hl:i<(eqN n).length:=by rw [eqN_len];exact hi
 rw [List.take_succ_eq_append_getElem hl]
 congr 1
 unfold eqN
 simp
theorem scEqual_c (vp vb:Value)(n:Nat)(w:World)(he:Env w)(hp:Sl w vp (i64s [2,3]))(hb:Rd w vb (ov 1))(h0:0<n)(h60:n≤60) :
  Calls Tryz.prog 9 #[vp,vb,.int .i64 (n:Int)] w fun e w'=>∃ v out,e=.returned (.tuple #[v,.int .i64 0])∧ScO w' w.heap.size v [2,3] out∧out.map Qw.x=eqN n∧Ext w w':=by
 obtain ⟨j0,hj,hy0,hy1,hy2⟩:=info_parts info_size
 have hwd:=eq_wd h0 h60
 have hpe:primesErr ([2,3]:List Int)=0:=by decide
 have hck:=fun W (hE:Ext w W)=>checkPeriod_c vp vb [2,3] 1 W (he.ext hE) (hE.sl hp) (hE.rd hb) hpe (.inl ⟨rfl,rfl⟩)
 have hft:∀ z:Int,1≤z→z≤n→∀ q∈oc3 [2,3] n z,Ft 30 q:=fun z z0 z1=>by
  rw [← eq_nt h0 h60]
  exact (hwd.nt_quick z (by omega) (by omega)).1
 have hof:=fun (z:Int)(z0:1≤z)(z1:z≤n) W (hE:Ext w W)=>frOf_c z n W (he.ext hE) (by omega) (by omega) h0 (by omega)
 have hsc:=fun (z:Int)(z0:1≤z)(z1:z≤n) W (hE:Ext w W)=>(show Calls Tryz.prog 29 #[vp,vb,Rv (mkRat z n)] W fun e w'=>∃ g,e=.returned (.tuple #[.slice (some ⟨g,0,none⟩) 2 2,.int .i64 0])∧OwnQ w' W.heap.size (.slice (some ⟨g,0,none⟩) 2 2) (oc3 [2,3] n z)∧Ext W w' from by
  have h1:=hft z z0 z1
  have h2:Ft 30 (mkRat z n):=by
   refine h1 _ ?_
   rw [oc_two,Rat.mkRat_eq_div]
   exact List.mem_cons_self ..
  have:=sScale_c vp vb [2,3] (ov 1) (mkRat z n) W (he.ext hE) (hE.sl hp) (hE.rd hb) hpe rfl (fun q h=>(ov_ft q h).mono (by omega)) (h2.mono (by omega)) (by rw [oc_mkr];exact h1)
  rw [oc_mkr] at this
  exact this)
 have hcp:=fun W (hE:Ext w W)=>cloneP_c vp [2,3] W (hE.sl hp) (by decide) (by simp)
 obtain ⟨ap,cp,rfl,_,_,_⟩:=hp.parts
 obtain ⟨ab,cb,rfl,_,_,_⟩:=hb.parts
 rw [show (i64s [2,3]).length=2 from rfl,show (ov 1).length=2 from rfl] at *
 have hE0:Ext w (w.alloc (.cells #[.slice none 0 0,.slice none 0 0] 32)):=(Ext.refl w).alloc _
 have b1:=BoxT.new 32 w (.slice none 0 0) (.slice none 0 0)
 have hlen:(eqN n).length=n:=eqN_len n
 have heq:=eq_at n
 simp only [Rv] at hof hsc
 have Hck:=hid hck;have Hof:=hid hof;have Hsc:=hid hsc;have Hcp:=hid hcp;have HE0:=hid hE0;have B1:=hid b1;have Hlen:=hid hlen;have Heq:=hid heq
 clear hp hb he hpe hck hof hsc hcp hE0 b1 hft hwd hlen heq
 have t1:¬ (n:Int)<1:=by omega
 have t2:¬ 60<(n:Int):=by omega
 go_enter Tryz.func9,Tryz.ntmps9
 go_wp2_with fail
 refine (Hck.out _ HE0.out).mono ?_
 rintro e w1 ⟨rfl,hx1⟩
 have Hx1:=hid hx1
 clear hx1
 go_wp2_with fail
 refine (Hcp.out w1 (HE0.out.trans Hx1.out)).mono ?_
 rintro e w6 ⟨u6,rfl,ho6,hx6⟩
 obtain ⟨a6,c6,rfl⟩:=own_shape ho6
 have Hx6:=hid (Hx1.out.trans hx6)
 have Ho6:=hid (own_mono ho6 (HE0.out.trans Hx1.out).size)
 clear ho6 hx6
 have Hb7:=hid (BoxT.new 32 w6 (.slice a6 2 c6) (.slice none 0 0))
 have H6x:Hid (Ext w6 (w6.alloc (.cells #[.slice a6 2 c6,.slice none 0 0] 32))):=hid ((Ext.refl w6).alloc _)
 go_wp2_with fail
 go_loopw [10,11,12,13,14] (fun v10 v11 v12 v13 v14 wr=>∃ i:Nat,v10=.int .i64 ((i:Int)+1)∧i≤n∧NtR w6.heap.size w6 w6.heap.size (.slice a6 2 c6) ((eqN n).take i) wr) (fun v10 _ _ _ _ _=>n+1 - (intOf v10).toNat)
 case atStart=>exact ⟨0,rfl,Nat.zero_le _,.slice none 0 0,[],Hb7.out,QwM.nil _ _ _,rfl,H6x.out⟩
 case round =>
  obtain ⟨i,rfl,hi,⟨vn,nts,hbn,hqn,hmn,hEn⟩⟩:=hrel
  have hE6:=Hx6.out.trans hEn
  have hEw:=HE0.out.trans hE6
  by_cases hin:i<n
  ·have hik:(i:Int)+1≤(n:Int):=by omega
   have hok:=Hof.out ((i:Int)+1) (by omega) (by omega) wr hEw
   have hsk:=Hsc.out ((i:Int)+1) (by omega) (by omega)
   have Hbn:=hid hbn;have Hqn:=hid hqn;have Hmn:=hid hmn;have HEn:=hid hEn;have HE6:=hid hE6;have HEw:=hid hEw
   generalize I (mkRat ((i:Int)+1) n).num=st at *
   generalize I (((mkRat ((i:Int)+1) n).den:Nat):Int)=su at *
   have Hok:=hid hok;have Hsk:=hid hsk
   clear hbn hqn hmn hEn hE6 hEw hok hsk
   go_wp2_with fail
   refine Hok.out.mono ?_
   rintro e w7 ⟨rfl,hx7⟩
   have hE8:=hx7.alloc (.cells #[.string st,.string su] 27)
   have b8:=BoxT.new 27 w7 (.string st) (.string su)
   have q0:=b8.c0
   have q1:=b8.c1
   have Hx8:=hid hE8
   clear hx7 hE8 b8
   go_wp2_with fail
   generalize w7.alloc (.cells #[.string st,.string su] 27)=w8 at *
   refine (Hsk.out w8 (HEw.out.trans Hx8.out)).mono ?_
   rintro e w9 ⟨g9,rfl,ho9,hx9⟩
   have hx89:=Hx8.out.trans hx9
   obtain ⟨avn,cvn,rfl⟩:=own_shape Hqn.out.1
   have hnl:nts.length=i:=by
    have:=congrArg List.length Hmn.out
    rw [List.length_map,List.length_take,Hlen.out] at this
    omega
   have hbk:=Hbn.out.ext hx89
   rw [hnl] at hbk
   have hqo:=hx89.own Hqn.out.1
   rw [hnl] at hqo
   have hqk:=hx89.qwM Hqn.out
   rw [hnl] at hqk
   have hEk:=HEn.out.trans hx89
   have hbase:=hEk.size
   have hok:=ho9.mono (HEn.out.trans Hx8.out).size
   have hm3:i+1≤maxLen:=by unfold maxLen;omega
   have hm4:(i+1) * 24≤140737488355328:=by omega
   have r1:=hbk.c1
   have Hbk:=hid hbk;have Hqk:=hid hqk;have Hnl:=hid hnl;have HEk:=hid hEk;have Hok:=hid hok
   clear hbk hqk hnl hEk hok hx89 ho9 hx9 q0 q1
   go_wp2_with (at_builtin;refine wpList_append_own _ rfl _ _ 30 rfl w6.heap.size 37 j0 (.slice none 0 0) 1 24 Tryz.underlying30 hj hy0 hy1 hy2 rfl (by decide) _ _ _ rfl (hqo.alloc _) ⟨w9.heap.size,0,none⟩ 1 1 [.slice (some ⟨g9,0,none⟩) 2 2] rfl rfl (cell_one_new _ _ _) (by simp [Value.oneCell']) hm3 hm4 (by rw [World.size_alloc];omega) ?_;intro v7 V7 hown7 hgrow7 _;have hbV:BoxT 32 V7 w6.heap.size (.slice a6 2 c6) (.slice avn i cvn):=kept_box (((Ext.refl w9).alloc _).heap Hbk.out) (hqo.alloc (.cells #[.slice (some ⟨g9,0,none⟩) 2 2] 37)) (by decide) hgrow7;have d1:=hbV.c1;have e1:=hbV.fz 1;obtain ⟨a7,c7,rfl⟩:=own_shape hown7)
   have hR:=NtR.more (W6:=w6) (W:=w9) (v7:=.slice a7 (i+1) c7) (Nat.le_refl _) Hbk.out Hqk.out Hmn.out HEk.out Hok.out (by rw [Hnl.out];exact hown7) hgrow7
   rw [← Heq.out i hin] at hR
   have HR:=hid hR
   clear hR d1 e1 r1 hgrow7 hown7 hbV
   generalize V7.setCell ⟨w6.heap.size,1,none⟩ (.slice a7 (i+1) c7)=V2 at *
   go_roundw
   case rel=>exact ⟨i+1,by go_num,by omega,HR.out⟩
   case measure=>simp [intOf];omega
  ·obtain rfl:n=i:=by omega
   have hik:¬ (n:Int)+1≤(n:Int):=by omega
   have hmn2:nts.map Qw.x=eqN n:=by rw [hmn,List.take_of_length_le (by rw [Hlen.out];exact Nat.le_refl _)]
   obtain ⟨avn,cvn,rfl⟩:=own_shape hqn.1
   have r0:=hbn.c0
   have r1:=hbn.c1
   have hbr:=B1.out.ext hE6
   have hK:K0 32 w wr w.heap.size:=⟨hEw,_,_,hbr⟩
   have k0:=hK.res.c0;have k1:=hK.res.c1;have z0:=hK.res.fz 0;have z1:=hK.res.fz 1
   have hfin:=hK.fin (by omega) (.slice a6 2 c6) (.slice avn nts.length cvn)
   have hq4:=(hqn.set hbr 0 (.slice a6 2 c6)).set (BoxT.put0 hbr (.slice a6 2 c6)) 1 (.slice avn nts.length cvn)
   have ho4:=own_set_apart (BoxT.put0 hbr (.slice a6 2 c6)) (own_set_apart hbr (hEn.own Ho6.out) (by decide) 0 (.slice a6 2 c6)) (by decide) 1 (.slice avn nts.length cvn)
   have hlo:=(HE0.out.trans Hx6.out).size
   have Hfin:=hid hfin;have Hq4:=hid hq4;have Ho4:=hid ho4;have Hmn2:=hid hmn2
   clear hfin hq4 ho4 hmn2 hK hbr hqn hbn hmn hEn hE6 hEw
   go_wp2_with fail
   obtain ⟨hb5,hx5⟩:=Hfin.out
   have hd0:=hb5.c0
   have hd1:=hb5.c1
   exact bodyPost_ret (v:=.tuple #[.agg #[.slice a6 2 c6,.slice avn nts.length cvn],.int .i64 0]) (by simp [results,Tryz.results9,go_sem,hd0,hd1]) rfl ⟨_,rfl,nts,⟨_,_,rfl,Ho4.out,Hq4.out.mono hlo hlo⟩,Hmn2.out,hx5⟩
end Go.Proofs.YtipjmpdndokdlaaGreatDoor
