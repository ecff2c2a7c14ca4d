/- Walks: class.(*view).differences, compare. Plain: the text of a size, which tells it. -/
import Derived.Test.YtipjmpdndokdlaaGreatDoorPb21
import Derived.Test.YtipjmpdndokdlaaGreatDoorPb07
import Derived.Lib.Join
set_option maxRecDepth 100000
set_option maxHeartbeats 800000
namespace Go.Proofs.YtipjmpdndokdlaaGreatDoor
open Go.RowKit Go.Lib Go.Shelf
attribute [local go_sem] Oper.semAt_some
/-- The intervals of a class, from the first note on. -/
def dfs (p : List Int) (N : List (List Rat)) (d : Int) : List (List Rat):=(List.range N.length).map fun (i : Nat) => iv p N (i : Int) d
theorem dfs_len (p : List Int) (N : List (List Rat)) (d : Int) : (dfs p N d).length=N.length:=by unfold dfs;simp
theorem dfs_at {p : List Int} {N : List (List Rat)} {d : Int} {i : Nat} (hi : i < N.length) : (dfs p N d)[i]?=some (iv p N (i : Int) d):=by
 unfold dfs
 rw [List.getElem?_map,List.getElem?_range hi]
 rfl
/-- A note of a view. -/
theorem view_at {w : World} {av : Option Addr} {nl cv : Nat} {p : List Int} {N : List (List Rat)} {nts : List Qw} (h : RdM w (.slice av nl cv) nts) (hm : nts.map Qw.x=nts2 p N) (hl : ∀ k : Int,(nt p N k).length=p.length) {i : Nat} (hi : i < 2 * N.length + 1) :
  ∃ b off ai ci,av=some ⟨b,off,none⟩∧w.cell? ⟨b,off + i,none⟩=some (.slice ai p.length ci)∧Rd w (.slice ai p.length ci) (nt p N (i:Int)):=by
 obtain ⟨a,cap,e,_,_,hc⟩:=h.1.parts
 injection e with e1 e2 e3
 subst e1
 have hx:=nts2_at (p:=p) (N:=N) hi
 rw [← hm,List.getElem?_map] at hx
 obtain ⟨r,hr,hrx⟩:=Option.map_eq_some_iff.1 hx
 have hrd:=h.2 r (List.mem_of_getElem? hr)
 rw [hrx] at hrd
 obtain ⟨ai,ci,hu,_,_,_⟩:=hrd.parts
 rw [hl] at hu
 obtain ⟨b,off,rfl,hcell⟩:=hc i r.u (by unfold qwc;rw [List.getElem?_map,hr];rfl)
 rw [hu] at hcell hrd
 exact ⟨b,off,ai,ci,rfl,hcell,hrd⟩
theorem diffs_c (u : Value) (p : List Int) (rs : List Qw) (d : Nat) (w : World) (he : Env w) (hu : Vw w u p rs) (h : Wc p (rs.map Qw.x)) (hd : d ≤ rs.length) :
  Calls Tryz.prog 202 #[u,.int .i64 (d:Int)] w fun e w'=>∃ v out,e=.returned (.tuple #[v,.int .i64 0])∧QwM w' w.heap.size w.heap.size v out∧out.map Qw.x=dfs p (rs.map Qw.x) (d:Int)∧Ext w w':=by
 obtain ⟨j0,hj,hy0,hy1,hy2⟩:=info_parts info_size
 have hL:(rs.map Qw.x).length=rs.length:=List.length_map ..
 have hfew:=h.few
 rw [hL] at hfew
 have hpe:primesErr p=0:=by rcases h.wd.pr with ⟨e,_⟩ | ⟨e,_⟩ <;> rw [e] <;> decide
 obtain ⟨b,vp,vn,vs,nts,rfl,hb,hp,hn,hs,hm⟩:=hu
 have hsb:=fun (i:Nat) (hi:i < rs.length) W va vb (hE:Ext w W) (ha:Rd W va (nt p (rs.map Qw.x) (((i + d:Nat)):Int))) (hbb:Rd W vb (nt p (rs.map Qw.x) (i:Int)))=>sSub_c vp va vb p _ _ W (he.ext hE) (hE.sl hp) ha hbb hpe (h.wd.ntlen _) (h.wd.ntlen _) (h.wd.nt_quick _ (by omega) (by omega)).1 (h.wd.nt_quick _ (by omega) (by omega)).1 (h.wd.nt_sub_quick _ _ (by omega) (by omega) (by omega) (by omega)).1
 have hiv:∀ i:Nat,subZ (nt p (rs.map Qw.x) ((i + d:Nat):Int)) (nt p (rs.map Qw.x) (i:Int))=iv p (rs.map Qw.x) (i:Int) (d:Int):=fun i=>by unfold iv;rw [show ((i + d:Nat):Int)=(i:Int) + (d:Int) by omega]
 have hmd:∀ i,i < rs.length→(dfs p (rs.map Qw.x) (d:Int)).take (i + 1)=(dfs p (rs.map Qw.x) (d:Int)).take i ++ [iv p (rs.map Qw.x) (i:Int) (d:Int)]:=fun i hi=>by
  have:=dfs_at (p:=p) (N:=rs.map Qw.x) (d:=(d:Int)) (i:=i) (by rw [hL];exact hi)
  rw [List.take_add_one,this]
  rfl
 have hmf:(dfs p (rs.map Qw.x) (d:Int)).take rs.length=dfs p (rs.map Qw.x) (d:Int):=List.take_of_length_le (by rw [dfs_len,hL];exact Nat.le_refl _)
 have hml:(dfs p (rs.map Qw.x) (d:Int)).length=rs.length:=by rw [dfs_len,hL]
 have hat:=fun (i:Nat) (hi:i < 2 * rs.length + 1)=>fun av nl cv (hv:RdM w (.slice av nl cv) nts)=>view_at (i:=i) hv hm (fun k=>h.wd.ntlen k) (by rw [hL];exact hi)
 obtain ⟨ap,cp,rfl,_,_,_⟩:=hp.parts
 obtain ⟨an,cn,rfl,_,_,_⟩:=hn.1.parts
 obtain ⟨av,cv,rfl,_,hv1,_⟩:=hs.1.parts
 have hnts:nts.length=2 * rs.length + 1:=by
  have:=congrArg List.length hm
  rwa [List.length_map,nts2_len,hL] at this
 rw [i64s_length,qwc_length,qwc_length,hnts] at hb
 rw [qwc_length,hnts] at hs
 rw [qwc_length] at hn
 rw [i64s_length] at hp hsb
 have hat2:=fun (i:Nat) (hi:i < 2 * rs.length + 1)=>hat i hi _ _ _ hs
 clear hat
 generalize hnn:rs.length=n at *
 obtain ⟨M,hM⟩:∃ M,M=2 * n + 1:=⟨_,rfl⟩
 rw [← hM] at hb hat2 hnts
 have HM:=Lib.hid hM
 clear hM
 have Hsb:=Lib.hid hsb;have Hiv:=Lib.hid hiv;have Hmd:=Lib.hid hmd;have Hmf:=Lib.hid hmf;have Hml:=Lib.hid hml;have Hb:=Lib.hid hb;have Hat:=Lib.hid hat2
 clear hsb hiv hmd hmf hml hat2 hm hs hn hp h he hpe hL hnts hnn
 have q0:=hb.c0
 have q1:=hb.c1
 have q2:=hb.c2
 clear hb
 go_enter Tryz.func202,Tryz.ntmps202
 go_wp2_with fail
 go_loopw [6,16] (fun v6 v16 wr=>∃ i:Nat,v16=.int .i64 (i:Int)∧i ≤ n∧QsR w ((dfs p (rs.map Qw.x) (d:Int)).take i) v6 wr) (fun _ v16 _=>n - (intOf v16).toNat)
 case atStart=>exact ⟨0,rfl,Nat.zero_le _,[],QwM.nil _ _ _,rfl,Ext.refl _⟩
 case round =>
  obtain ⟨i,rfl,hi,⟨out,hq,hm,hE⟩⟩:=hrel
  have hol:out.length=i:=by
   have:=congrArg List.length hm
   rw [List.length_map,List.length_take,Hml.out] at this
   omega
  obtain ⟨a6,c6,rfl⟩:=own_shape hq.1
  by_cases hin:i < n
  ·have hik:(i:Int) < (n:Int):=by omega
   obtain ⟨j,hjj⟩:∃ j,j=i + d:=⟨_,rfl⟩
   obtain ⟨bv,ov,a1,c1,rfl,x1,hr1⟩:=Hat.out j (by have:=HM.out;omega)
   obtain ⟨_,_,a2,c2,e2,x2,hr2⟩:=Hat.out i (by have:=HM.out;omega)
   cases e2
   have hwi:IntKind.i64.wrap ((i:Int) + (d:Int))=(j:Int):=by rw [IntWalk.i64_in _ (by omega)];omega
   have hid0:(0:Int) ≤ (j:Int):=by omega
   have hid1:(j:Int) < (M:Int):=by have:=HM.out;omega
   have hi1:(i:Int) < (M:Int):=by have:=HM.out;omega
   have hi0:(0:Int) ≤ (i:Int):=by omega
   have hS:∀ W,Ext w W→Ext w W∧W.cell? ⟨b,0,none⟩=some (.slice ap p.length cp)∧W.cell? ⟨b,2,none⟩=some (.slice (some ⟨bv,ov,none⟩) M cv)∧W.cell? ⟨bv,ov + j,none⟩=some (.slice a1 p.length c1)∧W.cell? ⟨bv,ov + i,none⟩=some (.slice a2 p.length c2):=fun W hW=>⟨hW,(Hb.out.ext hW).c0,(Hb.out.ext hW).c2,hW.cell x1,hW.cell x2⟩
   rw [hjj] at hr1
   have hsb:=Hsb.out i hin wr.drew _ _ hE.drew (hE.drew.rd hr1) (hE.drew.rd hr2)
   obtain ⟨_,d0,d2,d3,d4⟩:=hS _ hE.drew
   have hqo:=hq.1
   rw [hol] at hqo
   have HS:=Lib.hid hS;have HSb:=Lib.hid hsb;have Hq:=Lib.hid hq;have Hm:=Lib.hid hm;have HE:=Lib.hid hE;have Hol:=Lib.hid hol;have Hqo:=Lib.hid hqo
   clear hS hsb hq hm hE hol hqo hr1 hr2 x1 x2 hjj
   rw [Hol.out]
   go_wp2_with fail
   go_region_held3 (fun w'=>Ext w w'∧w'.cell? ⟨b,0,none⟩=some (.slice ap p.length cp)∧w'.cell? ⟨b,2,none⟩=some (.slice (some ⟨bv,ov,none⟩) M cv)∧w'.cell? ⟨bv,ov + j,none⟩=some (.slice a1 p.length c1)∧w'.cell? ⟨bv,ov + i,none⟩=some (.slice a2 p.length c2))
    (first | (with_reducible assumption) | exact HS.out _ HE.out.drew | exact HS.out _ (HE.out.drew.trans HxA.out))
    (first
     | (go_at_call 38
        refine HSb.out.mono ?_
        rintro e9 VA ⟨g9,rfl,ho9,hxa⟩
        have HxA:=Lib.hid hxa
        have Ho9:=Lib.hid ho9
        clear hxa ho9))
   have hxab:=(Ext.refl wr).drew.trans HxA.out
   have hq3:=hxab.qwM Hq.out
   have hqo:=hxab.own Hqo.out
   have hE3:=HE.out.trans hxab
   have hbase:=hE3.size
   have ho3:=Ho9.out.mono HE.out.drew.size
   rw [Hiv.out i] at ho3
   have hm3:i + 1 ≤ maxLen:=by unfold maxLen;omega
   have hm4:(i + 1) * 24 ≤ 140737488355328:=by omega
   have Hq3:=Lib.hid hq3;have HE3:=Lib.hid hE3;have Ho3:=Lib.hid ho3
   clear hq3 hE3 hxab ho3 d0 d2 d3 d4 q0 q2
   go_wp2_with (at_builtin;refine wpList_append_own _ rfl _ _ 30 rfl w.heap.size 37 j0 (.slice none 0 0) 1 24 Tryz.underlying30 hj hy0 hy1 hy2 rfl (by decide) _ _ _ rfl (hqo.alloc _) ⟨VA.heap.size,0,none⟩ 1 1 [.slice (some ⟨g9,0,none⟩) p.length p.length] rfl rfl (cell_one_new _ _ _) (by simp [Value.oneCell']) hm3 hm4 (by rw [World.size_alloc];omega) ?_;intro v7 V7 hown7 hgrow7 _)
   go_roundw
   case rel=>exact ⟨i + 1,by go_num,by omega,by rw [Hmd.out i hin];exact QsR.more HE3.out Hq3.out Hm.out Ho3.out (by rw [Hol.out];exact hown7) (by rw [Hol.out];exact hgrow7)⟩
   case measure=>simp [intOf];omega
  ·obtain rfl:i=n:=by omega
   have hik:¬ (i:Int) < (i:Int):=by omega
   have hm2:=hm.trans Hmf.out
   rw [hol]
   have Hq:=Lib.hid hq;have HE:=Lib.hid hE;have Hm:=Lib.hid hm2
   have Hol:=Lib.hid hol
   clear hq hE hm hm2 hol q0 q2
   go_wp2_with fail
   exact bodyPost_ret (v:=.tuple #[.slice a6 i c6,.int .i64 0]) (by simp [results,Tryz.results202,go_sem]) rfl ⟨_,rfl,out,by have:=Hq.out;rw [Hol.out] at this;exact this,Hm.out,HE.out⟩
theorem vcmp_c (u va vb : Value) (p : List Int) (rs : List Qw) (x y : List Rat) (w : World) (he : Env w) (hu : Vw w u p rs) (hp : Pr p p.length) (ha : Rd w va x) (hb : Rd w vb y) (hx : x.length=p.length) (hy : y.length=p.length) (hxf : ∀ q ∈ x,Ft 30 q) (hyf : ∀ q ∈ y,Ft 30 q) (hq : Quick p (subZ x y)) :
  Calls Tryz.prog 116 #[u,va,vb] w fun e w'=>e=.returned (.int .i64 (sgnT (tms p (dn (subZ x y)) (subZ x y))))∧Ext w w':=by
 have hpe:primesErr p=0∧p.length ≤ 100:=by rcases hp with ⟨e,_⟩ | ⟨e,_⟩ <;> rw [e] <;> decide
 obtain ⟨b,vp,vn,vs,nts,rfl,hbx,hpp,_,_,_⟩:=hu
 have hc:=sCompare_c vp va vb p x y w he hpp ha hb hpe.1 hpe.2 hx hy hxf hyf hq
 obtain ⟨ap,cp,rfl,_,_,_⟩:=hpp.parts
 obtain ⟨a1,c1,rfl,_,_,_⟩:=ha.parts
 obtain ⟨a2,c2,rfl,_,_,_⟩:=hb.parts
 generalize sgnT (tms p (dn (subZ x y)) (subZ x y))=z at *
 have q0:=hbx.c0
 have Hc:=Lib.hid hc
 clear hc hbx hpp ha hb hx hy hxf hyf hq hpe hp he
 go_enter Tryz.func116,Tryz.ntmps116
 go_wp2_with fail
 refine Hc.out.mono ?_
 rintro e w2 ⟨rfl,hx2⟩
 have Hx2:=Lib.hid hx2
 clear hx2
 go_wp2_with fail
 go_ret
 exact ⟨rfl,Hx2.out⟩
end Go.Proofs.YtipjmpdndokdlaaGreatDoor

namespace Go.Proofs.YtipjmpdndokdlaaGreatDoor
open Go.RowKit Go.Lib
/-- A byte of a number. -/
def Numb (b : UInt8) : Prop:=b=45 ∨ (48 ≤ b.toNat ∧ b.toNat ≤ 57)
/-- The bytes of a fraction's text. -/
def frL (r : Rat) : List UInt8:=if r.den=1 then itoa r.num else itoa r.num ++ 47 :: itoa (r.den : Int)
theorem frT_L (r : Rat) : frT r=⟨(frL r).toArray⟩:=by
 unfold frT frL
 split
 ·rfl
 ·unfold I
  apply ByteArray.ext
  apply Array.ext'
  simp
/-- What stands behind the prime. -/
def sfx (r : Rat) : List UInt8:=if r=1 then [] else if r.den=1 ∧ 0 < r.num then 94 :: frL r else 94 :: 40 :: (frL r ++ [41])
/-- One item: the prime (as a text) and what stands behind it, if there is something. -/
def itm (b : List UInt8) (r : Rat) : Option (List UInt8):=if r.num=0 then none else some (b ++ sfx r)
def itms (p : List Int) (x : List Rat) : List (List UInt8):=(p.zip x).filterMap fun e => itm (itoa e.1) e.2
def txt (p : List Int) (x : List Rat) : List UInt8:=if itms p x=[] then [49] else Lib.join (itms p x) [32]
/-- Two lists with a byte between them are told by their sum, if neither first part has the byte. -/
theorem split_at {c : UInt8} : ∀ {a b x y : List UInt8},(∀ e ∈ a,e ≠ c) → (∀ e ∈ b,e ≠ c) → a ++ c :: x=b ++ c :: y → a=b ∧ x=y
 | [],[],_,_,_,_,h=>⟨rfl,by simpa using h⟩
 | [],e :: b,_,_,_,hb,h=>by
  simp only [List.nil_append,List.cons_append,List.cons.injEq] at h
  exact absurd h.1.symm (hb e (List.mem_cons_self ..))
 | e :: a,[],_,_,ha,_,h=>by
  simp only [List.nil_append,List.cons_append,List.cons.injEq] at h
  exact absurd h.1 (ha e (List.mem_cons_self ..))
 | e :: a,f :: b,_,_,ha,hb,h=>by
  simp only [List.cons_append,List.cons.injEq] at h
  have:=split_at (fun z hz=>ha z (List.mem_cons_of_mem _ hz)) (fun z hz=>hb z (List.mem_cons_of_mem _ hz)) h.2
  exact ⟨by rw [h.1,this.1],this.2⟩
theorem no_split {c : UInt8} {a b x : List UInt8} (ha : ∀ e ∈ b,e ≠ c) (h : a ++ c :: x=b) : False:=ha c (by rw [← h];simp) rfl
theorem join_cons (a b : List UInt8) (l : List (List UInt8)) : Lib.join (a :: b :: l) [32]=a ++ 32 :: Lib.join (b :: l) [32]:=by
 unfold Lib.join
 rw [List.intercalate_cons_cons]
 simp
theorem join_sing (a : List UInt8) : Lib.join [a] [32]=a:=by
 unfold Lib.join
 exact List.intercalate_singleton
theorem join_inj : ∀ {l m : List (List UInt8)},(∀ x ∈ l,∀ e ∈ x,e ≠ 32) → (∀ x ∈ m,∀ e ∈ x,e ≠ 32) → l ≠ [] → m ≠ [] → Lib.join l [32]=Lib.join m [32] → l=m
 | [],_,_,_,h,_,_=>absurd rfl h
 | _,[],_,_,_,h,_=>absurd rfl h
 | [a],[b],_,_,_,_,h=>by rw [join_sing,join_sing] at h;rw [h]
 | [a],b :: c :: m,ha,_,_,_,h=>by
  rw [join_sing,join_cons] at h
  exact (no_split (ha a (List.mem_cons_self ..)) h.symm).elim
 | a :: b :: l,[c],_,hc,_,_,h=>by
  rw [join_sing,join_cons] at h
  exact (no_split (hc c (List.mem_cons_self ..)) h).elim
 | a :: b :: l,c :: d :: m,ha,hc,_,_,h=>by
  rw [join_cons,join_cons] at h
  obtain ⟨h1,h2⟩:=split_at (ha a (List.mem_cons_self ..)) (hc c (List.mem_cons_self ..)) h
  rw [h1,join_inj (fun x hx=>ha x (List.mem_cons_of_mem _ hx)) (fun x hx=>hc x (List.mem_cons_of_mem _ hx)) (by simp) (by simp) h2]
theorem itoa_numb (z : Int) : ∀ b ∈ itoa z,Numb b:=by
 intro b hb
 unfold itoa at hb
 split at hb
 ·rcases List.mem_cons.1 hb with e | e
  ·exact .inl e
  ·exact .inr (Dec.dig_dec _ b e)
 ·exact .inr (Dec.dig_dec _ b hb)
theorem frL_numb (r : Rat) : ∀ b ∈ frL r,Numb b ∨ b=47:=by
 unfold frL
 intro b hb
 split at hb
 ·exact .inl (itoa_numb _ b hb)
 ·rcases List.mem_append.1 hb with h | h
  ·exact .inl (itoa_numb _ b h)
  ·rcases List.mem_cons.1 h with h | h
   ·exact .inr h
   ·exact .inl (itoa_numb _ b h)
theorem numb_ne {b : UInt8} (h : Numb b) : b ≠ 47 ∧ b ≠ 32 ∧ b ≠ 40 ∧ b ≠ 41:=by
 rcases h with rfl | h
 ·decide
 ·refine ⟨?_,?_,?_,?_⟩ <;> (rintro rfl;revert h;decide)
theorem frL_inj {a b : Rat} (h : frL a=frL b) : a=b:=by
 unfold frL at h
 have na:∀ z:Int,∀ e ∈ itoa z,e ≠ 47:=fun z e he=>(numb_ne (itoa_numb z e he)).1
 split at h
 ·rename_i h1
  split at h
  ·rename_i h2
   exact Rat.ext (itoa_inj h) (by rw [h1,h2])
  ·exact (no_split (na _) h.symm).elim
 ·split at h
  ·exact (no_split (na _) h).elim
  ·obtain ⟨h1,h2⟩:=split_at (na _) (na _) h
   exact Rat.ext (itoa_inj h1) (by have:=itoa_inj h2;omega)
theorem sfx_inj {a b : Rat} (h : sfx a=sfx b) : a=b:=by
 have n40:∀ r:Rat,∀ l,frL r ≠ 40 :: l:=fun r l e=>by
  have:=frL_numb r 40 (by rw [e];exact List.mem_cons_self ..)
  rcases this with g | g
  ·exact (numb_ne g).2.2.1 rfl
  ·exact absurd g (by decide)
 unfold sfx at h
 split at h
 ·rename_i h1
  split at h
  ·rename_i h2;rw [h1,h2]
  ·split at h <;> simp at h
 ·split at h
  ·split at h
   ·simp at h
   ·split at h
    ·exact frL_inj (by simpa using h)
    ·simp only [List.cons.injEq,true_and] at h
     exact absurd h (n40 _ _)
  ·split at h
   ·simp at h
   ·split at h
    ·simp only [List.cons.injEq,true_and] at h
     exact absurd h.symm (n40 _ _)
    ·simp only [List.cons.injEq,true_and,List.append_cancel_right_eq] at h
     exact frL_inj h
theorem sfx_no (r : Rat) : ∀ b ∈ sfx r,b ≠ 32:=by
 have hf:∀ b ∈ frL r,b ≠ 32:=fun b hb=>by
  rcases frL_numb r b hb with g | g
  ·exact (numb_ne g).2.1
  ·rw [g];decide
 intro b hb
 unfold sfx at hb
 split at hb
 ·cases hb
 ·split at hb
  ·rcases List.mem_cons.1 hb with g | g
   ·rw [g];decide
   ·exact hf b g
  ·rcases List.mem_cons.1 hb with g | g
   ·rw [g];decide
   ·rcases List.mem_cons.1 g with g | g
    ·rw [g];decide
    ·rcases List.mem_append.1 g with g | g
     ·exact hf b g
     ·rw [List.mem_singleton.1 g];decide
/-- The items by the primes' first bytes. -/
def itmB (bs : List UInt8) (x : List Rat) : List (List UInt8):=(bs.zip x).filterMap fun e => itm [e.1] e.2
theorem itmB_cons (b : UInt8) (bs : List UInt8) (r : Rat) (x : List Rat) : itmB (b :: bs) (r :: x)=(match itm [b] r with | none => itmB bs x | some z => z :: itmB bs x):=by
 unfold itmB
 rw [List.zip_cons_cons,List.filterMap_cons]
 split <;> rename_i h <;> rw [h]
theorem itmB_head : ∀ {bs : List UInt8} {x : List Rat} {z : List UInt8},z ∈ itmB bs x → ∃ b l,z=b :: l ∧ b ∈ bs
 | [],_,_,h=>by simp [itmB] at h
 | _ :: _,[],_,h=>by simp [itmB] at h
 | b :: bs,r :: x,z,h=>by
  rw [itmB_cons] at h
  have key:z ∈ itmB bs x→∃ c l,z=c :: l∧c ∈ b :: bs:=fun g=>by
   obtain ⟨c,l,e,hc⟩:=itmB_head g
   exact ⟨c,l,e,List.mem_cons_of_mem _ hc⟩
  unfold itm at h
  split at h
  ·exact key h
  ·rename_i y hy
   split at hy
   ·cases hy
   ·cases hy
    rcases List.mem_cons.1 h with g | g
    ·exact ⟨b,sfx r,by rw [g];rfl,List.mem_cons_self ..⟩
    ·exact key g
theorem itmB_inj : ∀ {bs : List UInt8} {x y : List Rat},bs.Nodup → x.length=bs.length → y.length=bs.length → itmB bs x=itmB bs y → x=y
 | [],[],[],_,_,_,_=>rfl
 | b :: bs,r :: x,s :: y,hn,hx,hy,h=>by
  rw [List.nodup_cons] at hn
  have ih:=itmB_inj (bs:=bs) (x:=x) (y:=y) hn.2 (by simpa using hx) (by simpa using hy)
  rw [itmB_cons,itmB_cons] at h
  have out:∀ (z:List UInt8) (l:List (List UInt8)) (w:List Rat),itmB bs w=([b] ++ z) :: l→False:=fun z l w e=>by
   obtain ⟨c,m,e2,hc⟩:=itmB_head (bs:=bs) (x:=w) (z:=[b] ++ z) (by rw [e];exact List.mem_cons_self ..)
   cases e2
   exact hn.1 hc
  unfold itm at h
  by_cases h1:r.num=0
  ·by_cases h2:s.num=0
   ·rw [if_pos h1,if_pos h2] at h
    rw [ih h,Rat.num_eq_zero.1 h1,Rat.num_eq_zero.1 h2]
   ·rw [if_pos h1,if_neg h2] at h
    exact (out _ _ _ h).elim
  ·by_cases h2:s.num=0
   ·rw [if_neg h1,if_pos h2] at h
    exact (out _ _ _ h.symm).elim
   ·rw [if_neg h1,if_neg h2] at h
    simp only [List.cons.injEq,List.cons_append,List.nil_append,true_and] at h
    rw [sfx_inj h.1,ih h.2]
theorem itms_eq : ∀ {p : List Int} {bs : List UInt8},p.map itoa=bs.map (fun b => [b]) → ∀ x,itms p x=itmB bs x
 | [],[],_,_=>rfl
 | [],_ :: _,h,_=>by cases h
 | _ :: _,[],h,_=>by cases h
 | q :: p,b :: bs,h,x=>by
  cases x with
  | nil=>rfl
  | cons r x =>
   simp only [List.map_cons,List.cons.injEq] at h
   have ih:=itms_eq h.2 x
   unfold itms itmB at ih ⊢
   rw [List.zip_cons_cons,List.zip_cons_cons,List.filterMap_cons,List.filterMap_cons]
   dsimp only
   rw [h.1,ih]
theorem itms_B {p : List Int} (hp : p=[2,3] ∨ p=[2,3,5]) : ∃ bs : List UInt8,bs.Nodup ∧ bs.length=p.length ∧ (∀ x,itms p x=itmB bs x) ∧ ∀ b ∈ bs,b ≠ 32 ∧ b ≠ 49:=by
 have e2:itoa 2=[50]:=by unfold itoa;rw [if_neg (by omega),decDigits_one (by decide)];rfl
 have e3:itoa 3=[51]:=by unfold itoa;rw [if_neg (by omega),decDigits_one (by decide)];rfl
 have e5:itoa 5=[53]:=by unfold itoa;rw [if_neg (by omega),decDigits_one (by decide)];rfl
 rcases hp with rfl | rfl
 ·exact ⟨[50,51],by decide,rfl,itms_eq (by rw [List.map_cons,List.map_cons,e2,e3];rfl),by decide⟩
 ·exact ⟨[50,51,53],by decide,rfl,itms_eq (by rw [List.map_cons,List.map_cons,List.map_cons,e2,e3,e5];rfl),by decide⟩
theorem itmB_no {bs : List UInt8} (hb : ∀ b ∈ bs,b ≠ 32 ∧ b ≠ 49) : ∀ {x : List Rat},∀ z ∈ itmB bs x,∀ e ∈ z,e ≠ 32:=by
 induction bs with
 | nil=>intro x z h;simp [itmB] at h
 | cons b bs ih =>
  intro x z h
  cases x with
  | nil=>simp [itmB] at h
  | cons r x =>
   have ih2:=fun z hz=>ih (fun c hc=>hb c (List.mem_cons_of_mem _ hc)) (x:=x) z hz
   rw [itmB_cons] at h
   unfold itm at h
   split at h
   ·exact ih2 z h
   ·rename_i y hy
    split at hy
    ·cases hy
    ·cases hy
     rcases List.mem_cons.1 h with g | g
     ·intro e he
      rw [g] at he
      rcases List.mem_cons.1 he with k | k
      ·rw [k];exact (hb b (List.mem_cons_self ..)).1
      ·exact sfx_no r e k
     ·exact ih2 z g
theorem join_head {b : UInt8} {l : List UInt8} {m : List (List UInt8)} : ∃ t,Lib.join ((b :: l) :: m) [32]=b :: t:=by
 cases m with
 | nil=>exact ⟨l,join_sing _⟩
 | cons c m=>exact ⟨_,join_cons _ _ _⟩
/-- The text tells the size. -/
theorem txt_inj {p : List Int} {x y : List Rat} (hp : p=[2,3] ∨ p=[2,3,5]) (hx : x.length=p.length) (hy : y.length=p.length) (h : txt p x=txt p y) : x=y:=by
 obtain ⟨bs,hn,hl,he,hb⟩:=itms_B hp
 unfold txt at h
 rw [he x,he y] at h
 have out:∀ w:List Rat,itmB bs w ≠ []→[49]=Lib.join (itmB bs w) [32]→False:=fun w h1 h2=>by
  cases hw:itmB bs w with
  | nil=>exact h1 hw
  | cons z m =>
   obtain ⟨b,l,e,hbm⟩:=itmB_head (bs:=bs) (x:=w) (z:=z) (by rw [hw];exact List.mem_cons_self ..)
   rw [hw,e] at h2
   obtain ⟨t,ht⟩:=join_head (b:=b) (l:=l) (m:=m)
   rw [ht] at h2
   cases h2
   exact (hb _ hbm).2 rfl
 by_cases h1:itmB bs x=[]
 ·by_cases h2:itmB bs y=[]
  ·exact itmB_inj hn (hx.trans hl.symm) (hy.trans hl.symm) (h1.trans h2.symm)
  ·rw [if_pos h1,if_neg h2] at h
   exact (out y h2 h).elim
 ·by_cases h2:itmB bs y=[]
  ·rw [if_neg h1,if_pos h2] at h
   exact (out x h1 h.symm).elim
  ·rw [if_neg h1,if_neg h2] at h
   exact itmB_inj hn (hx.trans hl.symm) (hy.trans hl.symm) (join_inj (fun z hz=>itmB_no hb z hz) (fun z hz=>itmB_no hb z hz) h1 h2 h)
end Go.Proofs.YtipjmpdndokdlaaGreatDoor
