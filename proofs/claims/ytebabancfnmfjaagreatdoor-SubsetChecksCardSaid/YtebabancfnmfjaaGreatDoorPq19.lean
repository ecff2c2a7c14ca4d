/- Plain: which lists of indices a subset takes, and what it is. Plain: modes again, the subset of all notes, the collection of a scale's own notes, the sum of the steps. Plain: the classes of a right scale: the intervals of so many steps, their different sizes in order. -/
import Derived.Test.YtebabancfnmfjaaGreatDoorPq16
import Derived.Test.YtebabancfnmfjaaGreatDoorPq17
import Derived.Test.YtebabancfnmfjaaGreatDoorShelfF
import Derived.Test.YtebabancfnmfjaaGreatDoorPq18
namespace Go.Proofs.YtebabancfnmfjaaGreatDoor
section
open Go.RowKit Go.Lib
def zj2 (n:Nat)(l:List Int)(k:Nat):Int :=
 if (l[k]?).getD 0<0∨(n:Int)≤(l[k]?).getD 0 then 3 else if 0<k∧(l[k]?).getD 0≤(l[k - 1]?).getD 0 then 6 else 0
def zj3 (n:Nat)(l:List Int)(k:Nat):Nat→Int
 | 0=>0
 | m+1=>if zj2 n l k=0 then zj3 n l (k+1) m else zj2 n l k
def zj4 (n:Nat)(l:List Int):Int:=if l=[] then 13 else zj3 n l 0 l.length
theorem zj5 {n:Nat}{l:List Int}{k:Nat}(hk:k<l.length)(h:zj2 n l k=0):zj3 n l k (l.length - k)=zj3 n l (k+1) (l.length - (k+1)):=by
 rw [show l.length - k=(l.length - (k+1))+1 by omega,zj3,if_pos h]
theorem zj6 {n:Nat}{l:List Int}{k:Nat}(hk:k<l.length)(h:zj2 n l k ≠ 0):zj3 n l k (l.length - k)=zj2 n l k:=by
 rw [show l.length - k=(l.length - (k+1))+1 by omega,zj3,if_neg h]
theorem sub_all {n:Nat}{l:List Int}:∀ (m k:Nat),zj3 n l k m=0→∀ i,k≤i→i<k+m→zj2 n l i=0
 | 0,k,_,i,h1,h2=>by omega
 | m+1,k,h,i,h1,h2=>by
  rw [zj3] at h;by_cases e:zj2 n l k=0
  ·rw [if_pos e] at h;by_cases hi:i=k
   ·rw [hi];exact e
   ·exact sub_all m (k+1) h i (by omega) (by omega)
  ·rw [if_neg e] at h;exact absurd h e
theorem zj7 {n:Nat}{l:List Int}{k:Nat}(h:zj2 n l k=0):(0≤(l[k]?).getD 0∧(l[k]?).getD 0<(n:Int))∧(0<k→(l[k - 1]?).getD 0<(l[k]?).getD 0):=by
 unfold zj2 at h;split at h
 ·cases h
 ·split at h
  ·cases h
  ·rename_i h1 h2;exact ⟨by omega,fun hk=>by omega⟩
theorem zj8 {n:Nat}{l:List Int}(h:zj3 n l 0 l.length=0):(∀ x∈l,0≤x∧x<(n:Int))∧l.Pairwise (·<·):=by
 have ha:=fun i (hi:i<l.length)=>zj7 (sub_all l.length 0 h i (Nat.zero_le _) (by omega));refine ⟨fun x hx=>?_,?_⟩
 ·obtain ⟨i,hi,rfl⟩:=List.mem_iff_getElem.1 hx;have:=(ha i hi).1;rw [List.getElem?_eq_getElem hi] at this;exact this
 ·rw [List.pairwise_iff_getElem];have key:∀ d i (hi:i+d+1<l.length),l[i]'(by omega)<l[i+d+1]:=by
   intro d;induction d with
   | zero =>
    intro i hi
    have:=(ha (i+1) hi).2 (by omega)
    rw [Nat.add_sub_cancel,List.getElem?_eq_getElem hi,List.getElem?_eq_getElem (by omega)] at this
    exact this
   | succ d ih =>
    intro i hi
    have h1:=ih i (by omega)
    have:=(ha (i+d+1+1) hi).2 (by omega)
    rw [Nat.add_sub_cancel,List.getElem?_eq_getElem (show i+d+1+1<l.length by omega),List.getElem?_eq_getElem (show i+d+1<l.length by omega)] at this
    exact Int.lt_trans h1 this
  intro i j hi hj hij;obtain ⟨d,rfl⟩:∃ d,j=i+d+1:=⟨j - i - 1,by omega⟩;exact key d i hj
def zj9 (n:Nat)(l:List Int):List Int:=l.tail++[l.headD 0+(n:Int)]
def zjA (p:List Int)(N:List (List Rat))(l:List Int):List (List Rat):=(zj9 N.length l).map fun k=>zew (nt p N k) (nt p N (l.headD 0))
theorem zjB (n:Nat){l:List Int}(h:l ≠ []):(zj9 n l).length=l.length:=by
 cases l with
 | nil=>exact absurd rfl h
 | cons a l=>simp [zj9]
theorem zjC {n:Nat}{l:List Int}(h:l ≠ [])(hb:∀ x∈l,0≤x∧x<(n:Int))(hu:l.Pairwise (·<·)):(l.headD 0::zj9 n l).Pairwise (·<·):=by
 cases l with
 | nil=>exact absurd rfl h
 | cons a l =>
  unfold zj9
  simp only [List.headD_cons,List.tail_cons]
  rw [List.pairwise_cons] at hu
  rw [List.pairwise_cons,List.pairwise_append]
  have ha:=hb a (List.mem_cons_self ..)
  refine ⟨fun x hx=>?_,hu.2,List.pairwise_singleton _ _,fun x hx y hy=>?_⟩
  ·rcases List.mem_append.1 hx with e | e
   ·exact hu.1 x e
   ·rw [List.mem_singleton] at e;omega
  ·rw [List.mem_singleton] at hy
   have:=hb x (List.mem_cons_of_mem _ hx)
   omega
theorem zjD {p:List Int}{N:List (List Rat)}(h:Wd p N){l:List Int}(hl:l ≠ [])(hl10:l.length≤60)(hb:∀ x∈l,0≤x∧x<(N.length:Int))(hu:l.Pairwise (·<·)):Wd p (zjA p N l) :=
 h.pick (l.headD 0) (zj9 N.length l) (by rw [zjB _ hl];exact hl10) (zjC hl hb hu) (by
  unfold zj9;rw [List.length_append,List.length_singleton,Nat.add_sub_cancel,List.getElem?_append_right (Nat.le_refl _),Nat.sub_self];rfl)
theorem zjE (b off c:Nat)(l:List Int)(w:World)(hl:l.length≤1000000)(hc:∀ j z,l[j]?=some z→w.cell? ⟨b,off+j,none⟩=some (.int .i64 z)) :
  Calls Tryz.prog 37 #[.slice (some ⟨b,off,none⟩) l.length c] w fun e w'=>∃ u,e=.returned u∧zfh w' w.heap.size u l∧u ≠ .slice none 0 0∧Ext w w':=by
 obtain ⟨i0,hi,hz0,hz1,hz2⟩:=info_parts zfg;have hcell:∀ j u,(zap l)[j]?=some u→w.cell? ⟨b,off+j,none⟩=some u:=fun j u hu=>by
  unfold zap at hu;rw [List.getElem?_map] at hu
  cases hz:l[j]? with
  | none=>rw [hz] at hu;cases hu
  | some z=>rw [hz] at hu;cases hu;exact hc j z hz
 refine (AnyE.slices_Clone Tryz.lCloneI i0 (.int .i64 0) 1 8 hi hz0 hz1 hz2 rfl (by decide) Tryz.sizeOf3 b off l.length c (zap l) w (by rw [zar];omega) (by unfold maxLen;omega) (by omega) hcell (by simp [zap,Value.oneCell'])).mono fun e w' ⟨v',he,ho,hn,hb⟩=>⟨v',he,ho,hn,hb⟩
end
section
def zjF (n:Nat):List Int:=(List.range n).map fun (i:Nat)=>(i:Int)
theorem zjG {n:Nat}(h0:0<n):zj9 n (zjF n)=(List.range n).map fun (i:Nat)=>(0:Int)+(i:Int)+1:=by
 obtain ⟨m,rfl⟩:∃ m,n=m+1:=⟨n - 1,by omega⟩;have e:zjF (m+1)=0::(List.range m).map fun (i:Nat)=>(i:Int)+1:=by
  unfold zjF;rw [List.range_succ_eq_map,List.map_cons,List.map_map];rfl
 unfold zj9;rw [e,List.tail_cons,List.headD_cons,List.range_succ,List.map_append];have e2:((List.range m).map fun (i:Nat)=>(i:Int)+1)=(List.range m).map fun (i:Nat)=>(0:Int)+(i:Int)+1:=List.map_congr_left fun i _=>by omega
 rw [e2,List.map_singleton,show (0:Int)+((m+1:Nat):Int)=0+(m:Int)+1 by omega]
section
variable {p : List Int} {N : List (List Rat)} (h : Wd p N)
include h
omit h in
theorem zjH {i:Nat}(hi:i<N.length):N[i]?=some (zat p N (i+1)):=by
 unfold zat;rw [List.getElem?_cons_succ,List.getElem?_eq_getElem hi,Option.getD_some]
theorem Wd.md_zero : md p N 0=N:=by
 refine List.ext_getElem? fun i=>?_;by_cases hi:i<N.length
 ·have e:(0:Int)+(i:Int)+1=((i+1:Nat):Int):=by omega
  have hz:=ziw (nt p N ((i+1:Nat):Int));rw [h.ntlen] at hz;rw [ziE hi,e,h.nt_zero,hz,h.nt_low (by omega),zjH (p:=p) hi]
 ·rw [List.getElem?_eq_none (by rw [ziD];omega),List.getElem?_eq_none (by omega)]
theorem Wd.sub_all : zjA p N (zjF N.length)=N:=by
 have h0:=h.pos;have e:(zjF N.length).headD 0=0:=by
  obtain ⟨m,hm⟩:∃ m,N.length=m+1:=⟨N.length - 1,by omega⟩;rw [hm];unfold zjF;rw [List.range_succ_eq_map];rfl
 unfold zjA;rw [zjG h0,e];exact h.md_zero
theorem Wd.zlow {i:Nat}(hi:i<N.length):rst p (zat p N i)=zat p N i:=by
 obtain ⟨n,hn⟩:=h.dif;have hl:=h.zlen (Nat.le_of_lt hi);have hni:=hn _ (h.zmem (Nat.le_of_lt hi)) _ (List.mem_cons_self ..);rw [← hl,ziw] at hni;obtain ⟨a,tl,e,hl2,hb⟩:=ziN (by rw [hl];exact h.pr) hni;have hbd:=h.zbd hi;unfold rst;rw [e] at hl hbd ⊢;have hf:flP p (a::tl)=0:=by
  rw [zhO (by rw [hl];exact h.pr) hb,Int.eq_iff_le_and_ge];constructor
  ·have g1:=Rat.floor_le (sF p (a::tl) / 67108864);have:((sF p (a::tl) / 67108864).floor:Rat)<((1:Int):Rat):=(by rw [show ((1:Int):Rat)=1 from rfl];grind);have:=Rat.intCast_lt_intCast.1 this;omega
  ·show (0:Int)≤_;rw [Rat.le_floor_iff,show ((0:Int):Rat)=0 from rfl];grind
 rw [hf];exact zi1 _
theorem Wd.zov : rst p (ov (p.length - 1))=zer p.length:=by
 obtain ⟨n,hn⟩:=h.dif;have hl:=h.zlen (Nat.le_refl _);have hni:=hn _ (h.zmem (Nat.le_refl _)) _ (List.mem_cons_self ..);rw [← hl,ziw] at hni;rw [h.zlast] at hni hl;obtain ⟨a,tl,e,hl2,hb⟩:=ziN (by rw [hl];exact h.pr) hni;have hf:flP p (ov (p.length - 1))=1:=by
  have hs:=h.sov;rw [e] at hs hl ⊢;rw [zhO (by rw [hl];exact h.pr) hb,hs];decide +kernel
 unfold rst;rw [hf,ziR h.pr,zi0];exact zi1 _
theorem Wd.lw : Lw p 1 N:=by
 obtain ⟨n,hn⟩:=h.dif;refine ⟨h.pr,h.len,by omega,by omega,fun x hx=>?_,n,hn⟩;obtain ⟨i,hi,e⟩:=List.getElem_of_mem hx;have hz:=zjH (p:=p) hi;rw [List.getElem?_eq_getElem hi,e] at hz;rw [Option.some.inj hz,show ((1 * 67108864:Int):Rat)=67108864 from rfl];rcases Nat.lt_or_ge (i+1) N.length with g | g
 ·have:=h.zbd g;constructor <;> grind
 ·rw [show i+1=N.length by omega,h.zlast,h.sov];constructor <;> grind
end
def zjI (n:Nat)(x:List Rat):Prop:=(n=0∧Bx 128 x)∨(0<n∧n≤60∧Oc n x)
theorem zjI.nic {n:Nat}{x:List Rat}(h:zjI n x):Nic n x:=by
 rcases h with ⟨e,h⟩ | h
 ·exact .inl ⟨e,zeT h (by omega)⟩
 ·exact .inr h
theorem zjJ {n:Nat}{q:Int}{x:List Rat}(h:zjI n x):zjI n (shf q x):=by
 rcases h with ⟨e,h⟩ | ⟨h1,h2,h⟩
 ·exact .inl ⟨e,zi4 h⟩
 ·exact .inr ⟨h1,h2,zi5 h⟩
theorem zjK {n:Nat}{x y:List Rat}(hx:zjI n x)(hy:zjI n y)(hl:x.length=y.length):Nic n (zew x y):=by
 rcases hx with ⟨e,hx⟩ | ⟨h1,h2,hx⟩
 ·rcases hy with ⟨_,hy⟩ | ⟨g,_⟩
  ·exact .inl ⟨e,zeS hx hy hl⟩
  ·omega
 ·rcases hy with ⟨g,_⟩ | ⟨_,_,hy⟩
  ·omega
  ·exact .inr ⟨h1,h2,zeU hx hy hl⟩
def zjL (p:List Int)(l:List (List Rat)):Prop:=∃ n,∀ x∈zer p.length::l,∀ y∈zer p.length::l,zjI n (zew x y)
structure Wc (p:List Int)(N:List (List Rat)):Prop where
 wd:Wd p N
 d2:zjL p N
 few:N.length≤12
theorem zjM {p:List Int}{c:Int}{l N:List (List Rat)}(h:Lw p c l)(h2:zjL p l)(hc:ziQ p l N)(hl:l.length≤9):Wc p N:=by
 refine ⟨ziU h hc (by omega),?_,by have:=ziT h hc;omega⟩;obtain ⟨n,hn⟩:=h2;have key:∀ x∈zer p.length::N,∃ q,∃ z∈zer p.length::l,x=shf q z∧z.length=p.length:=fun x hx=>by
  rcases List.mem_cons.1 hx with rfl | hx
  ·exact ⟨0,_,List.mem_cons_self ..,(zi1 _).symm,ziu _⟩
  ·rcases (hc.2 x).1 hx with rfl | ⟨_,z,hz,rfl⟩
   ·exact ⟨1,_,List.mem_cons_self ..,ziR h.pr,ziu _⟩
   ·exact ⟨_,z,List.mem_cons_of_mem _ hz,rfl,h.len z hz⟩
 refine ⟨n,fun x hx y hy=>?_⟩;obtain ⟨q,z,hz,rfl,hl⟩:=key x hx;obtain ⟨r,u,hu,rfl,hl2⟩:=key y hy;rw [zi2 (hl.trans hl2.symm)];exact zjJ (hn z hz u hu)
def iv (p:List Int)(N:List (List Rat))(i d:Int):List Rat:=zew (nt p N (i+d)) (nt p N i)
section
variable {p : List Int} {N : List (List Rat)} (h : Wc p N)
include h
theorem Wc.ivlen (i d:Int):(iv p N i d).length=p.length:=by
 unfold iv;rw [ziv (by rw [h.wd.ntlen,h.wd.ntlen]),h.wd.ntlen]
theorem Wc.sF_iv (i d:Int):sF p (iv p N i d)=sF p (nt p N (i+d)) - sF p (nt p N i):=by
 unfold iv;exact zey _ _ _ (by rw [h.wd.ntlen,h.wd.ntlen])
theorem Wc.iv_nic : ∃ n,∀ i d,zjI n (iv p N i d):=by
 obtain ⟨n,hn⟩:=h.d2;refine ⟨n,fun i d=>?_⟩;have h0:=h.wd.pos;have hN:(0:Int)<(N.length:Int):=by omega
 have a1:=Int.emod_nonneg (i+d) (show (N.length:Int) ≠ 0 by omega);have a2:=Int.emod_lt_of_pos (i+d) hN;have b1:=Int.emod_nonneg i (show (N.length:Int) ≠ 0 by omega);have b2:=Int.emod_lt_of_pos i hN;unfold iv nt;rw [zi2 (by rw [h.wd.zlen (by omega),h.wd.zlen (by omega)])];exact zjJ (hn _ (h.wd.zmem (by omega)) _ (h.wd.zmem (by omega)))
theorem Wc.iv_sub_nic : ∃ n,∀ i d j e,Nic n (zew (iv p N i d) (iv p N j e)):=by
 obtain ⟨n,hn⟩:=h.iv_nic;exact ⟨n,fun i d j e=>zjK (hn i d) (hn j e) (by rw [h.ivlen,h.ivlen])⟩
theorem Wc.iv_inj {i d j e:Int}(g:sF p (iv p N i d)=sF p (iv p N j e)):iv p N i d=iv p N j e:=by
 obtain ⟨n,hn⟩:=h.iv_sub_nic;exact zeR (by rw [h.ivlen];exact h.wd.pr) (by rw [h.ivlen,h.ivlen]) (hn i d j e).nice g
theorem Wc.iv_shift (i d q:Int):iv p N (i+q * (N.length:Int)) d=iv p N i d:=by
 unfold iv;rw [show i+q * (N.length:Int)+d=(i+d)+q * (N.length:Int) by generalize q * (N.length:Int)=t;omega,h.wd.nt_shift,h.wd.nt_shift,zi2 (by rw [h.wd.ntlen,h.wd.ntlen]),Int.sub_self,zi1]
theorem Wc.iv_rem (i d:Int):iv p N (i % (N.length:Int)) d=iv p N i d:=by
 have:=h.iv_shift (i % (N.length:Int)) d (i / (N.length:Int));rw [← this];congr 1;have:=Int.emod_add_mul_ediv i (N.length:Int);rw [Int.mul_comm] at this;exact this
theorem Wc.iv_full (i:Int):iv p N i (N.length:Int)=ov (p.length - 1):=by
 have e:=h.wd.nt_shift i 1;rw [Int.one_mul] at e;have e2:=zi2 (q:=1) (r:=0) (x:=nt p N i) (y:=nt p N i) rfl;rw [zi1,zix,h.wd.ntlen] at e2;unfold iv;rw [e,e2,ziR h.wd.pr];rfl
theorem Wc.iv_none (i:Int):iv p N i 0=zer p.length:=by
 unfold iv;rw [Int.add_zero,zix,h.wd.ntlen]
theorem Wc.iv_bd {i d:Int}(h0:0≤d)(h1:d≤(N.length:Int)):0≤sF p (iv p N i d)∧sF p (iv p N i d)≤67108864:=by
 have e:=h.sF_iv i d;have ef:=h.sF_iv i (N.length:Int);rw [h.iv_full,h.wd.sov] at ef;constructor
 ·rcases (by omega:d=0∨0<d) with g | g
  ·rw [g,h.iv_none,ziA];exact Rat.le_refl
  ·have:=h.wd.nt_lt (k:=i) (l:=i+d) (by omega);grind
 ·rcases (by omega:d=(N.length:Int)∨d<(N.length:Int)) with g | g
  ·rw [g,h.iv_full,h.wd.sov];exact Rat.le_refl
  ·have:=h.wd.nt_lt (k:=i+d) (l:=i+(N.length:Int)) (by omega);grind
theorem Wc.iv_quick {i d:Int}(h0:0≤d)(h1:d≤(N.length:Int)):zh0 p (iv p N i d):=by
 obtain ⟨n,hn⟩:=h.iv_nic;have hb:=h.iv_bd (i:=i) h0 h1;refine zit (c:=1) (by rw [h.ivlen];exact h.wd.pr) (hn i d).nic (by omega) (by omega) ?_ ?_
 ·rw [show ((1 * 67108864:Int):Rat)=67108864 from rfl];grind
 ·rw [show ((1 * 67108864:Int):Rat)=67108864 from rfl];exact hb.2
theorem Wc.iv_sub_quick {i d j e:Int}(h0:0≤d)(h1:d≤(N.length:Int))(g0:0≤e)(g1:e≤(N.length:Int)):zh0 p (zew (iv p N i d) (iv p N j e)):=by
 obtain ⟨n,hn⟩:=h.iv_sub_nic;have hl:(iv p N i d).length=(iv p N j e).length:=by rw [h.ivlen,h.ivlen]
 have hb:=h.iv_bd (i:=i) h0 h1;have hc:=h.iv_bd (i:=j) g0 g1;have hs:=zey p _ _ hl;refine zit (c:=1) (by rw [ziv hl,h.ivlen];exact h.wd.pr) (hn i d j e) (by omega) (by omega) ?_ ?_
 ·rw [show ((1 * 67108864:Int):Rat)=67108864 from rfl];grind
 ·rw [show ((1 * 67108864:Int):Rat)=67108864 from rfl];grind
theorem Wc.iv_sgn (i d j e:Int):ze5 (tms p (dn (zew (iv p N i d) (iv p N j e))) (zew (iv p N i d) (iv p N j e)))=sgQ (sF p (iv p N i d) - sF p (iv p N j e)):=by
 obtain ⟨n,hn⟩:=h.iv_sub_nic;have hl:(iv p N i d).length=(iv p N j e).length:=by rw [h.ivlen,h.ivlen]
 rw [zeO (by rw [ziv hl,h.ivlen];exact h.wd.pr) (hn i d j e).nice,zey p _ _ hl]
end
def zjN (p:List Int)(x:List Rat):List (List Rat)→List (List Rat)
 | []=>[x]
 | y::t=>if sF p y<sF p x then y::zjN p x t else if y=x then y::t else x::y::t
theorem zjO {p:List Int}{x z:List Rat}:∀ {l:List (List Rat)},z∈zjN p x l ↔ z=x∨z∈l
 | []=>by simp [zjN]
 | y::t=>by
  unfold zjN;split
  ·rw [List.mem_cons,zjO (l:=t),List.mem_cons];constructor
   ·rintro (e | e | e) <;> simp [e]
   ·rintro (e | e | e) <;> simp [e]
  ·split
   ·rename_i e;rw [List.mem_cons];constructor
    ·exact fun g=>.inr g
    ·rintro (g | g)
     ·exact .inl (g.trans e.symm)
     ·exact g
   ·rw [List.mem_cons]
theorem zjP {p:List Int}{x:List Rat}:∀ {l:List (List Rat)},Srt p l→(∀ y∈l,sF p x=sF p y→x=y)→Srt p (zjN p x l)
 | [],_,_=>by unfold zjN Srt;simp
 | y::t,hs,hi=>by
  have hs':=hs;unfold Srt at hs';rw [List.pairwise_cons] at hs';unfold zjN;split
  ·rename_i hlt;unfold Srt;rw [List.pairwise_cons];refine ⟨fun z hz=>?_,zjP (l:=t) hs'.2 fun z hz=>hi z (List.mem_cons_of_mem _ hz)⟩;rcases zjO.1 hz with rfl | hz
   ·exact hlt
   ·exact hs'.1 z hz
  ·split
   ·exact hs
   ·rename_i h1 h2;have hlt:sF p x<sF p y:=by
     have:sF p x ≠ sF p y:=fun e=>h2 (hi y (List.mem_cons_self ..) e).symm;grind
    unfold Srt;rw [List.pairwise_cons];refine ⟨fun z hz=>?_,hs⟩;rcases List.mem_cons.1 hz with rfl | hz
    ·exact hlt
    ·have:=hs'.1 z hz;grind
theorem zjQ {p:List Int}{x:List Rat}:∀ (l:List (List Rat)),(zjN p x l).length≤l.length+1
 | []=>by simp [zjN]
 | y::t=>by
  have:=zjQ (p:=p) (x:=x) t;unfold zjN;split
  ·simp only [List.length_cons];omega
  ·split <;> simp
def zjR (p:List Int)(N:List (List Rat))(d:Int):Nat→List (List Rat)
 | 0=>[]
 | n+1=>zjN p (iv p N (n:Int) d) (zjR p N d n)
def cls (p:List Int)(N:List (List Rat))(d:Int):List (List Rat):=zjR p N d N.length
theorem zjS {p:List Int}{N:List (List Rat)}{d:Int}{x:List Rat}:∀ {n:Nat},x∈zjR p N d n ↔ ∃ i:Nat,i<n∧x=iv p N (i:Int) d
 | 0=>by simp [zjR]
 | n+1=>by
  unfold zjR;rw [zjO,zjS (n:=n)];constructor
  ·rintro (e | ⟨i,hi,e⟩)
   ·exact ⟨n,by omega,e⟩
   ·exact ⟨i,by omega,e⟩
  ·rintro ⟨i,hi,e⟩;rcases (by omega:i=n∨i<n) with g | g
   ·left;rw [e,g]
   ·exact .inr ⟨i,g,e⟩
theorem zjT {p:List Int}{N:List (List Rat)}{d:Int}:∀ (n:Nat),(zjR p N d n).length≤n
 | 0=>by simp [zjR]
 | n+1=>by
  have:=zjT (p:=p) (N:=N) (d:=d) n;have:=zjQ (p:=p) (x:=iv p N (n:Int) d) (zjR p N d n);unfold zjR;omega
section
variable {p : List Int} {N : List (List Rat)} (h : Wc p N)
include h
theorem Wc.clsN_srt (d:Int):∀ n,Srt p (zjR p N d n)
 | 0=>by unfold zjR Srt;simp
 | n+1=>by
  unfold zjR;refine zjP (Wc.clsN_srt d n) fun y hy e=>?_;obtain ⟨i,_,rfl⟩:=zjS.1 hy;exact h.iv_inj e
theorem Wc.cls_srt (d:Int):Srt p (cls p N d):=h.clsN_srt d _
omit h in
theorem zjU {d:Int}:(cls p N d).length≤N.length:=zjT _
theorem Wc.cls_mem {d:Int}{x:List Rat}:x∈cls p N d ↔ ∃ i:Int,x=iv p N i d:=by
 unfold cls;rw [zjS];constructor
 ·rintro ⟨i,_,e⟩;exact ⟨_,e⟩
 ·rintro ⟨i,e⟩;have h0:=h.wd.pos;have a1:=Int.emod_nonneg i (show (N.length:Int) ≠ 0 by omega);have a2:=Int.emod_lt_of_pos i (show (0:Int)<(N.length:Int) by omega);refine ⟨(i % (N.length:Int)).toNat,by omega,?_⟩;rw [Int.toNat_of_nonneg a1,h.iv_rem];exact e
theorem Wc.cls_pos (d:Int):0<(cls p N d).length:=List.length_pos_of_mem (h.cls_mem.2 ⟨0,rfl⟩)
theorem Wc.cls_uniq {d:Int}{L:List (List Rat)}(hs:Srt p L)(hm:∀ x,x∈L ↔ ∃ i:Nat,i<N.length∧x=iv p N (i:Int) d):L=cls p N d :=
 zib hs (h.cls_srt d) fun x=>by rw [hm,cls,zjS]
theorem Wc.cls_lt {d:Int}{x:List Rat}(hx:x∈cls p N d):x.length=p.length:=by
 obtain ⟨i,e⟩:=h.cls_mem.1 hx;rw [e,h.ivlen]
end
end
end Go.Proofs.YtebabancfnmfjaaGreatDoor
