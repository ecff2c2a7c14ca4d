/- Plain: the classes of a right scale: the intervals of so many steps, their different sizes in order. -/
import Derived.Test.YtebabancfnmfjaaGreatDoorPm23
namespace Go.Proofs.YtebabancfnmfjaaGreatDoor
def zlj (n:Nat)(x:List Rat):Prop:=(n=0∧Bx 128 x)∨(0<n∧n≤60∧Oc n x)
theorem zlj.nic {n:Nat}{x:List Rat}(h:zlj n x):Nic n x:=by
 rcases h with ⟨e,h⟩ | h
 ·exact .inl ⟨e,zeU h (by omega)⟩
 ·exact .inr h
theorem zlk {n:Nat}{q:Int}{x:List Rat}(h:zlj n x):zlj n (shf q x):=by
 rcases h with ⟨e,h⟩ | ⟨h1,h2,h⟩
 ·exact .inl ⟨e,ziL h⟩
 ·exact .inr ⟨h1,h2,ziM h⟩
theorem zll {n:Nat}{x y:List Rat}(hx:zlj n x)(hy:zlj n y)(hl:x.length=y.length):Nic n (zex x y):=by
 rcases hx with ⟨e,hx⟩ | ⟨h1,h2,hx⟩
 ·rcases hy with ⟨_,hy⟩ | ⟨g,_⟩
  ·exact .inl ⟨e,zeT hx hy hl⟩
  ·omega
 ·rcases hy with ⟨g,_⟩ | ⟨_,_,hy⟩
  ·omega
  ·exact .inr ⟨h1,h2,zeV hx hy hl⟩
def zlm (p:List Int)(l:List (List Rat)):Prop:=∃ n,∀ x∈zer p.length::l,∀ y∈zer p.length::l,zlj n (zex x y)
structure Wc (p:List Int)(N:List (List Rat)):Prop where
 wd:Wd p N
 d2:zlm p N
 few:N.length≤12
def iv (p:List Int)(N:List (List Rat))(i d:Int):List Rat:=zex (nt p N (i+d)) (nt p N i)
section
variable {p : List Int} {N : List (List Rat)} (h : Wc p N)
include h
theorem Wc.ivlen (i d:Int):(iv p N i d).length=p.length:=by
 unfold iv;rw [ziC (by rw [h.wd.ntlen,h.wd.ntlen]),h.wd.ntlen]
theorem Wc.sF_iv (i d:Int):sF p (iv p N i d)=sF p (nt p N (i+d)) - sF p (nt p N i):=by
 unfold iv;exact zez _ _ _ (by rw [h.wd.ntlen,h.wd.ntlen])
theorem Wc.iv_nic : ∃ n,∀ i d,zlj n (iv p N i d):=by
 obtain ⟨n,hn⟩:=h.d2;refine ⟨n,fun i d=>?_⟩;have h0:=h.wd.pos;have hN:(0:Int)<(N.length:Int):=by omega
 have a1:=Int.emod_nonneg (i+d) (show (N.length:Int) ≠ 0 by omega);have a2:=Int.emod_lt_of_pos (i+d) hN;have b1:=Int.emod_nonneg i (show (N.length:Int) ≠ 0 by omega);have b2:=Int.emod_lt_of_pos i hN;unfold iv nt;rw [ziJ (by rw [h.wd.zlen (by omega),h.wd.zlen (by omega)])];exact zlk (hn _ (h.wd.zmem (by omega)) _ (h.wd.zmem (by omega)))
theorem Wc.iv_sub_nic : ∃ n,∀ i d j e,Nic n (zex (iv p N i d) (iv p N j e)):=by
 obtain ⟨n,hn⟩:=h.iv_nic;exact ⟨n,fun i d j e=>zll (hn i d) (hn j e) (by rw [h.ivlen,h.ivlen])⟩
theorem Wc.iv_inj {i d j e:Int}(g:sF p (iv p N i d)=sF p (iv p N j e)):iv p N i d=iv p N j e:=by
 obtain ⟨n,hn⟩:=h.iv_sub_nic;exact zeS (by rw [h.ivlen];exact h.wd.pr) (by rw [h.ivlen,h.ivlen]) (hn i d j e).nice g
theorem Wc.iv_shift (i d q:Int):iv p N (i+q * (N.length:Int)) d=iv p N i d:=by
 unfold iv;rw [show i+q * (N.length:Int)+d=(i+d)+q * (N.length:Int) by generalize q * (N.length:Int)=t;omega,h.wd.nt_shift,h.wd.nt_shift,ziJ (by rw [h.wd.ntlen,h.wd.ntlen]),Int.sub_self,ziI]
theorem Wc.iv_rem (i d:Int):iv p N (i % (N.length:Int)) d=iv p N i d:=by
 have:=h.iv_shift (i % (N.length:Int)) d (i / (N.length:Int));rw [← this];congr 1;have:=Int.emod_add_mul_ediv i (N.length:Int);rw [Int.mul_comm] at this;exact this
theorem Wc.iv_full (i:Int):iv p N i (N.length:Int)=ov (p.length - 1):=by
 have e:=h.wd.nt_shift i 1;rw [Int.one_mul] at e;have e2:=ziJ (q:=1) (r:=0) (x:=nt p N i) (y:=nt p N i) rfl;rw [ziI,ziE,h.wd.ntlen] at e2;unfold iv;rw [e,e2,zjj h.wd.pr];rfl
theorem Wc.iv_none (i:Int):iv p N i 0=zer p.length:=by
 unfold iv;rw [Int.add_zero,ziE,h.wd.ntlen]
theorem Wc.iv_bd {i d:Int}(h0:0≤d)(h1:d≤(N.length:Int)):0≤sF p (iv p N i d)∧sF p (iv p N i d)≤67108864:=by
 have e:=h.sF_iv i d;have ef:=h.sF_iv i (N.length:Int);rw [h.iv_full,h.wd.sov] at ef;constructor
 ·rcases (by omega:d=0∨0<d) with g | g
  ·rw [g,h.iv_none,ziR];exact Rat.le_refl
  ·have:=h.wd.nt_lt (k:=i) (l:=i+d) (by omega);grind
 ·rcases (by omega:d=(N.length:Int)∨d<(N.length:Int)) with g | g
  ·rw [g,h.iv_full,h.wd.sov];exact Rat.le_refl
  ·have:=h.wd.nt_lt (k:=i+d) (l:=i+(N.length:Int)) (by omega);grind
theorem Wc.iv_lt {i d e:Int}(g:d<e):sF p (iv p N i d)<sF p (iv p N i e):=by
 rw [h.sF_iv,h.sF_iv];have:=h.wd.nt_lt (k:=i+d) (l:=i+e) (by omega);grind
theorem Wc.iv_quick {i d:Int}(h0:0≤d)(h1:d≤(N.length:Int)):zh3 p (iv p N i d):=by
 obtain ⟨n,hn⟩:=h.iv_nic;have hb:=h.iv_bd (i:=i) h0 h1;refine ziA (c:=1) (by rw [h.ivlen];exact h.wd.pr) (hn i d).nic (by omega) (by omega) ?_ ?_
 ·rw [show ((1 * 67108864:Int):Rat)=67108864 from rfl];grind
 ·rw [show ((1 * 67108864:Int):Rat)=67108864 from rfl];exact hb.2
theorem Wc.iv_sub_quick {i d j e:Int}(h0:0≤d)(h1:d≤(N.length:Int))(g0:0≤e)(g1:e≤(N.length:Int)):zh3 p (zex (iv p N i d) (iv p N j e)):=by
 obtain ⟨n,hn⟩:=h.iv_sub_nic;have hl:(iv p N i d).length=(iv p N j e).length:=by rw [h.ivlen,h.ivlen]
 have hb:=h.iv_bd (i:=i) h0 h1;have hc:=h.iv_bd (i:=j) g0 g1;have hs:=zez p _ _ hl;refine ziA (c:=1) (by rw [ziC hl,h.ivlen];exact h.wd.pr) (hn i d j e) (by omega) (by omega) ?_ ?_
 ·rw [show ((1 * 67108864:Int):Rat)=67108864 from rfl];grind
 ·rw [show ((1 * 67108864:Int):Rat)=67108864 from rfl];grind
theorem Wc.iv_sgn (i d j e:Int):ze6 (tms p (dn (zex (iv p N i d) (iv p N j e))) (zex (iv p N i d) (iv p N j e)))=sgQ (sF p (iv p N i d) - sF p (iv p N j e)):=by
 obtain ⟨n,hn⟩:=h.iv_sub_nic;have hl:(iv p N i d).length=(iv p N j e).length:=by rw [h.ivlen,h.ivlen]
 rw [zeP (by rw [ziC hl,h.ivlen];exact h.wd.pr) (hn i d j e).nice,zez p _ _ hl]
end
def zln (p:List Int)(x:List Rat):List (List Rat)→List (List Rat)
 | []=>[x]
 | y::t=>if sF p y<sF p x then y::zln p x t else if y=x then y::t else x::y::t
theorem zlo {p:List Int}{x z:List Rat}:∀ {l:List (List Rat)},z∈zln p x l ↔ z=x∨z∈l
 | []=>by simp [zln]
 | y::t=>by
  unfold zln;split
  ·rw [List.mem_cons,zlo (l:=t),List.mem_cons];constructor
   ·rintro (e | e | e) <;> simp [e]
   ·rintro (e | e | e) <;> simp [e]
  ·split
   ·rename_i e;rw [List.mem_cons];constructor
    ·exact fun g=>.inr g
    ·rintro (g | g)
     ·exact .inl (g.trans e.symm)
     ·exact g
   ·rw [List.mem_cons]
theorem zlp {p:List Int}{x:List Rat}:∀ {l:List (List Rat)},Srt p l→(∀ y∈l,sF p x=sF p y→x=y)→Srt p (zln p x l)
 | [],_,_=>by unfold zln Srt;simp
 | y::t,hs,hi=>by
  have hs':=hs;unfold Srt at hs';rw [List.pairwise_cons] at hs';unfold zln;split
  ·rename_i hlt;unfold Srt;rw [List.pairwise_cons];refine ⟨fun z hz=>?_,zlp (l:=t) hs'.2 fun z hz=>hi z (List.mem_cons_of_mem _ hz)⟩;rcases zlo.1 hz with rfl | hz
   ·exact hlt
   ·exact hs'.1 z hz
  ·split
   ·exact hs
   ·rename_i h1 h2;have hlt:sF p x<sF p y:=by
     have:sF p x ≠ sF p y:=fun e=>h2 (hi y (List.mem_cons_self ..) e).symm;grind
    unfold Srt;rw [List.pairwise_cons];refine ⟨fun z hz=>?_,hs⟩;rcases List.mem_cons.1 hz with rfl | hz
    ·exact hlt
    ·have:=hs'.1 z hz;grind
theorem zlq {p:List Int}{x:List Rat}:∀ (l:List (List Rat)),(zln p x l).length≤l.length+1
 | []=>by simp [zln]
 | y::t=>by
  have:=zlq (p:=p) (x:=x) t;unfold zln;split
  ·simp only [List.length_cons];omega
  ·split <;> simp
def zlr (p:List Int)(N:List (List Rat))(d:Int):Nat→List (List Rat)
 | 0=>[]
 | n+1=>zln p (iv p N (n:Int) d) (zlr p N d n)
def cls (p:List Int)(N:List (List Rat))(d:Int):List (List Rat):=zlr p N d N.length
theorem zls {p:List Int}{N:List (List Rat)}{d:Int}{x:List Rat}:∀ {n:Nat},x∈zlr p N d n ↔ ∃ i:Nat,i<n∧x=iv p N (i:Int) d
 | 0=>by simp [zlr]
 | n+1=>by
  unfold zlr;rw [zlo,zls (n:=n)];constructor
  ·rintro (e | ⟨i,hi,e⟩)
   ·exact ⟨n,by omega,e⟩
   ·exact ⟨i,by omega,e⟩
  ·rintro ⟨i,hi,e⟩;rcases (by omega:i=n∨i<n) with g | g
   ·left;rw [e,g]
   ·exact .inr ⟨i,g,e⟩
theorem zlu {p:List Int}{N:List (List Rat)}{d:Int}:∀ (n:Nat),(zlr p N d n).length≤n
 | 0=>by simp [zlr]
 | n+1=>by
  have:=zlu (p:=p) (N:=N) (d:=d) n;have:=zlq (p:=p) (x:=iv p N (n:Int) d) (zlr p N d n);unfold zlr;omega
section
variable {p : List Int} {N : List (List Rat)} (h : Wc p N)
include h
theorem Wc.clsN_srt (d:Int):∀ n,Srt p (zlr p N d n)
 | 0=>by unfold zlr Srt;simp
 | n+1=>by
  unfold zlr;refine zlp (Wc.clsN_srt d n) fun y hy e=>?_;obtain ⟨i,_,rfl⟩:=zls.1 hy;exact h.iv_inj e
theorem Wc.cls_srt (d:Int):Srt p (cls p N d):=h.clsN_srt d _
omit h in
theorem zlv {d:Int}:(cls p N d).length≤N.length:=zlu _
theorem Wc.cls_mem {d:Int}{x:List Rat}:x∈cls p N d ↔ ∃ i:Int,x=iv p N i d:=by
 unfold cls;rw [zls];constructor
 ·rintro ⟨i,_,e⟩;exact ⟨_,e⟩
 ·rintro ⟨i,e⟩;have h0:=h.wd.pos;have a1:=Int.emod_nonneg i (show (N.length:Int) ≠ 0 by omega);have a2:=Int.emod_lt_of_pos i (show (0:Int)<(N.length:Int) by omega);refine ⟨(i % (N.length:Int)).toNat,by omega,?_⟩;rw [Int.toNat_of_nonneg a1,h.iv_rem];exact e
theorem Wc.cls_pos (d:Int):0<(cls p N d).length:=List.length_pos_of_mem (h.cls_mem.2 ⟨0,rfl⟩)
theorem Wc.cls_uniq {d:Int}{L:List (List Rat)}(hs:Srt p L)(hm:∀ x,x∈L ↔ ∃ i:Nat,i<N.length∧x=iv p N (i:Int) d):L=cls p N d :=
 ziv hs (h.cls_srt d) fun x=>by rw [hm,cls,zls]
theorem Wc.cls_lt {d:Int}{x:List Rat}(hx:x∈cls p N d):x.length=p.length:=by
 obtain ⟨i,e⟩:=h.cls_mem.1 hx;rw [e,h.ivlen]
end
end Go.Proofs.YtebabancfnmfjaaGreatDoor
