/- Plain: notes, modes and subsets of right scales over 2.3 and 2.3.5. Walk: scale.note of a right scale. Plain: the notes of a collection of sizes. The row of an insertion sort whose compare makes memory. Walks: equal sizes: slices.Equal at fractions, size.Equal. Walks: slices.Clone at sizes and at primes; a list of sizes with one more. -/
import Derived.Test.YtebabancfnmfjaaGreatDoorPu14
import Derived.Test.YtebabancfnmfjaaGreatDoorPu13
import Derived.Deep.RegionHeld3
import Derived.Test.YtebabancfnmfjaaGreatDoorPu07
import Derived.Test.YtebabancfnmfjaaGreatDoorPu08
import Derived.Test.YtebabancfnmfjaaGreatDoorPu09
import Derived.Test.YtebabancfnmfjaaGreatDoorShelfE
set_option maxRecDepth 100000
set_option maxHeartbeats 2000000
namespace Go.Proofs.YtebabancfnmfjaaGreatDoor
section
def zer (n:Nat):List Rat:=List.replicate n 0
theorem zia (n:Nat):(zer n).length=n:=List.length_replicate
theorem zib {x y:List Rat}(h:x.length=y.length):(zen x y).length=x.length:=by unfold zen;rw [List.length_zipWith,← h,Nat.min_self]
theorem zic : ∀ (x:List Rat),zen x (zer x.length)=x
 | []=>rfl
 | a::x=>by
  have ih:=zic x;unfold zen zer at ih ⊢;rw [List.length_cons,List.replicate_succ,List.zipWith_cons_cons,ih];congr 1;grind
theorem zid : ∀ (x:List Rat),zen x x=zer x.length
 | []=>rfl
 | a::x=>by
  have ih:=zid x;unfold zen zer at ih ⊢;rw [List.length_cons,List.replicate_succ,List.zipWith_cons_cons,ih];congr 1;grind
theorem zie : ∀ {x y z:List Rat},x.length=y.length→y.length=z.length→zen (zen x z) (zen y z)=zen x y
 | [],[],[],_,_=>rfl
 | a::x,b::y,c::z,h1,h2=>by
  have ih:=zie (x:=x) (y:=y) (z:=z) (by simpa using h1) (by simpa using h2);unfold zen at ih ⊢;simp only [List.zipWith_cons_cons,ih];congr 1;grind
def shf (q:Int):List Rat→List Rat
 | []=>[]
 | a::tl=>(a+(q:Rat))::tl
theorem zif (q:Int)(x:List Rat):(shf q x).length=x.length:=by cases x <;> simp [shf]
theorem zig (q r:Int)(x:List Rat):shf q (shf r x)=shf (r+q) x:=by
 cases x with
 | nil=>rfl
 | cons a x =>
  simp only [shf,Rat.intCast_add]
  congr 1
  grind
theorem zih (x:List Rat):shf 0 x=x:=by
 cases x with
 | nil=>rfl
 | cons a x =>
  simp only [shf]
  congr 1
  show a+((0:Int):Rat)=a
  rw [show ((0:Int):Rat)=0 from rfl]
  grind
theorem zii {q r:Int}:∀ {x y:List Rat},x.length=y.length→zen (shf q x) (shf r y)=shf (q - r) (zen x y)
 | [],[],_=>rfl
 | a::x,b::y,_=>by
  simp only [zen,shf,List.zipWith_cons_cons,Rat.intCast_sub];congr 1;grind
theorem zij {p:List Int}{x:List Rat}(hp:Pr p x.length)(q:Int):sF p (shf q x)=sF p x+(q:Rat) * 67108864:=by
 cases x with
 | nil=>rcases hp with ⟨_,h⟩ | ⟨_,h⟩ <;> cases h
 | cons a x =>
  obtain ⟨ps,rfl⟩:∃ ps,p=2::ps:=by rcases hp with ⟨rfl,_⟩ | ⟨rfl,_⟩ <;> exact ⟨_,rfl⟩
  simp only [shf,sF,lgs.1]
  show (a+(q:Rat)) * ((67108864:Int):Rat)+_=_
  rw [show ((67108864:Int):Rat)=67108864 from rfl]
  grind
theorem zik {k q:Int}{x:List Rat}(h:Bx k x):Bx k (shf q x):=by
 match x,h with
 | [a,b],⟨A,B,h1,h2⟩=>exact ⟨A+q,B,by rw [Rat.intCast_add,h1],h2⟩
 | [a,b,c],⟨A,B,C,h1,h2⟩=>exact ⟨A+q,B,C,by rw [Rat.intCast_add,h1],h2⟩
theorem zil {n:Nat}{q:Int}{x:List Rat}(h:Oc n x):Oc n (shf q x):=by
 match x,h with
 | [a,b],⟨h1,A,h2⟩=>exact ⟨h1,A+q * n,by rw [Rat.intCast_add,Rat.intCast_mul,Rat.intCast_natCast,← h2];grind⟩
 | [a,b,c],⟨h1,h3,A,h2⟩=>exact ⟨h1,h3,A+q * n,by rw [Rat.intCast_add,Rat.intCast_mul,Rat.intCast_natCast,← h2];grind⟩
theorem zim {n:Nat}{q:Int}{x:List Rat}(h:Nic n x):Nic n (shf q x):=by
 rcases h with ⟨e,h⟩ | ⟨h1,h2,h⟩
 ·exact .inl ⟨e,zik h⟩
 ·exact .inr ⟨h1,h2,zil h⟩
theorem zin (n:Nat)(q:Int):zeo (ov n) (q:Rat)=shf q (zer (n+1)):=by
 unfold zeo ov zer;rw [List.map_cons,List.map_replicate,List.replicate_succ];simp only [shf];congr 1
 ·grind
 ·congr 1;grind
theorem zio {q:Int}:∀ {x:List Rat},zem (shf q (zer x.length)) x=shf q x
 | []=>rfl
 | a::x=>by
  unfold zer zem;rw [List.length_cons,List.replicate_succ];simp only [shf,List.zipWith_cons_cons];congr 1
  ·grind
  ·have:∀ l:List Rat,List.zipWith (·+·) (List.replicate l.length 0) l=l:=fun l=>by
    induction l with
    | nil=>rfl
    | cons b l ih=>rw [List.length_cons,List.replicate_succ,List.zipWith_cons_cons,ih];congr 1;grind
   exact this x
theorem zip (n:Nat):ov n=shf 1 (zer (n+1)):=by
 unfold ov zer;rw [List.replicate_succ];simp only [shf];congr 1;show (1:Rat)=0+((1:Int):Rat);rw [show ((1:Int):Rat)=1 from rfl];grind
theorem ziq (p:List Int)(n:Nat):sF p (zer n)=0:=zeD p _ fun _ h=>List.eq_of_mem_replicate h
theorem zir {p:List Int}{n:Nat}(h:Pr p n):p.length=n∧0<n:=by rcases h with ⟨rfl,rfl⟩ | ⟨rfl,rfl⟩ <;> exact ⟨rfl,by omega⟩
structure Wd (p:List Int)(N:List (List Rat)):Prop where
 pr:Pr p p.length
 ne:N ≠ []
 few:N.length≤60
 len:∀ x∈N,x.length=p.length
 last:N[N.length - 1]?=some (ov (p.length - 1))
 up:Srt p (zer p.length::N)
 dif:∃ n,∀ x∈zer p.length::N,∀ y∈zer p.length::N,Nic n (zen x y)
def zat (p:List Int)(N:List (List Rat))(i:Nat):List Rat:=((zer p.length::N)[i]?).getD []
def nt (p:List Int)(N:List (List Rat))(k:Int):List Rat:=shf (k / (N.length:Int)) (zat p N (k % (N.length:Int)).toNat)
section
variable {p : List Int} {N : List (List Rat)} (h : Wd p N)
include h
theorem Wd.pos : 0<N.length:=List.length_pos_iff.2 h.ne
theorem Wd.zmem {i:Nat}(hi:i≤N.length):zat p N i∈zer p.length::N:=by
 have _:=h;unfold zat;rw [List.getElem?_eq_getElem (by rw [List.length_cons];omega)];exact List.getElem_mem _
theorem Wd.zlen {i:Nat}(hi:i≤N.length):(zat p N i).length=p.length:=by
 rcases List.mem_cons.1 (h.zmem hi) with e | e
 ·rw [e,zia]
 ·exact h.len _ e
theorem Wd.zlast : zat p N N.length=ov (p.length - 1):=by
 have:=h.pos;unfold zat;rw [List.getElem?_cons,if_neg (by omega),h.last];rfl
theorem Wd.zlt {i j:Nat}(hij:i<j)(hj:j≤N.length):sF p (zat p N i)<sF p (zat p N j):=by
 have:=h.up;unfold Srt at this;rw [List.pairwise_iff_getElem] at this;have g:=this i j (by rw [List.length_cons];omega) (by rw [List.length_cons];omega) hij;unfold zat;rw [List.getElem?_eq_getElem (by rw [List.length_cons];omega),List.getElem?_eq_getElem (by rw [List.length_cons];omega)];exact g
theorem Wd.sov : sF p (ov (p.length - 1))=67108864:=by
 have hp:=h.pr;have h0:=(zir hp).2;rw [zip,zij (by rw [zia,show p.length - 1+1=p.length by omega];exact hp),ziq];show (0:Rat)+((1:Int):Rat) * 67108864=_;rw [show ((1:Int):Rat)=1 from rfl];grind
theorem Wd.zbd {i:Nat}(hi:i<N.length):0≤sF p (zat p N i)∧sF p (zat p N i)<67108864:=by
 have h2:=h.zlt hi (Nat.le_refl _);rw [h.zlast,h.sov] at h2;refine ⟨?_,h2⟩;rcases Nat.eq_zero_or_pos i with rfl | g
 ·show 0≤sF p (zer p.length);rw [ziq];exact Rat.le_refl
 ·have h1:=h.zlt g (by omega);have e:sF p (zat p N 0)=0:=ziq p _;rw [e] at h1;exact Rat.le_of_lt h1
theorem Wd.ntlen (k:Int):(nt p N k).length=p.length:=by
 have h0:=h.pos;have:=Int.emod_nonneg k (show (N.length:Int) ≠ 0 by omega);have:=Int.emod_lt_of_pos k (show (0:Int)<(N.length:Int) by omega);unfold nt;rw [zif];exact h.zlen (by omega)
theorem Wd.sF_nt (k:Int):sF p (nt p N k)=sF p (zat p N (k % (N.length:Int)).toNat)+((k / (N.length:Int):Int):Rat) * 67108864:=by
 have h0:=h.pos;have:=Int.emod_nonneg k (show (N.length:Int) ≠ 0 by omega);have:=Int.emod_lt_of_pos k (show (0:Int)<(N.length:Int) by omega);unfold nt;exact zij (by rw [h.zlen (by omega)];exact h.pr) _
theorem Wd.nt_shift (k q:Int):nt p N (k+q * (N.length:Int))=shf q (nt p N k):=by
 have h0:=h.pos;unfold nt;rw [Int.add_mul_emod_self_right,Int.add_mul_ediv_right _ _ (by omega),zig]
theorem Wd.nt_lt {k l:Int}(hkl:k<l):sF p (nt p N k)<sF p (nt p N l):=by
 have h0:=h.pos;have hN:(0:Int)<(N.length:Int):=by omega
 have a1:=Int.emod_nonneg k (show (N.length:Int) ≠ 0 by omega);have a2:=Int.emod_lt_of_pos k hN;have a3:=Int.mul_ediv_add_emod k (N.length:Int);have b1:=Int.emod_nonneg l (show (N.length:Int) ≠ 0 by omega);have b2:=Int.emod_lt_of_pos l hN;have b3:=Int.mul_ediv_add_emod l (N.length:Int);rw [h.sF_nt,h.sF_nt];have z1:=h.zbd (i:=(k % (N.length:Int)).toNat) (by omega);have z2:=h.zbd (i:=(l % (N.length:Int)).toNat) (by omega);have hq:k / (N.length:Int)≤l / (N.length:Int):=Int.ediv_le_ediv hN (by omega);rcases (by omega:k / (N.length:Int)=l / (N.length:Int)∨k / (N.length:Int)+1≤l / (N.length:Int)) with e | e
 ·have:=h.zlt (i:=(k % (N.length:Int)).toNat) (j:=(l % (N.length:Int)).toNat) (by rw [e] at a3;omega) (by omega);rw [e];grind
 ·have hc:(((k / (N.length:Int))+1:Int):Rat)≤((l / (N.length:Int):Int):Rat):=Rat.intCast_le_intCast.2 e;rw [Rat.intCast_add,show ((1:Int):Rat)=1 from rfl] at hc;grind
theorem Wd.nt_zero : nt p N 0=zer p.length:=by
 have _:=h;unfold nt;rw [Int.zero_ediv,Int.zero_emod,zih];rfl
theorem Wd.nt_low {i:Nat}(hi:i≤N.length):nt p N (i:Int)=zat p N i:=by
 have h0:=h.pos;rcases Nat.lt_or_ge i N.length with g | g
 ·unfold nt;rw [Int.ediv_eq_zero_of_lt (by omega) (by omega),Int.emod_eq_of_lt (by omega) (by omega),zih,Int.toNat_natCast]
 ·obtain rfl:i=N.length:=by omega
  have:=h.nt_shift 0 1;rw [Int.zero_add,Int.one_mul,h.nt_zero] at this;rw [this,h.zlast,zip,show p.length - 1+1=p.length by have:=(zir h.pr).2;omega]
theorem Wd.nt_nic {n:Nat}(hn:∀ x∈zer p.length::N,∀ y∈zer p.length::N,Nic n (zen x y))(k l:Int):Nic n (zen (nt p N k) (nt p N l)):=by
 have h0:=h.pos;have hN:(0:Int)<(N.length:Int):=by omega
 have a1:=Int.emod_nonneg k (show (N.length:Int) ≠ 0 by omega);have a2:=Int.emod_lt_of_pos k hN;have b1:=Int.emod_nonneg l (show (N.length:Int) ≠ 0 by omega);have b2:=Int.emod_lt_of_pos l hN;unfold nt;rw [zii (by rw [h.zlen (by omega),h.zlen (by omega)])];exact zim (hn _ (h.zmem (by omega)) _ (h.zmem (by omega)))
theorem Wd.pick (k0:Int)(ks:List Int)(hl:ks.length≤60)(hup:(k0::ks).Pairwise (·<·))(hlast:ks[ks.length - 1]?=some (k0+(N.length:Int))):Wd p (ks.map fun k=>zen (nt p N k) (nt p N k0)):=by
 obtain ⟨n,hn⟩:=h.dif;have hz:zer p.length::(ks.map fun k=>zen (nt p N k) (nt p N k0))=(k0::ks).map fun k=>zen (nt p N k) (nt p N k0):=by
  rw [List.map_cons,zid,h.ntlen]
 refine ⟨h.pr,?_,by rw [List.length_map];exact hl,?_,?_,?_,n,?_⟩
 ·intro e;rw [List.map_eq_nil_iff] at e;rw [e] at hlast
  cases hlast
 ·intro x hx;obtain ⟨k,_,rfl⟩:=List.mem_map.1 hx;rw [zib (by rw [h.ntlen,h.ntlen]),h.ntlen]
 ·rw [List.length_map,List.getElem?_map,hlast,Option.map_some];have e:=h.nt_shift k0 1;rw [Int.one_mul] at e;have e2:zen (shf 1 (nt p N k0)) (nt p N k0)=shf 1 (zer p.length):=by
   have:=zii (q:=1) (r:=0) (x:=nt p N k0) (y:=nt p N k0) rfl;rw [zih,zid,h.ntlen] at this;exact this
  rw [e,e2,zip,show p.length - 1+1=p.length by have:=(zir h.pr).2;omega]
 ·rw [hz];unfold Srt;rw [List.pairwise_map];refine hup.imp fun {a b} g=>?_;rw [zep _ _ _ (by rw [h.ntlen,h.ntlen]),zep _ _ _ (by rw [h.ntlen,h.ntlen])];have:=h.nt_lt g;grind
 ·rw [hz];intro x hx y hy;obtain ⟨k,_,rfl⟩:=List.mem_map.1 hx;obtain ⟨l,_,rfl⟩:=List.mem_map.1 hy;rw [zie (by rw [h.ntlen,h.ntlen]) (by rw [h.ntlen,h.ntlen])];exact h.nt_nic hn k l
end
def mdI (N:List (List Rat))(m:Int):List Int:=(List.range N.length).map fun (i:Nat)=>m+(i:Int)+1
def md (p:List Int)(N:List (List Rat))(m:Int):List (List Rat):=(mdI N m).map fun k=>zen (nt p N k) (nt p N m)
theorem zis (N:List (List Rat))(m:Int):(mdI N m).length=N.length:=by unfold mdI;simp
theorem zit (p:List Int)(N:List (List Rat))(m:Int):(md p N m).length=N.length:=by unfold md;rw [List.length_map,zis]
theorem Wd.mode {p:List Int}{N:List (List Rat)}(h:Wd p N)(m:Int):Wd p (md p N m):=by
 refine h.pick m (mdI N m) (by rw [zis];exact h.few) ?_ ?_
 ·rw [List.pairwise_cons];constructor
  ·intro b hb;unfold mdI at hb;obtain ⟨i,_,rfl⟩:=List.mem_map.1 hb;omega
  ·unfold mdI;rw [List.pairwise_map];exact List.pairwise_lt_range.imp fun {a b} g=>by omega
 ·have:=h.pos;rw [zis];unfold mdI;rw [List.getElem?_map,List.getElem?_range (by omega)];simp;omega
theorem ziu {p:List Int}{N:List (List Rat)}{m:Int}{i:Nat}(hi:i<N.length):(md p N m)[i]?=some (zen (nt p N (m+(i:Int)+1)) (nt p N m)):=by
 unfold md mdI;rw [List.getElem?_map,List.getElem?_map,List.getElem?_range hi];rfl
theorem Wd.nt_md {p:List Int}{N:List (List Rat)}(h:Wd p N)(m k:Int):nt p (md p N m) k=zen (nt p N (m+k)) (nt p N m):=by
 have h0:=h.pos;have hN:(0:Int)<(N.length:Int):=by omega
 have a1:=Int.emod_nonneg k (show (N.length:Int) ≠ 0 by omega);have a2:=Int.emod_lt_of_pos k hN;have a3:=Int.mul_ediv_add_emod k (N.length:Int);have e:m+k=(m+k % (N.length:Int))+k / (N.length:Int) * (N.length:Int):=by rw [Int.mul_comm (k / _)];omega
 have e2:zen (shf (k / (N.length:Int)) (nt p N (m+k % (N.length:Int)))) (nt p N m)=shf (k / (N.length:Int)) (zen (nt p N (m+k % (N.length:Int))) (nt p N m)):=by
  have:=zii (q:=k / (N.length:Int)) (r:=0) (x:=nt p N (m+k % (N.length:Int))) (y:=nt p N m) (by rw [h.ntlen,h.ntlen]);rw [zih,Int.sub_zero] at this;exact this
 rw [e,h.nt_shift,e2];unfold nt;rw [zit];congr 1;obtain ⟨i,hi⟩:∃ i:Nat,(i:Int)=k % (N.length:Int):=⟨(k % (N.length:Int)).toNat,by omega⟩;rw [← hi,Int.toNat_natCast]
 cases i with
 | zero =>
  rw [show m+((0:Nat):Int)=m by omega,zid]
  show zer p.length=zer (nt p N m).length
  rw [h.ntlen]
 | succ i =>
  unfold zat
  rw [List.getElem?_cons_succ,ziu (by omega)]
  show zen (nt p N (m+(i:Int)+1)) (nt p N m)=_
  rw [show m+(i:Int)+1=m+((i+1:Nat):Int) by omega]
  rfl
theorem Wd.noteQ {p:List Int}{rs:List Qw}{n:Nat}(h:Wd p (rs.map Qw.x))(hn:rs.length=n+1)(k:Int):noteQ rs n k=nt p (rs.map Qw.x) k:=by
 have hl:(rs.map Qw.x).length=n+1:=by rw [List.length_map,hn]
 have h0:=(zir h.pr).2;have hlast:=h.last;have a1:=Int.emod_nonneg k (show (n:Int)+1 ≠ 0 by omega);have a2:=Int.emod_lt_of_pos k (show (0:Int)<(n:Int)+1 by omega);rw [hl,show n+1 - 1=n by omega,List.getElem?_map] at hlast;unfold Go.Proofs.YtebabancfnmfjaaGreatDoor.noteQ nt;rw [hl,show ((n+1:Nat):Int)=(n:Int)+1 by omega,hlast];show (if k % ((n:Int)+1)=0 then zeo (ov (p.length - 1)) ((k / ((n:Int)+1):Int):Rat) else zem (zeo (ov (p.length - 1)) ((k / ((n:Int)+1):Int):Rat)) (((rs[(k % ((n:Int)+1)).toNat - 1]?).map Qw.x).getD []))=_;rw [zin,show p.length - 1+1=p.length by omega];by_cases e:k % ((n:Int)+1)=0
 ·rw [if_pos e,e];rfl
 ·rw [if_neg e];obtain ⟨i,hi⟩:∃ i:Nat,((i+1:Nat):Int)=k % ((n:Int)+1):=⟨(k % ((n:Int)+1)).toNat - 1,by omega⟩;rw [← hi,Int.toNat_natCast,Nat.add_sub_cancel];unfold zat;rw [List.getElem?_cons_succ,List.getElem?_map];have hlx:(((rs[i]?).map Qw.x).getD []).length=p.length:=by
   rw [← List.getElem?_map,List.getElem?_eq_getElem (by rw [hl];omega)];exact h.len _ (List.getElem_mem _)
  generalize ((rs[i]?).map Qw.x).getD []=y at *;rw [← hlx];exact zio
theorem Wd.right {p:List Int}{rs:List Qw}(h:Wd p (rs.map Qw.x)):zhP p rs:=by
 obtain ⟨n,hn⟩:=h.dif;have h0:=(zir h.pr).2;have hne:=h.pos;rw [List.length_map] at hne;have hfew:=h.few;rw [List.length_map] at hfew;have hprev:∀ k r,rs[k]?=some r→zhO p.length rs k=zat p (rs.map Qw.x) k∧r.x=zat p (rs.map Qw.x) (k+1)∧k<rs.length:=fun k r hr=>by
  refine ⟨?_,?_,(List.getElem?_eq_some_iff.1 hr).1⟩
  ·unfold zhO zat
   cases k with
   | zero=>rfl
   | succ k=>rw [if_neg (by omega),List.getElem?_cons_succ,List.getElem?_map,Nat.add_sub_cancel]
  ·unfold zat;rw [List.getElem?_cons_succ,List.getElem?_map,hr];rfl
 have hsm:∀ x,Nic n x→x.length=p.length→-67108864≤sF p x→sF p x≤67108864→zht p x:=fun x hx hl g1 g2 =>
  zhZ (c:=1) (by rw [hl];exact h.pr) hx (by omega) (by omega) (by
   rw [show ((1 * 67108864:Int):Rat)=67108864 from rfl];exact g1) (by
   rw [show ((1 * 67108864:Int):Rat)=67108864 from rfl];exact g2)
 have hall:∀ i,i≤(rs.map Qw.x).length→0≤sF p (zat p (rs.map Qw.x) i)∧sF p (zat p (rs.map Qw.x) i)≤67108864:=fun i hi=>by
  rcases Nat.lt_or_ge i (rs.map Qw.x).length with g | g
  ·have:=h.zbd g;exact ⟨this.1,Rat.le_of_lt this.2⟩
  ·rw [show i=(rs.map Qw.x).length by omega,h.zlast,h.sov];exact ⟨by decide,Rat.le_refl⟩
 have hq:∀ k r,rs[k]?=some r→Nic n (zen (zhO p.length rs k) r.x)∧sF p (zen (zhO p.length rs k) r.x)<0∧zht p (zen (zhO p.length rs k) r.x)∧(zen (zhO p.length rs k) r.x).length=p.length:=fun k r hr=>by
  obtain ⟨e1,e2,e3⟩:=hprev k r hr;rw [e1,e2];have hl1:=h.zlen (i:=k) (by rw [List.length_map];omega);have hl2:=h.zlen (i:=k+1) (by rw [List.length_map];omega);have b1:=hall k (by rw [List.length_map];omega);have b2:=hall (k+1) (by rw [List.length_map];omega);have hlt:=h.zlt (i:=k) (j:=k+1) (by omega) (by rw [List.length_map];omega);have hni:=hn _ (h.zmem (i:=k) (by rw [List.length_map];omega)) _ (h.zmem (i:=k+1) (by rw [List.length_map];omega));have hl3:=zib (hl1.trans hl2.symm);have hs:=zep p _ _ (hl1.trans hl2.symm);refine ⟨hni,by grind,hsm _ hni (hl3.trans hl1) (by grind) (by grind),hl3.trans hl1⟩
 refine ⟨?_,?_,by omega,by omega,fun r hr=>h.len _ (List.mem_map_of_mem hr),?_,fun k r hr=>(hq k r hr).2.2.1,?_⟩
 ·rcases h.pr with ⟨e,_⟩ | ⟨e,_⟩ <;> rw [e] <;> decide
 ·rcases h.pr with ⟨e,_⟩ | ⟨e,_⟩ <;> rw [e] <;> decide
 ·intro r hr;obtain ⟨k,hk⟩:=List.mem_iff_getElem?.1 hr;obtain ⟨_,e2,e3⟩:=hprev k r hk;have hni:=hn _ (h.zmem (i:=k+1) (by rw [List.length_map];omega)) _ (List.mem_cons_self ..);have hl2:=h.zlen (i:=k+1) (by rw [List.length_map];omega);rw [← e2] at hni hl2;have hb:=hall (k+1) (by rw [List.length_map];omega);rw [← e2] at hb;rw [← hl2,zic] at hni;exact (hsm _ hni hl2 (by grind) hb.2).1
 ·intro k r hr;obtain ⟨h1,h2,_,h4⟩:=hq k r hr;rw [zeG (by rw [h4];exact h.pr) h1.nice];unfold sgQ;rw [if_pos h2]
end
section
open Go.RowKit Go.Lib
attribute [local go_sem] Oper.semAt_some
theorem ziv (v:Value)(p:List Int)(rs:List Qw)(n:Nat)(k:Int)(r:Qw)(w:World)(he:Env w)(hv:ScV w v p rs)(h:zhP p rs)(hn:rs.length=n+1)(hr:rs[n]?=some r)(hk0:-100000000≤k)(hk1:k≤100000000)
  (hq:Ft 400 ((k / ((n:Int)+1):Int):Rat)) (hf1:∀ q∈zeo r.x ((k / ((n:Int)+1):Int):Rat),Ft 30 q) (hf2:∀ q∈noteQ rs n k,Ft 30 q) :
  Calls Tryz.prog 35 #[v,.int .i64 k] w fun e w'=>∃ g,e=.returned (.tuple #[.slice (some ⟨g,0,none⟩) p.length p.length,.int .i64 0])∧zfo w' w.heap.size (.slice (some ⟨g,0,none⟩) p.length p.length) (noteQ rs n k)∧Ext w w':=by
 have h60:=h.most;have hN:(0:Int)<(n:Int)+1:=by omega
 have htf:=zhR (k:=k) hN;have h3:=Int.emod_nonneg k (show (n:Int)+1 ≠ 0 by omega);have h4:=Int.emod_lt_of_pos k hN;have hqb:=zhw (a:=k) (b:=(n:Int)+1) (m:=100000000) hN hk0 hk1 (by omega);have hpe:=fun W (hE:Ext w W)=>zhN v p rs n r W (hv.ext hE) hn (by omega) hr;have hin:=fun W (hE:Ext w W)=>zhL (k / ((n:Int)+1)) W (he.ext hE) (by omega) (by omega);obtain ⟨vp,vn,rfl,hp,hs,hm⟩:=hv;have hmem:=List.mem_of_getElem? hr;have hmr:=hm r hmem;have hsc:=fun W (hE:Ext w W)=>zhp vp r.u p r.x _ W (he.ext hE) (hE.sl hp) (hE.rd hmr) h.pe (h.len r hmem) (h.ft r hmem) hq hf1;obtain ⟨ap,cp,rfl,_,_,_⟩:=hp.parts;obtain ⟨an,cn,rfl,_,_,hc⟩:=hs.parts;rw [zan] at hpe hsc ⊢;rw [zfr,hn] at hpe ⊢;obtain ⟨b,off,rfl,hc0⟩:=hc n r.u (by unfold qwc;rw [List.getElem?_map,hr];rfl);have hE0:Ext w (w.alloc (.cells #[.slice ap p.length cp,.slice (some ⟨b,off,none⟩) (n+1) cn] 28)):=(Ext.refl w).alloc _;have hzero:k % ((n:Int)+1)=0→noteQ rs n k=zeo r.x ((k / ((n:Int)+1):Int):Rat):=fun e=>by unfold noteQ;rw [hr];simp only [e,if_true];rfl
 have hadd:¬ k % ((n:Int)+1)=0→∃ (j:Nat)(s:Qw),(j:Int)=k % ((n:Int)+1) - 1∧(∃ a c,s.u=.slice a p.length c)∧w.cell? ⟨b,off+j,none⟩=some s.u ∧
   ∀ W vb,Ext w W→Rd W vb (zeo r.x ((k / ((n:Int)+1):Int):Rat))→Calls Tryz.prog 95 #[.slice ap p.length cp,vb,s.u] W fun e w'=>∃ g,e=.returned (.tuple #[.slice (some ⟨g,0,none⟩) p.length p.length,.int .i64 0])∧zfo w' W.heap.size (.slice (some ⟨g,0,none⟩) p.length p.length) (noteQ rs n k)∧Ext W w':=fun e=>by
  obtain ⟨j,hj⟩:∃ j:Nat,(j:Int)=k % ((n:Int)+1) - 1:=⟨(k % ((n:Int)+1) - 1).toNat,by omega⟩;obtain ⟨s,hs1⟩:∃ s,rs[j]?=some s:=⟨_,List.getElem?_eq_getElem (by omega)⟩;have hsm:=List.mem_of_getElem? hs1;have hrs:=hm s hsm;obtain ⟨b2,off2,e2,hcs⟩:=hc j s.u (by unfold qwc;rw [List.getElem?_map,hs1];rfl)
  cases e2
  have hnq:noteQ rs n k=zem (zeo r.x ((k / ((n:Int)+1):Int):Rat)) s.x:=by
   unfold noteQ;rw [hr,if_neg e,show (k % ((n:Int)+1)).toNat - 1=j by omega,hs1];rfl
  refine ⟨j,s,hj,?_,hcs,fun W vb hE hb=>?_⟩
  ·obtain ⟨a,c,hu,_⟩:=hrs.parts;rw [h.len s hsm] at hu;exact ⟨a,c,hu⟩
  ·have:=zho (.slice ap (zal p).length cp) vb s.u p _ s.x W (he.ext hE) (hE.sl hp) hb (hE.rd hrs) h.pe (by unfold zeo;rw [List.length_map];exact h.len r hmem) (h.len s hsm) hf1 (h.ft s hsm) (by rw [← hnq];exact hf2);rw [zan,← hnq] at this;exact this
 have hcast:((n+1:Nat):Int)=(n:Int)+1:=by omega
 have hnz:((n:Int)+1) ≠ 0:=by omega
 clear hp hs hm he h hmr hmem hc hc0 hf1 hf2 hq;have bx:(w.alloc (.cells #[.slice ap p.length cp,.slice (some ⟨b,off,none⟩) (n+1) cn] 28)).heap[w.heap.size]?=some (.cells #[.slice ap p.length cp,.slice (some ⟨b,off,none⟩) (n+1) cn] 28 (0,0)):=World.alloc_heap_new w _;have hbox:∀ W,Ext (w.alloc (.cells #[.slice ap p.length cp,.slice (some ⟨b,off,none⟩) (n+1) cn] 28)) W→W.cell? ⟨w.heap.size,0,none⟩=some (.slice ap p.length cp)∧W.cell? ⟨w.heap.size,1,none⟩=some (.slice (some ⟨b,off,none⟩) (n+1) cn):=fun W hE=>by
  have hb:=hE.heap bx;unfold World.cell?;dsimp only;rw [hb];exact ⟨rfl,rfl⟩
 clear bx;have Hpe:=hid hpe;have Hin:=hid hin;have Hsc:=hid hsc;have HE0:=hid hE0;have Htf:=hid htf;have Hbox:=hid hbox;have Hzero:=hid hzero;have Hadd:=hid hadd;clear hpe hin hsc hE0 htf hbox hzero hadd;have hdec:k.tmod ((n:Int)+1)<0∨¬ k.tmod ((n:Int)+1)<0:=by omega
 rcases hdec with hs | hs
 case' inl=>obtain ⟨e1,e2⟩:=Htf.out.1 hs
 case' inr=>obtain ⟨e1,e2⟩:=Htf.out.2 hs
 all_goals
  go_enter Tryz.func35,Tryz.ntmps35
  go_wp2_with fail
  go_quiet (fail)
  go_wp2_with fail
  generalize hV:(w.alloc (.cells #[.slice ap p.length cp,.slice (some ⟨b,off,none⟩) (n+1) cn] 28)).drewN nq=V at *;have hEV:Ext (w.alloc (.cells #[.slice ap p.length cp,.slice (some ⟨b,off,none⟩) (n+1) cn] 28)) V:=by rw [← hV];exact (Ext.refl _).drewN _
  obtain ⟨q0,q1⟩:=Hbox.out V hEV;have HV:=hid (HE0.out.trans hEV);have HEV0:=hid hEV;clear hV hEV;go_region_held3 (fun w'=>Ext V w'∧w'.cell? ⟨w.heap.size,0,none⟩=some (.slice ap p.length cp)∧w'.cell? ⟨w.heap.size,1,none⟩=some (.slice (some ⟨b,off,none⟩) (n+1) cn))
   (first | (with_reducible assumption) | exact ⟨(Ext.refl V).drew,q0,q1⟩)
   (first
    | (go_at_call 93;refine (Hpe.out _ (HV.out.trans (And.left (by assumption)))).mono ?_;rintro e9 VA ⟨rfl,hxa⟩;have hEA:=((Ext.refl V).drew).trans hxa;have hS2:Ext V VA∧VA.cell? ⟨w.heap.size,0,none⟩=some (.slice ap p.length cp)∧VA.cell? ⟨w.heap.size,1,none⟩=some (.slice (some ⟨b,off,none⟩) (n+1) cn):=⟨hEA,hEA.cell q0,hEA.cell q1⟩;have HEA:=hid hEA;clear hxa hEA)
    | (go_at_call 94;refine (Hin.out _ (HV.out.trans HEA.out)).mono ?_;rintro e9 VB ⟨rfl,hxa⟩;have hEB:=HEA.out.trans hxa;have hS3:Ext V VB∧VB.cell? ⟨w.heap.size,0,none⟩=some (.slice ap p.length cp)∧VB.cell? ⟨w.heap.size,1,none⟩=some (.slice (some ⟨b,off,none⟩) (n+1) cn):=⟨hEB,hEB.cell q0,hEB.cell q1⟩;have HEB:=hid hEB;clear hxa hEB hS2)
    | (go_at_call 60;refine (Hsc.out _ (HV.out.trans HEB.out)).mono ?_;rintro e9 VC ⟨g,rfl,ho,hxa⟩;have hEC:=HEB.out.trans hxa;have hS4:Ext V VC∧VC.cell? ⟨w.heap.size,0,none⟩=some (.slice ap p.length cp)∧VC.cell? ⟨w.heap.size,1,none⟩=some (.slice (some ⟨b,off,none⟩) (n+1) cn):=⟨hEC,hEC.cell q0,hEC.cell q1⟩;have HEC:=hid hEC;have HoC:=hid (ho.mono (HV.out.trans HEB.out).size);clear hxa hEC ho hS3))
  all_goals
   clear hS4 q0 q1;by_cases hi:k % ((n:Int)+1)=0
   ·have hnq:=Hzero.out hi;have Hnq:=hid hnq;clear hnq;go_wp2
    go_ret2
    exact ⟨_,rfl,by rw [Hnq.out];exact HoC.out,HV.out.trans HEC.out⟩
   ·obtain ⟨j,s,hj,⟨sa,sc,hsu⟩,hcs,had⟩:=Hadd.out hi;rw [hsu] at hcs had;have hEV:=HV.out.trans HEC.out;have hcs2:=hEV.cell hcs;obtain ⟨q0,q1⟩:=Hbox.out VC (HEV0.out.trans HEC.out);have haD:=had VC.drew _ hEV.drew HoC.out.rd;have hj0:(0:Int)≤(j:Int):=(by omega);have hj1:(j:Int)<((n+1:Nat):Int):=(by omega);clear hcs had;have hj2:IntKind.i64.wrap (k % ((n:Int)+1) - 1)=(j:Int):=(by rw [IntWalk.i64_in _ (by omega)];exact hj.symm);have hj3:(j:Int)<(n:Int)+1:=(by omega);have hj4:k % ((n:Int)+1) - 1=(j:Int):=hj.symm;clear hj;have HaD:=hid haD;have HEV:=hid hEV;clear haD hEV;have hjk:k % ((n:Int)+1)=(j:Int)+1:=(by omega);clear hj2 hj4;generalize k % ((n:Int)+1)=iv at *;subst hjk;have hwj:IntKind.i64.wrap ((j:Int)+1 - 1)=(j:Int):=(by rw [show (j:Int)+1 - 1=(j:Int) by omega];exact IntWalk.i64_in _ (by omega));have hwj2:IntKind.i64.wrap (j:Int)=(j:Int):=IntWalk.i64_in _ (by omega);have hjn:j<n+1:=(by omega);go_wp2_with fail
    go_region_held3 (fun w'=>Ext VC w'∧w'.cell? ⟨w.heap.size,0,none⟩=some (.slice ap p.length cp)∧w'.cell? ⟨w.heap.size,1,none⟩=some (.slice (some ⟨b,off,none⟩) (n+1) cn)∧w'.cell? ⟨b,off+j,none⟩=some (.slice sa p.length sc))
     (first | (with_reducible assumption) | exact ⟨(Ext.refl VC).drew,q0,q1,hcs2⟩)
     (first
      | (go_at_call 95;refine (HaD.out).mono ?_;rintro e9 VD ⟨g2,rfl,ho2,hxa⟩;have hED:=((Ext.refl VC).drew).trans hxa;have hS5:Ext VC VD∧VD.cell? ⟨w.heap.size,0,none⟩=some (.slice ap p.length cp)∧VD.cell? ⟨w.heap.size,1,none⟩=some (.slice (some ⟨b,off,none⟩) (n+1) cn)∧VD.cell? ⟨b,off+j,none⟩=some (.slice sa p.length sc):=⟨hED,hED.cell q0,hED.cell q1,hED.cell hcs2⟩;have HED:=hid hED;have HoD:=hid (ho2.mono HEV.out.size);clear hxa hED ho2))
    all_goals
     clear hS5 q0 q1 hcs2;go_wp2
     go_ret2
     exact ⟨_,rfl,HoD.out,HEV.out.trans HED.out⟩
end
section
def rst (p:List Int)(x:List Rat):List Rat:=shf (-(flP p x)) x
def ziw (p:List Int)(out:List (List Rat))(x:List Rat):List (List Rat):=if rst p x=zer p.length∨rst p x∈out then out else out++[rst p x]
def zix (p:List Int)(init l:List (List Rat)):List (List Rat):=l.foldl (ziw p) init
theorem ziy (p:List Int)(init l:List (List Rat))(x:List Rat):zix p init (l++[x])=ziw p (zix p init l) x:=by unfold zix;rw [List.foldl_append];rfl
theorem ziz {p:List Int}{init l:List (List Rat)}{k:Nat}{x:List Rat}(h:l[k]?=some x):zix p init (l.take (k+1))=ziw p (zix p init (l.take k)) x:=by
 obtain ⟨hk,rfl⟩:=List.getElem?_eq_some_iff.1 h;rw [List.take_succ_eq_append_getElem hk,ziy]
structure Lw (p:List Int)(c:Int)(l:List (List Rat)):Prop where
 pr:Pr p p.length
 len:∀ x∈l,x.length=p.length
 c0:0≤c
 c1:c≤10000
 bd:∀ x∈l,-((c * 67108864:Int):Rat)≤sF p x∧sF p x≤((c * 67108864:Int):Rat)
 dif:∃ n,∀ x∈zer p.length::l,∀ y∈zer p.length::l,Nic n (zen x y)
theorem Lw.nic {p:List Int}{c:Int}{l:List (List Rat)}(h:Lw p c l):∃ n,∀ x∈l,Nic n x:=by
 obtain ⟨n,hn⟩:=h.dif;refine ⟨n,fun x hx=>?_⟩;have:=hn x (List.mem_cons_of_mem _ hx) _ (List.mem_cons_self ..);rwa [← h.len x hx,zic] at this
theorem zi0 {n:Nat}{p:List Int}{x:List Rat}(hp:Pr p x.length)(h:Nic n x):∃ a tl,x=a::tl∧tl.length+1=p.length∧(Bx 256 (a::tl)∨∀ r∈tl,r=0):=by
 obtain ⟨a,tl,rfl⟩:∃ a tl,x=a::tl:=by
  rcases hp with ⟨_,hl⟩ | ⟨_,hl⟩ <;> (cases x with | nil=>cases hl | cons a tl=>exact ⟨a,tl,rfl⟩)
 refine ⟨a,tl,rfl,(zir hp).1.symm,?_⟩;rcases h with ⟨_,h⟩ | ⟨_,_,h⟩
 ·exact .inl h
 ·right;match tl,h with
  | [b],⟨hb,_⟩=>intro r hr;simp at hr;rw [hr];exact hb
  | [b,d],⟨hb,hd,_⟩=>intro r hr;simp at hr;rcases hr with e | e <;> rw [e] <;> assumption
theorem zi1 {n:Nat}{p:List Int}{x:List Rat}(hp:Pr p x.length)(h:Nic n x):0≤sF p (rst p x)∧sF p (rst p x)<67108864:=by
 obtain ⟨a,tl,rfl,hl,hb⟩:=zi0 hp h;unfold rst;rw [zij hp,zh7 hp hb];have h1:=Rat.floor_le (sF p (a::tl) / 67108864);have h2:=Rat.lt_floor_add_one (sF p (a::tl) / 67108864);rw [Rat.intCast_neg];grind
theorem Lw.quick {p:List Int}{c:Int}{l:List (List Rat)}(h:Lw p c l)(x:List Rat)(hx:x∈l):zht p x:=by
 obtain ⟨n,hn⟩:=h.nic;exact zhZ (by rw [h.len x hx];exact h.pr) (hn x hx) h.c0 (by have:=h.c1;omega) (h.bd x hx).1 (h.bd x hx).2
theorem zi2 {p:List Int}(hp:Pr p p.length):ov (p.length - 1)=shf 1 (zer p.length):=by
 rw [zip,show p.length - 1+1=p.length by have:=(zir hp).2;omega]
theorem sov {p:List Int}(hp:Pr p p.length):sF p (ov (p.length - 1))=67108864:=by
 rw [zi2 hp,zij (by rw [zia];exact hp),ziq];show (0:Rat)+((1:Int):Rat) * 67108864=_;rw [show ((1:Int):Rat)=1 from rfl];grind
theorem Lw.play {p:List Int}{c:Int}{l:List (List Rat)}(h:Lw p c l):∃ n,∀ x y,(x=zer p.length∨x=ov (p.length - 1)∨∃ z∈l,x=rst p z)→(y=zer p.length∨y=ov (p.length - 1)∨∃ z∈l,y=rst p z)→x.length=p.length∧Nic n (zen x y):=by
 obtain ⟨n,hn⟩:=h.dif;have key:∀ x,(x=zer p.length∨x=ov (p.length - 1)∨∃ z∈l,x=rst p z)→∃ q,∃ z∈zer p.length::l,x=shf q z∧z.length=p.length:=by
  rintro x (rfl | rfl | ⟨z,hz,rfl⟩)
  ·exact ⟨0,_,List.mem_cons_self ..,(zih _).symm,zia _⟩
  ·exact ⟨1,_,List.mem_cons_self ..,zi2 h.pr,zia _⟩
  ·exact ⟨_,z,List.mem_cons_of_mem _ hz,rfl,h.len z hz⟩
 refine ⟨n,fun x y hx hy=>?_⟩;obtain ⟨q,z,hz,rfl,hl⟩:=key x hx;obtain ⟨r,u,hu,rfl,hl2⟩:=key y hy;refine ⟨by rw [zif,hl],?_⟩;rw [zii (hl.trans hl2.symm)];exact zim (hn z hz u hu)
theorem Lw.range {p:List Int}{c:Int}{l:List (List Rat)}(h:Lw p c l){z:List Rat}(hz:z∈l):0≤sF p (rst p z)∧sF p (rst p z)<67108864:=by
 obtain ⟨n,hn⟩:=h.nic;exact zi1 (by rw [h.len z hz];exact h.pr) (hn z hz)
theorem Lw.inj {p:List Int}{c:Int}{l:List (List Rat)}(h:Lw p c l){x y:List Rat}(hx:x=zer p.length∨x=ov (p.length - 1)∨∃ z∈l,x=rst p z)(hy:y=zer p.length∨y=ov (p.length - 1)∨∃ z∈l,y=rst p z)(e:sF p x=sF p y):x=y:=by
 obtain ⟨n,hn⟩:=h.play;have h1:=hn x y hx hy;have h2:=hn y x hy hx;exact zeJ (by rw [h1.1];exact h.pr) (h1.1.trans h2.1.symm) h1.2.nice e
theorem zi3 : ∀ {N M:List (List Rat)},N.Nodup→N ⊆ M→N.length≤M.length
 | [],_,_,_=>Nat.zero_le _
 | a::N,M,h,hs=>by
  rw [List.nodup_cons] at h;have ha:a∈M:=hs (List.mem_cons_self ..);have ih:=zi3 (N:=N) (M:=M.erase a) h.2 fun x hx=>by
   have hxa:x ≠ a:=fun e=>h.1 (e ▸ hx);exact (List.mem_erase_of_ne hxa).2 (hs (List.mem_cons_of_mem _ hx))
  rw [List.length_erase_of_mem ha] at ih;have:=List.length_pos_of_mem ha;rw [List.length_cons];omega
end
section
open Go.RowKit Go.Lib
structure InR {α:Type}(T:TypeId)(W0:World)(B blk cap:Nat)(enc:α→Value)(d0:List α)(wr:World)(dk:List α):Prop where
 perm:dk.Perm d0
 own:wr.ownsRow B T 1 (.slice (some ⟨blk,0,none⟩) d0.length cap) d0.length (dk.map enc)
 only:W0.grownBy wr (some blk)
section
variable {α : Type} {T : TypeId} {W0 wr : World} {B blk cap : Nat} {enc : α → Value} {d0 dk : List α}
theorem InR.ext {w':World}(h:InR T W0 B blk cap enc d0 wr dk)(hx:Ext wr w'):InR T W0 B blk cap enc d0 w' dk:=⟨h.perm,hx.own h.own,zfi h.only hx⟩
theorem InR.len (h:InR T W0 B blk cap enc d0 wr dk):dk.length=d0.length:=h.perm.length_eq
theorem InR.cell (h:InR T W0 B blk cap enc d0 wr dk){k:Nat}{x:α}(hx:dk[k]?=some x):wr.cell? ⟨blk,k,none⟩=some (enc x):=by
 have hk:=(List.getElem?_eq_some_iff.1 hx).1;have:=h.len;rw [World.ownsRow.cellAt h.own k (by omega),List.getElem?_map,hx];rfl
theorem InR.frozen (h:InR T W0 B blk cap enc d0 wr dk)(k:Nat):wr.frozen? ⟨blk,k,none⟩=false:=by
 rcases h.own.2 with ⟨e,_⟩ | ⟨g,cap',cur,e,hb,hg,_⟩
 ·cases e
 ·injection e with e1 _ _;injection e1 with e1;injection e1 with e1;subst e1;exact frozen_of_row _ _ _ _ _ hg
theorem InR.swap (h:InR T W0 B blk cap enc d0 wr dk){k:Nat}{x y:α}(hx:dk[k+1]?=some x)(hy:dk[k]?=some y) :
  InR T W0 B blk cap enc d0 ((wr.setCell ⟨blk,k+1,none⟩ (enc y)).setCell ⟨blk,k,none⟩ (enc x)) ((dk.set (k+1) y).set k x):=by
 have h1:=World.ownsRow.stored h.own (k+1) (enc y);have h2:=World.ownsRow.stored h1.1 k (enc x);refine ⟨(zhH hx hy).trans h.perm,?_,zfh (zfh h.only rfl _) rfl _⟩;rw [List.map_set,List.map_set];exact h2.1
theorem InR.mem (h:InR T W0 B blk cap enc d0 wr dk){k:Nat}{x:α}(hx:dk[k]?=some x):x∈d0:=h.perm.mem_iff.1 (List.mem_of_getElem? hx)
end
end
section
open Go.RowKit Go.Lib
attribute [local go_sem] Oper.semAt_some
theorem toList_inj {s t:ByteArray}(h:s.toList=t.toList):s=t:=by
 rw [Lib.toList_data,Lib.toList_data] at h;exact ByteArray.ext (Array.toList_inj.1 h)
theorem zi4 (va vb:Value)(x y:List Rat)(w:World)(ha:Rd w va x)(hb:Rd w vb y)(hx:x.length≤1000)(hy:y.length≤1000) :
  Calls Tryz.prog 52 #[va,vb] w fun e w'=>e=.returned (.bool (decide (x=y)))∧Ext w w':=by
 obtain ⟨aa,ca,rfl,_,_,hca⟩:=ha.parts;obtain ⟨ab,cb,rfl,_,_,hcb⟩:=hb.parts;clear ha hb;by_cases hl:x.length=y.length
 ·have Hl:=hid hl;rw [← hl];have hfin:(∀ i,i<x.length→x[i]?=y[i]?)→decide (x=y)=true:=fun h=>by
   rw [decide_eq_true_eq];apply List.ext_getElem? ;intro i;rcases Nat.lt_or_ge i x.length with g | g
   ·exact h i g
   ·rw [List.getElem?_eq_none g,List.getElem?_eq_none (by omega)]
  generalize hn:x.length=n at *;have hbad:∀ (i:Nat)(q r:Rat),x[i]?=some q→y[i]?=some r→q ≠ r→decide (x=y)=false:=fun i q r h1 h2 h3=>by
   rw [decide_eq_false_iff_not];rintro rfl;rw [h1] at h2;exact h3 (Option.some.inj h2)
  clear hl hy;have Hca:=hid hca;have Hcb:=hid hcb;have Hfin:=hid hfin;have Hbad:=hid hbad;have Hn:=hid hn;clear hca hcb hfin hbad hn;go_enter Tryz.func52,Tryz.ntmps52
  go_wp2_with fail
  go_loopw [5,13] (fun v5 v13 wr=>∃ k:Nat,v13=.int .i64 k∧k≤n∧(∀ i,i<k→x[i]?=y[i]?)∧Ext w wr) (fun _ v13 _=>n - (zah v13).toNat)
  case atStart=>exact ⟨0,rfl,Nat.zero_le _,fun i h=>by omega,Ext.refl _⟩
  case round =>
   obtain ⟨k,rfl,hk,hall,hE⟩:=hrel;by_cases hkn:k<n
   ·obtain ⟨q,hq⟩:∃ q,x[k]?=some q:=⟨_,List.getElem?_eq_getElem (by rw [Hn.out];exact hkn)⟩;obtain ⟨r,hr⟩:∃ r,y[k]?=some r:=⟨_,List.getElem?_eq_getElem (by rw [← Hl.out];exact hkn)⟩;obtain ⟨ba,oa,rfl,hx0,hx1⟩:=Hca.out k q hq;obtain ⟨bb,ob,rfl,hy0,hy1⟩:=Hcb.out k r hr;have c0:=hE.cell hx0;have c1:=hE.cell hx1;have e0:=hE.cell hy0;have e1:=hE.cell hy1;have hk0:(0:Int)≤(k:Int):=(by omega);have hk1:(k:Int)<(n:Int):=(by omega);clear hx0 hx1 hy0 hy1;by_cases hqr:q=r
    ·subst hqr;have hnx:∀ i,i<k+1→x[i]?=y[i]?:=fun i hi=>by
      rcases Nat.lt_or_ge i k with g | g
      ·exact hall i g
      ·rw [show i=k by omega,hq,hr]
     generalize I q.num=s1 at *;generalize I (q.den:Int)=s2 at *;clear hall hq hr;have Hnx:=hid hnx;have HE:=hid hE;clear hnx hE;go_wp2_with fail
     go_quiet (fail)
     go_wp2_with fail
     go_roundw
     case rel=>exact ⟨k+1,by go_num,by omega,Hnx.out,HE.out.drewN _⟩
     case measure=>simp [zah];omega
    ·have hb1:=Hbad.out k q r hq hr hqr;have hpart:¬ (I q.num).toList=(I r.num).toList∨((I r.num).toList=(I q.num).toList∧¬ (I (q.den:Int)).toList=(I (r.den:Int)).toList):=by
      by_cases g:(I q.num).toList=(I r.num).toList
      ·refine Or.inr ⟨g.symm,fun g2=>hqr (zcX ?_)⟩;unfold Rv;rw [toList_inj g,toList_inj g2]
      ·exact Or.inl g
     generalize I q.num=s1 at *;generalize I (q.den:Int)=s2 at *;generalize I r.num=s3 at *;generalize I (r.den:Int)=s4 at *;clear hall hq hr hqr;have Hb1:=hid hb1;have HE:=hid hE;clear hb1 hE;rcases hpart with g | ⟨g,g2⟩
     all_goals
      go_wp2_with fail
      go_quiet (fail)
      go_wp2
      go_ret
      exact ⟨by rw [Hb1.out];rfl,HE.out.drewN _⟩
   ·obtain rfl:n=k:=by omega
    have hf:=Hfin.out hall;clear hall;have Hf:=hid hf;have HE:=hid hE;clear hf hE;go_wp2
    go_ret
    exact ⟨by rw [Hf.out];rfl,HE.out⟩
 ·have hne:decide (x=y)=false:=by
   rw [decide_eq_false_iff_not];rintro rfl;exact hl rfl
  rw [hne];clear hca hcb hne;have hl2:¬ (x.length:Int)=(y.length:Int):=by omega
  generalize x.length=n at *;generalize y.length=m at *;go_enter Tryz.func52,Tryz.ntmps52
  go_wp2
  go_ret
  exact ⟨rfl,Ext.refl _⟩
theorem zi5 (va vb:Value)(x y:List Rat)(w:World)(ha:Rd w va x)(hb:Rd w vb y)(hx:x.length≤1000)(hy:y.length≤1000) :
  Calls Tryz.prog 15 #[va,vb] w fun e w'=>e=.returned (.bool (decide (x=y)))∧Ext w w':=by
 have h:=zi4 va vb x y w ha hb hx hy;obtain ⟨aa,ca,rfl,_,_,_⟩:=ha.parts;obtain ⟨ab,cb,rfl,_,_,_⟩:=hb.parts;generalize decide (x=y)=b at *;clear ha hb;have H:=hid h;clear h;go_enter Tryz.func15,Tryz.ntmps15
 go_wp2_with fail
 refine (H.out).mono ?_;rintro e w1 ⟨rfl,hx1⟩;have Hx1:=hid hx1;clear hx1;go_wp2
 go_ret
 exact ⟨rfl,Hx1.out⟩
end
section
open Go.RowKit Go.Lib
theorem zi6 (v:Value)(x:List Rat)(w:World)(hx:Rd w v x)(hl:x.length≤1000000)(hne:x ≠ []) :
  Calls Tryz.prog 142 #[v] w fun e w'=>∃ u,e=.returned u∧zfo w' w.heap.size u x∧Ext w w':=by
 obtain ⟨i0,hi,hz0,hz1,hz2⟩:=info_parts zfp;rcases hx with ⟨a,cap,rfl,hm,e⟩ | ⟨b,off,cap,rfl,h1,h2,hc⟩
 ·exact absurd e hne
 ·have hcell:∀ j u,(rcs x)[j]?=some u→w.cell? ⟨b,off+j,none⟩=some u:=fun j u hu=>by
   have hj:j<(rcs x).length:=(List.getElem?_eq_some_iff.1 hu).1;rw [zfm] at hj;obtain ⟨r,hr⟩:∃ r,x[j / 2]?=some r:=⟨_,List.getElem?_eq_getElem (by omega)⟩;obtain ⟨e1,e2⟩:=zfn hr;obtain ⟨g1,g2⟩:=hc (j / 2) r hr;rcases (by omega:j=j / 2 * 2∨j=j / 2 * 2+1) with e | e
   ·rw [e,e1] at hu;cases hu;rw [e];exact g1
   ·rw [e,e2] at hu;cases hu;rw [e,← Nat.add_assoc];exact g2
  exact (AnyE.slices_Clone Tryz.lCloneQ i0 (.agg #[.string ByteArray.empty,.string ByteArray.empty]) 2 32 hi hz0 hz1 hz2 rfl (by decide) Tryz.sizeOf65 b off x.length cap (rcs x) w (by rw [zfm];omega) (by unfold maxLen;omega) (by omega) hcell (by
   intro u hu;unfold rcs at hu;obtain ⟨r,_,hr⟩:=List.mem_flatMap.1 hu;simp only [rc,List.mem_cons,List.not_mem_nil,or_false] at hr;rcases hr with rfl | rfl <;> rfl)).mono fun e w' ⟨v',he,ho,_,hb⟩=>⟨v',he,ho,hb⟩
theorem zi7 (v:Value)(p:List Int)(w:World)(hx:Sl w v (zal p))(hl:p.length≤1000000)(hne:p ≠ []) :
  Calls Tryz.prog 36 #[v] w fun e w'=>∃ u,e=.returned u∧zeZ w' w.heap.size u p∧Ext w w':=by
 obtain ⟨i0,hi,hz0,hz1,hz2⟩:=info_parts zeY;obtain ⟨a,cap,rfl,hm,h1,hc⟩:=hx.parts;obtain ⟨q,hq⟩:∃ q,p[0]?=some q:=⟨_,List.getElem?_eq_getElem (List.length_pos_iff.2 hne)⟩;obtain ⟨b,off,rfl,_⟩:=hc 0 (.int .i64 q) (by unfold zal;rw [List.getElem?_map,hq];rfl);have hcell:∀ j u,(zal p)[j]?=some u→w.cell? ⟨b,off+j,none⟩=some u:=fun j u hu=>by
  obtain ⟨b2,off2,e,h⟩:=hc j u hu
  cases e
  exact h
 refine (AnyE.slices_Clone Tryz.lCloneP i0 (.int .i64 0) 1 8 hi hz0 hz1 hz2 rfl (by decide) Tryz.sizeOf3 b off (zal p).length cap (zal p) w (by omega) (by rw [zan];unfold maxLen;omega) (by rw [zan];omega) hcell (by simp [zal,Value.oneCell'])).mono fun e w' ⟨v',he,ho,_,hb⟩=>⟨v',he,?_,hb⟩;rw [zan] at ho;exact ho
theorem zi8 (rs:List Qw)(r:Qw):qwc (rs++[r])=qwc rs++[r.u]:=by simp [qwc]
theorem QwM.nil (w:World)(b B:Nat):QwM w b B (.slice none 0 0) []:=⟨World.ownsRow_nil w _ _ 1,fun _ h=>by cases h⟩
theorem QwM.more {w0 W V:World}{o:Obj}{v v7:Value}{rs:List Qw}{r:Qw}(hE:Ext w0 W)(h:QwM W w0.heap.size w0.heap.size v rs)(hr:zfo W w0.heap.size r.u r.x)
  (hown:V.ownsRow w0.heap.size 41 1 v7 (rs.length+1) (qwc rs++[r.u])) (hgrow:(W.alloc o).grownBy V v.ownBlock):QwM V w0.heap.size w0.heap.size v7 (rs++[r])∧Ext w0 V:=by
 have hal:=h.1.alloc o;have hkeep:∀ s:Qw,zfo W w0.heap.size s.u s.x→zfo V w0.heap.size s.u s.x:=fun s hs=>World.ownsRow.kept (World.ownsRow.alloc hs o) hgrow (zfd (World.ownsRow.alloc hs o) hal (by decide));refine ⟨⟨?_,fun s hs=>?_⟩,(hE.alloc o).grown hgrow fun k hk=>(World.ownsRow.lt hal k hk).1⟩
 ·rw [List.length_append,List.length_singleton,zi8];exact hown
 ·rcases List.mem_append.1 hs with g | g
  ·exact hkeep s (h.2 s g)
  ·rw [List.mem_singleton] at g;subst g;exact hkeep s hr
end
end Go.Proofs.YtebabancfnmfjaaGreatDoor
