/- Plain: notes, modes and subsets of right scales over 2.3 and 2.3.5. Plain: the notes of a collection of sizes. The row of an insertion sort whose compare makes memory. Walks: slices.SortStableFunc at ints and slices.SortFunc at sizes, at most twelve elements, with a compare that makes memory. Walks: equal sizes: slices.Equal at fractions, size.Equal. Walks: slices.Clone at sizes and at primes; a list of sizes with one more. Walk: size.Sort of at most twelve sizes: the whole. -/
import Derived.Test.YtoehmpbipbbffaaGreatDoorPa16
import Derived.Test.YtoehmpbipbbffaaGreatDoorPa15
import Derived.Test.YtoehmpbipbbffaaGreatDoorPa06
import Derived.Shelf.RegionOpenPlain
import Derived.Shelf.Abstract
import Derived.Shelf.SlicesE.Kit
import Derived.Deep.RegionHeld3
import Derived.Test.YtoehmpbipbbffaaGreatDoorPa11
import Derived.Test.YtoehmpbipbbffaaGreatDoorPa08
import Derived.Test.YtoehmpbipbbffaaGreatDoorPa09
import Derived.Test.YtoehmpbipbbffaaGreatDoorShelfE
import Derived.Test.YtoehmpbipbbffaaGreatDoorPa14
set_option maxRecDepth 100000
set_option maxHeartbeats 2000000
namespace Go.Proofs.YtoehmpbipbbffaaGreatDoor
section
def zer (n:Nat):List Rat:=List.replicate n 0
theorem ziV (n:Nat):(zer n).length=n:=List.length_replicate
theorem ziW {x y:List Rat}(h:x.length=y.length):(zeT x y).length=x.length:=by unfold zeT;rw [List.length_zipWith,← h,Nat.min_self]
theorem ziX : ∀ (x:List Rat),zeT x (zer x.length)=x
 | []=>rfl
 | a::x=>by
  have ih:=ziX x;unfold zeT zer at ih ⊢;rw [List.length_cons,List.replicate_succ,List.zipWith_cons_cons,ih];congr 1;grind
theorem ziY : ∀ (x:List Rat),zeT x x=zer x.length
 | []=>rfl
 | a::x=>by
  have ih:=ziY x;unfold zeT zer at ih ⊢;rw [List.length_cons,List.replicate_succ,List.zipWith_cons_cons,ih];congr 1;grind
theorem ziZ : ∀ {x y z:List Rat},x.length=y.length→y.length=z.length→zeT (zeT x z) (zeT y z)=zeT x y
 | [],[],[],_,_=>rfl
 | a::x,b::y,c::z,h1,h2=>by
  have ih:=ziZ (x:=x) (y:=y) (z:=z) (by simpa using h1) (by simpa using h2);unfold zeT at ih ⊢;simp only [List.zipWith_cons_cons,ih];congr 1;grind
def shf (q:Int):List Rat→List Rat
 | []=>[]
 | a::tl=>(a+(q:Rat))::tl
theorem zja (q:Int)(x:List Rat):(shf q x).length=x.length:=by cases x <;> simp [shf]
theorem zjb (q r:Int)(x:List Rat):shf q (shf r x)=shf (r+q) x:=by
 cases x with
 | nil=>rfl
 | cons a x =>
  simp only [shf,Rat.intCast_add]
  congr 1
  grind
theorem zjc (x:List Rat):shf 0 x=x:=by
 cases x with
 | nil=>rfl
 | cons a x =>
  simp only [shf]
  congr 1
  show a+((0:Int):Rat)=a
  rw [show ((0:Int):Rat)=0 from rfl]
  grind
theorem zjd {q r:Int}:∀ {x y:List Rat},x.length=y.length→zeT (shf q x) (shf r y)=shf (q - r) (zeT x y)
 | [],[],_=>rfl
 | a::x,b::y,_=>by
  simp only [zeT,shf,List.zipWith_cons_cons,Rat.intCast_sub];congr 1;grind
theorem zje {p:List Int}{x:List Rat}(hp:Pr p x.length)(q:Int):sF p (shf q x)=sF p x+(q:Rat) * 67108864:=by
 cases x with
 | nil=>rcases hp with ⟨_,h⟩ | ⟨_,h⟩ <;> cases h
 | cons a x =>
  obtain ⟨ps,rfl⟩:∃ ps,p=2::ps:=by rcases hp with ⟨rfl,_⟩ | ⟨rfl,_⟩ <;> exact ⟨_,rfl⟩
  simp only [shf,sF,lgs.1]
  show (a+(q:Rat)) * ((67108864:Int):Rat)+_=_
  rw [show ((67108864:Int):Rat)=67108864 from rfl]
  grind
theorem zjf {k q:Int}{x:List Rat}(h:Bx k x):Bx k (shf q x):=by
 match x,h with
 | [a,b],⟨A,B,h1,h2⟩=>exact ⟨A+q,B,by rw [Rat.intCast_add,h1],h2⟩
 | [a,b,c],⟨A,B,C,h1,h2⟩=>exact ⟨A+q,B,C,by rw [Rat.intCast_add,h1],h2⟩
theorem zjg {n:Nat}{q:Int}{x:List Rat}(h:Oc n x):Oc n (shf q x):=by
 match x,h with
 | [a,b],⟨h1,A,h2⟩=>exact ⟨h1,A+q * n,by rw [Rat.intCast_add,Rat.intCast_mul,Rat.intCast_natCast,← h2];grind⟩
 | [a,b,c],⟨h1,h3,A,h2⟩=>exact ⟨h1,h3,A+q * n,by rw [Rat.intCast_add,Rat.intCast_mul,Rat.intCast_natCast,← h2];grind⟩
theorem zjh {n:Nat}{q:Int}{x:List Rat}(h:Nic n x):Nic n (shf q x):=by
 rcases h with ⟨e,h⟩ | ⟨h1,h2,h⟩
 ·exact .inl ⟨e,zjf h⟩
 ·exact .inr ⟨h1,h2,zjg h⟩
theorem zji (n:Nat)(q:Int):zeU (ov n) (q:Rat)=shf q (zer (n+1)):=by
 unfold zeU ov zer;rw [List.map_cons,List.map_replicate,List.replicate_succ];simp only [shf];congr 1
 ·grind
 ·congr 1;grind
theorem zjj {q:Int}:∀ {x:List Rat},zeS (shf q (zer x.length)) x=shf q x
 | []=>rfl
 | a::x=>by
  unfold zer zeS;rw [List.length_cons,List.replicate_succ];simp only [shf,List.zipWith_cons_cons];congr 1
  ·grind
  ·have:∀ l:List Rat,List.zipWith (·+·) (List.replicate l.length 0) l=l:=fun l=>by
    induction l with
    | nil=>rfl
    | cons b l ih=>rw [List.length_cons,List.replicate_succ,List.zipWith_cons_cons,ih];congr 1;grind
   exact this x
theorem zjk (n:Nat):ov n=shf 1 (zer (n+1)):=by
 unfold ov zer;rw [List.replicate_succ];simp only [shf];congr 1;show (1:Rat)=0+((1:Int):Rat);rw [show ((1:Int):Rat)=1 from rfl];grind
theorem zjl (p:List Int)(n:Nat):sF p (zer n)=0:=zfs p _ fun _ h=>List.eq_of_mem_replicate h
theorem zjm {p:List Int}{n:Nat}(h:Pr p n):p.length=n∧0<n:=by rcases h with ⟨rfl,rfl⟩ | ⟨rfl,rfl⟩ <;> exact ⟨rfl,by omega⟩
structure Wd (p:List Int)(N:List (List Rat)):Prop where
 pr:Pr p p.length
 ne:N ≠ []
 few:N.length≤60
 len:∀ x∈N,x.length=p.length
 last:N[N.length - 1]?=some (ov (p.length - 1))
 up:Srt p (zer p.length::N)
 dif:∃ n,∀ x∈zer p.length::N,∀ y∈zer p.length::N,Nic n (zeT x y)
def zat (p:List Int)(N:List (List Rat))(i:Nat):List Rat:=((zer p.length::N)[i]?).getD []
def nt (p:List Int)(N:List (List Rat))(k:Int):List Rat:=shf (k / (N.length:Int)) (zat p N (k % (N.length:Int)).toNat)
section
variable {p : List Int} {N : List (List Rat)} (h : Wd p N)
include h
theorem Wd.pos : 0<N.length:=List.length_pos_iff.2 h.ne
theorem Wd.zmem {i:Nat}(hi:i≤N.length):zat p N i∈zer p.length::N:=by
 have _:=h;unfold zat;rw [List.getElem?_eq_getElem (by rw [List.length_cons];omega)];exact List.getElem_mem _
theorem Wd.zlen {i:Nat}(hi:i≤N.length):(zat p N i).length=p.length:=by
 rcases List.mem_cons.1 (h.zmem hi) with e | e
 ·rw [e,ziV]
 ·exact h.len _ e
theorem Wd.zlast : zat p N N.length=ov (p.length - 1):=by
 have:=h.pos;unfold zat;rw [List.getElem?_cons,if_neg (by omega),h.last];rfl
theorem Wd.zlt {i j:Nat}(hij:i<j)(hj:j≤N.length):sF p (zat p N i)<sF p (zat p N j):=by
 have:=h.up;unfold Srt at this;rw [List.pairwise_iff_getElem] at this;have g:=this i j (by rw [List.length_cons];omega) (by rw [List.length_cons];omega) hij;unfold zat;rw [List.getElem?_eq_getElem (by rw [List.length_cons];omega),List.getElem?_eq_getElem (by rw [List.length_cons];omega)];exact g
theorem Wd.sov : sF p (ov (p.length - 1))=67108864:=by
 have hp:=h.pr;have h0:=(zjm hp).2;rw [zjk,zje (by rw [ziV,show p.length - 1+1=p.length by omega];exact hp),zjl];show (0:Rat)+((1:Int):Rat) * 67108864=_;rw [show ((1:Int):Rat)=1 from rfl];grind
theorem Wd.zbd {i:Nat}(hi:i<N.length):0≤sF p (zat p N i)∧sF p (zat p N i)<67108864:=by
 have h2:=h.zlt hi (Nat.le_refl _);rw [h.zlast,h.sov] at h2;refine ⟨?_,h2⟩;rcases Nat.eq_zero_or_pos i with rfl | g
 ·show 0≤sF p (zer p.length);rw [zjl];exact Rat.le_refl
 ·have h1:=h.zlt g (by omega);have e:sF p (zat p N 0)=0:=zjl p _;rw [e] at h1;exact Rat.le_of_lt h1
theorem Wd.ntlen (k:Int):(nt p N k).length=p.length:=by
 have h0:=h.pos;have:=Int.emod_nonneg k (show (N.length:Int) ≠ 0 by omega);have:=Int.emod_lt_of_pos k (show (0:Int)<(N.length:Int) by omega);unfold nt;rw [zja];exact h.zlen (by omega)
theorem Wd.sF_nt (k:Int):sF p (nt p N k)=sF p (zat p N (k % (N.length:Int)).toNat)+((k / (N.length:Int):Int):Rat) * 67108864:=by
 have h0:=h.pos;have:=Int.emod_nonneg k (show (N.length:Int) ≠ 0 by omega);have:=Int.emod_lt_of_pos k (show (0:Int)<(N.length:Int) by omega);unfold nt;exact zje (by rw [h.zlen (by omega)];exact h.pr) _
theorem Wd.nt_shift (k q:Int):nt p N (k+q * (N.length:Int))=shf q (nt p N k):=by
 have h0:=h.pos;unfold nt;rw [Int.add_mul_emod_self_right,Int.add_mul_ediv_right _ _ (by omega),zjb]
theorem Wd.nt_lt {k l:Int}(hkl:k<l):sF p (nt p N k)<sF p (nt p N l):=by
 have h0:=h.pos;have hN:(0:Int)<(N.length:Int):=by omega
 have a1:=Int.emod_nonneg k (show (N.length:Int) ≠ 0 by omega);have a2:=Int.emod_lt_of_pos k hN;have a3:=Int.mul_ediv_add_emod k (N.length:Int);have b1:=Int.emod_nonneg l (show (N.length:Int) ≠ 0 by omega);have b2:=Int.emod_lt_of_pos l hN;have b3:=Int.mul_ediv_add_emod l (N.length:Int);rw [h.sF_nt,h.sF_nt];have z1:=h.zbd (i:=(k % (N.length:Int)).toNat) (by omega);have z2:=h.zbd (i:=(l % (N.length:Int)).toNat) (by omega);have hq:k / (N.length:Int)≤l / (N.length:Int):=Int.ediv_le_ediv hN (by omega);rcases (by omega:k / (N.length:Int)=l / (N.length:Int)∨k / (N.length:Int)+1≤l / (N.length:Int)) with e | e
 ·have:=h.zlt (i:=(k % (N.length:Int)).toNat) (j:=(l % (N.length:Int)).toNat) (by rw [e] at a3;omega) (by omega);rw [e];grind
 ·have hc:(((k / (N.length:Int))+1:Int):Rat)≤((l / (N.length:Int):Int):Rat):=Rat.intCast_le_intCast.2 e;rw [Rat.intCast_add,show ((1:Int):Rat)=1 from rfl] at hc;grind
theorem Wd.nt_zero : nt p N 0=zer p.length:=by
 have _:=h;unfold nt;rw [Int.zero_ediv,Int.zero_emod,zjc];rfl
theorem Wd.nt_low {i:Nat}(hi:i≤N.length):nt p N (i:Int)=zat p N i:=by
 have h0:=h.pos;rcases Nat.lt_or_ge i N.length with g | g
 ·unfold nt;rw [Int.ediv_eq_zero_of_lt (by omega) (by omega),Int.emod_eq_of_lt (by omega) (by omega),zjc,Int.toNat_natCast]
 ·obtain rfl:i=N.length:=by omega
  have:=h.nt_shift 0 1;rw [Int.zero_add,Int.one_mul,h.nt_zero] at this;rw [this,h.zlast,zjk,show p.length - 1+1=p.length by have:=(zjm h.pr).2;omega]
theorem Wd.nt_nic {n:Nat}(hn:∀ x∈zer p.length::N,∀ y∈zer p.length::N,Nic n (zeT x y))(k l:Int):Nic n (zeT (nt p N k) (nt p N l)):=by
 have h0:=h.pos;have hN:(0:Int)<(N.length:Int):=by omega
 have a1:=Int.emod_nonneg k (show (N.length:Int) ≠ 0 by omega);have a2:=Int.emod_lt_of_pos k hN;have b1:=Int.emod_nonneg l (show (N.length:Int) ≠ 0 by omega);have b2:=Int.emod_lt_of_pos l hN;unfold nt;rw [zjd (by rw [h.zlen (by omega),h.zlen (by omega)])];exact zjh (hn _ (h.zmem (by omega)) _ (h.zmem (by omega)))
theorem Wd.pick (k0:Int)(ks:List Int)(hl:ks.length≤60)(hup:(k0::ks).Pairwise (·<·))(hlast:ks[ks.length - 1]?=some (k0+(N.length:Int))):Wd p (ks.map fun k=>zeT (nt p N k) (nt p N k0)):=by
 obtain ⟨n,hn⟩:=h.dif;have hz:zer p.length::(ks.map fun k=>zeT (nt p N k) (nt p N k0))=(k0::ks).map fun k=>zeT (nt p N k) (nt p N k0):=by
  rw [List.map_cons,ziY,h.ntlen]
 refine ⟨h.pr,?_,by rw [List.length_map];exact hl,?_,?_,?_,n,?_⟩
 ·intro e;rw [List.map_eq_nil_iff] at e;rw [e] at hlast
  cases hlast
 ·intro x hx;obtain ⟨k,_,rfl⟩:=List.mem_map.1 hx;rw [ziW (by rw [h.ntlen,h.ntlen]),h.ntlen]
 ·rw [List.length_map,List.getElem?_map,hlast,Option.map_some];have e:=h.nt_shift k0 1;rw [Int.one_mul] at e;have e2:zeT (shf 1 (nt p N k0)) (nt p N k0)=shf 1 (zer p.length):=by
   have:=zjd (q:=1) (r:=0) (x:=nt p N k0) (y:=nt p N k0) rfl;rw [zjc,ziY,h.ntlen] at this;exact this
  rw [e,e2,zjk,show p.length - 1+1=p.length by have:=(zjm h.pr).2;omega]
 ·rw [hz];unfold Srt;rw [List.pairwise_map];refine hup.imp fun {a b} g=>?_;rw [zeV _ _ _ (by rw [h.ntlen,h.ntlen]),zeV _ _ _ (by rw [h.ntlen,h.ntlen])];have:=h.nt_lt g;grind
 ·rw [hz];intro x hx y hy;obtain ⟨k,_,rfl⟩:=List.mem_map.1 hx;obtain ⟨l,_,rfl⟩:=List.mem_map.1 hy;rw [ziZ (by rw [h.ntlen,h.ntlen]) (by rw [h.ntlen,h.ntlen])];exact h.nt_nic hn k l
end
def mdI (N:List (List Rat))(m:Int):List Int:=(List.range N.length).map fun (i:Nat)=>m+(i:Int)+1
def md (p:List Int)(N:List (List Rat))(m:Int):List (List Rat):=(mdI N m).map fun k=>zeT (nt p N k) (nt p N m)
theorem zjn (N:List (List Rat))(m:Int):(mdI N m).length=N.length:=by unfold mdI;simp
theorem Wd.mode {p:List Int}{N:List (List Rat)}(h:Wd p N)(m:Int):Wd p (md p N m):=by
 refine h.pick m (mdI N m) (by rw [zjn];exact h.few) ?_ ?_
 ·rw [List.pairwise_cons];constructor
  ·intro b hb;unfold mdI at hb;obtain ⟨i,_,rfl⟩:=List.mem_map.1 hb;omega
  ·unfold mdI;rw [List.pairwise_map];exact List.pairwise_lt_range.imp fun {a b} g=>by omega
 ·have:=h.pos;rw [zjn];unfold mdI;rw [List.getElem?_map,List.getElem?_range (by omega)];simp;omega
theorem Wd.right {p:List Int}{rs:List Qw}(h:Wd p (rs.map Qw.x)):ziJ p rs:=by
 obtain ⟨n,hn⟩:=h.dif;have h0:=(zjm h.pr).2;have hne:=h.pos;rw [List.length_map] at hne;have hfew:=h.few;rw [List.length_map] at hfew;have hprev:∀ k r,rs[k]?=some r→ziI p.length rs k=zat p (rs.map Qw.x) k∧r.x=zat p (rs.map Qw.x) (k+1)∧k<rs.length:=fun k r hr=>by
  refine ⟨?_,?_,(List.getElem?_eq_some_iff.1 hr).1⟩
  ·unfold ziI zat
   cases k with
   | zero=>rfl
   | succ k=>rw [if_neg (by omega),List.getElem?_cons_succ,List.getElem?_map,Nat.add_sub_cancel]
  ·unfold zat;rw [List.getElem?_cons_succ,List.getElem?_map,hr];rfl
 have hsm:∀ x,Nic n x→x.length=p.length→-67108864≤sF p x→sF p x≤67108864→zid p x:=fun x hx hl g1 g2 =>
  ziU (c:=1) (by rw [hl];exact h.pr) hx (by omega) (by omega) (by
   rw [show ((1 * 67108864:Int):Rat)=67108864 from rfl];exact g1) (by
   rw [show ((1 * 67108864:Int):Rat)=67108864 from rfl];exact g2)
 have hall:∀ i,i≤(rs.map Qw.x).length→0≤sF p (zat p (rs.map Qw.x) i)∧sF p (zat p (rs.map Qw.x) i)≤67108864:=fun i hi=>by
  rcases Nat.lt_or_ge i (rs.map Qw.x).length with g | g
  ·have:=h.zbd g;exact ⟨this.1,Rat.le_of_lt this.2⟩
  ·rw [show i=(rs.map Qw.x).length by omega,h.zlast,h.sov];exact ⟨by decide,Rat.le_refl⟩
 have hq:∀ k r,rs[k]?=some r→Nic n (zeT (ziI p.length rs k) r.x)∧sF p (zeT (ziI p.length rs k) r.x)<0∧zid p (zeT (ziI p.length rs k) r.x)∧(zeT (ziI p.length rs k) r.x).length=p.length:=fun k r hr=>by
  obtain ⟨e1,e2,e3⟩:=hprev k r hr;rw [e1,e2];have hl1:=h.zlen (i:=k) (by rw [List.length_map];omega);have hl2:=h.zlen (i:=k+1) (by rw [List.length_map];omega);have b1:=hall k (by rw [List.length_map];omega);have b2:=hall (k+1) (by rw [List.length_map];omega);have hlt:=h.zlt (i:=k) (j:=k+1) (by omega) (by rw [List.length_map];omega);have hni:=hn _ (h.zmem (i:=k) (by rw [List.length_map];omega)) _ (h.zmem (i:=k+1) (by rw [List.length_map];omega));have hl3:=ziW (hl1.trans hl2.symm);have hs:=zeV p _ _ (hl1.trans hl2.symm);refine ⟨hni,by grind,hsm _ hni (hl3.trans hl1) (by grind) (by grind),hl3.trans hl1⟩
 refine ⟨?_,?_,by omega,by omega,fun r hr=>h.len _ (List.mem_map_of_mem hr),?_,fun k r hr=>(hq k r hr).2.2.1,?_⟩
 ·rcases h.pr with ⟨e,_⟩ | ⟨e,_⟩ <;> rw [e] <;> decide
 ·rcases h.pr with ⟨e,_⟩ | ⟨e,_⟩ <;> rw [e] <;> decide
 ·intro r hr;obtain ⟨k,hk⟩:=List.mem_iff_getElem?.1 hr;obtain ⟨_,e2,e3⟩:=hprev k r hk;have hni:=hn _ (h.zmem (i:=k+1) (by rw [List.length_map];omega)) _ (List.mem_cons_self ..);have hl2:=h.zlen (i:=k+1) (by rw [List.length_map];omega);rw [← e2] at hni hl2;have hb:=hall (k+1) (by rw [List.length_map];omega);rw [← e2] at hb;rw [← hl2,ziX] at hni;exact (hsm _ hni hl2 (by grind) hb.2).1
 ·intro k r hr;obtain ⟨h1,h2,_,h4⟩:=hq k r hr;rw [zfv (by rw [h4];exact h.pr) h1.nice];unfold sgQ;rw [if_pos h2]
def rst (p:List Int)(x:List Rat):List Rat:=shf (-(flP p x)) x
def zjo (p:List Int)(out:List (List Rat))(x:List Rat):List (List Rat):=if rst p x=zer p.length∨rst p x∈out then out else out++[rst p x]
def zjq (p:List Int)(init l:List (List Rat)):List (List Rat):=l.foldl (zjo p) init
theorem zjr (p:List Int)(init l:List (List Rat))(x:List Rat):zjq p init (l++[x])=zjo p (zjq p init l) x:=by unfold zjq;rw [List.foldl_append];rfl
theorem zjs {p:List Int}{init l:List (List Rat)}{k:Nat}{x:List Rat}(h:l[k]?=some x):zjq p init (l.take (k+1))=zjo p (zjq p init (l.take k)) x:=by
 obtain ⟨hk,rfl⟩:=List.getElem?_eq_some_iff.1 h;rw [List.take_succ_eq_append_getElem hk,zjr]
theorem zjt (p:List Int)(init l:List (List Rat)):(zjq p init l).length≤init.length+l.length:=by
 induction l generalizing init with
 | nil=>simp [zjq]
 | cons x l ih =>
  have:=ih (zjo p init x)
  show (zjq p (zjo p init x) l).length≤_
  have h2:(zjo p init x).length≤init.length+1:=by
   unfold zjo;split <;> simp
  simp only [List.length_cons]
  omega
theorem zju {p:List Int}(l:List (List Rat)):∀ (init:List (List Rat))(x:List Rat),x∈zjq p init l ↔ x∈init∨(x ≠ zer p.length∧∃ y∈l,x=rst p y):=by
 induction l with
 | nil=>intro init x;simp [zjq]
 | cons z l ih =>
  intro init x
  show x∈zjq p (zjo p init z) l ↔ _
  rw [ih]
  have hs:x∈zjo p init z ↔ x∈init∨(x ≠ zer p.length∧x=rst p z):=by
   unfold zjo;split
   ·rename_i h;constructor
    ·exact .inl
    ·rintro (g | ⟨g1,g2⟩)
     ·exact g
     ·subst g2;rcases h with h | h
      ·exact absurd h g1
      ·exact h
   ·rename_i h;rw [List.mem_append,List.mem_singleton];constructor
    ·rintro (g | g)
     ·exact .inl g
     ·subst g;exact .inr ⟨fun e=>h (.inl e),rfl⟩
    ·rintro (g | ⟨_,g⟩)
     ·exact .inl g
     ·exact .inr g
  rw [hs]
  constructor
  ·rintro ((g | ⟨g1,g2⟩) | ⟨g1,y,hy,g2⟩)
   ·exact .inl g
   ·exact .inr ⟨g1,z,List.mem_cons_self ..,g2⟩
   ·exact .inr ⟨g1,y,List.mem_cons_of_mem _ hy,g2⟩
  ·rintro (g | ⟨g1,y,hy,g2⟩)
   ·exact .inl (.inl g)
   ·rcases List.mem_cons.1 hy with rfl | hy
    ·exact .inl (.inr ⟨g1,g2⟩)
    ·exact .inr ⟨g1,y,hy,g2⟩
theorem zjv {p:List Int}(l:List (List Rat)):∀ (init:List (List Rat)),init.Nodup→(zjq p init l).Nodup:=by
 induction l with
 | nil=>intro init h;exact h
 | cons z l ih =>
  intro init h
  refine ih _ ?_
  unfold zjo
  split
  ·exact h
  ·rename_i g
   rw [List.nodup_append]
   refine ⟨h,by simp,fun a ha b hb=>?_⟩
   rw [List.mem_singleton] at hb
   subst hb
   rintro rfl
   exact g (.inr ha)
structure Lw (p:List Int)(c:Int)(l:List (List Rat)):Prop where
 pr:Pr p p.length
 len:∀ x∈l,x.length=p.length
 c0:0≤c
 c1:c≤10000
 bd:∀ x∈l,-((c * 67108864:Int):Rat)≤sF p x∧sF p x≤((c * 67108864:Int):Rat)
 dif:∃ n,∀ x∈zer p.length::l,∀ y∈zer p.length::l,Nic n (zeT x y)
theorem Lw.nic {p:List Int}{c:Int}{l:List (List Rat)}(h:Lw p c l):∃ n,∀ x∈l,Nic n x:=by
 obtain ⟨n,hn⟩:=h.dif;refine ⟨n,fun x hx=>?_⟩;have:=hn x (List.mem_cons_of_mem _ hx) _ (List.mem_cons_self ..);rwa [← h.len x hx,ziX] at this
theorem zjw {n:Nat}{p:List Int}{x:List Rat}(hp:Pr p x.length)(h:Nic n x):∃ a tl,x=a::tl∧tl.length+1=p.length∧(Bx 256 (a::tl)∨∀ r∈tl,r=0):=by
 obtain ⟨a,tl,rfl⟩:∃ a tl,x=a::tl:=by
  rcases hp with ⟨_,hl⟩ | ⟨_,hl⟩ <;> (cases x with | nil=>cases hl | cons a tl=>exact ⟨a,tl,rfl⟩)
 refine ⟨a,tl,rfl,(zjm hp).1.symm,?_⟩;rcases h with ⟨_,h⟩ | ⟨_,_,h⟩
 ·exact .inl h
 ·right;match tl,h with
  | [b],⟨hb,_⟩=>intro r hr;simp at hr;rw [hr];exact hb
  | [b,d],⟨hb,hd,_⟩=>intro r hr;simp at hr;rcases hr with e | e <;> rw [e] <;> assumption
theorem zjx {n:Nat}{p:List Int}{x:List Rat}(hp:Pr p x.length)(h:Nic n x):0≤sF p (rst p x)∧sF p (rst p x)<67108864:=by
 obtain ⟨a,tl,rfl,hl,hb⟩:=zjw hp h;unfold rst;rw [zje hp,zi1 hp hb];have h1:=Rat.floor_le (sF p (a::tl) / 67108864);have h2:=Rat.lt_floor_add_one (sF p (a::tl) / 67108864);rw [Rat.intCast_neg];grind
theorem zjy {n:Nat}{p:List Int}{x:List Rat}{c:Int}(hp:Pr p x.length)(h:Nic n x)(h1:-((c * 67108864:Int):Rat)≤sF p x)(h2:sF p x≤((c * 67108864:Int):Rat)):-c≤flP p x∧flP p x≤c:=by
 obtain ⟨a,tl,rfl,hl,hb⟩:=zjw hp h;rw [zi1 hp hb];rw [Rat.intCast_mul,show ((67108864:Int):Rat)=67108864 from rfl] at h1 h2;constructor
 ·rw [Rat.le_floor_iff,Rat.intCast_neg];grind
 ·have g1:=Rat.floor_le (sF p (a::tl) / 67108864);have:((sF p (a::tl) / 67108864).floor:Rat)≤(c:Rat):=by grind
  exact Rat.intCast_le_intCast.1 this
theorem Lw.quick {p:List Int}{c:Int}{l:List (List Rat)}(h:Lw p c l)(x:List Rat)(hx:x∈l):zid p x:=by
 obtain ⟨n,hn⟩:=h.nic;exact ziU (by rw [h.len x hx];exact h.pr) (hn x hx) h.c0 (by have:=h.c1;omega) (h.bd x hx).1 (h.bd x hx).2
def zjz (p:List Int)(l N:List (List Rat)):Prop:=Srt p N∧∀ x,x∈N ↔ x=ov (p.length - 1)∨(x ≠ zer p.length∧∃ y∈l,x=rst p y)
theorem zj0 {p:List Int}{l N M:List (List Rat)}(h1:zjz p l N)(h2:zjz p l M):N=M :=
 zi7 h1.1 h2.1 fun x=>by rw [h1.2,h2.2]
theorem zj1 {p:List Int}(hp:Pr p p.length):ov (p.length - 1)=shf 1 (zer p.length):=by
 rw [zjk,show p.length - 1+1=p.length by have:=(zjm hp).2;omega]
theorem sov {p:List Int}(hp:Pr p p.length):sF p (ov (p.length - 1))=67108864:=by
 rw [zj1 hp,zje (by rw [ziV];exact hp),zjl];show (0:Rat)+((1:Int):Rat) * 67108864=_;rw [show ((1:Int):Rat)=1 from rfl];grind
theorem Lw.play {p:List Int}{c:Int}{l:List (List Rat)}(h:Lw p c l):∃ n,∀ x y,(x=zer p.length∨x=ov (p.length - 1)∨∃ z∈l,x=rst p z)→(y=zer p.length∨y=ov (p.length - 1)∨∃ z∈l,y=rst p z)→x.length=p.length∧Nic n (zeT x y):=by
 obtain ⟨n,hn⟩:=h.dif;have key:∀ x,(x=zer p.length∨x=ov (p.length - 1)∨∃ z∈l,x=rst p z)→∃ q,∃ z∈zer p.length::l,x=shf q z∧z.length=p.length:=by
  rintro x (rfl | rfl | ⟨z,hz,rfl⟩)
  ·exact ⟨0,_,List.mem_cons_self ..,(zjc _).symm,ziV _⟩
  ·exact ⟨1,_,List.mem_cons_self ..,zj1 h.pr,ziV _⟩
  ·exact ⟨_,z,List.mem_cons_of_mem _ hz,rfl,h.len z hz⟩
 refine ⟨n,fun x y hx hy=>?_⟩;obtain ⟨q,z,hz,rfl,hl⟩:=key x hx;obtain ⟨r,u,hu,rfl,hl2⟩:=key y hy;refine ⟨by rw [zja,hl],?_⟩;rw [zjd (hl.trans hl2.symm)];exact zjh (hn z hz u hu)
theorem Lw.range {p:List Int}{c:Int}{l:List (List Rat)}(h:Lw p c l){z:List Rat}(hz:z∈l):0≤sF p (rst p z)∧sF p (rst p z)<67108864:=by
 obtain ⟨n,hn⟩:=h.nic;exact zjx (by rw [h.len z hz];exact h.pr) (hn z hz)
theorem Lw.inj {p:List Int}{c:Int}{l:List (List Rat)}(h:Lw p c l){x y:List Rat}(hx:x=zer p.length∨x=ov (p.length - 1)∨∃ z∈l,x=rst p z)(hy:y=zer p.length∨y=ov (p.length - 1)∨∃ z∈l,y=rst p z)(e:sF p x=sF p y):x=y:=by
 obtain ⟨n,hn⟩:=h.play;have h1:=hn x y hx hy;have h2:=hn y x hy hx;exact zfy (by rw [h1.1];exact h.pr) (h1.1.trans h2.1.symm) h1.2.nice e
theorem zj2 : ∀ {N M:List (List Rat)},N.Nodup→N ⊆ M→N.length≤M.length
 | [],_,_,_=>Nat.zero_le _
 | a::N,M,h,hs=>by
  rw [List.nodup_cons] at h;have ha:a∈M:=hs (List.mem_cons_self ..);have ih:=zj2 (N:=N) (M:=M.erase a) h.2 fun x hx=>by
   have hxa:x ≠ a:=fun e=>h.1 (e ▸ hx);exact (List.mem_erase_of_ne hxa).2 (hs (List.mem_cons_of_mem _ hx))
  rw [List.length_erase_of_mem ha] at ih;have:=List.length_pos_of_mem ha;rw [List.length_cons];omega
theorem zj3 {p:List Int}{c:Int}{l N:List (List Rat)}(h:Lw p c l)(hc:zjz p l N):N.length≤l.length+1:=by
 have _:=h;have hnd:N.Nodup:=hc.1.imp fun {a b} g e=>by rw [e] at g;grind
 have hsub:N ⊆ zjq p [ov (p.length - 1)] l:=fun x hx=>by
  rw [zju];rcases (hc.2 x).1 hx with e | g
  ·left;rw [e];simp
  ·exact .inr g
 have h1:=zj2 hnd hsub;have h2:=zjt p [ov (p.length - 1)] l;simp at h2;omega
theorem zj4 {p:List Int}{c:Int}{l N:List (List Rat)}(h:Lw p c l)(hc:zjz p l N)(hl:l.length≤59):Wd p N:=by
 obtain ⟨n,hn⟩:=h.play;have hin:∀ x∈N,x=zer p.length∨x=ov (p.length - 1)∨∃ z∈l,x=rst p z:=fun x hx=>by
  rcases (hc.2 x).1 hx with e | ⟨_,g⟩
  ·exact .inr (.inl e)
  ·exact .inr (.inr g)
 have hpos:∀ x∈N,0<sF p x∧sF p x≤67108864:=fun x hx=>by
  rcases (hc.2 x).1 hx with e | ⟨g0,z,hz,e⟩
  ·rw [e,sov h.pr];exact ⟨by decide,Rat.le_refl⟩
  ·have hr:=h.range hz;refine ⟨?_,by rw [e];exact Rat.le_of_lt hr.2⟩;have:sF p x ≠ 0:=fun e0=>g0 (h.inj (hin x hx) (.inl rfl) (by rw [e0,zjl]));rw [← e] at hr;grind
 have hov:ov (p.length - 1)∈N:=(hc.2 _).2 (.inl rfl);have hne:N ≠ []:=fun e=>by rw [e] at hov;cases hov
 have hup:Srt p (zer p.length::N):=by
  unfold Srt;rw [List.pairwise_cons];exact ⟨fun x hx=>by rw [zjl];exact (hpos x hx).1,hc.1⟩
 have hnd:N.Nodup:=hc.1.imp fun {a b} g e=>by rw [e] at g;grind
 refine ⟨h.pr,hne,?_,fun x hx=>(hn x x (hin x hx) (hin x hx)).1,?_,hup,n,?_⟩
 ·have:=zj3 h hc;omega
 ·have h0:=List.length_pos_iff.2 hne;rw [List.getElem?_eq_getElem (by omega)];congr 1;obtain ⟨i,hi,e⟩:=List.getElem_of_mem hov;rcases (by omega:i=N.length - 1∨i<N.length - 1) with g | g
  ·subst g;exact e
  ·have:=hc.1;unfold Srt at this;rw [List.pairwise_iff_getElem] at this;have k:=this i (N.length - 1) hi (by omega) g;rw [e,sov h.pr] at k;have:=(hpos _ (List.getElem_mem (show N.length - 1<N.length by omega))).2;grind
 ·intro x hx y hy;refine (hn x y ?_ ?_).2
  ·rcases List.mem_cons.1 hx with e | e
   ·exact .inl e
   ·exact hin x e
  ·rcases List.mem_cons.1 hy with e | e
   ·exact .inl e
   ·exact hin y e
theorem zj5 {p:List Int}{c:Int}{l N:List (List Rat)}(h:Lw p c l)(hp:N.Perm (zjq p [] l))(hs:N.Pairwise fun x y=>sF p x≤sF p y):zjz p l (N++[ov (p.length - 1)]):=by
 have hin:∀ x∈zjq p [] l,x ≠ zer p.length∧∃ z∈l,x=rst p z:=fun x hx=>by
  rcases (zju l _ x).1 hx with e | g
  ·cases e
  ·exact g
 have hin2:∀ x∈zjq p [] l,x=zer p.length∨x=ov (p.length - 1)∨∃ z∈l,x=rst p z:=fun x hx=>.inr (.inr (hin x hx).2);have h1:=zi8 hp hs (zjv _ _ (by simp)) fun x hx y hy e=>h.inj (hin2 x hx) (hin2 y hy) e;refine ⟨?_,fun x=>?_⟩
 ·unfold Srt;rw [List.pairwise_append];refine ⟨h1,by simp,fun a ha b hb=>?_⟩;rw [List.mem_singleton] at hb;subst hb;obtain ⟨_,z,hz,e⟩:=hin a (hp.mem_iff.1 ha);rw [e,sov h.pr];exact (h.range hz).2
 ·rw [List.mem_append,hp.mem_iff,zju];simp;constructor
  ·rintro (g | g)
   ·exact .inr g
   ·exact .inl g
  ·rintro (g | g)
   ·exact .inr g
   ·exact .inl g
end
section
open Go.RowKit Go.Lib
structure InR {α:Type}(T:TypeId)(W0:World)(B blk cap:Nat)(enc:α→Value)(d0:List α)(wr:World)(dk:List α):Prop where
 perm:dk.Perm d0
 own:wr.ownsRow B T 1 (.slice (some ⟨blk,0,none⟩) d0.length cap) d0.length (dk.map enc)
 only:W0.grownBy wr (some blk)
section
variable {α : Type} {T : TypeId} {W0 wr : World} {B blk cap : Nat} {enc : α → Value} {d0 dk : List α}
theorem InR.ext {w':World}(h:InR T W0 B blk cap enc d0 wr dk)(hx:Ext wr w'):InR T W0 B blk cap enc d0 w' dk:=⟨h.perm,hx.own h.own,zeq h.only hx⟩
theorem InR.len (h:InR T W0 B blk cap enc d0 wr dk):dk.length=d0.length:=h.perm.length_eq
theorem InR.cell (h:InR T W0 B blk cap enc d0 wr dk){k:Nat}{x:α}(hx:dk[k]?=some x):wr.cell? ⟨blk,k,none⟩=some (enc x):=by
 have hk:=(List.getElem?_eq_some_iff.1 hx).1;have:=h.len;rw [World.ownsRow.cellAt h.own k (by omega),List.getElem?_map,hx];rfl
theorem InR.frozen (h:InR T W0 B blk cap enc d0 wr dk)(k:Nat):wr.frozen? ⟨blk,k,none⟩=false:=by
 rcases h.own.2 with ⟨e,_⟩ | ⟨g,cap',cur,e,hb,hg,_⟩
 ·cases e
 ·injection e with e1 _ _;injection e1 with e1;injection e1 with e1;subst e1;exact frozen_of_row _ _ _ _ _ hg
theorem InR.swap (h:InR T W0 B blk cap enc d0 wr dk){k:Nat}{x y:α}(hx:dk[k+1]?=some x)(hy:dk[k]?=some y) :
  InR T W0 B blk cap enc d0 ((wr.setCell ⟨blk,k+1,none⟩ (enc y)).setCell ⟨blk,k,none⟩ (enc x)) ((dk.set (k+1) y).set k x):=by
 have h1:=World.ownsRow.stored h.own (k+1) (enc y);have h2:=World.ownsRow.stored h1.1 k (enc x);refine ⟨(zi6 hx hy).trans h.perm,?_,zep (zep h.only rfl _) rfl _⟩;rw [List.map_set,List.map_set];exact h2.1
theorem InR.mem (h:InR T W0 B blk cap enc d0 wr dk){k:Nat}{x:α}(hx:dk[k]?=some x):x∈d0:=h.perm.mem_iff.1 (List.mem_of_getElem? hx)
end
end
section
open Go.RowKit Go.Lib Go.Shelf
theorem zj6 (g:Nat)(cb:Array Value)(w:World) :
  Calls Tryz.prog 80 #[.slice none 0 0,.func (.func g) #[] cb] w fun e w'=>e=.returned (.tuple #[])∧Ext w w':=by
 have hi:Calls Tryz.prog 157 #[.slice none 0 0,.int .i64 0,.int .i64 0,.func (.func g) #[] cb] w fun e w'=>e=.returned (.tuple #[])∧w'=w:=by
  go_enter Tryz.func157,Tryz.ntmps157
  go_wp2_with fail
  refine wp_loop_rounds 1 ?_;rw [rounds_succ];go_wp2
  go_end0
  exact ⟨rfl,rfl⟩
 have h2:Calls Tryz.prog 121 #[.slice none 0 0,.int .i64 0,.func (.func g) #[] cb] w fun e w'=>e=.returned (.tuple #[])∧w'=w:=by
  have Hi:=hid hi;clear hi;go_enter Tryz.func121,Tryz.ntmps121
  go_wp2_with fail
  refine wp_loop_rounds 1 ?_;rw [rounds_succ];go_wp2_with fail
  refine Hi.out.mono ?_;rintro e w1 ⟨rfl,rfl⟩;go_wp2_with fail
  refine wp_loop_rounds 1 ?_;rw [rounds_succ];go_wp2
  go_end0
  exact ⟨rfl,rfl⟩
 have H2:=hid h2;clear hi h2;go_enter Tryz.func80,Tryz.ntmps80
 go_wp2_with fail
 refine H2.out.mono ?_;rintro e w1 ⟨rfl,rfl⟩;go_wp2
 go_end0
 exact ⟨rfl,Ext.refl _⟩
end
section
open Go.RowKit Go.Lib
attribute [local go_sem] Oper.semAt_some
theorem toList_inj {s t:ByteArray}(h:s.toList=t.toList):s=t:=by
 rw [Lib.toList_data,Lib.toList_data] at h;exact ByteArray.ext (Array.toList_inj.1 h)
theorem zj7 (va vb:Value)(x y:List Rat)(w:World)(ha:Rd w va x)(hb:Rd w vb y)(hx:x.length≤1000)(hy:y.length≤1000) :
  Calls Tryz.prog 43 #[va,vb] w fun e w'=>e=.returned (.bool (decide (x=y)))∧Ext w w':=by
 obtain ⟨aa,ca,rfl,_,_,hca⟩:=ha.parts;obtain ⟨ab,cb,rfl,_,_,hcb⟩:=hb.parts;clear ha hb;by_cases hl:x.length=y.length
 ·have Hl:=hid hl;rw [← hl];have hfin:(∀ i,i<x.length→x[i]?=y[i]?)→decide (x=y)=true:=fun h=>by
   rw [decide_eq_true_eq];apply List.ext_getElem? ;intro i;rcases Nat.lt_or_ge i x.length with g | g
   ·exact h i g
   ·rw [List.getElem?_eq_none g,List.getElem?_eq_none (by omega)]
  generalize hn:x.length=n at *;have hbad:∀ (i:Nat)(q r:Rat),x[i]?=some q→y[i]?=some r→q ≠ r→decide (x=y)=false:=fun i q r h1 h2 h3=>by
   rw [decide_eq_false_iff_not];rintro rfl;rw [h1] at h2;exact h3 (Option.some.inj h2)
  clear hl hy;have Hca:=hid hca;have Hcb:=hid hcb;have Hfin:=hid hfin;have Hbad:=hid hbad;have Hn:=hid hn;clear hca hcb hfin hbad hn;go_enter Tryz.func43,Tryz.ntmps43
  go_wp2_with fail
  go_loopw [5,13] (fun v5 v13 wr=>∃ k:Nat,v13=.int .i64 k∧k≤n∧(∀ i,i<k→x[i]?=y[i]?)∧Ext w wr) (fun _ v13 _=>n - (zag v13).toNat)
  case atStart=>exact ⟨0,rfl,Nat.zero_le _,fun i h=>by omega,Ext.refl _⟩
  case round =>
   obtain ⟨k,rfl,hk,hall,hE⟩:=hrel;by_cases hkn:k<n
   ·obtain ⟨q,hq⟩:∃ q,x[k]?=some q:=⟨_,List.getElem?_eq_getElem (by rw [Hn.out];exact hkn)⟩;obtain ⟨r,hr⟩:∃ r,y[k]?=some r:=⟨_,List.getElem?_eq_getElem (by rw [← Hl.out];exact hkn)⟩;obtain ⟨ba,oa,rfl,hx0,hx1⟩:=Hca.out k q hq;obtain ⟨bb,ob,rfl,hy0,hy1⟩:=Hcb.out k r hr;have c0:=hE.cell hx0;have c1:=hE.cell hx1;have e0:=hE.cell hy0;have e1:=hE.cell hy1;have hk0:(0:Int)≤(k:Int):=(by omega);have hk1:(k:Int)<(n:Int):=(by omega);clear hx0 hx1 hy0 hy1;by_cases hqr:q=r
    ·subst hqr;have hnx:∀ i,i<k+1→x[i]?=y[i]?:=fun i hi=>by
      rcases Nat.lt_or_ge i k with g | g
      ·exact hall i g
      ·rw [show i=k by omega,hq,hr]
     generalize I q.num=s1 at *;generalize I (q.den:Int)=s2 at *;clear hall hq hr;have Hnx:=hid hnx;have HE:=hid hE;clear hnx hE;go_wp2_with fail
     go_quiet (fail)
     go_wp2_with fail
     go_roundw
     case rel=>exact ⟨k+1,by go_num,by omega,Hnx.out,HE.out.drewN _⟩
     case measure=>simp [zag];omega
    ·have hb1:=Hbad.out k q r hq hr hqr;have hpart:¬ (I q.num).toList=(I r.num).toList∨((I r.num).toList=(I q.num).toList∧¬ (I (q.den:Int)).toList=(I (r.den:Int)).toList):=by
      by_cases g:(I q.num).toList=(I r.num).toList
      ·refine Or.inr ⟨g.symm,fun g2=>hqr (zdo ?_)⟩;unfold Rv;rw [toList_inj g,toList_inj g2]
      ·exact Or.inl g
     generalize I q.num=s1 at *;generalize I (q.den:Int)=s2 at *;generalize I r.num=s3 at *;generalize I (r.den:Int)=s4 at *;clear hall hq hr hqr;have Hb1:=hid hb1;have HE:=hid hE;clear hb1 hE;rcases hpart with g | ⟨g,g2⟩
     all_goals
      go_wp2_with fail
      go_quiet (fail)
      go_wp2
      go_ret
      exact ⟨by rw [Hb1.out];rfl,HE.out.drewN _⟩
   ·obtain rfl:n=k:=by omega
    have hf:=Hfin.out hall;clear hall;have Hf:=hid hf;have HE:=hid hE;clear hf hE;go_wp2
    go_ret
    exact ⟨by rw [Hf.out];rfl,HE.out⟩
 ·have hne:decide (x=y)=false:=by
   rw [decide_eq_false_iff_not];rintro rfl;exact hl rfl
  rw [hne];clear hca hcb hne;have hl2:¬ (x.length:Int)=(y.length:Int):=by omega
  generalize x.length=n at *;generalize y.length=m at *;go_enter Tryz.func43,Tryz.ntmps43
  go_wp2
  go_ret
  exact ⟨rfl,Ext.refl _⟩
theorem zj8 (va vb:Value)(x y:List Rat)(w:World)(ha:Rd w va x)(hb:Rd w vb y)(hx:x.length≤1000)(hy:y.length≤1000) :
  Calls Tryz.prog 17 #[va,vb] w fun e w'=>e=.returned (.bool (decide (x=y)))∧Ext w w':=by
 have h:=zj7 va vb x y w ha hb hx hy;obtain ⟨aa,ca,rfl,_,_,_⟩:=ha.parts;obtain ⟨ab,cb,rfl,_,_,_⟩:=hb.parts;generalize decide (x=y)=b at *;clear ha hb;have H:=hid h;clear h;go_enter Tryz.func17,Tryz.ntmps17
 go_wp2_with fail
 refine (H.out).mono ?_;rintro e w1 ⟨rfl,hx1⟩;have Hx1:=hid hx1;clear hx1;go_wp2
 go_ret
 exact ⟨rfl,Hx1.out⟩
end
section
open Go.RowKit Go.Lib
theorem zj9 (v:Value)(x:List Rat)(w:World)(hx:Rd w v x)(hl:x.length≤1000000)(hne:x ≠ []) :
  Calls Tryz.prog 39 #[v] w fun e w'=>∃ u,e=.returned u∧zf4 w' w.heap.size u x∧Ext w w':=by
 obtain ⟨i0,hi,hz0,hz1,hz2⟩:=info_parts zf5;rcases hx with ⟨a,cap,rfl,hm,e⟩ | ⟨b,off,cap,rfl,h1,h2,hc⟩
 ·exact absurd e hne
 ·have hcell:∀ j u,(rcs x)[j]?=some u→w.cell? ⟨b,off+j,none⟩=some u:=fun j u hu=>by
   have hj:j<(rcs x).length:=(List.getElem?_eq_some_iff.1 hu).1;rw [zf2] at hj;obtain ⟨r,hr⟩:∃ r,x[j / 2]?=some r:=⟨_,List.getElem?_eq_getElem (by omega)⟩;obtain ⟨e1,e2⟩:=zf3 hr;obtain ⟨g1,g2⟩:=hc (j / 2) r hr;rcases (by omega:j=j / 2 * 2∨j=j / 2 * 2+1) with e | e
   ·rw [e,e1] at hu;cases hu;rw [e];exact g1
   ·rw [e,e2] at hu;cases hu;rw [e,← Nat.add_assoc];exact g2
  exact (AnyE.slices_Clone Tryz.lCloneQ i0 (.agg #[.string ByteArray.empty,.string ByteArray.empty]) 2 32 hi hz0 hz1 hz2 rfl (by decide) Tryz.sizeOf57 b off x.length cap (rcs x) w (by rw [zf2];omega) (by unfold maxLen;omega) (by omega) hcell (by
   intro u hu;unfold rcs at hu;obtain ⟨r,_,hr⟩:=List.mem_flatMap.1 hu;simp only [rc,List.mem_cons,List.not_mem_nil,or_false] at hr;rcases hr with rfl | rfl <;> rfl)).mono fun e w' ⟨v',he,ho,_,hb⟩=>⟨v',he,ho,hb⟩
theorem zjA (v:Value)(p:List Int)(w:World)(hx:Sl w v (zak p))(hl:p.length≤1000000)(hne:p ≠ []) :
  Calls Tryz.prog 53 #[v] w fun e w'=>∃ u,e=.returned u∧zek w' w.heap.size u p∧Ext w w':=by
 obtain ⟨i0,hi,hz0,hz1,hz2⟩:=info_parts zej;obtain ⟨a,cap,rfl,hm,h1,hc⟩:=hx.parts;obtain ⟨q,hq⟩:∃ q,p[0]?=some q:=⟨_,List.getElem?_eq_getElem (List.length_pos_iff.2 hne)⟩;obtain ⟨b,off,rfl,_⟩:=hc 0 (.int .i64 q) (by unfold zak;rw [List.getElem?_map,hq];rfl);have hcell:∀ j u,(zak p)[j]?=some u→w.cell? ⟨b,off+j,none⟩=some u:=fun j u hu=>by
  obtain ⟨b2,off2,e,h⟩:=hc j u hu
  cases e
  exact h
 refine (AnyE.slices_Clone Tryz.lCloneP i0 (.int .i64 0) 1 8 hi hz0 hz1 hz2 rfl (by decide) Tryz.sizeOf3 b off (zak p).length cap (zak p) w (by omega) (by rw [zam];unfold maxLen;omega) (by rw [zam];omega) hcell (by simp [zak,Value.oneCell'])).mono fun e w' ⟨v',he,ho,_,hb⟩=>⟨v',he,?_,hb⟩;rw [zam] at ho;exact ho
theorem zjB (rs:List Qw)(r:Qw):qwc (rs++[r])=qwc rs++[r.u]:=by simp [qwc]
theorem QwM.nil (w:World)(b B:Nat):QwM w b B (.slice none 0 0) []:=⟨World.ownsRow_nil w _ _ 1,fun _ h=>by cases h⟩
theorem QwM.more {w0 W V:World}{o:Obj}{v v7:Value}{rs:List Qw}{r:Qw}(hE:Ext w0 W)(h:QwM W w0.heap.size w0.heap.size v rs)(hr:zf4 W w0.heap.size r.u r.x)
  (hown:V.ownsRow w0.heap.size 32 1 v7 (rs.length+1) (qwc rs++[r.u])) (hgrow:(W.alloc o).grownBy V v.ownBlock):QwM V w0.heap.size w0.heap.size v7 (rs++[r])∧Ext w0 V:=by
 have hal:=h.1.alloc o;have hkeep:∀ s:Qw,zf4 W w0.heap.size s.u s.x→zf4 V w0.heap.size s.u s.x:=fun s hs=>World.ownsRow.kept (World.ownsRow.alloc hs o) hgrow (zem (World.ownsRow.alloc hs o) hal (by decide));refine ⟨⟨?_,fun s hs=>?_⟩,(hE.alloc o).grown hgrow fun k hk=>(World.ownsRow.lt hal k hk).1⟩
 ·rw [List.length_append,List.length_singleton,zjB];exact hown
 ·rcases List.mem_append.1 hs with g | g
  ·exact hkeep s (h.2 s g)
  ·rw [List.mem_singleton] at g;subst g;exact hkeep s hr
end
section
open Go.RowKit Go.Lib Go.Shelf
attribute [local go_sem] Oper.semAt_some
def zjC (l:List Nat):List Value:=l.map fun (i:Nat)=>.int .i64 (i:Int)
theorem zjD (k:Nat):zjC (List.range (k+1))=zjC (List.range k)++[.int .i64 k]:=by unfold zjC;rw [List.range_succ,List.map_append];rfl
theorem zjE : ∀ args w,(callFunc 81 args).run Tryz.prog w=.ok (.enter 81 args) w:=enters_of Tryz.func81 (by kernel_rfl) rfl
end
end Go.Proofs.YtoehmpbipbbffaaGreatDoor
