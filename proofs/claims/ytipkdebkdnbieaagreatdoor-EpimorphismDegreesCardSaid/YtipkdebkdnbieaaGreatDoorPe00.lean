/- Small words for the walks: how worlds extend, how slices read. The walks of decimal's trim and cut. -/
import Derived.Lib.ItoaNum
import Derived.Lib.Atoi
import Derived.Test.YtipkdebkdnbieaaGreatDoorProg
import Derived.WalkKit
import Derived.WalkLawsBesides
import Derived.WalkSpells
import Derived.Lib.Hide
import Derived.Lib.LaidTab
import Derived.Lib.ConvBytes
import Derived.Lib.Strings
import Derived.Deep.QuietTactic
import Derived.BigQuiet
import Derived.ShutString
import Derived.Deep.DeepFit
import Derived.WalkSmall
set_option maxRecDepth 100000
set_option maxHeartbeats 400000
namespace Go.Proofs.YtipkdebkdnbieaaGreatDoor.Dec
open Go.Lib
def B : Nat:=1000000000
theorem B_pos : 0<B:=by decide
def dv (c:UInt8):Nat:=c.toNat - 48
def val (acc:Nat)(l:List UInt8):Nat:=l.foldl (fun a c=>10 * a+dv c) acc
theorem val_nil (acc:Nat):val acc []=acc:=by unfold val;rw [List.foldl_nil]
theorem val_cons (acc:Nat)(c:UInt8)(r:List UInt8):val acc (c::r)=val (10 * acc+dv c) r:=by unfold val;rw [List.foldl_cons]
theorem zaa {c:UInt8}{k:Nat}(h:c.toNat=48+k):dv c=k:=by unfold dv;omega
theorem zab {c:UInt8}(h:c.toNat≤57):dv c≤9:=by unfold dv;omega
def Dig (l:List UInt8):Prop:=∀ c∈l,48≤c.toNat∧c.toNat≤57
theorem zac (a b:List UInt8):∀ acc,val acc (a++b)=val (val acc a) b:=by
 induction a with
 | nil=>intro acc;rw [List.nil_append,val_nil]
 | cons c r ih=>intro acc;rw [List.cons_append,val_cons,val_cons,ih]
theorem val_acc (l:List UInt8):∀ acc,val acc l=acc * 10 ^ l.length+val 0 l:=by
 induction l with
 | nil=>intro acc;rw [val_nil,val_nil];simp
 | cons c r ih =>
  intro acc
  rw [val_cons,val_cons,ih (10 * acc+dv c),ih (10 * 0+dv c)]
  generalize val 0 r=v
  generalize dv c=d
  rw [List.length_cons,Nat.pow_succ]
  generalize 10 ^ r.length=t
  rw [Nat.add_mul,Nat.mul_zero,Nat.zero_add,Nat.add_assoc]
  congr 1
  rw [Nat.mul_comm 10 acc,Nat.mul_assoc,Nat.mul_comm 10 t]
theorem val_lt (l:List UInt8)(h:Dig l):val 0 l<10 ^ l.length:=by
 induction l with
 | nil=>rw [val_nil];simp
 | cons c r ih =>
  have h1:=ih (fun x hx=>h x (List.mem_cons_of_mem _ hx))
  have h2:=h c (List.mem_cons_self ..)
  rw [val_cons,val_acc r (10 * 0+dv c),List.length_cons,Nat.pow_succ]
  generalize val 0 r=v at *
  generalize 10 ^ r.length=t at *
  have:(10 * 0+dv c) * t≤9 * t:=Nat.mul_le_mul_right _ (by have:=zab h2.2;omega)
  omega
theorem zad {a b:List UInt8}(ha:Dig a)(hb:Dig b):Dig (a++b):=by
 intro c hc;rcases List.mem_append.1 hc with h | h
 ·exact ha c h
 ·exact hb c h
theorem zae {k:Nat}(h:k<10):(UInt8.ofNat (48+k)).toNat=48+k:=by
 rw [UInt8.toNat_ofNat'];omega
theorem dig_dec (n:Nat):Dig (decDigits n):=by
 induction n using Nat.strongRecOn with
 | _ n ih =>
  rw [decDigits]
  split
  ·intro c hc
   rw [List.mem_singleton.1 hc,zae (by assumption)]
   omega
  ·refine zad (ih _ (by omega)) ?_
   intro c hc
   rw [List.mem_singleton.1 hc,zae (by omega)]
   omega
theorem val_dec (n:Nat):val 0 (decDigits n)=n:=by
 induction n using Nat.strongRecOn with
 | _ n ih =>
  rw [decDigits]
  split
  ·rw [val_cons,val_nil,zaa (zae (by assumption))];omega
  ·rw [zac,ih _ (by omega),val_cons,val_nil,zaa (zae (by omega))]
   omega
theorem dec_inj {a b:Nat}(h:decDigits a=decDigits b):a=b:=by
 rw [← val_dec a,h,val_dec]
theorem dec_ne_nil (n:Nat):decDigits n ≠ []:=by
 intro h;have:=decDigits_length n;rw [h] at this;have:=nDigits_pos n;simp at *;omega
theorem nDigits_le {n k:Nat}(hk:0<k)(h:n<10 ^ k):nDigits n≤k:=by
 induction k generalizing n with
 | zero=>omega
 | succ k ih =>
  by_cases h10:n<10
  ·rw [nDigits_small h10];omega
  ·rw [nDigits_big h10]
   have hk0:0<k:=by
    rcases Nat.eq_zero_or_pos k with e | e
    ·subst e;simp at h;omega
    ·exact e
   have:=ih (n:=n / 10) hk0 (by rw [Nat.pow_succ] at h;omega)
   omega
theorem nDigits_mono {a b:Nat}(h:a≤b):nDigits a≤nDigits b :=
 nDigits_le (nDigits_pos b) (Nat.lt_of_le_of_lt h (lt_pow_nDigits b))
theorem lt_of_nDigits_lt {a b:Nat}(h:nDigits a<nDigits b):a<b:=by
 refine Nat.lt_of_not_le fun hh=>?_;have:=nDigits_mono hh;omega
def pv : List Nat→Nat
 | []=>0
 | a::r=>a+B * pv r
def Small (l:List Nat):Prop:=∀ x∈l,x<B
theorem zaf (a b:List Nat):pv (a++b)=pv a+B ^ a.length * pv b:=by
 induction a with
 | nil=>simp [pv]
 | cons x r ih =>
  simp only [List.cons_append,pv,ih,List.length_cons,Nat.pow_succ]
  rw [Nat.mul_add,Nat.add_assoc,← Nat.mul_assoc,Nat.mul_comm B (B ^ r.length)]
theorem pv_lt (l:List Nat)(h:Small l):pv l<B ^ l.length:=by
 induction l with
 | nil=>simp [pv]
 | cons x r ih =>
  have h1:=ih (fun y hy=>h y (List.mem_cons_of_mem _ hy))
  have h2:=h x (List.mem_cons_self ..)
  simp only [pv,List.length_cons,Nat.pow_succ]
  have:B * (pv r+1)≤B * B ^ r.length:=Nat.mul_le_mul_left _ h1
  rw [Nat.mul_add,Nat.mul_comm B (B ^ r.length)] at this
  omega
theorem pv_zeros (n:Nat):pv (List.replicate n 0)=0:=by
 induction n with
 | zero=>rfl
 | succ n ih=>simp [List.replicate_succ,pv,ih]
def P (n:Nat):List Nat:=if _h:n=0 then [] else n % B::P (n / B)
termination_by n
decreasing_by exact Nat.div_lt_self (by omega) (by decide)
theorem P_zero : P 0=[]:=by rw [P];simp
theorem P_pos {n:Nat}(h:n ≠ 0):P n=n % B::P (n / B):=by rw [P];simp [h]
theorem pv_P (n:Nat):pv (P n)=n:=by
 induction n using Nat.strongRecOn with
 | _ n ih =>
  by_cases h:n=0
  ·subst h;simp [P_zero,pv]
  ·rw [P_pos h]
   simp only [pv]
   rw [ih _ (Nat.div_lt_self (by omega) (by decide))]
   exact Nat.mod_add_div n B
theorem small_P (n:Nat):Small (P n):=by
 induction n using Nat.strongRecOn with
 | _ n ih =>
  by_cases h:n=0
  ·subst h;simp [P_zero,Small]
  ·rw [P_pos h]
   intro x hx
   rcases List.mem_cons.1 hx with rfl | hx
   ·exact Nat.mod_lt _ B_pos
   ·exact ih _ (Nat.div_lt_self (by omega) (by decide)) x hx
theorem zag (l:List Nat)(h:Small l)(hl:l.getLast? ≠ some 0):P (pv l)=l:=by
 induction l with
 | nil=>simp [pv,P_zero]
 | cons x r ih =>
  have hr:r.getLast? ≠ some 0:=by
   intro hh;apply hl
   cases r with
   | nil=>simp at hh
   | cons y t=>simpa [List.getLast?_cons_cons] using hh
  have hx:=h x (List.mem_cons_self ..)
  have ih':=ih (fun y hy=>h y (List.mem_cons_of_mem _ hy)) hr
  have hne:pv (x::r) ≠ 0:=by
   intro h0;simp only [pv] at h0;have hx0:x=0:=(by omega);have hr0:pv r=0:=by
    rcases Nat.eq_zero_or_pos (pv r) with e | e
    ·exact e
    ·have:=Nat.mul_pos B_pos e;omega
   rw [hr0,P_zero] at ih';subst ih';subst hx0;simp at hl
  rw [P_pos hne]
  simp only [pv]
  have e1:(x+B * pv r) % B=x:=by rw [Nat.add_mul_mod_self_left,Nat.mod_eq_of_lt hx]
  have e2:(x+B * pv r) / B=pv r:=by rw [Nat.add_mul_div_left _ _ B_pos,Nat.div_eq_of_lt hx,Nat.zero_add]
  rw [e1,e2,ih']
theorem P_length_lt (n k:Nat)(h:n<B ^ k):(P n).length≤k:=by
 induction k generalizing n with
 | zero=>simp at h;subst h;simp [P_zero]
 | succ k ih =>
  by_cases h0:n=0
  ·subst h0;simp [P_zero]
  ·rw [P_pos h0]
   have:n / B<B ^ k:=by
    rw [Nat.div_lt_iff_lt_mul B_pos];rw [Nat.pow_succ] at h;exact h
   have:=ih _ this
   simp;omega
theorem zah (n:Nat):(P n).getLast? ≠ some 0:=by
 induction n using Nat.strongRecOn with
 | _ n ih =>
  by_cases h:n=0
  ·subst h;simp [P_zero]
  ·rw [P_pos h]
   have h1:=ih _ (Nat.div_lt_self (by omega) (by decide:1<B))
   cases hr:P (n / B) with
   | nil =>
    have:n / B=0:=by rw [← pv_P (n / B),hr];rfl
    have hlt:n<B:=by
     rcases Nat.lt_or_ge n B with g | g
     ·exact g
     ·have:=Nat.div_pos g B_pos;omega
    simp [Nat.mod_eq_of_lt hlt,h]
   | cons y t =>
    rw [hr] at h1
    simpa [List.getLast?_cons_cons] using h1
theorem trim_P (l:List Nat)(k:Nat)(h:Small l)(hk:k≤l.length)(hz:∀ j,k≤j→j<l.length→l.getD j 0=0)(hn:0<k→l.getD (k - 1) 0 ≠ 0):l.take k=P (pv l):=by
 have e:l.drop k=List.replicate (l.length - k) 0:=by
  refine List.ext_getElem (by simp) fun i h1 h2=>?_;have:=hz (k+i) (by omega) (by simp at h1;omega);simp at h1;simp only [List.getElem_drop,List.getElem_replicate];rw [List.getD_eq_getElem?_getD,List.getElem?_eq_getElem (by omega)] at this;simpa using this
 have hv:pv l=pv (l.take k):=by
  conv=>lhs;rw [← List.take_append_drop k l,zaf,e,pv_zeros]
  simp
 rw [hv,zag]
 ·intro x hx;exact h x (List.mem_of_mem_take hx)
 ·rcases Nat.eq_zero_or_pos k with rfl | hp
  ·simp
  ·have:=hn hp;rw [List.getLast?_eq_getElem?];simp only [List.length_take,Nat.min_eq_left hk];rw [List.getElem?_take];rw [List.getD_eq_getElem?_getD] at this;intro hh;rw [if_pos (by omega)] at hh;rw [hh] at this;simp at this
theorem val_take_succ (c:List UInt8)(k:Nat)(hd:Dig c)(h:k<c.length) :
  ∃ x:Nat,48≤x∧x≤57∧(c.getD k 0).toNat=x∧val 0 (c.take (k+1))=10 * val 0 (c.take k)+(x - 48):=by
 have hm:c[k]∈c:=List.getElem_mem h;have hb:=hd _ hm;refine ⟨c[k].toNat,hb.1,hb.2,?_,?_⟩
 ·rw [List.getD_eq_getElem?_getD,List.getElem?_eq_getElem h];rfl
 ·rw [List.take_succ_eq_append_getElem h,zac,val_cons,val_nil];rfl
theorem dig_take {l:List UInt8}(h:Dig l)(k:Nat):Dig (l.take k):=fun c hc=>h c (List.mem_of_mem_take hc)
theorem dig_drop {l:List UInt8}(h:Dig l)(k:Nat):Dig (l.drop k):=fun c hc=>h c (List.mem_of_mem_drop hc)
theorem val_take_lt (c:List UInt8)(k:Nat)(hd:Dig c)(h:c.length≤9):val 0 (c.take k)<1000000000:=by
 have h1:=val_lt _ (dig_take hd k);have h2:10 ^ (c.take k).length≤10 ^ 9:=Nat.pow_le_pow_right (by omega) (by rw [List.length_take];omega);omega
theorem zai (k:Nat):B ^ k=10 ^ (9 * k):=by
 rw [Nat.pow_mul];rfl
theorem cut_step (l:List UInt8)(a e k:Nat)(o:List Nat)(hae:a≤e)(he:e+9 * k=l.length)(hk:o.length=k)(ho:pv o=val 0 (l.drop e)) :
  pv (o++[val 0 ((l.take e).drop a)])=val 0 (l.drop a):=by
 have e1:l.drop a=(l.take e).drop a++l.drop e:=by
  conv=>lhs;rw [← List.take_append_drop e l]
  rw [List.drop_append,show a - (l.take e).length=0 by rw [List.length_take];omega,List.drop_zero]
 rw [zaf,e1,zac,val_acc (l.drop e),ho,hk,zai];simp only [pv,Nat.mul_zero,Nat.add_zero,List.length_drop];rw [show l.length - e=9 * k by omega,Nat.mul_comm,Nat.add_comm]
theorem small_snoc {o:List Nat}{x:Nat}(h:Small o)(hx:x<B):Small (o++[x]):=by
 intro y hy;rcases List.mem_append.1 hy with h1 | h1
 ·exact h y h1
 ·rw [List.mem_singleton.1 h1];exact hx
theorem zaj (x:Nat)(r:List Nat)(i:Nat):(x::r).getD (i+1) 0=r.getD i 0:=by simp [List.getD]
theorem P_at (n:Nat):∀ i,(P n).getD i 0=n / B ^ i % B:=by
 induction n using Nat.strongRecOn with
 | _ n ih =>
  intro i
  by_cases h:n=0
  ·subst h;simp [P_zero]
  ·rw [P_pos h]
   cases i with
   | zero=>simp
   | succ i =>
    rw [zaj,ih _ (Nat.div_lt_self (by omega) (by decide)),Nat.div_div_eq_div_mul,Nat.pow_succ,Nat.mul_comm B]
theorem P_len_pos {n:Nat}(h:n ≠ 0):0<(P n).length:=by rw [P_pos h];simp
theorem P_len_lt (n:Nat):n<B ^ (P n).length:=by
 have:=pv_lt _ (small_P n);rwa [pv_P] at this
theorem zak {n:Nat}(h:n ≠ 0):B ^ ((P n).length - 1)≤n:=by
 induction n using Nat.strongRecOn with
 | _ n ih =>
  rw [P_pos h]
  by_cases h1:n / B=0
  ·rw [h1,P_zero];simp;omega
  ·have h2:=ih _ (Nat.div_lt_self (by omega) (by decide)) h1
   have h3:=P_len_pos h1
   rw [List.length_cons,Nat.add_sub_cancel]
   obtain ⟨k,hk⟩:∃ k,(P (n / B)).length=k+1:=⟨_,(Nat.succ_pred_eq_of_pos h3).symm⟩
   rw [hk] at h2 ⊢
   rw [Nat.add_sub_cancel] at h2
   rw [Nat.pow_succ]
   have h4:=Nat.mul_le_mul_right B h2
   have h5:=Nat.div_mul_le_self n B
   omega
theorem nDigits_P {n:Nat}(h:n ≠ 0):9 * ((P n).length - 1)<nDigits n∧nDigits n≤9 * (P n).length:=by
 have h1:=P_len_lt n;have h2:=zak h;rw [zai] at h1 h2;refine ⟨?_,nDigits_le (by have:=P_len_pos h;omega) h1⟩;refine Nat.lt_of_not_le fun hh=>?_;have h3:=lt_pow_nDigits n;have h4:10 ^ nDigits n≤10 ^ (9 * ((P n).length - 1)):=Nat.pow_le_pow_right (by omega) hh;omega
def rd (N m:Nat):List UInt8:=(List.range m).map (dg N)
theorem rd_zero (N:Nat):rd N 0=[]:=rfl
theorem rd_succ (N m:Nat):rd N (m+1)=rd N m++[dg N m]:=by unfold rd;rw [List.range_succ,List.map_append];rfl
theorem rd_length (N m:Nat):(rd N m).length=m:=by simp [rd]
theorem rd_reverse (N:Nat):(rd N (nDigits N)).reverse=decDigits N:=by
 rw [decDigits_eq];unfold rd;refine List.ext_getElem (by simp) fun i h1 h2=>?_;simp [List.getElem_reverse]
theorem dg_eq (N m n x:Nat)(hn:n % 10=N / 10 ^ m % 10)(hx:x=48+n % 10):(dg N m).toNat=x:=by
 unfold dg;rw [← hn,hx,zae (by omega)]
def left (N i k:Nat):Nat:=N / B ^ i % B / 10 ^ k
theorem left_zero (N i:Nat):left N i 0=N / B ^ i % B:=by simp [left]
theorem left_succ (N i k:Nat):left N i (k+1)=left N i k / 10:=by unfold left;rw [Nat.pow_succ,Nat.div_div_eq_div_mul]
theorem left_lt (N i k:Nat):left N i k<B:=Nat.lt_of_le_of_lt (Nat.div_le_self _ _) (Nat.mod_lt _ B_pos)
theorem left_mod (N i k:Nat)(hk:k<9):left N i k % 10=N / 10 ^ (9 * i+k) % 10:=by
 unfold left;rw [Nat.pow_add,← zai,← Nat.div_div_eq_div_mul];generalize N / B ^ i=M;have e:B=10 ^ k * 10 ^ (9 - k):=by rw [← Nat.pow_add,show k+(9 - k)=9 by omega];rfl
 rw [e,Nat.mod_mul_right_div_self];obtain ⟨j,hj⟩:∃ j,9 - k=j+1:=⟨9 - k - 1,by omega⟩;rw [hj,Nat.pow_succ,Nat.mul_comm,Nat.mod_mul_right_mod]
theorem left_last (N i k:Nat)(h:N<B ^ (i+1)):left N i k=N / 10 ^ (9 * i+k):=by
 unfold left;have h1:N / B ^ i<B:=by rw [Nat.div_lt_iff_lt_mul (Nat.pow_pos B_pos),Nat.mul_comm,← Nat.pow_succ];exact h
 rw [Nat.mod_eq_of_lt h1,Nat.div_div_eq_div_mul,zai,← Nat.pow_add]
theorem div_pow_pos {N m:Nat}(h:0<N / 10 ^ m):m<nDigits N:=by
 refine Nat.lt_of_not_le fun hh=>?_;have h1:=lt_pow_nDigits N;have h2:10 ^ nDigits N≤10 ^ m:=Nat.pow_le_pow_right (by omega) hh;rw [Nat.div_eq_of_lt (by omega)] at h;omega
theorem div_pow_zero {N m:Nat}(hm:0<m)(h:N / 10 ^ m=0):nDigits N≤m:=by
 refine nDigits_le hm ?_;rcases Nat.lt_or_ge N (10 ^ m) with g | g
 ·exact g
 ·have:=Nat.div_pos g (Nat.pow_pos (by omega:0<10));omega
end Go.Proofs.YtipkdebkdnbieaaGreatDoor.Dec

namespace Go.Proofs.YtipkdebkdnbieaaGreatDoor
open Go.RowKit Go.Lib
def zal : Value→Int | .int _ q=>q | _=>0
def Ext (w w':World):Prop:=Below w.heap.size w w'
theorem Ext.refl (w:World):Ext w w:=Below.refl _ _
theorem Ext.below {w w':World}(h:Ext w w'):Below w.heap.size w w':=h
theorem Ext.size {w w':World}(h:Ext w w'):w.heap.size≤w'.heap.size:=Below.size h
theorem Ext.trans {a b c:World}(h:Ext a b)(k:Ext b c):Ext a c:=Below.trans h (Below.mono k h.size)
theorem Ext.drew {a w:World}(h:Ext a w):Ext a w.drew:=Below.drew h
theorem Ext.drewN {a w:World}(h:Ext a w)(n:Nat):Ext a (w.drewN n):=below_drewN h n
theorem Ext.alloc {a w:World}(h:Ext a w)(o:Obj):Ext a (w.alloc o):=Below.alloc h h.size o
theorem Ext.setCell {a w:World}(h:Ext a w){p:Addr}(hp:a.heap.size≤p.block)(u:Value):Ext a (w.setCell p u):=Below.setCell h hp u
theorem Ext.grown {a w w':World}{row:Option Nat}(h:Ext a w)(hg:w.grownBy w' row)(hr:∀ k,row=some k→a.heap.size≤k):Ext a w':=Below.grown h hg h.size hr
theorem Ext.cell {w w':World}(h:Ext w w'){p:Addr}{v:Value}(hv:w.cell? p=some v):w'.cell? p=some v :=
 (Below.cell h (World.block_lt_of_cell? w p hv)).trans hv
theorem Ext.heap {w w':World}(h:Ext w w'){k:Nat}{o:Obj}(hv:w.heap[k]?=some o):w'.heap[k]?=some o :=
 (Below.block h k (Array.getElem?_eq_some_iff.1 hv).1).trans hv
theorem Ext.frozen {w w':World}(h:Ext w w'){p:Addr}(hp:p.block<w.heap.size):w'.frozen? p=w.frozen? p:=Below.frozen h hp
theorem Ext.own {w w':World}(h:Ext w w'){B:Nat}{E size:Nat}{v:Value}{n:Nat}{xs:List Value}(ho:w.ownsRow B E size v n xs):w'.ownsRow B E size v n xs:=by
 refine ⟨ho.1,?_⟩;rcases ho.2 with hn | ⟨g,cap,cur,hv,hb,hg,r⟩
 ·exact .inl hn
 ·exact .inr ⟨g,cap,cur,hv,hb,h.heap hg,r⟩
theorem zam {w:World}{B B':Nat}{E size:Nat}{v:Value}{n:Nat}{xs:List Value}(ho:w.ownsRow B E size v n xs)(hB:B'≤B):w.ownsRow B' E size v n xs:=by
 refine ⟨ho.1,?_⟩;rcases ho.2 with hn | ⟨g,cap,cur,hv,hb,hg,r⟩
 ·exact .inl hn
 ·exact .inr ⟨g,cap,cur,hv,Nat.le_trans hB hb,hg,r⟩
def Sl (w:World)(v:Value)(xs:List Value):Prop :=
 (∃ a cap,v=.slice a 0 cap∧cap≤maxLen∧xs=[]) ∨
 ∃ b off cap,v=.slice (some ⟨b,off,none⟩) xs.length cap∧xs.length≤cap∧cap≤maxLen∧∀ i u,xs[i]?=some u→w.cell? ⟨b,off+i,none⟩=some u
theorem Ext.sl {w w':World}(h:Ext w w'){v:Value}{xs:List Value}(hs:Sl w v xs):Sl w' v xs:=by
 rcases hs with hn | ⟨b,off,cap,hv,h1,h2,hc⟩
 ·exact .inl hn
 ·exact .inr ⟨b,off,cap,hv,h1,h2,fun i u hu=>h.cell (hc i u hu)⟩
theorem zan {w:World}{B E:Nat}{v:Value}{n:Nat}{xs:List Value}(ho:w.ownsRow B E 1 v n xs):Sl w v xs:=by
 have hl:xs.length=n:=by simpa using ho.1
 rcases ho.2 with ⟨hv,hn⟩ | ⟨g,cap,cur,hv,hb,hg,h1,h2,h3,h4⟩
 ·exact .inl ⟨none,0,hv,Nat.zero_le _,List.eq_nil_of_length_eq_zero (by omega)⟩
 ·refine .inr ⟨g,0,cap,by rw [hl];exact hv,by omega,h2,fun i u hu=>?_⟩;have:=ho.cells (g:=g) (by rw [hv];rfl) i u hu;rwa [show ((⟨g,0,none⟩:Addr).add i)=⟨g,0+i,none⟩ by unfold Addr.add;split <;> simp_all] at this
theorem Sl.parts {w:World}{v:Value}{xs:List Value}(h:Sl w v xs) :
  ∃ a cap,v=.slice a xs.length cap∧cap≤maxLen∧xs.length≤cap∧∀ i u,xs[i]?=some u→∃ b off,a=some ⟨b,off,none⟩∧w.cell? ⟨b,off+i,none⟩=some u:=by
 rcases h with ⟨a,cap,rfl,hm,rfl⟩ | ⟨b,off,cap,hv,h1,h2,hc⟩
 ·exact ⟨a,cap,rfl,hm,by simp,fun i u hu=>by simp at hu⟩
 ·exact ⟨_,cap,hv,h2,h1,fun i u hu=>⟨b,off,rfl,hc i u hu⟩⟩
def zao (l:List Nat):List Value:=l.map fun (n:Nat)=>Value.int .u64 (n:Int)
def zap (l:List Int):List Value:=l.map fun n=>Value.int .i64 n
theorem zaq (l:List Nat):(zao l).length=l.length:=by simp [zao]
theorem zar (l:List Int):(zap l).length=l.length:=by simp [zap]
def nth (l:List Nat)(i:Nat):Nat:=l.getD i 0
def zas (l:List Int)(i:Nat):Int:=l.getD i 0
theorem zat {l:List Nat}{i:Nat}(h:i<l.length):(zao l)[i]?=some (.int .u64 (nth l i:Nat)):=by
 simp [zao,nth,h]
theorem zau {l:List Int}{i:Nat}(h:i<l.length):(zap l)[i]?=some (.int .i64 (zas l i)):=by
 simp [zap,zas,h]
theorem zav {l:List Int}{i:Nat}(h:i<l.length):zas l i∈l:=by
 unfold zas;rw [List.getD_eq_getElem?_getD,List.getElem?_eq_getElem h];simp
def zaw : Value→Nat | .slice _ k _=>k | _=>0
theorem Ext.bytes (w:World)(e:TypeId)(s:ByteArray):Ext w (Lib.bytesWorld w e s) :=
 ⟨rfl,rfl,rfl,by rw [Lib.bytesWorld_size];omega,fun k hk=>Lib.bytesWorld_at_old w e s k hk⟩
theorem zax (w:World)(e:TypeId)(c:List UInt8)(j:Nat)(hj:j<c.length):(Lib.bytesWorld w e ⟨c.toArray⟩).cell? ⟨w.heap.size,j,none⟩=some (.int .u8 ((c.getD j 0).toNat:Int)) :=
 Lib.bytesWorld_cell w e ⟨c.toArray⟩ j (by show j<c.toArray.size;simpa using hj)
theorem zay (l:List UInt8)(a e:Nat):(⟨l.toArray⟩:ByteArray).extract a e=⟨((l.take e).drop a).toArray⟩:=by
 have:=Lib.extract_data ⟨l.toArray⟩ a e;apply ByteArray.ext;apply Array.toList_inj.1;rw [this];simp [List.drop_take]
def D (n:Nat):ByteArray:=⟨(decDigits n).toArray⟩
def I (z:Int):ByteArray:=⟨(itoa z).toArray⟩
theorem zaz (n:Nat):(D n).size=nDigits n:=by
 show (decDigits n).toArray.size=_;rw [List.size_toArray,decDigits_length]
theorem za2 (n:Nat):I (n:Int)=D n:=by
 unfold I D itoa;rw [if_neg (by omega),Int.toNat_natCast]
def Env (w : World) : Prop := Lib.TabIs Tryz.prog w "internal/strconv.uint64pow10" .u64 Lib.pow10Tab
theorem za3 : Tryz.prog.globalNamed "internal/strconv.uint64pow10" = some 2 := by kernel_rfl
theorem Env.lt {w:World}(h:Env w):2<w.heap.size:=by
 have h1 : w.var? Tryz.prog "internal/strconv.uint64pow10" = _ := h
 unfold World.var? at h1;rw [za3] at h1;rcases Nat.lt_or_ge 2 w.heap.size with g | g
 ·exact g
 ·have e:w.heap[2]?=none:=Array.getElem?_eq_none g;simp [e] at h1
theorem Env.ext {w w':World}(h:Env w)(hx:Ext w w'):Env w':=var?_below hx za3 h.lt h
end Go.Proofs.YtipkdebkdnbieaaGreatDoor

namespace Go.Proofs.YtipkdebkdnbieaaGreatDoor
open Go.RowKit Go.Lib
def za4 (b cap n:Nat)(l:List Nat)(e:Ending):Prop :=
 ∃ k,k≤n∧e=.returned (.slice (some ⟨b,0,none⟩) k cap)∧(∀ j,k≤j→j<n→nth l j=0)∧(0<k→nth l (k - 1) ≠ 0)
theorem za5 (b n cap:Nat)(l:List Nat)(w:World)(hn:n≤cap)(hcap:cap≤maxLen)
  (hc:∀ i,i<n→w.cell? ⟨b,i,none⟩=some (.int .u64 (nth l i:Nat))) :
  Calls Tryz.prog 187 #[.slice (some ⟨b,0,none⟩) n cap] w fun e w'=>za4 b cap n l e∧w=w':=by
 unfold maxLen at hcap;go_enter Tryz.func187,Tryz.ntmps187
 go_wp2
 go_loop [0] (fun v=>∃ k:Nat,k≤n∧v=.slice (some ⟨b,0,none⟩) k cap∧(∀ j,k≤j→j<n→nth l j=0)) (fun v=>zaw v)
 case atStart=>exact ⟨n,Nat.le_refl _,rfl,fun j h1 h2=>by omega⟩
 case round =>
  obtain ⟨k,hk,rfl,hz⟩:=hrel;have Hz:=hid hz;clear hz;rcases Nat.eq_zero_or_pos k with hk0 | hk0
  ·subst hk0;go_wp2
   go_ret
   exact ⟨⟨0,Nat.zero_le _,rfl,Hz.out,fun h=>by omega⟩,rfl⟩
  ·obtain ⟨m,rfl⟩:∃ m,k=m+1:=⟨k - 1,by omega⟩;have hcm:=hc m (by omega);have Hc:=hid hc;clear hc;by_cases h0:nth l m=0
   ·have ht:((nth l m:Int) == 0)=true:=(by rw [h0];rfl);have H0:=hid h0;clear h0;go_wp2
    go_round
    case rel=>exact ⟨m,by omega,rfl,fun j h1 h2=>by
     rcases Nat.eq_or_lt_of_le h1 with e | e
     ·rw [← e];exact H0.out
     ·exact Hz.out j e h2⟩
    case measure=>simp [zaw]
   ·have ht:((nth l m:Int) == 0)=false:=beq_eq_false_iff_ne.2 (by omega);have H0:=hid h0;clear h0;go_wp2
    go_ret
    exact ⟨⟨m+1,hk,rfl,Hz.out,fun _=>H0.out⟩,rfl⟩
theorem za6 (w:World):Calls Tryz.prog 187 #[.slice none 0 0] w fun e w'=>e=.returned (.slice none 0 0)∧w=w':=by
 go_enter Tryz.func187,Tryz.ntmps187
 go_wp2
 go_loop [0] (fun v=>v=.slice none 0 0) (fun v=>zaw v)
 case atStart=>rfl
 case round =>
  obtain rfl:=hrel;go_wp2
  go_ret
  exact ⟨rfl,rfl⟩
def Own (w:World)(B:Nat)(v:Value)(l:List Nat):Prop:=w.ownsRow B 181 1 v l.length (zao l)
theorem Ext.own' {w w':World}(h:Ext w w'){B:Nat}{v:Value}{l:List Nat}(ho:Own w B v l):Own w' B v l:=h.own ho
theorem Own.sl {w:World}{B:Nat}{v:Value}{l:List Nat}(ho:Own w B v l):Sl w v (zao l):=zan ho
def za7 (w:World)(B:Nat)(l:List Nat)(e:Ending):Prop:=∃ v,e=.returned v∧Own w B v l
theorem za8 (B:Nat)(v:Value)(l:List Nat)(w:World)(ho:Own w B v l)(hs:Dec.Small l) :
  Calls Tryz.prog 187 #[v] w fun e w'=>za7 w B (Dec.P (Dec.pv l)) e∧w=w':=by
 have ho1:w.ownsRow B 181 1 v l.length (zao l):=ho;rcases ho1.2 with ⟨rfl,hn⟩ | ⟨g,cap,cur,rfl,hb,hg,h1,h2,h3,h4⟩
 ·refine (za6 w).mono fun e w' ⟨he,hw⟩=>⟨⟨_,he,?_⟩,hw⟩;obtain rfl:=List.eq_nil_of_length_eq_zero hn;rw [show Dec.pv []=0 from rfl,Dec.P_zero];exact World.ownsRow_nil w B _ 1
 ·have hc:∀ i,i<l.length→w.cell? ⟨g,i,none⟩=some (.int .u64 (nth l i:Nat)):=fun i hi=>by
   have:=ho1.cells (g:=g) rfl i _ (zat hi);rwa [show ((⟨g,0,none⟩:Addr).add i)=⟨g,i,none⟩ by unfold Addr.add;split <;> simp_all] at this
  refine (za5 g l.length cap l w h1 h2 hc).mono fun e w' ⟨⟨k,hk,he,hz,hnz⟩,hw⟩=>⟨⟨_,he,?_⟩,hw⟩;have e1:=Dec.trim_P l k hs hk hz hnz;have hlen:(Dec.P (Dec.pv l)).length=k:=by rw [← e1,List.length_take];omega
  refine ⟨by rw [zaq,hlen];simp,.inr ⟨g,cap,cur,by rw [hlen],hb,hg,by omega,h2,h3,?_⟩⟩;rw [hlen,← e1];have h5:cur.toList.take (l.length * 1)=zao l:=h4;unfold zao at *;rw [List.map_take,← h5,List.take_take];congr 1;omega
end Go.Proofs.YtipkdebkdnbieaaGreatDoor
namespace Go.Proofs.YtipkdebkdnbieaaGreatDoor
open Go.RowKit Go.Lib
theorem za9 : (Tryz.prog.info? 181).map (fun i=>(i.zero,i.size,i.bytes))=some (some (.int .u64 0),1,8):=by kernel_rfl
theorem zaA (s:ByteArray)(c:List UInt8)(h:s=⟨c.toArray⟩)(W:World):(convert 100 239 (.string s)).run Tryz.prog W =
  .ok (.slice (some ⟨W.heap.size,0,none⟩) c.length (grownCap W c.length 0 5)) (Lib.bytesWorld W 5 ⟨c.toArray⟩):=by
 subst h;have:=Lib.run_convert_string_bytes (P:=Tryz.prog) W 100 239 5 ⟨c.toArray⟩ Tryz.underlying100 Tryz.underlying239 Tryz.underlying5;rwa [show (⟨c.toArray⟩:ByteArray).size=c.length by simp [ByteArray.size]] at this
def zaB (l:List UInt8)(w0:World)(v i:Value)(wr:World):Prop :=
 ∃ (z:Int)(o:List Nat),i=.int .i64 z∧z≤l.length∧l.length=z+9 * o.length∧Dec.Small o∧Dec.pv o=Dec.val 0 (l.drop z.toNat)∧Own wr w0.heap.size v o∧Ext w0 wr
theorem zaC (l:List UInt8)(w:World)(hd:Dec.Dig l)(hl:l.length≤1000000) :
  Calls Tryz.prog 141 #[.string ⟨l.toArray⟩] w fun e w'=>za7 w' w.heap.size (Dec.P (Dec.val 0 l)) e∧Ext w w':=by
 obtain ⟨i0,hi,hz0,hz1,hz2⟩:=info_parts za9;have Hd:=hid hd;clear hd;go_enter Tryz.func141,Tryz.ntmps141
 go_wp2_with (at_make;refine wpList_make_own _ rfl _ _ 201 rfl w.heap.size 181 i0 (.int .u64 0) 1 Tryz.underlying201 hi hz0 hz1 _ _ _ (l.length / 9+1) rfl rfl ?hC ?b2 ?b3 (Nat.le_refl _) ?_)
 case hC=>simp
 case b2=>rw [hz2];omega
 case b3=>unfold maxLen;omega
 intro w1 hown hgrow;go_wp2_with fail
 go_loopw [3,4] (fun v i wr=>zaB l w v i wr) (fun _ i _=>(zal i).toNat)
 case atStart =>
  refine ⟨l.length,[],rfl,Int.le_refl _,by simp,by simp [Dec.Small],?_,?_,?_⟩
  ·rw [Int.toNat_natCast,List.drop_length,Dec.val_nil];rfl
  ·exact hown
  ·exact (Ext.refl w).grown hgrow (by simp)
 case round =>
  obtain ⟨z,o,rfl,hz,hlo,hsm,hpv,hown1,hext⟩:=hrel;have Hlo:=hid hlo;clear hlo;have Hpv:=hid hpv;clear hpv;have Hsm:=hid hsm;clear hsm;have Hown1:=hid hown1;clear hown1;have Hext:=hid hext;clear hext;clear hown hgrow;by_cases hp:0<z
  ·obtain ⟨e,rfl⟩:∃ e:Nat,z=e:=⟨z.toNat,by omega⟩;have hlo':(l.length:Int)=e+9 * o.length:=Hlo.out;obtain ⟨c,hc,hcl,hdc,hstep⟩:∃ c:List UInt8,(⟨l.toArray⟩:ByteArray).extract (e - 9) e=⟨c.toArray⟩∧c.length≤9∧Dec.Dig c∧Dec.pv (o++[Dec.val 0 c])=Dec.val 0 (l.drop (e - 9)) :=
    ⟨_,zay l _ _,by rw [List.length_drop,List.length_take];omega,Dec.dig_drop (Dec.dig_take Hd.out _) _,Dec.cut_step l _ e o.length o (by omega) (by omega) rfl (by have:=Hpv.out;simpa using this)⟩
   have Hdc:=hid hdc;clear hdc;have Hstep:=hid hstep;clear hstep;clear hlo';have Hc:=hid hc;clear hc;have hk2:(9<e∧∀ W,_)∨(e≤9∧∀ W,_):=(Nat.lt_or_ge 9 e).imp
    (fun h=>⟨h,zaA ((⟨l.toArray⟩:ByteArray).extract (e - 9) e) c Hc.out⟩)
    (fun h=>⟨h,zaA ((⟨l.toArray⟩:ByteArray).extract 0 e) c (by have:=Hc.out;rwa [show e - 9=0 by omega] at this)⟩)
   rcases hk2 with ⟨h9,kc⟩ | ⟨h9,kc⟩
   all_goals
    go_wp2_with fail
    have hbx:Ext wr (Lib.bytesWorld wr 5 ⟨c.toArray⟩):=Ext.bytes wr _ _;have hbc:=zax wr 5 c;generalize Lib.bytesWorld wr 5 ⟨c.toArray⟩=W1 at *;have Hbx:=hid hbx;clear hbx;clear kc;have Hbc:=hid hbc;clear hbc;go_loop [5,27] (fun v i=>∃ k m:Nat,k≤c.length∧i=.int .i64 k∧v=.int .u64 m∧m=Dec.val 0 (c.take k)) (fun _ i=>c.length - (zal i).toNat)
    case atStart=>exact ⟨0,0,Nat.zero_le _,rfl,rfl,by rw [List.take_zero,Dec.val_nil]⟩
    case round =>
     obtain ⟨k,m,hk,rfl,rfl,hm⟩:=hrel;have hm9:m<1000000000:=(by rw [hm];exact Dec.val_take_lt c k Hdc.out hcl);have Hm:=hid hm;clear hm;by_cases hlt:k<c.length
     ·have hcell:=Hbc.out k hlt;obtain ⟨x,hx1,hx2,hxc,hxv⟩:=Dec.val_take_succ c k Hdc.out hlt;rw [hxc] at hcell;have Hxv:=hid hxv;clear hxv hxc;go_wp2
      go_round
      case rel=>exact ⟨k+1,10 * m+(x - 48),by omega,by go_num,by congr 1;omega,by rw [Hxv.out,Hm.out]⟩
      case measure=>simp [zal];omega
     ·have hkc:k=c.length:=(by omega);have hmc:m=Dec.val 0 c:=(by rw [Hm.out,hkc,List.take_length]);have Hmc:=hid hmc;clear hmc hkc;have hown2:W1.ownsRow w.heap.size 181 1 u3 o.length (zao o):=Hbx.out.own' Hown1.out;have hb1:w.heap.size≤W1.heap.size:=Nat.le_trans Hext.out.size Hbx.out.size;have hol:o.length≤1000000:=(by have:=Hlo.out;omega);have hm3:o.length+1≤maxLen:=(by unfold maxLen;omega);have hm4:(o.length+1) * 8≤140737488355328:=(by omega);have hm5:w.heap.size≤(W1.alloc (.cells #[.int .u64 (m:Int)] 181)).heap.size:=(by simp;omega);go_wp2_with (at_builtin;refine wpList_append_own _ rfl _ _ 201 rfl w.heap.size 181 i0 (.int .u64 0) 1 8 Tryz.underlying201 hi hz0 hz1 hz2 rfl (by decide) _ _ _ rfl (hown2.alloc _) ⟨W1.heap.size,0,none⟩ 1 1 [.int .u64 (m:Int)] rfl rfl (cell_one_new _ _ _) (by simp [Value.oneCell']) hm3 hm4 hm5 ?_)
      intro v' w2 hown3 hgrow3 _;have hx2:Ext w w2:=((Hext.out.trans Hbx.out).alloc _).grown hgrow3 (fun g hg=>(hown2.lt g hg).1);have Hx2:=hid hx2;clear hx2;have Hown3:=hid hown3;clear hown3 hgrow3 hown2;go_wp2
      go_roundw
      case rel =>
       refine ⟨(e:Int) - 9,o++[m],by go_num,by omega,?_,?_,?_,?_,Hx2.out⟩
       ·have:=Hlo.out;rw [List.length_append,List.length_singleton];omega
       ·exact Dec.small_snoc Hsm.out hm9
       ·rw [Hmc.out,Hstep.out];congr 2;omega
       ·have:=Hown3.out;unfold Own;rwa [List.length_append,show zao (o++[m])=zao o++[Value.int .u64 (m:Int)] by simp [zao]]
      case measure=>simp [zal];omega
  ·have hz1:z.toNat=0:=(by omega);have hv:Dec.pv o=Dec.val 0 l:=(by have:=Hpv.out;rwa [hz1,List.drop_zero] at this);have Hv:=hid hv;clear hv hz1;go_wp2_with fail
   refine (za8 w.heap.size u3 o wr Hown1.out Hsm.out).mono ?_;rintro e w' ⟨⟨v,rfl,hv⟩,rfl⟩;have Hv2:=hid hv;clear hv;go_wp2
   go_ret
   exact ⟨⟨v,rfl,by rw [← Hv.out];exact Hv2.out⟩,Hext.out⟩
theorem zaD (n:Nat)(w:World)(hl:nDigits n≤1000000) :
  Calls Tryz.prog 141 #[.string (D n)] w fun e w'=>za7 w' w.heap.size (Dec.P n) e∧Ext w w':=by
 have:=zaC (decDigits n) w (Dec.dig_dec n) (by rw [decDigits_length];exact hl);rwa [Dec.val_dec] at this
end Go.Proofs.YtipkdebkdnbieaaGreatDoor
