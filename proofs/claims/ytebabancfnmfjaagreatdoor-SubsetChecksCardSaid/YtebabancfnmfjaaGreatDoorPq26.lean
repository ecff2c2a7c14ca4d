/- The map of a class's different sizes: how its elements read, what it holds. -/
import Derived.Test.YtebabancfnmfjaaGreatDoorPq20
import Derived.Test.YtebabancfnmfjaaGreatDoorPq25
import Derived.Maps.RangeWalk
import Derived.Maps.Views
namespace Go.Proofs.YtebabancfnmfjaaGreatDoor
open Go.RowKit Go.Lib Go.Shelf
theorem Rd.inj {w:World}{v:Value}{x y:List Rat}(hx:Rd w v x)(hy:Rd w v y):x=y:=by
 obtain ⟨a,c,e1,_,_,hc1⟩:=hx.parts;obtain ⟨b,d,e2,_,_,hc2⟩:=hy.parts;rw [e1] at e2;injection e2 with g1 g2 g3;subst g1;refine List.ext_getElem g2 fun i h1 h2=>?_;obtain ⟨bb,off,ha,c0,c1⟩:=hc1 i _ (List.getElem?_eq_getElem h1);obtain ⟨bb2,off2,ha2,d0,d1⟩:=hc2 i _ (List.getElem?_eq_getElem h2);rw [ha] at ha2
 cases ha2
 rw [c0] at d0;rw [c1] at d1;injection d0 with d0;injection d0 with d0;injection d1 with d1;injection d1 with d1;have:=zby d1;exact Rat.ext (zby d0) (by omega)
def zlX : Value→Value→Bool
 | .slice a n c,.slice b m d=>decide (a=b) && (decide (n=m) && decide (c=d))
 | _,_=>false
theorem zlY {u v:Value}(h:zlX u v=true):u=v:=by
 unfold zlX at h;split at h
 ·simp only [Bool.and_eq_true,decide_eq_true_eq] at h;rw [h.1,h.2.1,h.2.2]
 ·cases h
theorem zlZ {a:Option Addr}{n c:Nat}:zlX (.slice a n c) (.slice a n c)=true:=by simp [zlX]
def rdT (p:List Int)(out:List Qw)(v:Value):Option (DataW Unit × List MemPlace):=(out.find? fun r=>zlX r.u v).map fun r=>(.lit (.string (txt p r.x)),[])
theorem zma {p:List Int}{out:List Qw}{v:Value}{y:DataW Unit × List MemPlace}(h:rdT p out v=some y):∃ r∈out,r.u=v∧y.1=.lit (.string (txt p r.x)):=by
 unfold rdT at h;obtain ⟨r,hr,e⟩:=Option.map_eq_some_iff.1 h;exact ⟨r,List.mem_of_find?_eq_some hr,zlY (List.find?_some (p:=fun r:Qw=>zlX r.u v) hr),by rw [← e]⟩
theorem zmb {p:List Int}{out:List Qw}{w:World}(hrd:∀ r∈out,Rd w r.u r.x){r:Qw}(hr:r∈out):rdT p out r.u=some (.lit (.string (txt p r.x)),[]):=by
 obtain ⟨a,c,hu,_⟩:=(hrd r hr).parts;unfold rdT
 cases hf:out.find? fun s=>zlX s.u r.u with
 | none =>
  have:=List.find?_eq_none.1 hf r hr
  rw [hu,zlZ] at this
  exact absurd rfl this
 | some s =>
  have hs:=List.mem_of_find?_eq_some hf
  have he:=zlY (List.find?_some (p:=fun s:Qw=>zlX s.u r.u) hf)
  have h1:=hrd s hs
  rw [he] at h1
  rw [Option.map_some,h1.inj (hrd r hr)]
structure zmc (p:List Int)(out:List Qw)(k:Nat)(D:DataW Unit):Prop where
 map:Maps.IsMap D
 has:∀ kl,Maps.has D kl=true ↔ ∃ (i:Nat)(r:Qw),i<k∧out[i]?=some r∧kl=.string (txt p r.x)
 tells:∀ kl,Maps.has D kl=true→∀ z,D.atKey kl z=.lit kl
theorem zmc.start (p:List Int)(out:List Qw):zmc p out 0 (.map []):=by
 refine ⟨Maps.isMap_empty,fun kl=>⟨fun h=>(by cases h),fun ⟨i,r,h,_⟩=>by omega⟩,fun kl h=>by cases h⟩
theorem zmc.step {p:List Int}{out:List Qw}{k:Nat}{D:DataW Unit}(h:zmc p out k D){r:Qw}(hr:out[k]?=some r):zmc p out (k+1) (D.put (.string (txt p r.x)) (.lit (.string (txt p r.x)))):=by
 have hk:WideAt.IsKeyLit (.string (txt p r.x)):=by trivial
 refine ⟨h.map.put _ _,fun kl=>?_,fun kl hh z=>?_⟩
 ·by_cases e:kl=.string (txt p r.x)
  ·rw [e,Maps.has_put_same h.map hk];exact ⟨fun _=>⟨k,r,by omega,hr,rfl⟩,fun _=>rfl⟩
  ·rw [Maps.has_put_other e,h.has];constructor
   ·rintro ⟨i,s,hi,hs,e2⟩;exact ⟨i,s,by omega,hs,e2⟩
   ·rintro ⟨i,s,hi,hs,e2⟩;rcases (by omega:i=k∨i<k) with g | g
    ·subst g;rw [hr] at hs
     cases hs
     exact absurd e2 e
    ·exact ⟨i,s,g,hs,e2⟩
 ·by_cases e:kl=.string (txt p r.x)
  ·rw [e,Maps.atKey_put_same h.map hk]
  ·rw [Maps.has_put_other e] at hh;rw [Maps.atKey_put_other e];exact h.tells kl hh z
theorem zmd {p:List Int}{x:List Rat}(hpw:p=[2,3]∨p=[2,3,5])(hx:∀ r∈x,Ft 30 r):(txt p x).length≤10000000:=by
 have hps:∀ z∈p,0≤z∧z≤5:=by rcases hpw with e | e <;> rw [e] <;> decide
 have hp3:p.length≤3:=by rcases hpw with e | e <;> rw [e] <;> decide
 have hlz:∀ s∈zl0 p x,s.length≤1300000:=fun s hs=>by
  unfold zl0 at hs;obtain ⟨⟨a,r⟩,hm,hi⟩:=List.mem_filterMap.1 hs;have h1:=List.of_mem_zip hm;exact zlO (zlU (hps a h1.1).1 (hps a h1.1).2) (hx r h1.2) hi
 have hl3:(zl0 p x).length≤3:=by
  unfold zl0;refine Nat.le_trans (List.length_filterMap_le ..) ?_;rw [List.length_zip];omega
 unfold txt;split
 ·simp
 ·rename_i h0;generalize zl0 p x=L at *;match L,h0,hlz,hl3 with
  | [a],_,hz,_ =>
   rw [Lib.join_one]
   have:=hz a (by simp)
   omega
  | [a,b],_,hz,_ =>
   have h1:=hz a (by simp)
   have h2:=hz b (by simp)
   rw [Lib.join_length]
   simp only [Lib.lens,List.length_cons,List.length_nil,List.map_cons,List.map_nil,List.sum_cons,List.sum_nil]
   omega
  | [a,b,c],_,hz,_ =>
   have h1:=hz a (by simp)
   have h2:=hz b (by simp)
   have h3:=hz c (by simp)
   rw [Lib.join_length]
   simp only [Lib.lens,List.length_cons,List.length_nil,List.map_cons,List.map_nil,List.sum_cons,List.sum_nil]
   omega
  | _::_::_::_::_,_,_,h3=>simp at h3
end Go.Proofs.YtebabancfnmfjaaGreatDoor
