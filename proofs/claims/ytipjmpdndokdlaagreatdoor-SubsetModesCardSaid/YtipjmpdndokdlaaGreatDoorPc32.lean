/- The map of a class's different sizes: how its elements read, what it holds. -/
import Derived.Test.YtipjmpdndokdlaaGreatDoorPc30
import Derived.Test.YtipjmpdndokdlaaGreatDoorPc31
import Derived.Maps.RangeWalk
import Derived.Maps.Views
namespace Go.Proofs.YtipjmpdndokdlaaGreatDoor
open Go.RowKit Go.Lib Go.Shelf
/-- One value reads as one size. -/
theorem Rd.inj {w:World}{v:Value}{x y:List Rat}(hx:Rd w v x)(hy:Rd w v y):x=y:=by
 obtain ⟨a,c,e1,_,_,hc1⟩:=hx.parts
 obtain ⟨b,d,e2,_,_,hc2⟩:=hy.parts
 rw [e1] at e2
 injection e2 with g1 g2 g3
 subst g1
 refine List.ext_getElem g2 fun i h1 h2=>?_
 obtain ⟨bb,off,ha,c0,c1⟩:=hc1 i _ (List.getElem?_eq_getElem h1)
 obtain ⟨bb2,off2,ha2,d0,d1⟩:=hc2 i _ (List.getElem?_eq_getElem h2)
 rw [ha] at ha2
 cases ha2
 rw [c0] at d0
 rw [c1] at d1
 injection d0 with d0
 injection d0 with d0
 injection d1 with d1
 injection d1 with d1
 have:=I_inj d1
 exact Rat.ext (I_inj d0) (by omega)
def sameSl : Value → Value → Bool
 | .slice a n c,.slice b m d=>decide (a=b) && (decide (n=m) && decide (c=d))
 | _,_=>false
theorem sameSl_eq {u v:Value}(h:sameSl u v=true):u=v:=by
 unfold sameSl at h
 split at h
 ·simp only [Bool.and_eq_true,decide_eq_true_eq] at h
  rw [h.1,h.2.1,h.2.2]
 ·cases h
theorem sameSl_self {a:Option Addr}{n c:Nat}:sameSl (.slice a n c) (.slice a n c)=true:=by simp [sameSl]
/-- An element reads as the text of its size. -/
def rdT (p : List Int) (out : List Qw) (v : Value) : Option (DataW Unit × List MemPlace):=(out.find? fun r => sameSl r.u v).map fun r => (.lit (.string (txt p r.x)),[])
theorem rdT_some {p:List Int}{out:List Qw}{v:Value}{y:DataW Unit × List MemPlace}(h:rdT p out v=some y):∃ r∈out,r.u=v∧y.1=.lit (.string (txt p r.x)):=by
 unfold rdT at h
 obtain ⟨r,hr,e⟩:=Option.map_eq_some_iff.1 h
 exact ⟨r,List.mem_of_find?_eq_some hr,sameSl_eq (List.find?_some (p:=fun r:Qw=>sameSl r.u v) hr),by rw [← e]⟩
theorem rdT_mem {p:List Int}{out:List Qw}{w:World}(hrd:∀ r∈out,Rd w r.u r.x){r:Qw}(hr:r∈out):rdT p out r.u=some (.lit (.string (txt p r.x)),[]):=by
 obtain ⟨a,c,hu,_⟩:=(hrd r hr).parts
 unfold rdT
 cases hf:out.find? fun s=>sameSl s.u r.u with
 | none =>
  have:=List.find?_eq_none.1 hf r hr
  rw [hu,sameSl_self] at this
  exact absurd rfl this
 | some s =>
  have hs:=List.mem_of_find?_eq_some hf
  have he:=sameSl_eq (List.find?_some (p:=fun s:Qw=>sameSl s.u r.u) hf)
  have h1:=hrd s hs
  rw [he] at h1
  rw [Option.map_some,h1.inj (hrd r hr)]
/-- The map holds the texts of the first k sizes, each at itself. -/
structure Tells (p : List Int) (out : List Qw) (k : Nat) (D : DataW Unit) : Prop where
 map:Maps.IsMap D
 has:∀ kl,Maps.has D kl=true ↔ ∃ (i:Nat)(r:Qw),i<k∧out[i]?=some r∧kl=.string (txt p r.x)
 tells:∀ kl,Maps.has D kl=true→∀ z,D.atKey kl z=.lit kl
theorem Tells.start (p:List Int)(out:List Qw):Tells p out 0 (.map []):=by
 refine ⟨Maps.isMap_empty,fun kl=>⟨fun h=>(by cases h),fun ⟨i,r,h,_⟩=>by omega⟩,fun kl h=>by cases h⟩
theorem Tells.step {p:List Int}{out:List Qw}{k:Nat}{D:DataW Unit}(h:Tells p out k D){r:Qw}(hr:out[k]?=some r):Tells p out (k+1) (D.put (.string (txt p r.x)) (.lit (.string (txt p r.x)))):=by
 have hk:WideAt.IsKeyLit (.string (txt p r.x)):=by trivial
 refine ⟨h.map.put _ _,fun kl=>?_,fun kl hh z=>?_⟩
 ·by_cases e:kl=.string (txt p r.x)
  ·rw [e,Maps.has_put_same h.map hk]
   exact ⟨fun _=>⟨k,r,by omega,hr,rfl⟩,fun _=>rfl⟩
  ·rw [Maps.has_put_other e,h.has]
   constructor
   ·rintro ⟨i,s,hi,hs,e2⟩
    exact ⟨i,s,by omega,hs,e2⟩
   ·rintro ⟨i,s,hi,hs,e2⟩
    rcases (by omega:i=k∨i<k) with g | g
    ·subst g
     rw [hr] at hs
     cases hs
     exact absurd e2 e
    ·exact ⟨i,s,g,hs,e2⟩
 ·by_cases e:kl=.string (txt p r.x)
  ·rw [e,Maps.atKey_put_same h.map hk]
  ·rw [Maps.has_put_other e] at hh
   rw [Maps.atKey_put_other e]
   exact h.tells kl hh z
theorem txt_len {p:List Int}{x:List Rat}(hpw:p=[2,3]∨p=[2,3,5])(hx:∀ r∈x,Ft 30 r):(txt p x).length≤10000000:=by
 have hps:∀ z∈p,0≤z∧z≤5:=by rcases hpw with e | e <;> rw [e] <;> decide
 have hp3:p.length≤3:=by rcases hpw with e | e <;> rw [e] <;> decide
 have hlz:∀ s∈itms p x,s.length≤1300000:=fun s hs=>by
  unfold itms at hs
  obtain ⟨⟨a,r⟩,hm,hi⟩:=List.mem_filterMap.1 hs
  have h1:=List.of_mem_zip hm
  exact itm_len (fit_five (hps a h1.1).1 (hps a h1.1).2) (hx r h1.2) hi
 have hl3:(itms p x).length≤3:=by
  unfold itms
  refine Nat.le_trans (List.length_filterMap_le ..) ?_
  rw [List.length_zip]
  omega
 unfold txt
 split
 ·simp
 ·rename_i h0
  generalize itms p x=L at *
  match L,h0,hlz,hl3 with
  | [a],_,hz,_ =>
   rw [Lib.join_one]
   have:=hz a (by simp)
   omega
  | [a,b],_,hz,_ =>
   have h1:=hz a (by simp)
   have h2:=hz b (by simp)
   rw [Lib.join_length]
   simp only [Lib.lens,List.length_cons,List.length_nil,List.map_cons,List.map_nil,List.sum_cons,List.sum_nil]
   omega
  | [a,b,c],_,hz,_ =>
   have h1:=hz a (by simp)
   have h2:=hz b (by simp)
   have h3:=hz c (by simp)
   rw [Lib.join_length]
   simp only [Lib.lens,List.length_cons,List.length_nil,List.map_cons,List.map_nil,List.sum_cons,List.sum_nil]
   omega
  | _::_::_::_::_,_,_,h3=>simp at h3
end Go.Proofs.YtipjmpdndokdlaaGreatDoor
