/- Plain: the text of a size, which tells it. Walks: size.Text. -/
import Derived.Test.YtipjmpdndokdlaaGreatDoorPc08
import Derived.Lib.Join
import Derived.Test.YtipjmpdndokdlaaGreatDoorPc19
import Derived.Test.YtipjmpdndokdlaaGreatDoorShelfG
set_option maxRecDepth 100000
set_option maxHeartbeats 800000
namespace Go.Proofs.YtipjmpdndokdlaaGreatDoor
open Go.RowKit Go.Lib
/-- A byte of a number. -/
def Numb (b : UInt8) : Prop:=b=45∨(48≤b.toNat ∧ b.toNat≤57)
/-- The bytes of a fraction's text. -/
def frL (r : Rat) : List UInt8:=if r.den=1 then itoa r.num else itoa r.num++47::itoa (r.den : Int)
theorem frT_L (r:Rat):frT r=⟨(frL r).toArray⟩:=by
 unfold frT frL
 split
 ·rfl
 ·unfold I
  apply ByteArray.ext
  apply Array.ext'
  simp
/-- What stands behind the prime. -/
def sfx (r : Rat) : List UInt8:=if r=1 then [] else if r.den=1 ∧ 0<r.num then 94::frL r else 94::40::(frL r++[41])
/-- One item: the prime (as a text) and what stands behind it, if there is something. -/
def itm (b : List UInt8) (r : Rat) : Option (List UInt8):=if r.num=0 then none else some (b++sfx r)
def itms (p : List Int) (x : List Rat) : List (List UInt8):=(p.zip x).filterMap fun e => itm (itoa e.1) e.2
def txt (p : List Int) (x : List Rat) : List UInt8:=if itms p x=[] then [49] else Lib.join (itms p x) [32]
/-- Two lists with a byte between them are told by their sum, if neither first part has the byte. -/
theorem split_at {c:UInt8}:∀ {a b x y:List UInt8},(∀ e∈a,e ≠ c)→(∀ e∈b,e ≠ c)→a++c::x=b++c::y→a=b∧x=y
 | [],[],_,_,_,_,h=>⟨rfl,by simpa using h⟩
 | [],e::b,_,_,_,hb,h=>by
  simp only [List.nil_append,List.cons_append,List.cons.injEq] at h
  exact absurd h.1.symm (hb e (List.mem_cons_self ..))
 | e::a,[],_,_,ha,_,h=>by
  simp only [List.nil_append,List.cons_append,List.cons.injEq] at h
  exact absurd h.1 (ha e (List.mem_cons_self ..))
 | e::a,f::b,_,_,ha,hb,h=>by
  simp only [List.cons_append,List.cons.injEq] at h
  have:=split_at (fun z hz=>ha z (List.mem_cons_of_mem _ hz)) (fun z hz=>hb z (List.mem_cons_of_mem _ hz)) h.2
  exact ⟨by rw [h.1,this.1],this.2⟩
theorem no_split {c:UInt8}{a b x:List UInt8}(ha:∀ e∈b,e ≠ c)(h:a++c::x=b):False:=ha c (by rw [← h];simp) rfl
theorem join_cons (a b:List UInt8)(l:List (List UInt8)):Lib.join (a::b::l) [32]=a++32::Lib.join (b::l) [32]:=by
 unfold Lib.join
 rw [List.intercalate_cons_cons]
 simp
theorem join_sing (a:List UInt8):Lib.join [a] [32]=a:=by
 unfold Lib.join
 exact List.intercalate_singleton
theorem join_inj : ∀ {l m:List (List UInt8)},(∀ x∈l,∀ e∈x,e ≠ 32)→(∀ x∈m,∀ e∈x,e ≠ 32)→l ≠ []→m ≠ []→Lib.join l [32]=Lib.join m [32]→l=m
 | [],_,_,_,h,_,_=>absurd rfl h
 | _,[],_,_,_,h,_=>absurd rfl h
 | [a],[b],_,_,_,_,h=>by rw [join_sing,join_sing] at h;rw [h]
 | [a],b::c::m,ha,_,_,_,h=>by
  rw [join_sing,join_cons] at h
  exact (no_split (ha a (List.mem_cons_self ..)) h.symm).elim
 | a::b::l,[c],_,hc,_,_,h=>by
  rw [join_sing,join_cons] at h
  exact (no_split (hc c (List.mem_cons_self ..)) h).elim
 | a::b::l,c::d::m,ha,hc,_,_,h=>by
  rw [join_cons,join_cons] at h
  obtain ⟨h1,h2⟩:=split_at (ha a (List.mem_cons_self ..)) (hc c (List.mem_cons_self ..)) h
  rw [h1,join_inj (fun x hx=>ha x (List.mem_cons_of_mem _ hx)) (fun x hx=>hc x (List.mem_cons_of_mem _ hx)) (by simp) (by simp) h2]
theorem itoa_numb (z:Int):∀ b∈itoa z,Numb b:=by
 intro b hb
 unfold itoa at hb
 split at hb
 ·rcases List.mem_cons.1 hb with e | e
  ·exact .inl e
  ·exact .inr (Dec.dig_dec _ b e)
 ·exact .inr (Dec.dig_dec _ b hb)
theorem frL_numb (r:Rat):∀ b∈frL r,Numb b∨b=47:=by
 unfold frL
 intro b hb
 split at hb
 ·exact .inl (itoa_numb _ b hb)
 ·rcases List.mem_append.1 hb with h | h
  ·exact .inl (itoa_numb _ b h)
  ·rcases List.mem_cons.1 h with h | h
   ·exact .inr h
   ·exact .inl (itoa_numb _ b h)
theorem numb_ne {b:UInt8}(h:Numb b):b ≠ 47∧b ≠ 32∧b ≠ 40∧b ≠ 41:=by
 rcases h with rfl | h
 ·decide
 ·refine ⟨?_,?_,?_,?_⟩ <;> (rintro rfl;revert h;decide)
theorem frL_inj {a b:Rat}(h:frL a=frL b):a=b:=by
 unfold frL at h
 have na:∀ z:Int,∀ e∈itoa z,e ≠ 47:=fun z e he=>(numb_ne (itoa_numb z e he)).1
 split at h
 ·rename_i h1
  split at h
  ·rename_i h2
   exact Rat.ext (itoa_inj h) (by rw [h1,h2])
  ·exact (no_split (na _) h.symm).elim
 ·split at h
  ·exact (no_split (na _) h).elim
  ·obtain ⟨h1,h2⟩:=split_at (na _) (na _) h
   exact Rat.ext (itoa_inj h1) (by have:=itoa_inj h2;omega)
theorem sfx_inj {a b:Rat}(h:sfx a=sfx b):a=b:=by
 have n40:∀ r:Rat,∀ l,frL r ≠ 40::l:=fun r l e=>by
  have:=frL_numb r 40 (by rw [e];exact List.mem_cons_self ..)
  rcases this with g | g
  ·exact (numb_ne g).2.2.1 rfl
  ·exact absurd g (by decide)
 unfold sfx at h
 split at h
 ·rename_i h1
  split at h
  ·rename_i h2;rw [h1,h2]
  ·split at h <;> simp at h
 ·split at h
  ·split at h
   ·simp at h
   ·split at h
    ·exact frL_inj (by simpa using h)
    ·simp only [List.cons.injEq,true_and] at h
     exact absurd h (n40 _ _)
  ·split at h
   ·simp at h
   ·split at h
    ·simp only [List.cons.injEq,true_and] at h
     exact absurd h.symm (n40 _ _)
    ·simp only [List.cons.injEq,true_and,List.append_cancel_right_eq] at h
     exact frL_inj h
theorem sfx_no (r:Rat):∀ b∈sfx r,b ≠ 32:=by
 have hf:∀ b∈frL r,b ≠ 32:=fun b hb=>by
  rcases frL_numb r b hb with g | g
  ·exact (numb_ne g).2.1
  ·rw [g];decide
 intro b hb
 unfold sfx at hb
 split at hb
 ·cases hb
 ·split at hb
  ·rcases List.mem_cons.1 hb with g | g
   ·rw [g];decide
   ·exact hf b g
  ·rcases List.mem_cons.1 hb with g | g
   ·rw [g];decide
   ·rcases List.mem_cons.1 g with g | g
    ·rw [g];decide
    ·rcases List.mem_append.1 g with g | g
     ·exact hf b g
     ·rw [List.mem_singleton.1 g];decide
/-- The items by the primes' first bytes. -/
def itmB (bs : List UInt8) (x : List Rat) : List (List UInt8):=(bs.zip x).filterMap fun e => itm [e.1] e.2
theorem itmB_cons (b:UInt8)(bs:List UInt8)(r:Rat)(x:List Rat):itmB (b::bs) (r::x)=(match itm [b] r with | none=>itmB bs x | some z=>z::itmB bs x):=by
 unfold itmB
 rw [List.zip_cons_cons,List.filterMap_cons]
 split <;> rename_i h <;> rw [h]
theorem itmB_head : ∀ {bs:List UInt8}{x:List Rat}{z:List UInt8},z∈itmB bs x→∃ b l,z=b::l∧b∈bs
 | [],_,_,h=>by simp [itmB] at h
 | _::_,[],_,h=>by simp [itmB] at h
 | b::bs,r::x,z,h=>by
  rw [itmB_cons] at h
  have key:z∈itmB bs x→∃ c l,z=c::l∧c∈b::bs:=fun g=>by
   obtain ⟨c,l,e,hc⟩:=itmB_head g
   exact ⟨c,l,e,List.mem_cons_of_mem _ hc⟩
  unfold itm at h
  split at h
  ·exact key h
  ·rename_i y hy
   split at hy
   ·cases hy
   ·cases hy
    rcases List.mem_cons.1 h with g | g
    ·exact ⟨b,sfx r,by rw [g];rfl,List.mem_cons_self ..⟩
    ·exact key g
theorem itmB_inj : ∀ {bs:List UInt8}{x y:List Rat},bs.Nodup→x.length=bs.length→y.length=bs.length→itmB bs x=itmB bs y→x=y
 | [],[],[],_,_,_,_=>rfl
 | b::bs,r::x,s::y,hn,hx,hy,h=>by
  rw [List.nodup_cons] at hn
  have ih:=itmB_inj (bs:=bs) (x:=x) (y:=y) hn.2 (by simpa using hx) (by simpa using hy)
  rw [itmB_cons,itmB_cons] at h
  have out:∀ (z:List UInt8)(l:List (List UInt8))(w:List Rat),itmB bs w=([b]++z)::l→False:=fun z l w e=>by
   obtain ⟨c,m,e2,hc⟩:=itmB_head (bs:=bs) (x:=w) (z:=[b]++z) (by rw [e];exact List.mem_cons_self ..)
   cases e2
   exact hn.1 hc
  unfold itm at h
  by_cases h1:r.num=0
  ·by_cases h2:s.num=0
   ·rw [if_pos h1,if_pos h2] at h
    rw [ih h,Rat.num_eq_zero.1 h1,Rat.num_eq_zero.1 h2]
   ·rw [if_pos h1,if_neg h2] at h
    exact (out _ _ _ h).elim
  ·by_cases h2:s.num=0
   ·rw [if_neg h1,if_pos h2] at h
    exact (out _ _ _ h.symm).elim
   ·rw [if_neg h1,if_neg h2] at h
    simp only [List.cons.injEq,List.cons_append,List.nil_append,true_and] at h
    rw [sfx_inj h.1,ih h.2]
theorem itms_eq : ∀ {p:List Int}{bs:List UInt8},p.map itoa=bs.map (fun b=>[b])→∀ x,itms p x=itmB bs x
 | [],[],_,_=>rfl
 | [],_::_,h,_=>by cases h
 | _::_,[],h,_=>by cases h
 | q::p,b::bs,h,x=>by
  cases x with
  | nil=>rfl
  | cons r x =>
   simp only [List.map_cons,List.cons.injEq] at h
   have ih:=itms_eq h.2 x
   unfold itms itmB at ih ⊢
   rw [List.zip_cons_cons,List.zip_cons_cons,List.filterMap_cons,List.filterMap_cons]
   dsimp only
   rw [h.1,ih]
theorem itms_B {p:List Int}(hp:p=[2,3]∨p=[2,3,5]):∃ bs:List UInt8,bs.Nodup∧bs.length=p.length∧(∀ x,itms p x=itmB bs x)∧∀ b∈bs,b ≠ 32∧b ≠ 49:=by
 have e2:itoa 2=[50]:=by unfold itoa;rw [if_neg (by omega),decDigits_one (by decide)];rfl
 have e3:itoa 3=[51]:=by unfold itoa;rw [if_neg (by omega),decDigits_one (by decide)];rfl
 have e5:itoa 5=[53]:=by unfold itoa;rw [if_neg (by omega),decDigits_one (by decide)];rfl
 rcases hp with rfl | rfl
 ·exact ⟨[50,51],by decide,rfl,itms_eq (by rw [List.map_cons,List.map_cons,e2,e3];rfl),by decide⟩
 ·exact ⟨[50,51,53],by decide,rfl,itms_eq (by rw [List.map_cons,List.map_cons,List.map_cons,e2,e3,e5];rfl),by decide⟩
theorem itmB_no {bs:List UInt8}(hb:∀ b∈bs,b ≠ 32∧b ≠ 49):∀ {x:List Rat},∀ z∈itmB bs x,∀ e∈z,e ≠ 32:=by
 induction bs with
 | nil=>intro x z h;simp [itmB] at h
 | cons b bs ih =>
  intro x z h
  cases x with
  | nil=>simp [itmB] at h
  | cons r x =>
   have ih2:=fun z hz=>ih (fun c hc=>hb c (List.mem_cons_of_mem _ hc)) (x:=x) z hz
   rw [itmB_cons] at h
   unfold itm at h
   split at h
   ·exact ih2 z h
   ·rename_i y hy
    split at hy
    ·cases hy
    ·cases hy
     rcases List.mem_cons.1 h with g | g
     ·intro e he
      rw [g] at he
      rcases List.mem_cons.1 he with k | k
      ·rw [k];exact (hb b (List.mem_cons_self ..)).1
      ·exact sfx_no r e k
     ·exact ih2 z g
theorem join_head {b:UInt8}{l:List UInt8}{m:List (List UInt8)}:∃ t,Lib.join ((b::l)::m) [32]=b::t:=by
 cases m with
 | nil=>exact ⟨l,join_sing _⟩
 | cons c m=>exact ⟨_,join_cons _ _ _⟩
/-- The text tells the size. -/
theorem txt_inj {p:List Int}{x y:List Rat}(hp:p=[2,3]∨p=[2,3,5])(hx:x.length=p.length)(hy:y.length=p.length)(h:txt p x=txt p y):x=y:=by
 obtain ⟨bs,hn,hl,he,hb⟩:=itms_B hp
 unfold txt at h
 rw [he x,he y] at h
 have out:∀ w:List Rat,itmB bs w ≠ []→[49]=Lib.join (itmB bs w) [32]→False:=fun w h1 h2=>by
  cases hw:itmB bs w with
  | nil=>exact h1 hw
  | cons z m =>
   obtain ⟨b,l,e,hbm⟩:=itmB_head (bs:=bs) (x:=w) (z:=z) (by rw [hw];exact List.mem_cons_self ..)
   rw [hw,e] at h2
   obtain ⟨t,ht⟩:=join_head (b:=b) (l:=l) (m:=m)
   rw [ht] at h2
   cases h2
   exact (hb _ hbm).2 rfl
 by_cases h1:itmB bs x=[]
 ·by_cases h2:itmB bs y=[]
  ·exact itmB_inj hn (hx.trans hl.symm) (hy.trans hl.symm) (h1.trans h2.symm)
  ·rw [if_pos h1,if_neg h2] at h
   exact (out y h2 h).elim
 ·by_cases h2:itmB bs y=[]
  ·rw [if_neg h1,if_pos h2] at h
   exact (out x h1 h.symm).elim
  ·rw [if_neg h1,if_neg h2] at h
   exact itmB_inj hn (hx.trans hl.symm) (hy.trans hl.symm) (join_inj (fun z hz=>itmB_no hb z hz) (fun z hz=>itmB_no hb z hz) h1 h2 h)
end Go.Proofs.YtipjmpdndokdlaaGreatDoor

namespace Go.Proofs.YtipjmpdndokdlaaGreatDoor
open Go.RowKit Go.Lib Go.Shelf
attribute [local go_sem] Oper.semAt_some
theorem itms_take {p:List Int}{x:List Rat}{k:Nat}{a:Int}{r:Rat}(hp:p[k]?=some a)(hx:x[k]?=some r) :
  itms (p.take (k+1)) (x.take (k+1))=itms (p.take k) (x.take k)++(itm (itoa a) r).toList:=by
 have e:∀ n,(p.take n).zip (x.take n)=(p.zip x).take n:=fun n=>by simp [List.zip_eq_zipWith,List.take_zipWith]
 have hz:(p.zip x)[k]?=some (a,r):=by
  rw [List.getElem?_zip_eq_some]
  exact ⟨hp,hx⟩
 unfold itms
 rw [e,e,List.take_add_one,hz,List.filterMap_append]
 congr 1
/-- A slice of strings that a call made. -/
def svs (l : List (List UInt8)) : List Value:=l.map fun s => .string ⟨s.toArray⟩
def OwnS (w : World) (B : Nat) (v : Value) (l : List (List UInt8)) : Prop:=w.ownsRow B 9 1 v l.length (svs l)
theorem info_str : (Tryz.prog.info? 9).map (fun i=>(i.zero,i.size,i.bytes))=some (some (.string ByteArray.empty),1,16):=by kernel_rfl
theorem OwnS.more {w W7:World}{v7:Value}{l:List (List UInt8)}{z:List UInt8}{n:Nat}(hn:l.length=n)(ho:W7.ownsRow w.heap.size 9 1 v7 (n+1) (svs l++[.string ⟨z.toArray⟩])):OwnS W7 w.heap.size v7 (l++[z]):=by
 unfold OwnS
 rw [List.length_append,hn]
 unfold svs at ho ⊢
 rw [List.map_append]
 exact ho
theorem itm_len {a:Int}{r:Rat}{z:List UInt8}(ha:Fit a)(hr:Ft 30 r)(h:itm (itoa a) r=some z):z.length≤1300000:=by
 have l1:=I_size_le a ha
 have l2:=I_size_le r.num (hr.num (by omega))
 have l3:=I_size_le (r.den:Int) (hr.den (by omega))
 have e:∀ z:Int,(I z).size=(itoa z).length:=fun z=>by show (itoa z).toArray.size=_;simp
 rw [e] at l1 l2 l3
 unfold itm at h
 split at h
 ·cases h
 ·cases h
  have lf:(frL r).length≤800010:=by
   unfold frL
   split
   ·omega
   ·simp only [List.length_append,List.length_cons];omega
  rw [List.length_append]
  unfold sfx
  split
  ·simp only [List.length_nil];omega
  ·split
   ·simp only [List.length_cons];omega
   ·simp only [List.length_cons,List.length_append,List.length_nil];omega
theorem word_one {z:Int}{r:Rat}(h:r=1):I z=⟨(itoa z++sfx r).toArray⟩:=by
 unfold sfx
 rw [if_pos h,List.append_nil]
 rfl
theorem word_pow {z:Int}{r:Rat}(h:r ≠ 1)(hd:r.den=1∧0<r.num):I z++(⟨#[94]⟩++frT r)=⟨(itoa z++sfx r).toArray⟩:=by
 unfold sfx
 rw [if_neg h,if_pos hd,frT_L]
 unfold I
 apply ByteArray.ext
 apply Array.ext'
 simp
theorem word_par {z:Int}{r:Rat}(h:r ≠ 1)(hd:¬ (r.den=1∧0<r.num)):I z++(⟨#[94,40]⟩++frT r++⟨#[41]⟩)=⟨(itoa z++sfx r).toArray⟩:=by
 unfold sfx
 rw [if_neg h,if_neg hd,frT_L]
 unfold I
 apply ByteArray.ext
 apply Array.ext'
 simp
theorem rat_one {r:Rat}:r=1 ↔ r.num=1∧(r.den:Int)=1 :=
 ⟨fun h=>by rw [h];exact ⟨rfl,rfl⟩,fun h=>Rat.ext h.1 (by rw [show r.den=1 by omega];rfl)⟩
theorem itm_some {b:List UInt8}{r:Rat}(h:r.num ≠ 0):itm b r=some (b++sfx r):=by unfold itm;rw [if_neg h]
theorem fit_five {z:Int}(h0:0≤z)(h1:z≤5):Fit z:=Nat.le_trans (Dec.nDigits_le (k:=1) (by omega) (show z.natAbs<10 ^ 1 by omega)) (by omega)
theorem frT_size {r:Rat}(hr:Ft 30 r):(frT r).size≤800010:=by
 have l2:=I_size_le r.num (hr.num (by omega))
 have l3:=I_size_le (r.den:Int) (hr.den (by omega))
 have e:∀ z:Int,(I z).size=(itoa z).length:=fun z=>by show (itoa z).toArray.size=_;simp
 rw [e] at l2 l3
 rw [frT_L]
 show (frL r).toArray.size≤_
 rw [List.size_toArray]
 unfold frL
 split
 ·omega
 ·simp only [List.length_append,List.length_cons];omega
theorem sText_c (vp v:Value)(p:List Int)(x:List Rat)(w:World)(he:Env w)(hp:Sl w vp (i64s p))(hv:Rd w v x)(hpw:p=[2,3]∨p=[2,3,5])(hlen:x.length=p.length)(hx:∀ r∈x,Ft 30 r) :
  Calls Tryz.prog 203 #[vp,v] w fun e w'=>e=.returned (.tuple #[.string ⟨(txt p x).toArray⟩,.int .i64 0])∧Ext w w':=by
 obtain ⟨j0,hj,hy0,hy1,hy2⟩:=info_parts info_str
 have hpe:primesErr p=0∧p.length≤3:=by rcases hpw with e | e <;> rw [e] <;> decide
 have hps:∀ z∈p,0≤z∧z≤5:=by rcases hpw with e | e <;> rw [e] <;> decide
 have hck:=sCheck_c vp v p x w he hp hv hpe.1 hlen hx
 have hit:=fun (z:Int)(hz:z∈p) W (hE:Ext w W)=>itoa_c z (by have:=hps z hz;omega) (by have:=hps z hz;omega) W (he.ext hE)
 have hnm:=fun W (hE:Ext w W)=>number_c 1 W (he.ext hE) (by omega) (by omega)
 have e1:Rv ((1:Int):Rat)=.agg #[.string ⟨#[49]⟩,.string ⟨#[49]⟩]:=by rw [Rv_int,show I 1=⟨#[49]⟩ from D_one]
 simp only [e1] at hnm
 clear e1
 have hsg:=fun (r:Rat)(hr:r∈x) W=>sign_c r.num W ((hx r hr).num (by omega))
 have hft:=fun (r:Rat)(hr:r∈x) W=>frText_c r W ((hx r hr).num (by omega)) ((hx r hr).den (by omega))
 obtain ⟨ap,cp,rfl,_,_,hpc⟩:=hp.parts
 obtain ⟨av,cv,rfl,_,_,hvc⟩:=hv.parts
 rw [i64s_length] at *
 have hpe2:=hpe.2
 generalize hn:p.length=n at *
 have Hck:=hid hck;have Hit:=hid hit;have Hnm:=hid hnm;have Hsg:=hid hsg;have Hft:=hid hft;have Hpc:=hid hpc;have Hvc:=hid hvc;have Hx:=hid hx;have Hps:=hid hps;have Hn:=hid hn;have Hlen:=hid hlen
 clear hck hit hnm hsg hft hpc hvc hp hv hx hps hpe he hpw hn
 rw [hlen]
 rw [hlen] at Hck
 clear hlen
 go_enter Tryz.func203,Tryz.ntmps203
 go_wp2_with fail
 refine Hck.out.mono ?_
 rintro e w1 ⟨rfl,hx1⟩
 have Hx1:=hid hx1
 clear hx1
 go_wp2_with fail
 go_loopw [7,19] (fun v7 v19 wr=>∃ k:Nat,v19=.int .i64 k∧k≤n∧OwnS wr w.heap.size v7 (itms (p.take k) (x.take k))∧Ext w wr) (fun _ v19 _=>n - (intOf v19).toNat)
 case atStart=>exact ⟨0,rfl,Nat.zero_le _,World.ownsRow_nil _ _ _ _,Hx1.out⟩
 case round =>
  obtain ⟨k,rfl,hk,ho,hE⟩:=hrel
  generalize hL:itms (p.take k) (x.take k)=L at *
  obtain ⟨a7,c7,rfl⟩:=own_shape ho
  by_cases hkn:k<n
  ·obtain ⟨r,hr⟩:∃ r,x[k]?=some r:=⟨_,List.getElem?_eq_getElem (by rw [Hlen.out];exact hkn)⟩
   obtain ⟨z,hz⟩:∃ z,p[k]?=some z:=⟨_,List.getElem?_eq_getElem (by rw [Hn.out];exact hkn)⟩
   have hzm:=List.mem_of_getElem? hz
   have hrm:=List.mem_of_getElem? hr
   obtain ⟨bp,op,rfl,hpc⟩:=Hpc.out k (.int .i64 z) (by unfold i64s;rw [List.getElem?_map,hz];rfl)
   obtain ⟨bv,ov,rfl,hc0,hc1⟩:=Hvc.out k r hr
   have p0:=hE.cell hpc
   have h0:=hE.cell hc0
   have h1:=hE.cell hc1
   have hk0:(0:Int)≤(k:Int):=by omega
   have hk1:(k:Int)<(n:Int):=by omega
   have hEb:Ext w (wr.alloc (.cells #[.string (I r.num),.string (I (r.den:Int))] 27)):=hE.alloc _
   have p1:=hEb.cell hpc
   have b1:=Box2.new wr (.string (I r.num)) (.string (I (r.den:Int)))
   have hitk:=Hit.out z hzm _ hEb
   have hst:=itms_take hz hr
   have hll:L.length≤3:=by
    rw [← hL]
    unfold itms
    refine Nat.le_trans (List.length_filterMap_le ..) ?_
    rw [List.length_zip,List.length_take,List.length_take]
    omega
   have Hll:=hid hll
   have hzI:=I_size_le z (fit_five (Hps.out z hzm).1 (Hps.out z hzm).2)
   have hfs:=frT_size (Hx.out r hrm)
   clear hll
   rw [hL] at hst
   have hnum0:=I_is_zero r.num
   have hden1:=I_is_one (r.den:Int)
   have hnum1:=I_is_one r.num
   generalize hsa:I r.num=sa at *
   generalize hsb:I (r.den:Int)=sb at *
   by_cases h0:r.num=0
   ·rw [decide_eq_true h0] at hnum0
    have hst2:itms (p.take (k+1)) (x.take (k+1))=L:=by rw [hst];unfold itm;rw [if_pos h0];simp
    have Hst:=hid hst2;have HEb:=hid hEb;have B1:=hid b1;have Hitk:=hid hitk;have Ho:=hid ho
    clear hst hst2 hEb b1 hitk ho hsa hsb hr hz hzm hrm hpc hc0 hc1 hden1 h0
    go_wp2_with fail
    refine Hitk.out.mono ?_
    rintro e w2 ⟨rfl,hx2⟩
    have hb2:=B1.out.ext hx2
    have g0:=hb2.c0;have g1:=hb2.c1
    have Hx2:=hid (HEb.out.trans hx2);have Ho2:=hid (((Ext.refl wr).alloc _ |>.trans hx2).own Ho.out)
    clear hx2 hb2
    go_wp2_with fail
    go_roundw
    case rel=>exact ⟨k+1,by go_num,by omega,by rw [Hst.out];exact Ho2.out,Hx2.out⟩
    case measure=>simp [intOf];omega
   ·rw [decide_eq_false h0] at hnum0
    have Hst:=hid hst;have HEb:=hid hEb;have B1:=hid b1;have Hitk:=hid hitk;have Ho:=hid ho;have Hsa:=hid hsa;have Hsb:=hid hsb;have Hr:=hid hrm;have H0:=hid h0
    clear hst hEb b1 hitk ho hsa hsb hr hz hzm hrm hpc hc0 hc1 h0
    go_wp2_with fail
    refine Hitk.out.mono ?_
    rintro e w2 ⟨rfl,hx2⟩
    have hb2:=B1.out.ext hx2
    have hs2:∀ W,Ext w2.drew W→W.cell? ⟨wr.heap.size,0,none⟩=some (.string sa)∧W.cell? ⟨wr.heap.size,1,none⟩=some (.string sb):=fun W h=>by
     have:=hb2.ext ((Ext.refl w2).drew.trans h)
     exact ⟨this.c0,this.c1⟩
    have g0:=hb2.c0;have g1:=hb2.c1
    obtain ⟨d0,d1⟩:=hs2 _ (Ext.refl _)
    have hnm2:=Hnm.out w2.drew (HEb.out.trans hx2).drew
    have Hx2:=hid (HEb.out.trans hx2);have Ho2:=hid (((Ext.refl wr).alloc _ |>.trans hx2).own Ho.out);have Hs2:=hid hs2;have Hnm2:=hid hnm2
    clear hx2 hb2 hs2 hnm2
    obtain ⟨b1,hb1⟩:∃ b,decide (r.num=1)=b:=⟨_,rfl⟩
    obtain ⟨b2,hb2⟩:∃ b,decide ((r.den:Int)=1)=b:=⟨_,rfl⟩
    rw [hb1] at hnum1
    rw [hb2] at hden1
    have Hb1:=hid hb1;have Hb2:=hid hb2
    clear hb1 hb2
    cases b1 <;> cases b2
    ·go_wp2_with fail
     go_region_held3 (fun w'=>w'.cell? ⟨wr.heap.size,0,none⟩=some (.string sa)∧w'.cell? ⟨wr.heap.size,1,none⟩=some (.string sb))
      (first | (with_reducible assumption) | exact Hs2.out _ (Ext.refl _) | exact Hs2.out _ HxA.out)
      (first
       | (go_at_call 68
          refine Hnm2.out.mono ?_
          rintro e9 VA ⟨rfl,hxa⟩
          have HxA:=hid hxa
          clear hxa))
     obtain ⟨d0,d1⟩:=Hs2.out _ HxA.out
     have HEA:=hid (Hx2.out.drew.trans HxA.out)
     have HoA:=hid (((Ext.refl w2).drew.trans HxA.out).own Ho2.out)
     have hftA:=Hft.out r Hr.out VA
     unfold Rv at hftA
     rw [Hsa.out,Hsb.out] at hftA
     have HftA:=hid hftA
     clear hftA
     go_wp2_with fail
     refine HftA.out.mono ?_
     rintro e V4 ⟨rfl,hx4⟩
     have HEW:=hid (HEA.out.trans hx4)
     have HoW:=hid (hx4.own HoA.out)
     clear hx4
     have hqo:=HoW.out
     have hbase:=HEW.out.size
     have hm3:L.length+1≤maxLen:=by have:=Hll.out;unfold maxLen;omega
     have hm4:(L.length+1) * 16≤140737488355328:=by have:=Hll.out;omega
     go_wp2_with (at_builtin;refine wpList_append_own _ rfl _ _ 284 rfl w.heap.size 9 j0 (.string ByteArray.empty) 1 16 Tryz.underlying284 hj hy0 hy1 hy2 rfl (by decide) _ _ _ rfl (World.ownsRow.alloc hqo _) ⟨V4.heap.size,0,none⟩ 1 1 [_] rfl rfl (cell_one_new _ _ _) (by simp [Value.oneCell']) hm3 hm4 (by rw [World.size_alloc];omega) ?_;intro v7 V7 hown7 hgrow7 _)
     rw [word_par (fun g=>absurd (rat_one.1 g).2 (of_decide_eq_false Hb2.out)) (fun g=>absurd (show (r.den:Int)=1 by omega) (of_decide_eq_false Hb2.out))] at hown7
     clear hqo
     go_roundw
     case rel=>exact ⟨k+1,by go_num,by omega,by rw [Hst.out,itm_some H0.out,Option.toList_some];exact OwnS.more rfl hown7,ext_grown HEW.out HoW.out hgrow7⟩
     case measure=>simp [intOf];omega
    ·go_wp2_with fail
     go_region_held3 (fun w'=>w'.cell? ⟨wr.heap.size,0,none⟩=some (.string sa)∧w'.cell? ⟨wr.heap.size,1,none⟩=some (.string sb))
      (first | (with_reducible assumption) | exact Hs2.out _ (Ext.refl _) | exact Hs2.out _ HxA.out)
      (first
       | (go_at_call 68
          refine Hnm2.out.mono ?_
          rintro e9 VA ⟨rfl,hxa⟩
          have HxA:=hid hxa
          clear hxa))
     obtain ⟨d0,d1⟩:=Hs2.out _ HxA.out
     have HEA:=hid (Hx2.out.drew.trans HxA.out)
     have HoA:=hid (((Ext.refl w2).drew.trans HxA.out).own Ho2.out)
     have hftA:=Hft.out r Hr.out VA
     unfold Rv at hftA
     rw [Hsa.out,Hsb.out] at hftA
     have HftA:=hid hftA
     clear hftA
     have hsgA:=Hsg.out r Hr.out VA
     rw [Hsa.out] at hsgA
     have hd1:(r.den:Int)=1:=of_decide_eq_true Hb2.out
     have hne:r ≠ 1:=fun g=>absurd (rat_one.1 g).1 (of_decide_eq_false Hb1.out)
     by_cases hpos:0<r.num
     ·rw [cmpI_gt hpos] at hsgA
      have Hw:=hid (word_pow (z:=z) hne ⟨by omega,hpos⟩)
      have HsgA:=hid hsgA
      clear hsgA hd1 hne hpos
      go_wp2_with fail
      refine HsgA.out.mono ?_
      rintro e W9 ⟨rfl,rfl⟩
      go_wp2_with fail
      refine HftA.out.mono ?_
      rintro e V4 ⟨rfl,hx4⟩
      have HEW:=hid (HEA.out.trans hx4)
      have HoW:=hid (hx4.own HoA.out)
      clear hx4
      have hqo:=HoW.out
      have hbase:=HEW.out.size
      have hm3:L.length+1≤maxLen:=by have:=Hll.out;unfold maxLen;omega
      have hm4:(L.length+1) * 16≤140737488355328:=by have:=Hll.out;omega
      go_wp2_with (at_builtin;refine wpList_append_own _ rfl _ _ 284 rfl w.heap.size 9 j0 (.string ByteArray.empty) 1 16 Tryz.underlying284 hj hy0 hy1 hy2 rfl (by decide) _ _ _ rfl (World.ownsRow.alloc hqo _) ⟨V4.heap.size,0,none⟩ 1 1 [_] rfl rfl (cell_one_new _ _ _) (by simp [Value.oneCell']) hm3 hm4 (by rw [World.size_alloc];omega) ?_;intro v7 V7 hown7 hgrow7 _)
      rw [Hw.out] at hown7
      clear hqo
      go_roundw
      case rel=>exact ⟨k+1,by go_num,by omega,by rw [Hst.out,itm_some H0.out,Option.toList_some];exact OwnS.more rfl hown7,ext_grown HEW.out HoW.out hgrow7⟩
      case measure=>simp [intOf];omega
     ·rw [cmpI_lt (show r.num<0 by have:=H0.out;omega)] at hsgA
      have Hw:=hid (word_par (z:=z) hne (fun g=>hpos g.2))
      have HsgA:=hid hsgA
      clear hsgA hd1 hne hpos
      go_wp2_with fail
      refine HsgA.out.mono ?_
      rintro e W9 ⟨rfl,rfl⟩
      go_wp2_with fail
      refine HftA.out.mono ?_
      rintro e V4 ⟨rfl,hx4⟩
      have HEW:=hid (HEA.out.trans hx4)
      have HoW:=hid (hx4.own HoA.out)
      clear hx4
      have hqo:=HoW.out
      have hbase:=HEW.out.size
      have hm3:L.length+1≤maxLen:=by have:=Hll.out;unfold maxLen;omega
      have hm4:(L.length+1) * 16≤140737488355328:=by have:=Hll.out;omega
      go_wp2_with (at_builtin;refine wpList_append_own _ rfl _ _ 284 rfl w.heap.size 9 j0 (.string ByteArray.empty) 1 16 Tryz.underlying284 hj hy0 hy1 hy2 rfl (by decide) _ _ _ rfl (World.ownsRow.alloc hqo _) ⟨V4.heap.size,0,none⟩ 1 1 [_] rfl rfl (cell_one_new _ _ _) (by simp [Value.oneCell']) hm3 hm4 (by rw [World.size_alloc];omega) ?_;intro v7 V7 hown7 hgrow7 _)
      rw [Hw.out] at hown7
      clear hqo
      go_roundw
      case rel=>exact ⟨k+1,by go_num,by omega,by rw [Hst.out,itm_some H0.out,Option.toList_some];exact OwnS.more rfl hown7,ext_grown HEW.out HoW.out hgrow7⟩
      case measure=>simp [intOf];omega
    ·go_wp2_with fail
     go_region_held3 (fun w'=>w'.cell? ⟨wr.heap.size,0,none⟩=some (.string sa)∧w'.cell? ⟨wr.heap.size,1,none⟩=some (.string sb))
      (first | (with_reducible assumption) | exact Hs2.out _ (Ext.refl _) | exact Hs2.out _ HxA.out)
      (first
       | (go_at_call 68
          refine Hnm2.out.mono ?_
          rintro e9 VA ⟨rfl,hxa⟩
          have HxA:=hid hxa
          clear hxa))
     obtain ⟨d0,d1⟩:=Hs2.out _ HxA.out
     have HEA:=hid (Hx2.out.drew.trans HxA.out)
     have HoA:=hid (((Ext.refl w2).drew.trans HxA.out).own Ho2.out)
     have hftA:=Hft.out r Hr.out VA
     unfold Rv at hftA
     rw [Hsa.out,Hsb.out] at hftA
     have HftA:=hid hftA
     clear hftA
     go_wp2_with fail
     refine HftA.out.mono ?_
     rintro e V4 ⟨rfl,hx4⟩
     have HEW:=hid (HEA.out.trans hx4)
     have HoW:=hid (hx4.own HoA.out)
     clear hx4
     have hqo:=HoW.out
     have hbase:=HEW.out.size
     have hm3:L.length+1≤maxLen:=by have:=Hll.out;unfold maxLen;omega
     have hm4:(L.length+1) * 16≤140737488355328:=by have:=Hll.out;omega
     go_wp2_with (at_builtin;refine wpList_append_own _ rfl _ _ 284 rfl w.heap.size 9 j0 (.string ByteArray.empty) 1 16 Tryz.underlying284 hj hy0 hy1 hy2 rfl (by decide) _ _ _ rfl (World.ownsRow.alloc hqo _) ⟨V4.heap.size,0,none⟩ 1 1 [_] rfl rfl (cell_one_new _ _ _) (by simp [Value.oneCell']) hm3 hm4 (by rw [World.size_alloc];omega) ?_;intro v7 V7 hown7 hgrow7 _)
     rw [word_par (fun g=>absurd (rat_one.1 g).2 (of_decide_eq_false Hb2.out)) (fun g=>absurd (show (r.den:Int)=1 by omega) (of_decide_eq_false Hb2.out))] at hown7
     clear hqo
     go_roundw
     case rel=>exact ⟨k+1,by go_num,by omega,by rw [Hst.out,itm_some H0.out,Option.toList_some];exact OwnS.more rfl hown7,ext_grown HEW.out HoW.out hgrow7⟩
     case measure=>simp [intOf];omega
    ·go_wp2_with fail
     go_region_held3 (fun w'=>w'.cell? ⟨wr.heap.size,0,none⟩=some (.string sa)∧w'.cell? ⟨wr.heap.size,1,none⟩=some (.string sb))
      (first | (with_reducible assumption) | exact Hs2.out _ (Ext.refl _) | exact Hs2.out _ HxA.out)
      (first
       | (go_at_call 68
          refine Hnm2.out.mono ?_
          rintro e9 VA ⟨rfl,hxa⟩
          have HxA:=hid hxa
          clear hxa))
     obtain ⟨d0,d1⟩:=Hs2.out _ HxA.out
     have HEA:=hid (Hx2.out.drew.trans HxA.out)
     have HoA:=hid (((Ext.refl w2).drew.trans HxA.out).own Ho2.out)
     have hqo:=HoA.out
     have hbase:=HEA.out.size
     have hm3:L.length+1≤maxLen:=by have:=Hll.out;unfold maxLen;omega
     have hm4:(L.length+1) * 16≤140737488355328:=by have:=Hll.out;omega
     go_wp2_with (at_builtin;refine wpList_append_own _ rfl _ _ 284 rfl w.heap.size 9 j0 (.string ByteArray.empty) 1 16 Tryz.underlying284 hj hy0 hy1 hy2 rfl (by decide) _ _ _ rfl (World.ownsRow.alloc hqo _) ⟨VA.heap.size,0,none⟩ 1 1 [_] rfl rfl (cell_one_new _ _ _) (by simp [Value.oneCell']) hm3 hm4 (by rw [World.size_alloc];omega) ?_;intro v7 V7 hown7 hgrow7 _)
     rw [word_one (rat_one.2 ⟨of_decide_eq_true Hb1.out,of_decide_eq_true Hb2.out⟩)] at hown7
     clear hqo
     go_roundw
     case rel=>exact ⟨k+1,by go_num,by omega,by rw [Hst.out,itm_some H0.out,Option.toList_some];exact OwnS.more rfl hown7,ext_grown HEA.out HoA.out hgrow7⟩
     case measure=>simp [intOf];omega
  ·obtain rfl:n=k:=by omega
   have hLx:itms p x=L:=by
    rw [← hL,List.take_of_length_le (by rw [Hn.out];exact Nat.le_refl _),List.take_of_length_le (by rw [Hlen.out];exact Nat.le_refl _)]
   have hnk:¬ (n:Int)<(n:Int):=by omega
   by_cases h0:L=[]
   ·subst h0
    have ht:txt p x=[49]:=by unfold txt;rw [if_pos hLx]
    have HE:=hid hE;have Ht:=hid ht
    clear hLx ht hE ho
    go_wp2_with fail
    exact bodyPost_ret (v:=.tuple #[.string ⟨#[49]⟩,.int .i64 0]) (by simp [results,Tryz.results203,go_sem]) rfl ⟨by rw [Ht.out],HE.out⟩
   ·have ht:txt p x=Lib.join L [32]:=by unfold txt;rw [hLx,if_neg h0]
    have hlz:∀ s∈L,s.length≤1300000:=fun s hs=>by
     rw [← hLx] at hs
     unfold itms at hs
     obtain ⟨⟨a,r⟩,hm,hi⟩:=List.mem_filterMap.1 hs
     have h1:=List.of_mem_zip hm
     exact itm_len (fit_five (Hps.out a h1.1).1 (Hps.out a h1.1).2) (Hx.out r h1.2) hi
    have hl3:L.length≤3:=by
     rw [← hLx]
     unfold itms
     refine Nat.le_trans (List.length_filterMap_le ..) ?_
     rw [List.length_zip,Hn.out,Hlen.out]
     omega
    have hl0:0<L.length:=List.length_pos_iff.2 h0
    have hj:(Lib.join L [32]).length≤10000000:=by
     match L,h0,hlz,hl3 with
     | [a],_,hz,_ =>
      rw [Lib.join_one]
      have:=hz a (by simp)
      omega
     | [a,b],_,hz,_ =>
      have h1:=hz a (by simp)
      have h2:=hz b (by simp)
      rw [Lib.join_length]
      simp only [Lib.lens,List.length_cons,List.length_nil,List.map_cons,List.map_nil,List.sum_cons,List.sum_nil]
      omega
     | [a,b,c],_,hz,_ =>
      have h1:=hz a (by simp)
      have h2:=hz b (by simp)
      have h3:=hz c (by simp)
      rw [Lib.join_length]
      simp only [Lib.lens,List.length_cons,List.length_nil,List.map_cons,List.map_nil,List.sum_cons,List.sum_nil]
      omega
     | _::_::_::_::_,_,_,h3=>simp at h3
    have hown:=ho
    unfold OwnS at hown
    obtain ⟨g,cap,hv,hcell⟩:=own_slice hown hl0
    have hjn:Calls Tryz.prog 236 #[.slice a7 L.length c7,.string ⟨#[32]⟩] wr fun e w'=>e=.returned (.string ⟨(Lib.join L [32]).toArray⟩)∧Ext wr w':=by
     rw [hv]
     rcases hown.2 with ⟨_,g0⟩ | ⟨g',cap',cur,hv',hb,hg,k1,k2,k3,k4⟩
     ·omega
     ·rw [hv] at hv'
      injection hv' with e1 e2 e3
      injection e1 with e1
      injection e1 with e1
      subst e1 e3
      have hm:(L.map fun s=>(⟨s.toArray⟩:ByteArray)).map (·.data.toList)=L:=by
       rw [List.map_map]
       exact List.map_id'' (fun s=>rfl) L
      have hgw:g<wr.heap.size:=(Array.getElem?_eq_some_iff.1 hg).1
      have:=Any.strings_Join Tryz.lJoin Tryz.lJoinX g 0 cap (L.map fun s=>⟨s.toArray⟩) ⟨#[32]⟩ wr (fun j y hy=>by
       rw [Nat.zero_add]
       refine hcell j (.string y) ?_
       rw [List.getElem?_map] at hy
       unfold svs
       rw [List.getElem?_map]
       cases hs:L[j]? with
       | none=>rw [hs] at hy;cases hy
       | some s=>rw [hs] at hy;cases hy;rfl) hgw (by rw [List.length_map];omega) (by rw [List.length_map];omega) (by rw [hm];show (Lib.join L [32]).length≤_;omega)
      rw [hm,List.length_map] at this
      exact this
    have HE:=hid hE;have Ht:=hid ht;have Hjn:=hid hjn
    have hlw:¬ (L.length:Int)=0:=by omega
    clear hLx ht hE ho hown hjn hj hcell hv hlz hl3
    go_wp2_with fail
    refine Hjn.out.mono ?_
    rintro e w9 ⟨rfl,hx9⟩
    have Hx9:=hid (HE.out.trans hx9)
    clear hx9
    go_wp2_with fail
    exact bodyPost_ret (v:=.tuple #[.string ⟨(Lib.join L [32]).toArray⟩,.int .i64 0]) (by simp [results,Tryz.results203,go_sem]) rfl ⟨by rw [Ht.out],Hx9.out⟩
end Go.Proofs.YtipjmpdndokdlaaGreatDoor
