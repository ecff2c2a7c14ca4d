/- Plain: the text of a size, which tells it. Walks: size.Text. The map of a class's different sizes: how its elements read, what it holds. -/
import Derived.Test.YtebabancfnmfjaaGreatDoorPm06
import Derived.Lib.Join
import Derived.Test.YtebabancfnmfjaaGreatDoorPm12
import Derived.Test.YtebabancfnmfjaaGreatDoorShelfG
import Derived.Test.YtebabancfnmfjaaGreatDoorPm25
import Derived.Maps.RangeWalk
import Derived.Maps.Views
set_option maxRecDepth 100000
set_option maxHeartbeats 800000
namespace Go.Proofs.YtebabancfnmfjaaGreatDoor
section
open Go.RowKit Go.Lib
def zlD (b:UInt8):Prop:=b=45∨(48≤b.toNat∧b.toNat≤57)
def frL (r:Rat):List UInt8:=if r.den=1 then itoa r.num else itoa r.num++47::itoa (r.den:Int)
theorem zlE (r:Rat):frT r=⟨(frL r).toArray⟩:=by
 unfold frT frL;split
 ·rfl
 ·unfold I;apply ByteArray.ext;apply Array.ext';simp
def sfx (r:Rat):List UInt8:=if r=1 then [] else if r.den=1∧0<r.num then 94::frL r else 94::40::(frL r++[41])
def itm (b:List UInt8)(r:Rat):Option (List UInt8):=if r.num=0 then none else some (b++sfx r)
def zlF (p:List Int)(x:List Rat):List (List UInt8):=(p.zip x).filterMap fun e=>itm (itoa e.1) e.2
def txt (p:List Int)(x:List Rat):List UInt8:=if zlF p x=[] then [49] else Lib.join (zlF p x) [32]
theorem zlG {c:UInt8}:∀ {a b x y:List UInt8},(∀ e∈a,e ≠ c)→(∀ e∈b,e ≠ c)→a++c::x=b++c::y→a=b∧x=y
 | [],[],_,_,_,_,h=>⟨rfl,by simpa using h⟩
 | [],e::b,_,_,_,hb,h=>by
  simp only [List.nil_append,List.cons_append,List.cons.injEq] at h;exact absurd h.1.symm (hb e (List.mem_cons_self ..))
 | e::a,[],_,_,ha,_,h=>by
  simp only [List.nil_append,List.cons_append,List.cons.injEq] at h;exact absurd h.1 (ha e (List.mem_cons_self ..))
 | e::a,f::b,_,_,ha,hb,h=>by
  simp only [List.cons_append,List.cons.injEq] at h;have:=zlG (fun z hz=>ha z (List.mem_cons_of_mem _ hz)) (fun z hz=>hb z (List.mem_cons_of_mem _ hz)) h.2;exact ⟨by rw [h.1,this.1],this.2⟩
theorem zlH {c:UInt8}{a b x:List UInt8}(ha:∀ e∈b,e ≠ c)(h:a++c::x=b):False:=ha c (by rw [← h];simp) rfl
theorem zlI (a b:List UInt8)(l:List (List UInt8)):Lib.join (a::b::l) [32]=a++32::Lib.join (b::l) [32]:=by
 unfold Lib.join;rw [List.intercalate_cons_cons];simp
theorem zlJ (a:List UInt8):Lib.join [a] [32]=a:=by
 unfold Lib.join;exact List.intercalate_singleton
theorem zlK : ∀ {l m:List (List UInt8)},(∀ x∈l,∀ e∈x,e ≠ 32)→(∀ x∈m,∀ e∈x,e ≠ 32)→l ≠ []→m ≠ []→Lib.join l [32]=Lib.join m [32]→l=m
 | [],_,_,_,h,_,_=>absurd rfl h
 | _,[],_,_,_,h,_=>absurd rfl h
 | [a],[b],_,_,_,_,h=>by rw [zlJ,zlJ] at h;rw [h]
 | [a],b::c::m,ha,_,_,_,h=>by
  rw [zlJ,zlI] at h;exact (zlH (ha a (List.mem_cons_self ..)) h.symm).elim
 | a::b::l,[c],_,hc,_,_,h=>by
  rw [zlJ,zlI] at h;exact (zlH (hc c (List.mem_cons_self ..)) h).elim
 | a::b::l,c::d::m,ha,hc,_,_,h=>by
  rw [zlI,zlI] at h;obtain ⟨h1,h2⟩:=zlG (ha a (List.mem_cons_self ..)) (hc c (List.mem_cons_self ..)) h;rw [h1,zlK (fun x hx=>ha x (List.mem_cons_of_mem _ hx)) (fun x hx=>hc x (List.mem_cons_of_mem _ hx)) (by simp) (by simp) h2]
theorem zlL (z:Int):∀ b∈itoa z,zlD b:=by
 intro b hb;unfold itoa at hb;split at hb
 ·rcases List.mem_cons.1 hb with e | e
  ·exact .inl e
  ·exact .inr (Dec.dig_dec _ b e)
 ·exact .inr (Dec.dig_dec _ b hb)
theorem zlM (r:Rat):∀ b∈frL r,zlD b∨b=47:=by
 unfold frL;intro b hb;split at hb
 ·exact .inl (zlL _ b hb)
 ·rcases List.mem_append.1 hb with h | h
  ·exact .inl (zlL _ b h)
  ·rcases List.mem_cons.1 h with h | h
   ·exact .inr h
   ·exact .inl (zlL _ b h)
theorem zlN {b:UInt8}(h:zlD b):b ≠ 47∧b ≠ 32∧b ≠ 40∧b ≠ 41:=by
 rcases h with rfl | h
 ·decide
 ·refine ⟨?_,?_,?_,?_⟩ <;> (rintro rfl;revert h;decide)
theorem zlO {a b:Rat}(h:frL a=frL b):a=b:=by
 unfold frL at h;have na:∀ z:Int,∀ e∈itoa z,e ≠ 47:=fun z e he=>(zlN (zlL z e he)).1;split at h
 ·rename_i h1;split at h
  ·rename_i h2;exact Rat.ext (zby h) (by rw [h1,h2])
  ·exact (zlH (na _) h.symm).elim
 ·split at h
  ·exact (zlH (na _) h).elim
  ·obtain ⟨h1,h2⟩:=zlG (na _) (na _) h;exact Rat.ext (zby h1) (by have:=zby h2;omega)
theorem zlP {a b:Rat}(h:sfx a=sfx b):a=b:=by
 have n40:∀ r:Rat,∀ l,frL r ≠ 40::l:=fun r l e=>by
  have:=zlM r 40 (by rw [e];exact List.mem_cons_self ..);rcases this with g | g
  ·exact (zlN g).2.2.1 rfl
  ·exact absurd g (by decide)
 unfold sfx at h;split at h
 ·rename_i h1;split at h
  ·rename_i h2;rw [h1,h2]
  ·split at h <;> simp at h
 ·split at h
  ·split at h
   ·simp at h
   ·split at h
    ·exact zlO (by simpa using h)
    ·simp only [List.cons.injEq,true_and] at h;exact absurd h (n40 _ _)
  ·split at h
   ·simp at h
   ·split at h
    ·simp only [List.cons.injEq,true_and] at h;exact absurd h.symm (n40 _ _)
    ·simp only [List.cons.injEq,true_and,List.append_cancel_right_eq] at h;exact zlO h
theorem zlQ (r:Rat):∀ b∈sfx r,b ≠ 32:=by
 have hf:∀ b∈frL r,b ≠ 32:=fun b hb=>by
  rcases zlM r b hb with g | g
  ·exact (zlN g).2.1
  ·rw [g];decide
 intro b hb;unfold sfx at hb;split at hb
 ·cases hb
 ·split at hb
  ·rcases List.mem_cons.1 hb with g | g
   ·rw [g];decide
   ·exact hf b g
  ·rcases List.mem_cons.1 hb with g | g
   ·rw [g];decide
   ·rcases List.mem_cons.1 g with g | g
    ·rw [g];decide
    ·rcases List.mem_append.1 g with g | g
     ·exact hf b g
     ·rw [List.mem_singleton.1 g];decide
def zlR (bs:List UInt8)(x:List Rat):List (List UInt8):=(bs.zip x).filterMap fun e=>itm [e.1] e.2
theorem zlS (b:UInt8)(bs:List UInt8)(r:Rat)(x:List Rat):zlR (b::bs) (r::x)=(match itm [b] r with | none=>zlR bs x | some z=>z::zlR bs x):=by
 unfold zlR;rw [List.zip_cons_cons,List.filterMap_cons];split <;> rename_i h <;> rw [h]
theorem zlT : ∀ {bs:List UInt8}{x:List Rat}{z:List UInt8},z∈zlR bs x→∃ b l,z=b::l∧b∈bs
 | [],_,_,h=>by simp [zlR] at h
 | _::_,[],_,h=>by simp [zlR] at h
 | b::bs,r::x,z,h=>by
  rw [zlS] at h;have key:z∈zlR bs x→∃ c l,z=c::l∧c∈b::bs:=fun g=>by
   obtain ⟨c,l,e,hc⟩:=zlT g;exact ⟨c,l,e,List.mem_cons_of_mem _ hc⟩
  unfold itm at h;split at h
  ·exact key h
  ·rename_i y hy;split at hy
   ·cases hy
   ·cases hy
    rcases List.mem_cons.1 h with g | g
    ·exact ⟨b,sfx r,by rw [g];rfl,List.mem_cons_self ..⟩
    ·exact key g
theorem zlU : ∀ {bs:List UInt8}{x y:List Rat},bs.Nodup→x.length=bs.length→y.length=bs.length→zlR bs x=zlR bs y→x=y
 | [],[],[],_,_,_,_=>rfl
 | b::bs,r::x,s::y,hn,hx,hy,h=>by
  rw [List.nodup_cons] at hn;have ih:=zlU (bs:=bs) (x:=x) (y:=y) hn.2 (by simpa using hx) (by simpa using hy);rw [zlS,zlS] at h;have out:∀ (z:List UInt8)(l:List (List UInt8))(w:List Rat),zlR bs w=([b]++z)::l→False:=fun z l w e=>by
   obtain ⟨c,m,e2,hc⟩:=zlT (bs:=bs) (x:=w) (z:=[b]++z) (by rw [e];exact List.mem_cons_self ..)
   cases e2
   exact hn.1 hc
  unfold itm at h;by_cases h1:r.num=0
  ·by_cases h2:s.num=0
   ·rw [if_pos h1,if_pos h2] at h;rw [ih h,Rat.num_eq_zero.1 h1,Rat.num_eq_zero.1 h2]
   ·rw [if_pos h1,if_neg h2] at h;exact (out _ _ _ h).elim
  ·by_cases h2:s.num=0
   ·rw [if_neg h1,if_pos h2] at h;exact (out _ _ _ h.symm).elim
   ·rw [if_neg h1,if_neg h2] at h;simp only [List.cons.injEq,List.cons_append,List.nil_append,true_and] at h;rw [zlP h.1,ih h.2]
theorem zlV : ∀ {p:List Int}{bs:List UInt8},p.map itoa=bs.map (fun b=>[b])→∀ x,zlF p x=zlR bs x
 | [],[],_,_=>rfl
 | [],_::_,h,_=>by cases h
 | _::_,[],h,_=>by cases h
 | q::p,b::bs,h,x=>by
  cases x with
  | nil=>rfl
  | cons r x =>
   simp only [List.map_cons,List.cons.injEq] at h
   have ih:=zlV h.2 x
   unfold zlF zlR at ih ⊢
   rw [List.zip_cons_cons,List.zip_cons_cons,List.filterMap_cons,List.filterMap_cons]
   dsimp only
   rw [h.1,ih]
theorem zlW {p:List Int}(hp:p=[2,3]∨p=[2,3,5]):∃ bs:List UInt8,bs.Nodup∧bs.length=p.length∧(∀ x,zlF p x=zlR bs x)∧∀ b∈bs,b ≠ 32∧b ≠ 49:=by
 have e2:itoa 2=[50]:=by unfold itoa;rw [if_neg (by omega),decDigits_one (by decide)];rfl
 have e3:itoa 3=[51]:=by unfold itoa;rw [if_neg (by omega),decDigits_one (by decide)];rfl
 have e5:itoa 5=[53]:=by unfold itoa;rw [if_neg (by omega),decDigits_one (by decide)];rfl
 rcases hp with rfl | rfl
 ·exact ⟨[50,51],by decide,rfl,zlV (by rw [List.map_cons,List.map_cons,e2,e3];rfl),by decide⟩
 ·exact ⟨[50,51,53],by decide,rfl,zlV (by rw [List.map_cons,List.map_cons,List.map_cons,e2,e3,e5];rfl),by decide⟩
theorem zlX {bs:List UInt8}(hb:∀ b∈bs,b ≠ 32∧b ≠ 49):∀ {x:List Rat},∀ z∈zlR bs x,∀ e∈z,e ≠ 32:=by
 induction bs with
 | nil=>intro x z h;simp [zlR] at h
 | cons b bs ih =>
  intro x z h
  cases x with
  | nil=>simp [zlR] at h
  | cons r x =>
   have ih2:=fun z hz=>ih (fun c hc=>hb c (List.mem_cons_of_mem _ hc)) (x:=x) z hz
   rw [zlS] at h
   unfold itm at h
   split at h
   ·exact ih2 z h
   ·rename_i y hy
    split at hy
    ·cases hy
    ·cases hy
     rcases List.mem_cons.1 h with g | g
     ·intro e he
      rw [g] at he
      rcases List.mem_cons.1 he with k | k
      ·rw [k];exact (hb b (List.mem_cons_self ..)).1
      ·exact zlQ r e k
     ·exact ih2 z g
theorem zlY {b:UInt8}{l:List UInt8}{m:List (List UInt8)}:∃ t,Lib.join ((b::l)::m) [32]=b::t:=by
 cases m with
 | nil=>exact ⟨l,zlJ _⟩
 | cons c m=>exact ⟨_,zlI _ _ _⟩
theorem zlZ {p:List Int}{x y:List Rat}(hp:p=[2,3]∨p=[2,3,5])(hx:x.length=p.length)(hy:y.length=p.length)(h:txt p x=txt p y):x=y:=by
 obtain ⟨bs,hn,hl,he,hb⟩:=zlW hp;unfold txt at h;rw [he x,he y] at h;have out:∀ w:List Rat,zlR bs w ≠ []→[49]=Lib.join (zlR bs w) [32]→False:=fun w h1 h2=>by
  cases hw:zlR bs w with
  | nil=>exact h1 hw
  | cons z m =>
   obtain ⟨b,l,e,hbm⟩:=zlT (bs:=bs) (x:=w) (z:=z) (by rw [hw];exact List.mem_cons_self ..)
   rw [hw,e] at h2
   obtain ⟨t,ht⟩:=zlY (b:=b) (l:=l) (m:=m)
   rw [ht] at h2
   cases h2
   exact (hb _ hbm).2 rfl
 by_cases h1:zlR bs x=[]
 ·by_cases h2:zlR bs y=[]
  ·exact zlU hn (hx.trans hl.symm) (hy.trans hl.symm) (h1.trans h2.symm)
  ·rw [if_pos h1,if_neg h2] at h;exact (out y h2 h).elim
 ·by_cases h2:zlR bs y=[]
  ·rw [if_neg h1,if_pos h2] at h;exact (out x h1 h.symm).elim
  ·rw [if_neg h1,if_neg h2] at h;exact zlU hn (hx.trans hl.symm) (hy.trans hl.symm) (zlK (fun z hz=>zlX hb z hz) (fun z hz=>zlX hb z hz) h1 h2 h)
end
section
open Go.RowKit Go.Lib Go.Shelf
attribute [local go_sem] Oper.semAt_some
theorem zma {p:List Int}{x:List Rat}{k:Nat}{a:Int}{r:Rat}(hp:p[k]?=some a)(hx:x[k]?=some r) :
  zlF (p.take (k+1)) (x.take (k+1))=zlF (p.take k) (x.take k)++(itm (itoa a) r).toList:=by
 have e:∀ n,(p.take n).zip (x.take n)=(p.zip x).take n:=fun n=>by simp [List.zip_eq_zipWith,List.take_zipWith]
 have hz:(p.zip x)[k]?=some (a,r):=by
  rw [List.getElem?_zip_eq_some];exact ⟨hp,hx⟩
 unfold zlF;rw [e,e,List.take_add_one,hz,List.filterMap_append];congr 1
def svs (l:List (List UInt8)):List Value:=l.map fun s=>.string ⟨s.toArray⟩
def zmb (w:World)(B:Nat)(v:Value)(l:List (List UInt8)):Prop:=w.ownsRow B 9 1 v l.length (svs l)
theorem zmc : (Tryz.prog.info? 9).map (fun i=>(i.zero,i.size,i.bytes))=some (some (.string ByteArray.empty),1,16):=by kernel_rfl
theorem zmb.more {w W7:World}{v7:Value}{l:List (List UInt8)}{z:List UInt8}{n:Nat}(hn:l.length=n)(ho:W7.ownsRow w.heap.size 9 1 v7 (n+1) (svs l++[.string ⟨z.toArray⟩])):zmb W7 w.heap.size v7 (l++[z]):=by
 unfold zmb;rw [List.length_append,hn];unfold svs at ho ⊢;rw [List.map_append];exact ho
theorem zmd {a:Int}{r:Rat}{z:List UInt8}(ha:Fit a)(hr:Ft 30 r)(h:itm (itoa a) r=some z):z.length≤1300000:=by
 have l1:=zbO a ha;have l2:=zbO r.num (hr.num (by omega));have l3:=zbO (r.den:Int) (hr.den (by omega));have e:∀ z:Int,(I z).size=(itoa z).length:=fun z=>by show (itoa z).toArray.size=_;simp
 rw [e] at l1 l2 l3;unfold itm at h;split at h
 ·cases h
 ·cases h
  have lf:(frL r).length≤800010:=by
   unfold frL;split
   ·omega
   ·simp only [List.length_append,List.length_cons];omega
  rw [List.length_append];unfold sfx;split
  ·simp only [List.length_nil];omega
  ·split
   ·simp only [List.length_cons];omega
   ·simp only [List.length_cons,List.length_append,List.length_nil];omega
theorem zme {z:Int}{r:Rat}(h:r=1):I z=⟨(itoa z++sfx r).toArray⟩:=by
 unfold sfx;rw [if_pos h,List.append_nil];rfl
theorem zmf {z:Int}{r:Rat}(h:r ≠ 1)(hd:r.den=1∧0<r.num):I z++(⟨#[94]⟩++frT r)=⟨(itoa z++sfx r).toArray⟩:=by
 unfold sfx;rw [if_neg h,if_pos hd,zlE];unfold I;apply ByteArray.ext;apply Array.ext';simp
theorem zmg {z:Int}{r:Rat}(h:r ≠ 1)(hd:¬ (r.den=1∧0<r.num)):I z++(⟨#[94,40]⟩++frT r++⟨#[41]⟩)=⟨(itoa z++sfx r).toArray⟩:=by
 unfold sfx;rw [if_neg h,if_neg hd,zlE];unfold I;apply ByteArray.ext;apply Array.ext';simp
theorem zmh {r:Rat}:r=1 ↔ r.num=1∧(r.den:Int)=1 :=
 ⟨fun h=>by rw [h];exact ⟨rfl,rfl⟩,fun h=>Rat.ext h.1 (by rw [show r.den=1 by omega];rfl)⟩
theorem zmi {b:List UInt8}{r:Rat}(h:r.num ≠ 0):itm b r=some (b++sfx r):=by unfold itm;rw [if_neg h]
theorem zmj {z:Int}(h0:0≤z)(h1:z≤5):Fit z:=Nat.le_trans (Dec.nDigits_le (k:=1) (by omega) (show z.natAbs<10 ^ 1 by omega)) (by omega)
theorem zmk {r:Rat}(hr:Ft 30 r):(frT r).size≤800010:=by
 have l2:=zbO r.num (hr.num (by omega));have l3:=zbO (r.den:Int) (hr.den (by omega));have e:∀ z:Int,(I z).size=(itoa z).length:=fun z=>by show (itoa z).toArray.size=_;simp
 rw [e] at l2 l3;rw [zlE];show (frL r).toArray.size≤_;rw [List.size_toArray];unfold frL;split
 ·omega
 ·simp only [List.length_append,List.length_cons];omega
theorem zml (vp v:Value)(p:List Int)(x:List Rat)(w:World)(he:Env w)(hp:Sl w vp (zaq p))(hv:Rd w v x)(hpw:p=[2,3]∨p=[2,3,5])(hlen:x.length=p.length)(hx:∀ r∈x,Ft 30 r) :
  Calls Tryz.prog 103 #[vp,v] w fun e w'=>e=.returned (.tuple #[.string ⟨(txt p x).toArray⟩,.int .i64 0])∧Ext w w':=by
 obtain ⟨j0,hj,hy0,hy1,hy2⟩:=info_parts zmc;have hpe:zfc p=0∧p.length≤3:=by rcases hpw with e | e <;> rw [e] <;> decide
 have hps:∀ z∈p,0≤z∧z≤5:=by rcases hpw with e | e <;> rw [e] <;> decide
 have hck:=zfH vp v p x w he hp hv hpe.1 hlen hx;have hit:=fun (z:Int)(hz:z∈p) W (hE:Ext w W)=>zaF z (by have:=hps z hz;omega) (by have:=hps z hz;omega) W (he.ext hE);have hnm:=fun W (hE:Ext w W)=>zf3 1 W (he.ext hE) (by omega) (by omega);have e1:Rv ((1:Int):Rat)=.agg #[.string ⟨#[49]⟩,.string ⟨#[49]⟩]:=by rw [zf2,show I 1=⟨#[49]⟩ from zbt]
 simp only [e1] at hnm;clear e1;have hsg:=fun (r:Rat)(hr:r∈x) W=>zbR r.num W ((hx r hr).num (by omega));have hft:=fun (r:Rat)(hr:r∈x) W=>zdV r W ((hx r hr).num (by omega)) ((hx r hr).den (by omega));obtain ⟨ap,cp,rfl,_,_,hpc⟩:=hp.parts;obtain ⟨av,cv,rfl,_,_,hvc⟩:=hv.parts;rw [zas] at *;have hpe2:=hpe.2;generalize hn:p.length=n at *;have Hck:=hid hck;have Hit:=hid hit;have Hnm:=hid hnm;have Hsg:=hid hsg;have Hft:=hid hft;have Hpc:=hid hpc;have Hvc:=hid hvc;have Hx:=hid hx;have Hps:=hid hps;have Hn:=hid hn;have Hlen:=hid hlen;clear hck hit hnm hsg hft hpc hvc hp hv hx hps hpe he hpw hn;rw [hlen];rw [hlen] at Hck;clear hlen;go_enter Tryz.func103,Tryz.ntmps103
 go_wp2_with fail
 refine Hck.out.mono ?_;rintro e w1 ⟨rfl,hx1⟩;have Hx1:=hid hx1;clear hx1;go_wp2_with fail
 go_loopw [7,19] (fun v7 v19 wr=>∃ k:Nat,v19=.int .i64 k∧k≤n∧zmb wr w.heap.size v7 (zlF (p.take k) (x.take k))∧Ext w wr) (fun _ v19 _=>n - (zam v19).toNat)
 case atStart=>exact ⟨0,rfl,Nat.zero_le _,World.ownsRow_nil _ _ _ _,Hx1.out⟩
 case round =>
  obtain ⟨k,rfl,hk,ho,hE⟩:=hrel;generalize hL:zlF (p.take k) (x.take k)=L at *;obtain ⟨a7,c7,rfl⟩:=zfj ho;by_cases hkn:k<n
  ·obtain ⟨r,hr⟩:∃ r,x[k]?=some r:=⟨_,List.getElem?_eq_getElem (by rw [Hlen.out];exact hkn)⟩;obtain ⟨z,hz⟩:∃ z,p[k]?=some z:=⟨_,List.getElem?_eq_getElem (by rw [Hn.out];exact hkn)⟩;have hzm:=List.mem_of_getElem? hz;have hrm:=List.mem_of_getElem? hr;obtain ⟨bp,op,rfl,hpc⟩:=Hpc.out k (.int .i64 z) (by unfold zaq;rw [List.getElem?_map,hz];rfl);obtain ⟨bv,ov,rfl,hc0,hc1⟩:=Hvc.out k r hr;have p0:=hE.cell hpc;have h0:=hE.cell hc0;have h1:=hE.cell hc1;have hk0:(0:Int)≤(k:Int):=(by omega);have hk1:(k:Int)<(n:Int):=(by omega);have hEb:Ext w (wr.alloc (.cells #[.string (I r.num),.string (I (r.den:Int))] 65)):=hE.alloc _;have p1:=hEb.cell hpc;have b1:=zdC.new wr (.string (I r.num)) (.string (I (r.den:Int)));have hitk:=Hit.out z hzm _ hEb;have hst:=zma hz hr;have hll:L.length≤3:=by
    rw [← hL];unfold zlF;refine Nat.le_trans (List.length_filterMap_le ..) ?_;rw [List.length_zip,List.length_take,List.length_take];omega
   have Hll:=hid hll;have hzI:=zbO z (zmj (Hps.out z hzm).1 (Hps.out z hzm).2);have hfs:=zmk (Hx.out r hrm);clear hll;rw [hL] at hst;have hnum0:=zb3 r.num;have hden1:=zdL (r.den:Int);have hnum1:=zdL r.num;generalize hsa:I r.num=sa at *;generalize hsb:I (r.den:Int)=sb at *;by_cases h0:r.num=0
   ·rw [decide_eq_true h0] at hnum0;have hst2:zlF (p.take (k+1)) (x.take (k+1))=L:=(by rw [hst];unfold itm;rw [if_pos h0];simp);have Hst:=hid hst2;have HEb:=hid hEb;have B1:=hid b1;have Hitk:=hid hitk;have Ho:=hid ho;clear hst hst2 hEb b1 hitk ho hsa hsb hr hz hzm hrm hpc hc0 hc1 hden1 h0;go_wp2_with fail
    refine Hitk.out.mono ?_;rintro e w2 ⟨rfl,hx2⟩;have hb2:=B1.out.ext hx2;have g0:=hb2.c0;have g1:=hb2.c1;have Hx2:=hid (HEb.out.trans hx2);have Ho2:=hid (((Ext.refl wr).alloc _ |>.trans hx2).own Ho.out);clear hx2 hb2;go_wp2_with fail
    go_roundw
    case rel=>exact ⟨k+1,by go_num,by omega,by rw [Hst.out];exact Ho2.out,Hx2.out⟩
    case measure=>simp [zam];omega
   ·rw [decide_eq_false h0] at hnum0;have Hst:=hid hst;have HEb:=hid hEb;have B1:=hid b1;have Hitk:=hid hitk;have Ho:=hid ho;have Hsa:=hid hsa;have Hsb:=hid hsb;have Hr:=hid hrm;have H0:=hid h0;clear hst hEb b1 hitk ho hsa hsb hr hz hzm hrm hpc hc0 hc1 h0;go_wp2_with fail
    refine Hitk.out.mono ?_;rintro e w2 ⟨rfl,hx2⟩;have hb2:=B1.out.ext hx2;have hs2:∀ W,Ext w2.drew W→W.cell? ⟨wr.heap.size,0,none⟩=some (.string sa)∧W.cell? ⟨wr.heap.size,1,none⟩=some (.string sb):=fun W h=>by
     have:=hb2.ext ((Ext.refl w2).drew.trans h);exact ⟨this.c0,this.c1⟩
    have g0:=hb2.c0;have g1:=hb2.c1;obtain ⟨d0,d1⟩:=hs2 _ (Ext.refl _);have hnm2:=Hnm.out w2.drew (HEb.out.trans hx2).drew;have Hx2:=hid (HEb.out.trans hx2);have Ho2:=hid (((Ext.refl wr).alloc _ |>.trans hx2).own Ho.out);have Hs2:=hid hs2;have Hnm2:=hid hnm2;clear hx2 hb2 hs2 hnm2;obtain ⟨b1,hb1⟩:∃ b,decide (r.num=1)=b:=⟨_,rfl⟩;obtain ⟨b2,hb2⟩:∃ b,decide ((r.den:Int)=1)=b:=⟨_,rfl⟩;rw [hb1] at hnum1;rw [hb2] at hden1;have Hb1:=hid hb1;have Hb2:=hid hb2;clear hb1 hb2
    cases b1 <;> cases b2
    ·go_wp2_with fail
     go_region_held3 (fun w'=>w'.cell? ⟨wr.heap.size,0,none⟩=some (.string sa)∧w'.cell? ⟨wr.heap.size,1,none⟩=some (.string sb))
      (first | (with_reducible assumption) | exact Hs2.out _ (Ext.refl _) | exact Hs2.out _ HxA.out)
      (first
       | (go_at_call 89
          refine Hnm2.out.mono ?_
          rintro e9 VA ⟨rfl,hxa⟩
          have HxA:=hid hxa
          clear hxa))
     obtain ⟨d0,d1⟩:=Hs2.out _ HxA.out;have HEA:=hid (Hx2.out.drew.trans HxA.out);have HoA:=hid (((Ext.refl w2).drew.trans HxA.out).own Ho2.out);have hftA:=Hft.out r Hr.out VA;unfold Rv at hftA;rw [Hsa.out,Hsb.out] at hftA;have HftA:=hid hftA;clear hftA;go_wp2_with fail
     refine HftA.out.mono ?_;rintro e V4 ⟨rfl,hx4⟩;have HEW:=hid (HEA.out.trans hx4);have HoW:=hid (hx4.own HoA.out);clear hx4;have hqo:=HoW.out;have hbase:=HEW.out.size;have hm3:L.length+1≤maxLen:=(by have:=Hll.out;unfold maxLen;omega);have hm4:(L.length+1) * 16≤140737488355328:=(by have:=Hll.out;omega);go_wp2_with (at_builtin;refine wpList_append_own _ rfl _ _ 206 rfl w.heap.size 9 j0 (.string ByteArray.empty) 1 16 Tryz.underlying206 hj hy0 hy1 hy2 rfl (by decide) _ _ _ rfl (World.ownsRow.alloc hqo _) ⟨V4.heap.size,0,none⟩ 1 1 [_] rfl rfl (cell_one_new _ _ _) (by simp [Value.oneCell']) hm3 hm4 (by rw [World.size_alloc];omega) ?_;intro v7 V7 hown7 hgrow7 _)
     rw [zmg (fun g=>absurd (zmh.1 g).2 (of_decide_eq_false Hb2.out)) (fun g=>absurd (show (r.den:Int)=1 by omega) (of_decide_eq_false Hb2.out))] at hown7;clear hqo;go_roundw
     case rel=>exact ⟨k+1,by go_num,by omega,by rw [Hst.out,zmi H0.out,Option.toList_some];exact zmb.more rfl hown7,zfk HEW.out HoW.out hgrow7⟩
     case measure=>simp [zam];omega
    ·go_wp2_with fail
     go_region_held3 (fun w'=>w'.cell? ⟨wr.heap.size,0,none⟩=some (.string sa)∧w'.cell? ⟨wr.heap.size,1,none⟩=some (.string sb))
      (first | (with_reducible assumption) | exact Hs2.out _ (Ext.refl _) | exact Hs2.out _ HxA.out)
      (first
       | (go_at_call 89
          refine Hnm2.out.mono ?_
          rintro e9 VA ⟨rfl,hxa⟩
          have HxA:=hid hxa
          clear hxa))
     obtain ⟨d0,d1⟩:=Hs2.out _ HxA.out;have HEA:=hid (Hx2.out.drew.trans HxA.out);have HoA:=hid (((Ext.refl w2).drew.trans HxA.out).own Ho2.out);have hftA:=Hft.out r Hr.out VA;unfold Rv at hftA;rw [Hsa.out,Hsb.out] at hftA;have HftA:=hid hftA;clear hftA;have hsgA:=Hsg.out r Hr.out VA;rw [Hsa.out] at hsgA;have hd1:(r.den:Int)=1:=of_decide_eq_true Hb2.out;have hne:r ≠ 1:=fun g=>absurd (zmh.1 g).1 (of_decide_eq_false Hb1.out);by_cases hpos:0<r.num
     ·rw [zbn hpos] at hsgA;have Hw:=hid (zmf (z:=z) hne ⟨by omega,hpos⟩);have HsgA:=hid hsgA;clear hsgA hd1 hne hpos;go_wp2_with fail
      refine HsgA.out.mono ?_;rintro e W9 ⟨rfl,rfl⟩;go_wp2_with fail
      refine HftA.out.mono ?_;rintro e V4 ⟨rfl,hx4⟩;have HEW:=hid (HEA.out.trans hx4);have HoW:=hid (hx4.own HoA.out);clear hx4;have hqo:=HoW.out;have hbase:=HEW.out.size;have hm3:L.length+1≤maxLen:=(by have:=Hll.out;unfold maxLen;omega);have hm4:(L.length+1) * 16≤140737488355328:=(by have:=Hll.out;omega);go_wp2_with (at_builtin;refine wpList_append_own _ rfl _ _ 206 rfl w.heap.size 9 j0 (.string ByteArray.empty) 1 16 Tryz.underlying206 hj hy0 hy1 hy2 rfl (by decide) _ _ _ rfl (World.ownsRow.alloc hqo _) ⟨V4.heap.size,0,none⟩ 1 1 [_] rfl rfl (cell_one_new _ _ _) (by simp [Value.oneCell']) hm3 hm4 (by rw [World.size_alloc];omega) ?_;intro v7 V7 hown7 hgrow7 _)
      rw [Hw.out] at hown7;clear hqo;go_roundw
      case rel=>exact ⟨k+1,by go_num,by omega,by rw [Hst.out,zmi H0.out,Option.toList_some];exact zmb.more rfl hown7,zfk HEW.out HoW.out hgrow7⟩
      case measure=>simp [zam];omega
     ·rw [zbl (show r.num<0 by have:=H0.out;omega)] at hsgA;have Hw:=hid (zmg (z:=z) hne (fun g=>hpos g.2));have HsgA:=hid hsgA;clear hsgA hd1 hne hpos;go_wp2_with fail
      refine HsgA.out.mono ?_;rintro e W9 ⟨rfl,rfl⟩;go_wp2_with fail
      refine HftA.out.mono ?_;rintro e V4 ⟨rfl,hx4⟩;have HEW:=hid (HEA.out.trans hx4);have HoW:=hid (hx4.own HoA.out);clear hx4;have hqo:=HoW.out;have hbase:=HEW.out.size;have hm3:L.length+1≤maxLen:=(by have:=Hll.out;unfold maxLen;omega);have hm4:(L.length+1) * 16≤140737488355328:=(by have:=Hll.out;omega);go_wp2_with (at_builtin;refine wpList_append_own _ rfl _ _ 206 rfl w.heap.size 9 j0 (.string ByteArray.empty) 1 16 Tryz.underlying206 hj hy0 hy1 hy2 rfl (by decide) _ _ _ rfl (World.ownsRow.alloc hqo _) ⟨V4.heap.size,0,none⟩ 1 1 [_] rfl rfl (cell_one_new _ _ _) (by simp [Value.oneCell']) hm3 hm4 (by rw [World.size_alloc];omega) ?_;intro v7 V7 hown7 hgrow7 _)
      rw [Hw.out] at hown7;clear hqo;go_roundw
      case rel=>exact ⟨k+1,by go_num,by omega,by rw [Hst.out,zmi H0.out,Option.toList_some];exact zmb.more rfl hown7,zfk HEW.out HoW.out hgrow7⟩
      case measure=>simp [zam];omega
    ·go_wp2_with fail
     go_region_held3 (fun w'=>w'.cell? ⟨wr.heap.size,0,none⟩=some (.string sa)∧w'.cell? ⟨wr.heap.size,1,none⟩=some (.string sb))
      (first | (with_reducible assumption) | exact Hs2.out _ (Ext.refl _) | exact Hs2.out _ HxA.out)
      (first
       | (go_at_call 89
          refine Hnm2.out.mono ?_
          rintro e9 VA ⟨rfl,hxa⟩
          have HxA:=hid hxa
          clear hxa))
     obtain ⟨d0,d1⟩:=Hs2.out _ HxA.out;have HEA:=hid (Hx2.out.drew.trans HxA.out);have HoA:=hid (((Ext.refl w2).drew.trans HxA.out).own Ho2.out);have hftA:=Hft.out r Hr.out VA;unfold Rv at hftA;rw [Hsa.out,Hsb.out] at hftA;have HftA:=hid hftA;clear hftA;go_wp2_with fail
     refine HftA.out.mono ?_;rintro e V4 ⟨rfl,hx4⟩;have HEW:=hid (HEA.out.trans hx4);have HoW:=hid (hx4.own HoA.out);clear hx4;have hqo:=HoW.out;have hbase:=HEW.out.size;have hm3:L.length+1≤maxLen:=(by have:=Hll.out;unfold maxLen;omega);have hm4:(L.length+1) * 16≤140737488355328:=(by have:=Hll.out;omega);go_wp2_with (at_builtin;refine wpList_append_own _ rfl _ _ 206 rfl w.heap.size 9 j0 (.string ByteArray.empty) 1 16 Tryz.underlying206 hj hy0 hy1 hy2 rfl (by decide) _ _ _ rfl (World.ownsRow.alloc hqo _) ⟨V4.heap.size,0,none⟩ 1 1 [_] rfl rfl (cell_one_new _ _ _) (by simp [Value.oneCell']) hm3 hm4 (by rw [World.size_alloc];omega) ?_;intro v7 V7 hown7 hgrow7 _)
     rw [zmg (fun g=>absurd (zmh.1 g).2 (of_decide_eq_false Hb2.out)) (fun g=>absurd (show (r.den:Int)=1 by omega) (of_decide_eq_false Hb2.out))] at hown7;clear hqo;go_roundw
     case rel=>exact ⟨k+1,by go_num,by omega,by rw [Hst.out,zmi H0.out,Option.toList_some];exact zmb.more rfl hown7,zfk HEW.out HoW.out hgrow7⟩
     case measure=>simp [zam];omega
    ·go_wp2_with fail
     go_region_held3 (fun w'=>w'.cell? ⟨wr.heap.size,0,none⟩=some (.string sa)∧w'.cell? ⟨wr.heap.size,1,none⟩=some (.string sb))
      (first | (with_reducible assumption) | exact Hs2.out _ (Ext.refl _) | exact Hs2.out _ HxA.out)
      (first
       | (go_at_call 89
          refine Hnm2.out.mono ?_
          rintro e9 VA ⟨rfl,hxa⟩
          have HxA:=hid hxa
          clear hxa))
     obtain ⟨d0,d1⟩:=Hs2.out _ HxA.out;have HEA:=hid (Hx2.out.drew.trans HxA.out);have HoA:=hid (((Ext.refl w2).drew.trans HxA.out).own Ho2.out);have hqo:=HoA.out;have hbase:=HEA.out.size;have hm3:L.length+1≤maxLen:=(by have:=Hll.out;unfold maxLen;omega);have hm4:(L.length+1) * 16≤140737488355328:=(by have:=Hll.out;omega);go_wp2_with (at_builtin;refine wpList_append_own _ rfl _ _ 206 rfl w.heap.size 9 j0 (.string ByteArray.empty) 1 16 Tryz.underlying206 hj hy0 hy1 hy2 rfl (by decide) _ _ _ rfl (World.ownsRow.alloc hqo _) ⟨VA.heap.size,0,none⟩ 1 1 [_] rfl rfl (cell_one_new _ _ _) (by simp [Value.oneCell']) hm3 hm4 (by rw [World.size_alloc];omega) ?_;intro v7 V7 hown7 hgrow7 _)
     rw [zme (zmh.2 ⟨of_decide_eq_true Hb1.out,of_decide_eq_true Hb2.out⟩)] at hown7;clear hqo;go_roundw
     case rel=>exact ⟨k+1,by go_num,by omega,by rw [Hst.out,zmi H0.out,Option.toList_some];exact zmb.more rfl hown7,zfk HEA.out HoA.out hgrow7⟩
     case measure=>simp [zam];omega
  ·obtain rfl:n=k:=by omega
   have hLx:zlF p x=L:=by
    rw [← hL,List.take_of_length_le (by rw [Hn.out];exact Nat.le_refl _),List.take_of_length_le (by rw [Hlen.out];exact Nat.le_refl _)]
   have hnk:¬ (n:Int)<(n:Int):=(by omega);by_cases h0:L=[]
   ·subst h0;have ht:txt p x=[49]:=(by unfold txt;rw [if_pos hLx]);have HE:=hid hE;have Ht:=hid ht;clear hLx ht hE ho;go_wp2_with fail
    exact bodyPost_ret (v:=.tuple #[.string ⟨#[49]⟩,.int .i64 0]) (by simp [results,Tryz.results103,go_sem]) rfl ⟨by rw [Ht.out],HE.out⟩
   ·have ht:txt p x=Lib.join L [32]:=(by unfold txt;rw [hLx,if_neg h0]);have hlz:∀ s∈L,s.length≤1300000:=fun s hs=>by
     rw [← hLx] at hs;unfold zlF at hs;obtain ⟨⟨a,r⟩,hm,hi⟩:=List.mem_filterMap.1 hs;have h1:=List.of_mem_zip hm;exact zmd (zmj (Hps.out a h1.1).1 (Hps.out a h1.1).2) (Hx.out r h1.2) hi
    have hl3:L.length≤3:=by
     rw [← hLx];unfold zlF;refine Nat.le_trans (List.length_filterMap_le ..) ?_;rw [List.length_zip,Hn.out,Hlen.out];omega
    have hl0:0<L.length:=List.length_pos_iff.2 h0;have hj:(Lib.join L [32]).length≤10000000:=by
     match L,h0,hlz,hl3 with
     | [a],_,hz,_ =>
      rw [Lib.join_one]
      have:=hz a (by simp)
      omega
     | [a,b],_,hz,_ =>
      have h1:=hz a (by simp)
      have h2:=hz b (by simp)
      rw [Lib.join_length]
      simp only [Lib.lens,List.length_cons,List.length_nil,List.map_cons,List.map_nil,List.sum_cons,List.sum_nil]
      omega
     | [a,b,c],_,hz,_ =>
      have h1:=hz a (by simp)
      have h2:=hz b (by simp)
      have h3:=hz c (by simp)
      rw [Lib.join_length]
      simp only [Lib.lens,List.length_cons,List.length_nil,List.map_cons,List.map_nil,List.sum_cons,List.sum_nil]
      omega
     | _::_::_::_::_,_,_,h3=>simp at h3
    have hown:=ho;unfold zmb at hown;obtain ⟨g,cap,hv,hcell⟩:=zfn hown hl0;have hjn:Calls Tryz.prog 159 #[.slice a7 L.length c7,.string ⟨#[32]⟩] wr fun e w'=>e=.returned (.string ⟨(Lib.join L [32]).toArray⟩)∧Ext wr w':=by
     rw [hv];rcases hown.2 with ⟨_,g0⟩ | ⟨g',cap',cur,hv',hb,hg,k1,k2,k3,k4⟩
     ·omega
     ·rw [hv] at hv';injection hv' with e1 e2 e3;injection e1 with e1;injection e1 with e1;subst e1 e3;have hm:(L.map fun s=>(⟨s.toArray⟩:ByteArray)).map (·.data.toList)=L:=by
       rw [List.map_map];exact List.map_id'' (fun s=>rfl) L
      have hgw:g<wr.heap.size:=(Array.getElem?_eq_some_iff.1 hg).1;have:=Any.strings_Join Tryz.lJoin Tryz.lJoinX g 0 cap (L.map fun s=>⟨s.toArray⟩) ⟨#[32]⟩ wr (fun j y hy=>by
       rw [Nat.zero_add];refine hcell j (.string y) ?_;rw [List.getElem?_map] at hy;unfold svs;rw [List.getElem?_map]
       cases hs:L[j]? with
       | none=>rw [hs] at hy;cases hy
       | some s=>rw [hs] at hy;cases hy;rfl) hgw (by rw [List.length_map];omega) (by rw [List.length_map];omega) (by rw [hm];show (Lib.join L [32]).length≤_;omega)
      rw [hm,List.length_map] at this;exact this
    have HE:=hid hE;have Ht:=hid ht;have Hjn:=hid hjn;have hlw:¬ (L.length:Int)=0:=(by omega);clear hLx ht hE ho hown hjn hj hcell hv hlz hl3;go_wp2_with fail
    refine Hjn.out.mono ?_;rintro e w9 ⟨rfl,hx9⟩;have Hx9:=hid (HE.out.trans hx9);clear hx9;go_wp2_with fail
    exact bodyPost_ret (v:=.tuple #[.string ⟨(Lib.join L [32]).toArray⟩,.int .i64 0]) (by simp [results,Tryz.results103,go_sem]) rfl ⟨by rw [Ht.out],Hx9.out⟩
end
section
open Go.RowKit Go.Lib Go.Shelf
theorem Rd.inj {w:World}{v:Value}{x y:List Rat}(hx:Rd w v x)(hy:Rd w v y):x=y:=by
 obtain ⟨a,c,e1,_,_,hc1⟩:=hx.parts;obtain ⟨b,d,e2,_,_,hc2⟩:=hy.parts;rw [e1] at e2;injection e2 with g1 g2 g3;subst g1;refine List.ext_getElem g2 fun i h1 h2=>?_;obtain ⟨bb,off,ha,c0,c1⟩:=hc1 i _ (List.getElem?_eq_getElem h1);obtain ⟨bb2,off2,ha2,d0,d1⟩:=hc2 i _ (List.getElem?_eq_getElem h2);rw [ha] at ha2
 cases ha2
 rw [c0] at d0;rw [c1] at d1;injection d0 with d0;injection d0 with d0;injection d1 with d1;injection d1 with d1;have:=zbz d1;exact Rat.ext (zbz d0) (by omega)
def zmm : Value→Value→Bool
 | .slice a n c,.slice b m d=>decide (a=b) && (decide (n=m) && decide (c=d))
 | _,_=>false
theorem zmn {u v:Value}(h:zmm u v=true):u=v:=by
 unfold zmm at h;split at h
 ·simp only [Bool.and_eq_true,decide_eq_true_eq] at h;rw [h.1,h.2.1,h.2.2]
 ·cases h
theorem zmo {a:Option Addr}{n c:Nat}:zmm (.slice a n c) (.slice a n c)=true:=by simp [zmm]
def rdT (p:List Int)(out:List Qw)(v:Value):Option (DataW Unit × List MemPlace):=(out.find? fun r=>zmm r.u v).map fun r=>(.lit (.string (txt p r.x)),[])
theorem zmp {p:List Int}{out:List Qw}{v:Value}{y:DataW Unit × List MemPlace}(h:rdT p out v=some y):∃ r∈out,r.u=v∧y.1=.lit (.string (txt p r.x)):=by
 unfold rdT at h;obtain ⟨r,hr,e⟩:=Option.map_eq_some_iff.1 h;exact ⟨r,List.mem_of_find?_eq_some hr,zmn (List.find?_some (p:=fun r:Qw=>zmm r.u v) hr),by rw [← e]⟩
theorem zmq {p:List Int}{out:List Qw}{w:World}(hrd:∀ r∈out,Rd w r.u r.x){r:Qw}(hr:r∈out):rdT p out r.u=some (.lit (.string (txt p r.x)),[]):=by
 obtain ⟨a,c,hu,_⟩:=(hrd r hr).parts;unfold rdT
 cases hf:out.find? fun s=>zmm s.u r.u with
 | none =>
  have:=List.find?_eq_none.1 hf r hr
  rw [hu,zmo] at this
  exact absurd rfl this
 | some s =>
  have hs:=List.mem_of_find?_eq_some hf
  have he:=zmn (List.find?_some (p:=fun s:Qw=>zmm s.u r.u) hf)
  have h1:=hrd s hs
  rw [he] at h1
  rw [Option.map_some,h1.inj (hrd r hr)]
structure zmr (p:List Int)(out:List Qw)(k:Nat)(D:DataW Unit):Prop where
 map:Maps.IsMap D
 has:∀ kl,Maps.has D kl=true ↔ ∃ (i:Nat)(r:Qw),i<k∧out[i]?=some r∧kl=.string (txt p r.x)
 tells:∀ kl,Maps.has D kl=true→∀ z,D.atKey kl z=.lit kl
theorem zmr.start (p:List Int)(out:List Qw):zmr p out 0 (.map []):=by
 refine ⟨Maps.isMap_empty,fun kl=>⟨fun h=>(by cases h),fun ⟨i,r,h,_⟩=>by omega⟩,fun kl h=>by cases h⟩
theorem zmr.step {p:List Int}{out:List Qw}{k:Nat}{D:DataW Unit}(h:zmr p out k D){r:Qw}(hr:out[k]?=some r):zmr p out (k+1) (D.put (.string (txt p r.x)) (.lit (.string (txt p r.x)))):=by
 have hk:WideAt.IsKeyLit (.string (txt p r.x)):=by trivial
 refine ⟨h.map.put _ _,fun kl=>?_,fun kl hh z=>?_⟩
 ·by_cases e:kl=.string (txt p r.x)
  ·rw [e,Maps.has_put_same h.map hk];exact ⟨fun _=>⟨k,r,by omega,hr,rfl⟩,fun _=>rfl⟩
  ·rw [Maps.has_put_other e,h.has];constructor
   ·rintro ⟨i,s,hi,hs,e2⟩;exact ⟨i,s,by omega,hs,e2⟩
   ·rintro ⟨i,s,hi,hs,e2⟩;rcases (by omega:i=k∨i<k) with g | g
    ·subst g;rw [hr] at hs
     cases hs
     exact absurd e2 e
    ·exact ⟨i,s,g,hs,e2⟩
 ·by_cases e:kl=.string (txt p r.x)
  ·rw [e,Maps.atKey_put_same h.map hk]
  ·rw [Maps.has_put_other e] at hh;rw [Maps.atKey_put_other e];exact h.tells kl hh z
theorem zms {p:List Int}{x:List Rat}(hpw:p=[2,3]∨p=[2,3,5])(hx:∀ r∈x,Ft 30 r):(txt p x).length≤10000000:=by
 have hps:∀ z∈p,0≤z∧z≤5:=by rcases hpw with e | e <;> rw [e] <;> decide
 have hp3:p.length≤3:=by rcases hpw with e | e <;> rw [e] <;> decide
 have hlz:∀ s∈zlF p x,s.length≤1300000:=fun s hs=>by
  unfold zlF at hs;obtain ⟨⟨a,r⟩,hm,hi⟩:=List.mem_filterMap.1 hs;have h1:=List.of_mem_zip hm;exact zmd (zmj (hps a h1.1).1 (hps a h1.1).2) (hx r h1.2) hi
 have hl3:(zlF p x).length≤3:=by
  unfold zlF;refine Nat.le_trans (List.length_filterMap_le ..) ?_;rw [List.length_zip];omega
 unfold txt;split
 ·simp
 ·rename_i h0;generalize zlF p x=L at *;match L,h0,hlz,hl3 with
  | [a],_,hz,_ =>
   rw [Lib.join_one]
   have:=hz a (by simp)
   omega
  | [a,b],_,hz,_ =>
   have h1:=hz a (by simp)
   have h2:=hz b (by simp)
   rw [Lib.join_length]
   simp only [Lib.lens,List.length_cons,List.length_nil,List.map_cons,List.map_nil,List.sum_cons,List.sum_nil]
   omega
  | [a,b,c],_,hz,_ =>
   have h1:=hz a (by simp)
   have h2:=hz b (by simp)
   have h3:=hz c (by simp)
   rw [Lib.join_length]
   simp only [Lib.lens,List.length_cons,List.length_nil,List.map_cons,List.map_nil,List.sum_cons,List.sum_nil]
   omega
  | _::_::_::_::_,_,_,h3=>simp at h3
end
end Go.Proofs.YtebabancfnmfjaaGreatDoor
