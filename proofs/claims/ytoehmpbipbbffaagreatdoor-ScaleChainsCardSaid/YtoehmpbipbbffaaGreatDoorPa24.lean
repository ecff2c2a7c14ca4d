/- Plain: the multiples of a small generator and their rests (law ScaleChains). Plain: numerals in parts of nine digits, as the reference joins them. -/
import Derived.Test.YtoehmpbipbbffaaGreatDoorPa18
import Derived.Test.YtoehmpbipbbffaaGreatDoorPa23
import Derived.Test.YtoehmpbipbbffaaGreatDoorPa13
import Derived.Test.YtoehmpbipbbffaaGreatDoorPa01
set_option maxRecDepth 100000
namespace Go.Proofs.YtoehmpbipbbffaaGreatDoor
open Go.RowKit Go.Lib
theorem zmu {p:List Int}(h:Pw p)(q A B C:Int):shf q (sz3 p A B C)=sz3 p (A+q) B C:=by
 rcases h with rfl | rfl
 ·rw [zkl,zkl,Rat.intCast_add];rfl
 ·rw [zkm,zkm,Rat.intCast_add];rfl
theorem zmv {z:Int}(h:z.natAbs<10 ^ 12):Ft 12 (z:Rat):=zjJ h (by omega)
theorem zmw {p:List Int}(hp:Pw p){A B C:Int}(hA:A.natAbs<10 ^ 12)(hB:B.natAbs<10 ^ 12)(hC:C.natAbs<10 ^ 12):∀ q∈sz3 p A B C,Ft 30 q:=by
 have hh:Ft 1 ((2:Rat)⁻¹):=by
  refine ⟨?_,?_⟩ <;> decide +kernel
 have hb:Ft 30 ((B:Rat) / 2):=by
  rw [Rat.div_def];exact (zh4 (zmv hB) hh).mono (by omega)
 have ha:Ft 30 (A:Rat):=(zmv hA).mono (by omega);have hc:Ft 30 (C:Rat):=(zmv hC).mono (by omega);intro q hq;rcases hp with rfl | rfl
 ·rw [zkl] at hq;simp only [List.mem_cons,List.not_mem_nil,or_false] at hq;rcases hq with rfl | rfl
  ·exact ha
  ·exact hb
 ·rw [zkm] at hq;simp only [List.mem_cons,List.not_mem_nil,or_false] at hq;rcases hq with rfl | rfl | rfl
  ·exact ha
  ·exact hb
  ·exact hc
theorem zmx {p:List Int}(h:Pw p)(A B C:Int):∃ C':Int,(C'=0∨C'=C)∧2 * mF p (sz3 p A B C)=((2 * A * KK+B * (L3:Int)+2 * C' * (L5:Int):Int):Rat):=by
 have l2:((LG 2 2048:Nat):Rat)=((KK:Int):Rat):=by
  have:((LG 2 2048:Nat):Int)=KK:=by decide +kernel
  rw [← this];rfl
 have l3:((LG 3 2048:Nat):Rat)=(((L3:Nat):Int):Rat):=by
  have:LG 3 2048=L3:=by decide +kernel
  rw [this];rfl
 have l5:((LG 5 2048:Nat):Rat)=(((L5:Nat):Int):Rat):=by
  have:LG 5 2048=L5:=by decide +kernel
  rw [this];rfl
 generalize hk:KK=k at *;generalize h3:((L3:Nat):Int)=t3 at *;generalize h5:((L5:Nat):Int)=t5 at *;have two:((2:Int):Rat)=2:=rfl;rcases h with rfl | rfl
 ·refine ⟨0,.inl rfl,?_⟩;rw [zkl];simp only [mF,l2,l3];rw [Rat.intCast_add,Rat.intCast_add,Rat.intCast_mul,Rat.intCast_mul,Rat.intCast_mul,Rat.intCast_mul,Rat.intCast_mul,two,show ((0:Int):Rat)=0 from rfl];generalize (A:Rat)=a;generalize (B:Rat)=b;generalize (k:Rat)=x;generalize (t3:Rat)=y;generalize (t5:Rat)=z;grind
 ·refine ⟨C,.inr rfl,?_⟩;rw [zkm];simp only [mF,l2,l3,l5];rw [Rat.intCast_add,Rat.intCast_add,Rat.intCast_mul,Rat.intCast_mul,Rat.intCast_mul,Rat.intCast_mul,Rat.intCast_mul,two];generalize (A:Rat)=a;generalize (B:Rat)=b;generalize (C:Rat)=c;generalize (k:Rat)=x;generalize (t3:Rat)=y;generalize (t5:Rat)=z;grind
theorem zmy {p:List Int}(hp:Pw p){A B C:Int}{H:Int}(hA:-H≤A∧A≤H)(hB:-H≤B∧B≤H)(hC:-H≤C∧C≤H):-(6 * H) - 1≤flN p (sz3 p A B C)∧flN p (sz3 p A B C)≤6 * H:=by
 have hl:(sz3 p A B C).length=p.length:=zkn hp ..;obtain ⟨h0,h1⟩:=zmp (p:=p) (x:=sz3 p A B C) (by rw [hl];exact hp.pr);unfold rsN at h0 h1;rw [zmn (by rw [hl];exact hp.pr),Rat.intCast_neg] at h0 h1;obtain ⟨C',hC',e⟩:=zmx hp A B C;have hK:0<KK:=by decide +kernel
 have h3:(L3:Int)≤2 * KK:=by decide +kernel
 have h5:(L5:Int)≤3 * KK:=by decide +kernel
 have p3:0≤(L3:Int):=Int.natCast_nonneg _;have p5:0≤(L5:Int):=Int.natCast_nonneg _;generalize flN p (sz3 p A B C)=f at *;generalize mF p (sz3 p A B C)=m at *;have hHp:0≤H:=by omega
 have hC2:-H≤C'∧C'≤H:=by rcases hC' with g | g <;> omega
 have g0:((2 * f * KK:Int):Rat)≤((2 * A * KK+B * (L3:Int)+2 * C' * (L5:Int):Int):Rat):=by
  rw [← e,Rat.intCast_mul,Rat.intCast_mul,show ((2:Int):Rat)=2 from rfl];grind
 have g1:((2 * A * KK+B * (L3:Int)+2 * C' * (L5:Int):Int):Rat)<((2 * (f+1) * KK:Int):Rat):=by
  rw [← e,Rat.intCast_mul,Rat.intCast_mul,Rat.intCast_add,show ((2:Int):Rat)=2 from rfl,show ((1:Int):Rat)=1 from rfl];grind
 have g0:=Rat.intCast_le_intCast.1 g0;have g1:=Rat.intCast_lt_intCast.1 g1;generalize KK=k at *;generalize (L3:Int)=t at *;generalize (L5:Int)=u at *;have b1:B * t≤H * (2 * k):=Int.le_trans (Int.mul_le_mul_of_nonneg_right hB.2 p3) (Int.mul_le_mul_of_nonneg_left h3 hHp);have b2:-(H * (2 * k))≤B * t:=by
  have:=Int.mul_le_mul_of_nonneg_right hB.1 p3;have:=Int.mul_le_mul_of_nonneg_left h3 hHp;rw [Int.neg_mul] at *;omega
 have c1:C' * u≤H * (3 * k):=Int.le_trans (Int.mul_le_mul_of_nonneg_right hC2.2 p5) (Int.mul_le_mul_of_nonneg_left h5 hHp);have c2:-(H * (3 * k))≤C' * u:=by
  have:=Int.mul_le_mul_of_nonneg_right hC2.1 p5;have:=Int.mul_le_mul_of_nonneg_left h5 hHp;rw [Int.neg_mul] at *;omega
 have a1:A * k≤H * k:=Int.mul_le_mul_of_nonneg_right hA.2 (Int.le_of_lt hK);have a2:-(H * k)≤A * k:=by
  have:=Int.mul_le_mul_of_nonneg_right hA.1 (Int.le_of_lt hK);rwa [Int.neg_mul] at this
 have e1:2 * f * k=2 * (f * k):=Int.mul_assoc ..;have e2:2 * A * k=2 * (A * k):=Int.mul_assoc ..;have e3:2 * C' * u=2 * (C' * u):=Int.mul_assoc ..;have e4:2 * (f+1) * k=2 * (f * k)+2 * k:=by rw [Int.mul_assoc,Int.add_mul,Int.mul_add];omega
 have e5:H * (2 * k)=2 * (H * k):=by rw [← Int.mul_assoc,Int.mul_comm H 2,Int.mul_assoc]
 have e6:H * (3 * k)=3 * (H * k):=by rw [← Int.mul_assoc,Int.mul_comm H 3,Int.mul_assoc]
 rw [e1,e2,e3] at g0;rw [e2,e3,e4] at g1;rw [e5] at b1 b2;rw [e6] at c1 c2;constructor
 ·apply Classical.byContradiction;intro hn;have:f+1+6 * H≤-1:=by omega
  have:=Int.mul_le_mul_of_nonneg_right this (Int.le_of_lt hK);have e7:(f+1+6 * H) * k=f * k+k+6 * (H * k):=by rw [Int.add_mul,Int.add_mul,Int.mul_assoc,Int.one_mul]
  rw [e7] at this;omega
 ·apply Classical.byContradiction;intro hn;have:1≤f - 6 * H:=by omega
  have:=Int.mul_le_mul_of_nonneg_right this (Int.le_of_lt hK);have e7:(f - 6 * H) * k=f * k - 6 * (H * k):=by rw [Int.sub_mul,Int.mul_assoc]
  rw [e7] at this;omega
theorem zmz {z b k:Int}(h1:-b≤z)(h2:z≤b)(h3:0≤b)(hk:-1000≤k∧k≤1000):-(b * 1000)≤z * k∧z * k≤b * 1000:=by
 rcases Int.le_total 0 k with h | h
 ·have a1:=Int.mul_le_mul_of_nonneg_right h2 h;have a2:=Int.mul_le_mul_of_nonneg_left hk.2 h3;have a3:=Int.mul_le_mul_of_nonneg_right h1 h;rw [Int.neg_mul] at a3;omega
 ·have h':0≤-k:=by omega
  have a1:=Int.mul_le_mul_of_nonneg_right h2 h';have a2:=Int.mul_le_mul_of_nonneg_left (show -k≤1000 by omega) h3;have a3:=Int.mul_le_mul_of_nonneg_right h1 h';have e:z * k=-(z * -k):=by rw [Int.mul_neg,Int.neg_neg]
  rw [e];rw [Int.neg_mul] at a3;omega
section
variable {p : List Int} (hp : Pw p) (x : I3) {a : Int} {m : Nat} (h0 : -1000≤a) (h1 : a+(m : Int)≤1001)
include hp h0 h1
theorem zm2 {y:List Rat}(hy:y∈zjN (szW p.length x) a m):∃ A B C:Int,(-16000≤A∧A≤16000)∧(-16000≤B∧B≤16000)∧(-16000≤C∧C≤16000)∧y=sz3 p A B C:=by
 obtain ⟨A,B,C,hA,hB,hC,e⟩:=zkr hp x;unfold zjN at hy;rw [List.mem_map] at hy;obtain ⟨i,hi,rfl⟩:=hy;rw [List.mem_range] at hi;have hk:-1000≤a+(i:Int)∧a+(i:Int)≤1000:=by omega
 rw [e,zkq hp];generalize a+(i:Int)=k at *;have m1:=zmz hA.1 hA.2 (by omega) hk;have m2:=zmz hB.1 hB.2 (by omega) hk;have m3:=zmz hC.1 hC.2 (by omega) hk;exact ⟨A * k,B * k,C * k,by omega,by omega,by omega,rfl⟩
theorem zm3 {y:List Rat}(hy:PlN p (zjN (szW p.length x) a m) y):∃ A B C:Int,(-200000≤A∧A≤200000)∧(-16000≤B∧B≤16000)∧(-16000≤C∧C≤16000)∧y=sz3 p A B C:=by
 rcases hy with rfl | rfl | ⟨z,hz,rfl⟩
 ·exact ⟨0,0,0,by omega,by omega,by omega,zko hp⟩
 ·refine ⟨1,0,0,by omega,by omega,by omega,?_⟩;rw [zj1 hp.pr,zko hp,zmu hp];rfl
 ·obtain ⟨A,B,C,hA,hB,hC,rfl⟩:=zm2 hp x h0 h1 hz;have hf:=zmy hp hA hB hC;unfold rsN;rw [zmu hp];exact ⟨_,B,C,by omega,hB,hC,rfl⟩
theorem zm4 : Le p (zjN (szW p.length x) a m):=by
 refine ⟨hp.pr,fun y hy=>?_,fun y hy=>?_,fun y hy=>?_,fun y z hy hz=>?_⟩
 ·obtain ⟨A,B,C,_,_,_,rfl⟩:=zm2 hp x h0 h1 hy;exact zkn hp ..
 ·obtain ⟨A,B,C,hA,hB,hC,rfl⟩:=zm2 hp x h0 h1 hy;exact zmw hp (by omega) (by omega) (by omega)
 ·obtain ⟨A,B,C,hA,hB,hC,e⟩:=zm3 hp x h0 h1 (.inr (.inr ⟨y,hy,rfl⟩));rw [e];exact zmw hp (by omega) (by omega) (by omega)
 ·obtain ⟨A,B,C,hA,hB,hC,rfl⟩:=zm3 hp x h0 h1 hy;obtain ⟨A',B',C',hA',hB',hC',rfl⟩:=zm3 hp x h0 h1 hz;rw [zkp hp];exact zmw hp (by omega) (by omega) (by omega)
end
def tlZ (x:List Rat):Bool:=(x.drop 1).all fun r=>decide (r=0)
theorem zm5 (q:Int)(x:List Rat):(shf q x).drop 1=x.drop 1:=by cases x <;> rfl
theorem zm6 (x:List Rat)(q:Rat):(zeU x q).drop 1=(x.drop 1).map fun r=>r * q:=by unfold zeU;rw [List.map_drop]
theorem zm7 {p:List Int}{g:List Rat}(a:Int)(m:Nat)(ht:tlZ g=false):m≤(zme p [] (zjN g a m)).length+1:=by
 obtain ⟨r0,hr0,hne⟩:∃ r∈g.drop 1,r ≠ 0:=by
  unfold tlZ at ht;rw [List.all_eq_false] at ht;obtain ⟨r,hr,h⟩:=ht;exact ⟨r,hr,fun e=>h (decide_eq_true e)⟩
 have hinj:∀ i j:Nat,rsN p (zeU g ((a+(i:Int):Int):Rat))=rsN p (zeU g ((a+(j:Int):Int):Rat))→i=j:=fun i j e=>by
  have e2:=congrArg (List.drop 1) e;unfold rsN at e2;rw [zm5,zm5,zm6,zm6] at e2;have e3:r0 * ((a+(i:Int):Int):Rat)=r0 * ((a+(j:Int):Int):Rat):=by
   obtain ⟨k,hk⟩:=List.getElem?_of_mem hr0;have:=congrArg (fun l=>l[k]?) e2;simp only [List.getElem?_map,hk,Option.map_some] at this;exact Option.some.inj this
  have e4:((a+(i:Int):Int):Rat)=((a+(j:Int):Int):Rat):=by
   have:∀ u v:Rat,r0 * u=r0 * v→u=v:=fun u v h=>by
    have h1:r0 * (u - v)=0:=(by grind);rcases Rat.mul_eq_zero.1 h1 with h2 | h2
    ·exact absurd h2 hne
    ·grind
   exact this _ _ e3
  have:=Rat.intCast_inj.1 e4;omega
 have hnd:((List.range m).map fun i:Nat=>rsN p (zeU g ((a+(i:Int):Int):Rat))).Nodup:=by
  unfold List.Nodup;rw [List.pairwise_map];exact List.Pairwise.imp (fun {i j} hij e=>hij (hinj i j e)) (List.nodup_range (n:=m))
 have:=zj2 hnd (M:=zer p.length::zme p [] (zjN g a m)) fun y hy=>by
  rw [List.mem_map] at hy;obtain ⟨i,hi,rfl⟩:=hy;by_cases e:rsN p (zeU g ((a+(i:Int):Int):Rat))=zer p.length
  ·rw [e];exact List.mem_cons_self ..
  ·refine List.mem_cons_of_mem _ ((zmi _ _ _).2 (.inr ⟨e,_,?_,rfl⟩));unfold zjN;rw [List.mem_map];exact ⟨i,hi,rfl⟩
 rw [List.length_map,List.length_range,List.length_cons] at this;exact this
theorem zm8 {p:List Int}(hp:Pw p)(x:I3){a:Int}{m:Nat}(ht:tlZ (szW p.length x)=true):zme p [] (zjN (szW p.length x) a m)=[]:=by
 obtain ⟨A,B,C,hA,hB,hC,e⟩:=zkr hp x;rw [e] at ht ⊢;have hz:∀ k:Int,zeU (sz3 p A B C) (k:Rat)=sz3 p (A * k) 0 0:=fun k=>by
  have hB0:(B:Rat) / 2=0∧(p.length=3→(C:Rat)=0):=by
   rcases hp with rfl | rfl
   ·rw [zkl] at ht;simp only [tlZ,List.drop_succ_cons,List.drop_zero,List.all_cons,List.all_nil,Bool.and_true,decide_eq_true_eq] at ht;exact ⟨ht,fun h=>by cases h⟩
   ·rw [zkm] at ht;simp only [tlZ,List.drop_succ_cons,List.drop_zero,List.all_cons,List.all_nil,Bool.and_true,Bool.and_eq_true,decide_eq_true_eq] at ht;exact ⟨ht.1,fun _=>ht.2⟩
  have hB1:B=0:=by
   have:(B:Rat)=0:=(by have:=zkk B;rw [hB0.1,Rat.zero_mul] at this;exact this.symm);exact Rat.intCast_inj.1 this
  rw [zkq hp,hB1,Int.zero_mul];rcases hp with rfl | rfl
  ·rfl
  ·have:C=0:=Rat.intCast_inj.1 (hB0.2 rfl);rw [this,Int.zero_mul]
 have hr:∀ A':Int,rsN p (sz3 p A' 0 0)=zer p.length:=fun A'=>by
  have hl:(sz3 p A' 0 0).length=p.length:=zkn hp ..;obtain ⟨h0,h1⟩:=zmp (p:=p) (x:=sz3 p A' 0 0) (by rw [hl];exact hp.pr);unfold rsN at h0 h1 ⊢;rw [zmu hp] at h0 h1 ⊢;generalize A'+-flN p (sz3 p A' 0 0)=f at *;obtain ⟨C',hC',e⟩:=zmx hp f 0 0;have hC2:C'=0:=by rcases hC' with g | g <;> exact g
  rw [hC2] at e;have hK:0<KK:=by decide +kernel
  have e9:(2 * f * KK+0 * (L3:Int)+2 * 0 * (L5:Int):Int)=2 * (f * KK):=by rw [Int.zero_mul,Int.mul_zero,Int.zero_mul,Int.mul_assoc];omega
  rw [e9] at e;generalize mF p (sz3 p f 0 0)=mm at *;have g0:((0:Int):Rat)≤((2 * (f * KK):Int):Rat):=by rw [← e,show ((0:Int):Rat)=0 from rfl];grind
  have g1:((2 * (f * KK):Int):Rat)<((2 * KK:Int):Rat):=by rw [← e,Rat.intCast_mul,show ((2:Int):Rat)=2 from rfl];grind
  have g0:=Rat.intCast_le_intCast.1 g0;have g1:=Rat.intCast_lt_intCast.1 g1;have hf:f=0:=by
   generalize KK=k at *;rcases Int.lt_trichotomy f 0 with h | h | h
   ·have:=Int.mul_le_mul_of_nonneg_right (show f≤-1 by omega) (Int.le_of_lt hK);omega
   ·exact h
   ·have:=Int.mul_le_mul_of_nonneg_right (show 1≤f by omega) (Int.le_of_lt hK);omega
  rw [hf,← zko hp]
 refine List.eq_nil_iff_forall_not_mem.2 fun y hy=>?_;rcases (zmi _ _ _).1 hy with h | ⟨hne,z,hz2,rfl⟩
 ·cases h
 ·unfold zjN at hz2;rw [List.mem_map] at hz2;obtain ⟨i,_,rfl⟩:=hz2;rw [hz,hr] at hne;exact hne rfl
theorem zm9 {p:List Int}{l N:List (List Rat)}(hL:Le p l)(h:zmq p l N):N.length=(zme p [] l).length+1:=by
 have nN:N.Nodup:=h.1.imp fun h e=>by rw [e] at h;exact Rat.lt_irrefl h
 have hno:ov (p.length - 1) ∉ zme p [] l:=fun g=>by
  rcases (zmi _ _ _).1 g with e | ⟨_,z,hz,e⟩
  ·cases e
  ·have:=(hL.range hz).2;rw [← e,mov hL.pr] at this;exact Rat.lt_irrefl this
 have nM:(ov (p.length - 1)::zme p [] l).Nodup:=List.nodup_cons.2 ⟨hno,zmj _ _ (by simp)⟩;have hm:∀ x,x∈N ↔ x∈ov (p.length - 1)::zme p [] l:=fun x=>by
  rw [h.2,List.mem_cons,zmi];simp
 have h1:=zj2 nN fun x hx=>(hm x).1 hx;have h2:=zj2 nM fun x hx=>(hm x).2 hx;rw [List.length_cons] at h1 h2;omega
theorem zmA : ∀ {a b:List UInt8},Dec.Dig a→Dec.Dig b→a.length=b.length→Dec.val 0 a=Dec.val 0 b→a=b
 | [],[],_,_,_,_=>rfl
 | [],_::_,_,_,h,_=>by cases h
 | _::_,[],_,_,h,_=>by cases h
 | c::a,d::b,ha,hb,hl,hv=>by
  have hc:=ha c (List.mem_cons_self ..);have hd:=hb d (List.mem_cons_self ..);have ha':Dec.Dig a:=fun x hx=>ha x (List.mem_cons_of_mem _ hx);have hb':Dec.Dig b:=fun x hx=>hb x (List.mem_cons_of_mem _ hx);have hl':a.length=b.length:=by simpa using hl
  have h1:=Dec.val_lt a ha';have h2:=Dec.val_lt b hb';rw [Dec.val_cons,Dec.val_cons,Dec.val_acc a,Dec.val_acc b,← hl',Nat.mul_zero,Nat.zero_add,Nat.zero_add] at hv;rw [← hl'] at h2;have e:Dec.dv c=Dec.dv d:=by
   have k1:(Dec.dv c * 10 ^ a.length+Dec.val 0 a) / 10 ^ a.length=Dec.dv c:=by
    rw [Nat.mul_comm,Nat.mul_add_div (Nat.pos_of_ne_zero (by simp)),Nat.div_eq_of_lt h1,Nat.add_zero]
   have k2:(Dec.dv d * 10 ^ a.length+Dec.val 0 b) / 10 ^ a.length=Dec.dv d:=by
    rw [Nat.mul_comm,Nat.mul_add_div (Nat.pos_of_ne_zero (by simp)),Nat.div_eq_of_lt h2,Nat.add_zero]
   rw [← k1,← k2,hv]
  have e2:c=d:=by
   unfold Dec.dv at e;apply UInt8.toNat_inj.1;omega
  rw [e] at hv;rw [e2,zmA ha' hb' hl' (by omega)]
theorem zmB {n k:Nat}(h1:10 ^ k≤n)(h2:n<10 ^ (k+1)):nDigits n=k+1:=by
 have a:=Dec.nDigits_le (n:=n) (k:=k+1) (by omega) h2;have b:¬ nDigits n≤k:=fun h=>by
  have:=lt_pow_nDigits n;have:=Nat.pow_le_pow_right (n:=10) (by decide) h;omega
 omega
theorem zmC {h l:Nat}(hh:0<h)(hl:l<1000000000):decDigits (h * 1000000000+l)=decDigits h++(List.replicate (9 - nDigits l) 48++decDigits l):=by
 have hd9:=Dec.nDigits_le (n:=l) (k:=9) (by decide) hl;have hz:∀ k:Nat,Dec.Dig (List.replicate k 48):=fun k c hc=>by rw [(List.mem_replicate.1 hc).2];decide
 have hv:∀ k acc:Nat,Dec.val acc (List.replicate k 48)=acc * 10 ^ k:=fun k=>by
  induction k with
  | zero=>intro acc;rw [List.replicate_zero,Dec.val_nil,Nat.pow_zero,Nat.mul_one]
  | succ k ih =>
   intro acc
   rw [List.replicate_succ,Dec.val_cons,ih,show Dec.dv 48=0 from rfl,Nat.add_zero,Nat.pow_succ,Nat.mul_comm 10 acc,Nat.mul_assoc,Nat.mul_comm 10]
 refine zmA (Dec.dig_dec _) (Dec.dig_append (Dec.dig_dec _) (Dec.dig_append (hz _) (Dec.dig_dec _))) ?_ ?_
 ·simp only [List.length_append,List.length_replicate,decDigits_length];have a:=lt_pow_nDigits h;have b:=Dec.pow_le_of_nDigits h (by omega);have hn:=nDigits_pos h;have e:(10:Nat) ^ (nDigits h - 1+9)=10 ^ (nDigits h - 1) * 1000000000:=by rw [Nat.pow_add]
  have e2:(10:Nat) ^ (nDigits h+9)=10 ^ nDigits h * 1000000000:=by rw [Nat.pow_add]
  have h1:10 ^ (nDigits h - 1+9)≤h * 1000000000+l:=by
   rw [e];exact Nat.le_trans (Nat.mul_le_mul_right 1000000000 b) (Nat.le_add_right _ _)
  have h2:h * 1000000000+l<10 ^ (nDigits h - 1+9+1):=by
   rw [show nDigits h - 1+9+1=nDigits h+9 by omega,e2];have h3:h * 1000000000+l<(h+1) * 1000000000:=by
    rw [Nat.add_mul,Nat.one_mul];exact Nat.add_lt_add_left hl _
   exact Nat.lt_of_lt_of_le h3 (Nat.mul_le_mul_right 1000000000 a)
  clear e e2;rw [zmB h1 h2];omega
 ·rw [Dec.val_dec,Dec.val_append,Dec.val_dec,Dec.val_append,hv,Dec.val_acc,decDigits_length,Dec.val_dec,Nat.mul_assoc,← Nat.pow_add,show 9 - nDigits l+nDigits l=9 by omega]
end Go.Proofs.YtoehmpbipbbffaaGreatDoor
