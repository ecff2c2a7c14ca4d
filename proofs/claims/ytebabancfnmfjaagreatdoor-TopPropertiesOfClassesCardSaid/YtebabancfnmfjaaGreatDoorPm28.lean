/- Plain: the tests of properties, equal scales, and what a search of subsets finds. Walk: scale.Equal over the octave of 2.3, at most 60 notes. Walks: scale.Subset. -/
import Derived.Test.YtebabancfnmfjaaGreatDoorPm23
import Derived.Test.YtebabancfnmfjaaGreatDoorPm27
set_option maxRecDepth 100000
set_option maxHeartbeats 4000000
namespace Go.Proofs.YtebabancfnmfjaaGreatDoor
section
theorem zmO {p:List Int}{N:List (List Rat)}(h:Wc p N){l:List Int}(hl:l ≠ [])(hl12:l.length≤12)(hb:∀ x∈l,0≤x∧x<(N.length:Int))(hu:l.Pairwise (·<·)):Wc p (zlb p N l):=by
 refine ⟨zle h.wd hl (by omega) hb hu,?_,by unfold zlb;rw [List.length_map,zlc _ hl];exact hl12⟩;obtain ⟨n,hn⟩:=h.iv_nic;have key:∀ x∈zer p.length::zlb p N l,∃ k:Int,x=zex (nt p N k) (nt p N (l.headD 0)):=fun x hx=>by
  rcases List.mem_cons.1 hx with rfl | hx
  ·exact ⟨l.headD 0,by rw [ziE,h.wd.ntlen]⟩
  ·unfold zlb at hx;obtain ⟨k,_,rfl⟩:=List.mem_map.1 hx;exact ⟨k,rfl⟩
 refine ⟨n,fun x hx y hy=>?_⟩;obtain ⟨k,rfl⟩:=key x hx;obtain ⟨j,rfl⟩:=key y hy;rw [ziF (by rw [h.wd.ntlen,h.wd.ntlen]) (by rw [h.wd.ntlen,h.wd.ntlen])];have:=hn j (k - j);unfold iv at this;rwa [show j+(k - j)=k by omega] at this
instance proD (p : List Int) (N : List (List Rat)) : Decidable (Pro p N):=by unfold Pro;infer_instance
instance strD (p : List Int) (N : List (List Rat)) : Decidable (Str p N):=by unfold Str;infer_instance
theorem zmP {p:List Int}{N:List (List Rat)}:Cst p N ↔ ∀ u:Nat,u<N.length+1→∀ d:Nat,d<u→∀ x∈cls p N (d:Int),x ∉ cls p N (u:Int) :=
 ⟨fun h u hu d hd=>h d u hd (by omega),fun h d u hd hu=>h u (by omega) d hd⟩
instance cstD (p : List Int) (N : List (List Rat)) : Decidable (Cst p N):=decidable_of_iff _ zmP.symm
def tst (P:Int)(p:List Int)(N:List (List Rat)):Bool :=
 if P=2 then decide (kd p N=1) else if P=3 then decide (kd p N=2) else if P=4 then decide (Pro p N) else if P=5 then decide (Str p N) else if P=6 then decide (Cst p N) else true
def zmQ (p:List Int)(N M:List (List Rat)):Bool:=(List.range N.length).any fun (m:Nat)=>md p N (m:Int) == M
theorem zmR {p:List Int}{N M:List (List Rat)}:zmQ p N M=true ↔ ∃ i:Nat,i<N.length∧md p N (i:Int)=M:=by
 unfold zmQ;rw [List.any_eq_true];constructor
 ·rintro ⟨i,hi,e⟩;exact ⟨i,List.mem_range.1 hi,beq_iff_eq.1 e⟩
 ·rintro ⟨i,hi,e⟩;exact ⟨i,List.mem_range.2 hi,beq_iff_eq.2 e⟩
def srA (P:Int)(b:Bool)(p:List Int)(N:List (List Rat))(acc:List (List Int))(c:List Int):List (List Int) :=
 if (tst P p (zlb p N c) && !(b && acc.any fun a=>zmQ p (zlb p N a) (zlb p N c)))=true then acc++[c] else acc
def srL (P:Int)(b:Bool)(p:List Int)(N:List (List Rat))(cs:List (List Int)):List (List Int):=cs.foldl (srA P b p N) []
theorem zmS (P:Int)(b:Bool)(p:List Int)(N:List (List Rat))(cs:List (List Int))(c:List Int):srL P b p N (cs++[c])=srA P b p N (srL P b p N cs) c:=by
 unfold srL;rw [List.foldl_append];rfl
theorem zmT (P:Int)(b:Bool)(p:List Int)(N:List (List Rat))(acc:List (List Int))(c:List Int):(srA P b p N acc c).length≤acc.length+1:=by
 unfold srA;split
 ·rw [List.length_append,List.length_singleton];exact Nat.le_refl _
 ·omega
theorem zmU {P:Int}{b:Bool}{p:List Int}{N:List (List Rat)}:∀ (cs acc:List (List Int))(x:List Int),x∈cs.foldl (srA P b p N) acc→x∈acc∨(x∈cs∧tst P p (zlb p N x)=true)
 | [],_,_,h=>.inl h
 | c::cs,acc,x,h=>by
  rw [List.foldl_cons] at h;rcases zmU cs _ x h with g | ⟨g,e⟩
  ·unfold srA at g;split at g
   ·rename_i hc;rw [Bool.and_eq_true] at hc;rcases List.mem_append.1 g with g | g
    ·exact .inl g
    ·rw [List.mem_singleton] at g;exact .inr ⟨by rw [g];exact List.mem_cons_self ..,by rw [g];exact hc.1⟩
   ·exact .inl g
  ·exact .inr ⟨List.mem_cons_of_mem _ g,e⟩
theorem zmV {P:Int}{b:Bool}{p:List Int}{N:List (List Rat)}{cs:List (List Int)}{x:List Int}(h:x∈srL P b p N cs):x∈cs∧tst P p (zlb p N x)=true:=by
 rcases zmU cs [] x h with g | g
 ·cases g
 ·exact g
theorem zmW {P:Int}{b:Bool}{p:List Int}{N:List (List Rat)}:∀ (cs acc:List (List Int)),(cs.foldl (srA P b p N) acc).length≤acc.length+cs.length
 | [],_=>Nat.le_refl _
 | c::cs,acc=>by
  rw [List.foldl_cons,List.length_cons];have:=zmW (P:=P) (b:=b) (p:=p) (N:=N) cs (srA P b p N acc c);have:=zmT P b p N acc c;omega
theorem zmX (P:Int)(b:Bool)(p:List Int)(N:List (List Rat))(cs:List (List Int)):(srL P b p N cs).length≤cs.length:=by
 have:=zmW (P:=P) (b:=b) (p:=p) (N:=N) cs [];rw [List.length_nil,Nat.zero_add] at this;exact this
def eqN (n:Nat):List (List Rat):=(List.range n).map fun (i:Nat)=>oc3 [2,3] n ((i+1:Nat):Int)
theorem zmY (n:Nat):(eqN n).length=n:=by unfold eqN;simp
theorem zmZ {n:Nat}{x:List Rat}(h:x∈zer [(2:Int),3].length::eqN n):∃ i:Int,0≤i∧i≤(n:Int)∧x=oc3 [2,3] n i:=by
 rcases List.mem_cons.1 h with e | e
 ·exact ⟨0,by omega,by omega,by rw [e];exact zmK (.inl rfl) n⟩
 ·unfold eqN at e;obtain ⟨i,hi,rfl⟩:=List.mem_map.1 e;rw [List.mem_range] at hi;exact ⟨((i+1:Nat):Int),by omega,by omega,rfl⟩
theorem zna {n:Nat}(hn:0<n){i j:Int}(hij:i<j):sF [2,3] (oc3 [2,3] n i)<sF [2,3] (oc3 [2,3] n j):=by
 rw [zmN (.inl rfl),zmN (.inl rfl)];have hnp:(0:Rat)<(n:Rat):=Rat.intCast_lt_intCast.2 (show (0:Int)<(n:Int) by omega);have e2:(0:Rat)<((67108864:Int):Rat):=Rat.intCast_lt_intCast.2 (show (0:Int)<67108864 by decide);have hlt:(i:Rat)<(j:Rat):=Rat.intCast_lt_intCast.2 hij;have h1:(i:Rat) / (n:Rat)<(j:Rat) / (n:Rat):=by
  have q1:(n:Rat) * ((i:Rat) / (n:Rat))=(i:Rat):=by rw [Rat.mul_comm];exact Rat.div_mul_cancel (zmJ hn)
  have q2:(n:Rat) * ((j:Rat) / (n:Rat))=(j:Rat):=by rw [Rat.mul_comm];exact Rat.div_mul_cancel (zmJ hn)
  refine Rat.lt_of_mul_lt_mul_left ?_ (Rat.le_of_lt hnp);rw [q1,q2];exact hlt
 exact Rat.mul_lt_mul_of_pos_right h1 e2
theorem znb {n:Nat}(hn:0<n):oc3 [2,3] n (n:Int)=ov 1:=by
 rw [zmG];have e:((n:Int):Rat) / (n:Rat)=1:=by
  rw [Rat.intCast_natCast];exact by rw [Rat.div_def];exact Rat.mul_inv_cancel _ (zmJ hn)
 rw [e];rfl
theorem znc {n:Nat}(hn:0<n)(i q:Int):oc3 [2,3] n (i+q * n)=shf q (oc3 [2,3] n i):=by
 rw [zmG,zmG];simp only [shf];congr 1;have q2:((n:Int):Rat) / (n:Rat)=1:=by
  rw [Rat.intCast_natCast];exact by rw [Rat.div_def];exact Rat.mul_inv_cancel _ (zmJ hn)
 rw [Rat.intCast_add,Rat.intCast_mul];rw [Rat.div_def] at q2 ⊢;rw [Rat.add_mul,Rat.mul_assoc,q2,Rat.mul_one,Rat.div_def]
theorem znd {n:Nat}(h0:0<n)(h:n≤60):Wd [2,3] (eqN n):=by
 refine ⟨.inl ⟨rfl,rfl⟩,?_,by rw [zmY];exact h,fun x hx=>?_,?_,?_,n,fun x hx y hy=>?_⟩
 ·intro e;have:=zmY n;rw [e] at this;simp at this;omega
 ·obtain ⟨i,_,_,rfl⟩:=zmZ (List.mem_cons_of_mem _ hx);exact zmI (.inl rfl) ..
 ·rw [zmY];unfold eqN;rw [List.getElem?_map,List.getElem?_range (by omega),Option.map_some,show n - 1+1=n by omega];exact congrArg some (znb h0)
 ·unfold Srt;rw [List.pairwise_cons];constructor
  ·intro x hx;unfold eqN at hx;obtain ⟨i,hi,rfl⟩:=List.mem_map.1 hx;rw [show zer [(2:Int),3].length=oc3 [2,3] n 0 from zmK (.inl rfl) n];exact zna h0 (by omega)
  ·unfold eqN;rw [List.pairwise_map];exact List.pairwise_lt_range.imp fun {a b} g=>zna h0 (by omega)
 ·obtain ⟨i,_,_,rfl⟩:=zmZ hx;obtain ⟨j,_,_,rfl⟩:=zmZ hy;rw [zmL (.inl rfl)];exact .inr ⟨h0,h,zmM (.inl rfl) h0 _⟩
theorem zne {n:Nat}(h0:0<n)(h:n≤12):Wc [2,3] (eqN n):=by
 refine ⟨znd h0 (by omega),⟨n,fun x hx y hy=>?_⟩,by rw [zmY];exact h⟩;obtain ⟨i,_,_,rfl⟩:=zmZ hx;obtain ⟨j,_,_,rfl⟩:=zmZ hy;rw [zmL (.inl rfl)];exact .inr ⟨h0,by omega,zmM (.inl rfl) h0 _⟩
theorem znf {n:Nat}(h0:0<n)(h:n≤60)(k:Int):nt [2,3] (eqN n) k=oc3 [2,3] n k:=by
 have hw:=znd h0 h;have a1:=Int.emod_nonneg k (show (n:Int) ≠ 0 by omega);have a2:=Int.emod_lt_of_pos k (show (0:Int)<(n:Int) by omega);have a3:=Int.mul_ediv_add_emod k (n:Int);have e:=znc h0 (k % (n:Int)) (k / (n:Int));rw [show k % (n:Int)+k / (n:Int) * (n:Int)=k by rw [Int.mul_comm (k / _)];omega] at e;unfold nt;rw [zmY,e];congr 1;obtain ⟨i,hi⟩:∃ i:Nat,(i:Int)=k % (n:Int):=⟨(k % (n:Int)).toNat,by omega⟩;rw [← hi,Int.toNat_natCast];unfold zat
 cases i with
 | zero=>exact zmK (.inl rfl) n
 | succ i =>
  rw [List.getElem?_cons_succ]
  unfold eqN
  rw [List.getElem?_map,List.getElem?_range (by omega)]
  rfl
end
section
open Go.RowKit Go.Lib Go.Shelf
attribute [local go_sem] Oper.semAt_some
theorem zng (n:Nat)(i:Int):zey (ov 1) (mkRat i n)=oc3 [2,3] n i:=by
 rw [zmG,Rat.mkRat_eq_div];show [(1:Rat) * _,(0:Rat) * _]=_;rw [Rat.one_mul,Rat.zero_mul]
theorem znh (n:Nat)(i:Nat)(hi:i<n):(eqN n).take (i+1)=(eqN n).take i++[oc3 [2,3] n ((i:Int)+1)]:=by
 have hl:i<(eqN n).length:=by rw [zmY];exact hi
 rw [List.take_succ_eq_append_getElem hl];congr 1;unfold eqN;simp
theorem zni (vp vb:Value)(n:Nat)(w:World)(he:Env w)(hp:Sl w vp (zaq [2,3]))(hb:Rd w vb (ov 1))(h0:0<n)(h60:n≤60) :
  Calls Tryz.prog 20 #[vp,vb,.int .i64 (n:Int)] w fun e w'=>∃ v out,e=.returned (.tuple #[v,.int .i64 0])∧ScO w' w.heap.size v [2,3] out∧out.map Qw.x=eqN n∧Ext w w':=by
 obtain ⟨j0,hj,hy0,hy1,hy2⟩:=info_parts zfz;have hwd:=znd h0 h60;have hpe:zfc ([2,3]:List Int)=0:=by decide
 have hck:=fun W (hE:Ext w W)=>zia vp vb [2,3] 1 W (he.ext hE) (hE.sl hp) (hE.rd hb) hpe (.inl ⟨rfl,rfl⟩);have hft:∀ z:Int,1≤z→z≤n→∀ q∈oc3 [2,3] n z,Ft 30 q:=fun z z0 z1=>by
  rw [← znf h0 h60];exact (hwd.nt_quick z (by omega) (by omega)).1
 have hof:=fun (z:Int)(z0:1≤z)(z1:z≤n) W (hE:Ext w W)=>zkG z n W (he.ext hE) (by omega) (by omega) h0 (by omega);have hsc:=fun (z:Int)(z0:1≤z)(z1:z≤n) W (hE:Ext w W)=>(show Calls Tryz.prog 60 #[vp,vb,Rv (mkRat z n)] W fun e w'=>∃ g,e=.returned (.tuple #[.slice (some ⟨g,0,none⟩) 2 2,.int .i64 0])∧zfx w' W.heap.size (.slice (some ⟨g,0,none⟩) 2 2) (oc3 [2,3] n z)∧Ext W w' from by
  have h1:=hft z z0 z1;have h2:Ft 30 (mkRat z n):=by
   refine h1 _ ?_;rw [zmG,Rat.mkRat_eq_div];exact List.mem_cons_self ..
  have:=zhz vp vb [2,3] (ov 1) (mkRat z n) W (he.ext hE) (hE.sl hp) (hE.rd hb) hpe rfl (fun q h=>(zhI q h).mono (by omega)) (h2.mono (by omega)) (by rw [zng];exact h1);rw [zng] at this;exact this)
 have hcp:=fun W (hE:Ext w W)=>zjw vp [2,3] W (hE.sl hp) (by decide) (by simp);obtain ⟨ap,cp,rfl,_,_,_⟩:=hp.parts;obtain ⟨ab,cb,rfl,_,_,_⟩:=hb.parts;rw [show (zaq [2,3]).length=2 from rfl,show (ov 1).length=2 from rfl] at *;have hE0:Ext w (w.alloc (.cells #[.slice none 0 0,.slice none 0 0] 28)):=(Ext.refl w).alloc _;have b1:=zic.new 28 w (.slice none 0 0) (.slice none 0 0);have hlen:(eqN n).length=n:=zmY n;have heq:=znh n;simp only [Rv] at hof hsc;have Hck:=hid hck;have Hof:=hid hof;have Hsc:=hid hsc;have Hcp:=hid hcp;have HE0:=hid hE0;have B1:=hid b1;have Hlen:=hid hlen;have Heq:=hid heq;clear hp hb he hpe hck hof hsc hcp hE0 b1 hft hwd hlen heq;have t1:¬ (n:Int)<1:=by omega
 have t2:¬ 60<(n:Int):=by omega
 go_enter Tryz.func20,Tryz.ntmps20
 go_wp2_with fail
 refine (Hck.out _ HE0.out).mono ?_;rintro e w1 ⟨rfl,hx1⟩;have Hx1:=hid hx1;clear hx1;go_wp2_with fail
 refine (Hcp.out w1 (HE0.out.trans Hx1.out)).mono ?_;rintro e w6 ⟨u6,rfl,ho6,hx6⟩;obtain ⟨a6,c6,rfl⟩:=zfj ho6;have Hx6:=hid (Hx1.out.trans hx6);have Ho6:=hid (zan ho6 (HE0.out.trans Hx1.out).size);clear ho6 hx6;have Hb7:=hid (zic.new 28 w6 (.slice a6 2 c6) (.slice none 0 0));have H6x:Hid (Ext w6 (w6.alloc (.cells #[.slice a6 2 c6,.slice none 0 0] 28))):=hid ((Ext.refl w6).alloc _);go_wp2_with fail
 go_loopw [10,11,12,13,14] (fun v10 v11 v12 v13 v14 wr=>∃ i:Nat,v10=.int .i64 ((i:Int)+1)∧i≤n∧NtR w6.heap.size w6 w6.heap.size (.slice a6 2 c6) ((eqN n).take i) wr) (fun v10 _ _ _ _ _=>n+1 - (zam v10).toNat)
 case atStart=>exact ⟨0,rfl,Nat.zero_le _,.slice none 0 0,[],Hb7.out,QwM.nil _ _ _,rfl,H6x.out⟩
 case round =>
  obtain ⟨i,rfl,hi,⟨vn,nts,hbn,hqn,hmn,hEn⟩⟩:=hrel;have hE6:=Hx6.out.trans hEn;have hEw:=HE0.out.trans hE6;by_cases hin:i<n
  ·have hik:(i:Int)+1≤(n:Int):=(by omega);have hok:=Hof.out ((i:Int)+1) (by omega) (by omega) wr hEw;have hsk:=Hsc.out ((i:Int)+1) (by omega) (by omega);have Hbn:=hid hbn;have Hqn:=hid hqn;have Hmn:=hid hmn;have HEn:=hid hEn;have HE6:=hid hE6;have HEw:=hid hEw;generalize I (mkRat ((i:Int)+1) n).num=st at *;generalize I (((mkRat ((i:Int)+1) n).den:Nat):Int)=su at *;have Hok:=hid hok;have Hsk:=hid hsk;clear hbn hqn hmn hEn hE6 hEw hok hsk;go_wp2_with fail
   refine Hok.out.mono ?_;rintro e w7 ⟨rfl,hx7⟩;have hE8:=hx7.alloc (.cells #[.string st,.string su] 65);have b8:=zic.new 65 w7 (.string st) (.string su);have q0:=b8.c0;have q1:=b8.c1;have Hx8:=hid hE8;clear hx7 hE8 b8;go_wp2_with fail
   generalize w7.alloc (.cells #[.string st,.string su] 65)=w8 at *;refine (Hsk.out w8 (HEw.out.trans Hx8.out)).mono ?_;rintro e w9 ⟨g9,rfl,ho9,hx9⟩;have hx89:=Hx8.out.trans hx9;obtain ⟨avn,cvn,rfl⟩:=zfj Hqn.out.1;have hnl:nts.length=i:=by
    have:=congrArg List.length Hmn.out;rw [List.length_map,List.length_take,Hlen.out] at this;omega
   have hbk:=Hbn.out.ext hx89;rw [hnl] at hbk;have hqo:=hx89.own Hqn.out.1;rw [hnl] at hqo;have hqk:=hx89.qwM Hqn.out;rw [hnl] at hqk;have hEk:=HEn.out.trans hx89;have hbase:=hEk.size;have hok:=ho9.mono (HEn.out.trans Hx8.out).size;have hm3:i+1≤maxLen:=(by unfold maxLen;omega);have hm4:(i+1) * 24≤140737488355328:=(by omega);have r1:=hbk.c1;have Hbk:=hid hbk;have Hqk:=hid hqk;have Hnl:=hid hnl;have HEk:=hid hEk;have Hok:=hid hok;clear hbk hqk hnl hEk hok hx89 ho9 hx9 q0 q1;go_wp2_with (at_builtin;refine wpList_append_own _ rfl _ _ 26 rfl w6.heap.size 41 j0 (.slice none 0 0) 1 24 Tryz.underlying26 hj hy0 hy1 hy2 rfl (by decide) _ _ _ rfl (hqo.alloc _) ⟨w9.heap.size,0,none⟩ 1 1 [.slice (some ⟨g9,0,none⟩) 2 2] rfl rfl (cell_one_new _ _ _) (by simp [Value.oneCell']) hm3 hm4 (by rw [World.size_alloc];omega) ?_;intro v7 V7 hown7 hgrow7 _;have hbV:zic 28 V7 w6.heap.size (.slice a6 2 c6) (.slice avn i cvn):=zga (((Ext.refl w9).alloc _).heap Hbk.out) (hqo.alloc (.cells #[.slice (some ⟨g9,0,none⟩) 2 2] 41)) (by decide) hgrow7;have d1:=hbV.c1;have e1:=hbV.fz 1;obtain ⟨a7,c7,rfl⟩:=zfj hown7)
   have hR:=NtR.more (W6:=w6) (W:=w9) (v7:=.slice a7 (i+1) c7) (Nat.le_refl _) Hbk.out Hqk.out Hmn.out HEk.out Hok.out (by rw [Hnl.out];exact hown7) hgrow7;rw [← Heq.out i hin] at hR;have HR:=hid hR;clear hR d1 e1 r1 hgrow7 hown7 hbV;generalize V7.setCell ⟨w6.heap.size,1,none⟩ (.slice a7 (i+1) c7)=V2 at *;go_roundw
   case rel=>exact ⟨i+1,by go_num,by omega,HR.out⟩
   case measure=>simp [zam];omega
  ·obtain rfl:n=i:=by omega
   have hik:¬ (n:Int)+1≤(n:Int):=(by omega);have hmn2:nts.map Qw.x=eqN n:=(by rw [hmn,List.take_of_length_le (by rw [Hlen.out];exact Nat.le_refl _)]);obtain ⟨avn,cvn,rfl⟩:=zfj hqn.1;have r0:=hbn.c0;have r1:=hbn.c1;have hbr:=B1.out.ext hE6;have hK:K0 28 w wr w.heap.size:=⟨hEw,_,_,hbr⟩;have k0:=hK.res.c0;have k1:=hK.res.c1;have z0:=hK.res.fz 0;have z1:=hK.res.fz 1;have hfin:=hK.fin (by omega) (.slice a6 2 c6) (.slice avn nts.length cvn);have hq4:=(hqn.set hbr 0 (.slice a6 2 c6)).set (zic.put0 hbr (.slice a6 2 c6)) 1 (.slice avn nts.length cvn);have ho4:=zgd (zic.put0 hbr (.slice a6 2 c6)) (zgd hbr (hEn.own Ho6.out) (by decide) 0 (.slice a6 2 c6)) (by decide) 1 (.slice avn nts.length cvn);have hlo:=(HE0.out.trans Hx6.out).size;have Hfin:=hid hfin;have Hq4:=hid hq4;have Ho4:=hid ho4;have Hmn2:=hid hmn2;clear hfin hq4 ho4 hmn2 hK hbr hqn hbn hmn hEn hE6 hEw;go_wp2_with fail
   obtain ⟨hb5,hx5⟩:=Hfin.out;have hd0:=hb5.c0;have hd1:=hb5.c1;exact bodyPost_ret (v:=.tuple #[.agg #[.slice a6 2 c6,.slice avn nts.length cvn],.int .i64 0]) (by simp [results,Tryz.results20,go_sem,hd0,hd1]) rfl ⟨_,rfl,nts,⟨_,_,rfl,Ho4.out,Hq4.out.mono hlo hlo⟩,Hmn2.out,hx5⟩
def znj (W7:World)(j:Nat)(vals:List Int)(v83 v84 v85:Value)(wx:World):Prop:=∃ g c,v83=.slice (some ⟨g,0,none⟩) (j+1) c∧v84=.int .i64 ((j:Int)+1)∧v85=.int .i64 0∧wx.ownsRow W7.heap.size 3 1 (.slice (some ⟨g,0,none⟩) (j+1) c) (j+1) (zaq vals)∧Ext W7 wx
theorem znk {W:World}{B g n c i:Nat}{L:List Int}{z:Int}{T:TypeId}(h:W.ownsRow B T 1 (.slice (some ⟨g,0,none⟩) n c) n (zaq L))(hz:L[i]?=some z):W.cell? ⟨g,i,none⟩=some (.int .i64 z):=by
 obtain ⟨a',c',e',_,_,hcc⟩:=(zao h).parts;obtain ⟨b',off',e2,hc'⟩:=hcc i (.int .i64 z) (by unfold zaq;rw [List.getElem?_map,hz];rfl);rw [e2] at e';injection e' with e3 _ _;injection e3 with e4;injection e4 with e5 e6;subst e5;subst e6;rwa [Nat.zero_add] at hc'
theorem znl (n:Nat):zkV n []=13:=rfl
theorem znm (v vl:Value)(p:List Int)(rs:List Qw)(l:List Int)(w:World)(he:Env w)(hv:ScV w v p rs)(h:Wd p (rs.map Qw.x))(hvl:Sl w vl (zaq l))(hl10:l.length≤60) :
  Calls Tryz.prog 8 #[v,vl] w fun e w'=>∃ u,e=.returned (.tuple #[u,.int .i64 (zkV rs.length l)])∧(zkV rs.length l ≠ 0→u=.agg #[.slice none 0 0,.slice none 0 0])∧(zkV rs.length l=0→∃ out,ScO w' w.heap.size u p out∧out.map Qw.x=zlb p (rs.map Qw.x) l)∧Ext w w':=by
 obtain ⟨j0,hj,hy0,hy1,hy2⟩:=info_parts zfz;obtain ⟨i0,hi,hz0,hz1,hz2⟩:=info_parts zfh;have hpe:zfc p=0∧p.length≤100∧0<p.length:=by rcases h.pr with ⟨e,_⟩ | ⟨e,_⟩ <;> rw [e] <;> decide
 have hck:=fun W (hE:Ext w W)=>ziz v p rs W (he.ext hE) (hv.ext hE) h.right;have hnt:=fun (k:Int)(h0:-1000≤k)(h1:k≤1000) W (hE:Ext w W)=>zjC v p rs k W (he.ext hE) (hv.ext hE) h h0 h1;have hfew:=h.few;have hL:(rs.map Qw.x).length=rs.length:=List.length_map ..;rw [hL] at hfew;obtain ⟨vp,vn,rfl,hp,hs,hmr⟩:=hv;have hsb:=fun (k m:Int)(h0:-1000≤k)(h1:k≤1000)(g0:-1000≤m)(g1:m≤1000) W va vb (hE:Ext w W)(ha:Rd W va (nt p (rs.map Qw.x) k))(hb:Rd W vb (nt p (rs.map Qw.x) m))=>zhx vp va vb p _ _ W (he.ext hE) (hE.sl hp) ha hb hpe.1 (h.ntlen k) (h.ntlen m) (h.nt_quick k h0 h1).1 (h.nt_quick m g0 g1).1 (h.nt_sub_quick k m h0 h1 g0 g1).1;have hcp:=fun W (hE:Ext w W)=>zjw vp p W (hE.sl hp) (by omega) (by intro e;rw [e] at hpe;exact absurd hpe.2.2 (by simp));obtain ⟨ap,cp,rfl,_,_,_⟩:=hp.parts;obtain ⟨an,cn,rfl,_,_,_⟩:=hs.parts;obtain ⟨al,cl,rfl,_,hcl,hlc⟩:=hvl.parts;have hlat:∀ W,Ext w W→∀ k,k<l.length→∃ b off,al=some ⟨b,off,none⟩∧W.cell? ⟨b,off+k,none⟩=some (.int .i64 ((l[k]?).getD 0)):=fun W hE k hk=>by
  obtain ⟨b,off,e,hc⟩:=hlc k (.int .i64 ((l[k]?).getD 0)) (by unfold zaq;rw [List.getElem?_map,List.getElem?_eq_getElem hk];rfl);exact ⟨b,off,e,hE.cell hc⟩
 rw [zas] at *;rw [zas] at *;rw [zf0] at *;generalize hn:rs.length=n at *;have hE0:Ext w ((w.alloc (.cells #[.slice ap p.length cp,.slice an n cn] 28)).alloc (.cells #[.slice none 0 0,.slice none 0 0] 28)):=((Ext.refl w).alloc _).alloc _;have b1:=(zic.new 28 w (.slice ap p.length cp) (.slice an n cn)).ext ((Ext.refl _).alloc (.cells #[.slice none 0 0,.slice none 0 0] 28));have b2:=zic.new 28 (w.alloc (.cells #[.slice ap p.length cp,.slice an n cn] 28)) (.slice none 0 0) (.slice none 0 0);rw [World.size_alloc] at b2;have Hck:=hid hck;have Hnt:=hid hnt;have Hsb:=hid hsb;have Hcp:=hid hcp;have HE0:=hid hE0;have B1:=hid b1;have B2:=hid b2;have Hn:=hid hn;have Hlat:=hid hlat;clear hp hs hmr he h hpe hck hnt hsb hcp hE0 b1 b2 hL hn hvl hlc hlat;go_enter Tryz.func8,Tryz.ntmps8
 have q0:=B1.out.c0;have q1:=B1.out.c1;go_wp2_with fail
 refine (Hck.out _ HE0.out).mono ?_;rintro e w1 ⟨rfl,hx1⟩;have hK1:K0 28 w w1 (w.heap.size+1):=⟨HE0.out.trans hx1,_,_,B2.out.ext hx1⟩;have q0:=(B1.out.ext hx1).c0;have q1:=(B1.out.ext hx1).c1;have k0:=hK1.res.c0;have k1:=hK1.res.c1;have z0:=hK1.res.fz 0;have z1:=hK1.res.fz 1;have Hx1:=hid hx1;have HK1:=hid hK1;clear hx1 hK1;by_cases hl0:l.length=0
 ·have hnil:l=[]:=List.length_eq_zero_iff.1 hl0;have Hnil:=hid hnil;clear hnil;go_wp2_with fail
  obtain ⟨hb6,hx6⟩:=HK1.out.fin (Nat.le_succ _) (.slice none 0 0) (.slice none 0 0);have hd0:=hb6.c0;have hd1:=hb6.c1;exact bodyPost_ret (v:=.tuple #[.agg #[.slice none 0 0,.slice none 0 0],.int .i64 13]) (by simp [results,Tryz.results8,go_sem,hd0,hd1]) rfl ⟨_,by rw [Hnil.out,znl],fun _=>rfl,fun h=>absurd (show (13:Int)=0 by rw [← znl n,← Hnil.out];exact h) (by decide),hx6⟩
 ·have hne:l ≠ []:=fun e=>hl0 (by rw [e];rfl);have hse:zkV n l=zkU n l 0 l.length:=by unfold zkV;rw [if_neg hne]
  have Hne:=hid hne;have Hse:=hid hse;generalize hLl:l.length=L at *;have HLl:=hid hLl;clear hne hse hLl;go_wp2_with fail
  go_loopw [7,8,28] (fun v7 v8 v28 wr=>∃ k:Nat,v28=.int .i64 k∧k≤L∧Hid (zkU n l 0 L=zkU n l k (L - k))∧wr=w1) (fun _ _ v28 _=>L - (zam v28).toNat)
  case atStart=>exact ⟨0,rfl,Nat.zero_le _,hid rfl,rfl⟩
  case round =>
   obtain ⟨k,rfl,hk,HS,rfl⟩:=hrel;by_cases hkl:k<L
   ·obtain ⟨b,off,rfl,hc⟩:=Hlat.out wr (HE0.out.trans Hx1.out) k hkl;have hgo:zkT n l k=0→zkU n l 0 L=zkU n l (k+1) (L - (k+1)):=fun e=>by
     have:=zkW (n:=n) (l:=l) (k:=k) (by rw [HLl.out];exact hkl) e;rw [HLl.out] at this;exact HS.out.trans this
    have hst:zkT n l k ≠ 0→zkU n l 0 L=zkT n l k:=fun e=>by
     have:=zkX (n:=n) (l:=l) (k:=k) (by rw [HLl.out];exact hkl) e;rw [HLl.out] at this;exact HS.out.trans this
    have hun:zkT n l k=if (l[k]?).getD 0<0∨(n:Int)≤(l[k]?).getD 0 then 3 else if 0<k∧(l[k]?).getD 0≤(l[k - 1]?).getD 0 then 6 else 0:=rfl;have hpv:=fun (h0:0<k)=>Hlat.out wr (HE0.out.trans Hx1.out) (k - 1) (by omega);generalize (l[k]?).getD 0=x at *;generalize (l[k - 1]?).getD 0=y at *;have hk0:(0:Int)≤(k:Int):=(by omega);have hk1:(k:Int)<(L:Int):=(by omega);have Hgo:=hid hgo;have Hst:=hid hst;have Hun:=hid hun;have Hpv:=hid hpv;clear hgo hst hun hpv;by_cases hx0:x<0
    ·have hec:zkV n l=3:=by
      have hs:zkT n l k=3:=(by rw [Hun.out,if_pos (.inl hx0)]);exact Hse.out.trans ((Hst.out (by rw [hs];decide)).trans hs)
     have Hec:=hid hec;clear hec;rcases Nat.eq_zero_or_pos k with hk00 | hk00
     ·subst hk00;rw [Nat.add_zero] at hc;go_wp2_with fail
      obtain ⟨hb6,hx6⟩:=HK1.out.fin (Nat.le_succ _) (.slice none 0 0) (.slice none 0 0);have hd0:=hb6.c0;have hd1:=hb6.c1;exact bodyPost_ret (v:=.tuple #[.agg #[.slice none 0 0,.slice none 0 0],.int .i64 3]) (by simp [results,Tryz.results8,go_sem,hd0,hd1]) rfl ⟨_,by rw [Hec.out],fun _=>rfl,fun h=>absurd (show (3:Int)=0 by rw [← Hec.out];exact h) (by decide),hx6⟩
     ·go_wp2_with fail
      obtain ⟨hb6,hx6⟩:=HK1.out.fin (Nat.le_succ _) (.slice none 0 0) (.slice none 0 0);have hd0:=hb6.c0;have hd1:=hb6.c1;exact bodyPost_ret (v:=.tuple #[.agg #[.slice none 0 0,.slice none 0 0],.int .i64 3]) (by simp [results,Tryz.results8,go_sem,hd0,hd1]) rfl ⟨_,by rw [Hec.out],fun _=>rfl,fun h=>absurd (show (3:Int)=0 by rw [← Hec.out];exact h) (by decide),hx6⟩
    ·by_cases hxn:(n:Int)≤x
     ·have hec:zkV n l=3:=by
       have hs:zkT n l k=3:=(by rw [Hun.out,if_pos (.inr hxn)]);exact Hse.out.trans ((Hst.out (by rw [hs];decide)).trans hs)
      have Hec:=hid hec;clear hec;rcases Nat.eq_zero_or_pos k with hk00 | hk00
      ·subst hk00;rw [Nat.add_zero] at hc;go_wp2_with fail
       obtain ⟨hb6,hx6⟩:=HK1.out.fin (Nat.le_succ _) (.slice none 0 0) (.slice none 0 0);have hd0:=hb6.c0;have hd1:=hb6.c1;exact bodyPost_ret (v:=.tuple #[.agg #[.slice none 0 0,.slice none 0 0],.int .i64 3]) (by simp [results,Tryz.results8,go_sem,hd0,hd1]) rfl ⟨_,by rw [Hec.out],fun _=>rfl,fun h=>absurd (show (3:Int)=0 by rw [← Hec.out];exact h) (by decide),hx6⟩
      ·go_wp2_with fail
       obtain ⟨hb6,hx6⟩:=HK1.out.fin (Nat.le_succ _) (.slice none 0 0) (.slice none 0 0);have hd0:=hb6.c0;have hd1:=hb6.c1;exact bodyPost_ret (v:=.tuple #[.agg #[.slice none 0 0,.slice none 0 0],.int .i64 3]) (by simp [results,Tryz.results8,go_sem,hd0,hd1]) rfl ⟨_,by rw [Hec.out],fun _=>rfl,fun h=>absurd (show (3:Int)=0 by rw [← Hec.out];exact h) (by decide),hx6⟩
     ·rcases Nat.eq_zero_or_pos k with hk00 | hk00
      ·subst hk00;rw [Nat.add_zero] at hc;have hs:zkT n l 0=0:=(by rw [Hun.out,if_neg (by omega),if_neg (by omega)]);have Hnx:=hid (Hgo.out hs);clear hs;go_wp2_with fail
       go_roundw
       case rel=>exact ⟨1,by go_num,by omega,Hnx,trivial⟩
       case measure=>simp [zam];omega
      ·obtain ⟨j,rfl⟩:∃ j,k=j+1:=⟨k - 1,by omega⟩;obtain ⟨b',off',e',hc'⟩:=Hpv.out hk00
       cases e'
       rw [Nat.add_sub_cancel] at hc';have hwj:IntKind.i64.wrap (((j+1:Nat):Int) - 1)=(j:Int):=(by rw [show (((j+1:Nat):Int) - 1)=(j:Int) by omega];exact IntWalk.i64_in _ (by omega));have hwj2:IntKind.i64.wrap (j:Int)=(j:Int):=IntWalk.i64_in _ (by omega);have hj0:(0:Int)≤(j:Int):=(by omega);have hj1:(j:Int)<(L:Int):=(by omega);have hjc:((j+1:Nat):Int)=(j:Int)+1:=(by omega);have hjp:(0:Int)<(j:Int)+1:=(by omega);by_cases hxy:x≤y
       ·have hec:zkV n l=6:=by
         have hs:zkT n l (j+1)=6:=(by rw [Hun.out,if_neg (by omega),if_pos ⟨hk00,hxy⟩]);exact Hse.out.trans ((Hst.out (by rw [hs];decide)).trans hs)
        have Hec:=hid hec;clear hec;go_wp2_with fail
        obtain ⟨hb6,hx6⟩:=HK1.out.fin (Nat.le_succ _) (.slice none 0 0) (.slice none 0 0);have hd0:=hb6.c0;have hd1:=hb6.c1;exact bodyPost_ret (v:=.tuple #[.agg #[.slice none 0 0,.slice none 0 0],.int .i64 6]) (by simp [results,Tryz.results8,go_sem,hd0,hd1]) rfl ⟨_,by rw [Hec.out],fun _=>rfl,fun h=>absurd (show (6:Int)=0 by rw [← Hec.out];exact h) (by decide),hx6⟩
       ·have hs:zkT n l (j+1)=0:=(by rw [Hun.out,if_neg (by omega),if_neg (fun g=>hxy g.2)]);have Hnx:=hid (Hgo.out hs);clear hs;go_wp2_with fail
        go_roundw
        case rel=>exact ⟨j+1+1,by go_num,by omega,Hnx,trivial⟩
        case measure=>simp [zam];omega
   ·have hkL:k=L:=(by omega);have hec:zkV n l=0:=by
     rw [Hse.out,HS.out,hkL,Nat.sub_self];rfl
    have Hec:=hid hec;clear hec;subst hkL;obtain ⟨hin,hup⟩:=zkZ (n:=n) (l:=l) (by rw [HLl.out,← Hse.out];exact Hec.out);obtain ⟨x0,t0,hlx⟩:∃ x t,l=x::t:=by cases hl:l with | nil=>exact absurd hl Hne.out | cons x t=>exact ⟨x,t,rfl⟩
    have hx0b:=hin x0 (by rw [hlx];exact List.mem_cons_self ..);obtain ⟨b,off,rfl,hc0⟩:=Hlat.out wr (HE0.out.trans Hx1.out) 0 (by omega);rw [hlx,List.getElem?_cons_zero,Option.getD_some,Nat.add_zero] at hc0;have hnk:=Hnt.out x0 (by omega) (by omega);have htl:∀ W,Ext w W→∀ i z,t0[i]?=some z→W.cell? ⟨b,off+1+i,none⟩=some (.int .i64 z):=fun W hE i z hz=>by
     have hik:i+1<k:=by
      have h1:=(List.getElem?_eq_some_iff.1 hz).1;rw [← HLl.out,hlx,List.length_cons];omega
     obtain ⟨b',off',e',hc'⟩:=Hlat.out W hE (i+1) hik
     cases e'
     rw [hlx,List.getElem?_cons_succ,hz,Option.getD_some] at hc';rw [show off+1+i=off+(i+1) by omega];exact hc'
    have htk:t0.length+1=k:=(by rw [← HLl.out,hlx,List.length_cons]);have Hin:=hid hin;have Hup:=hid hup;have Hlx:=hid hlx;have Hnk:=hid hnk;have Htl:=hid htl;clear hin hup hlx hnk htl;have hk1:(0:Int)<(k:Int):=(by omega);have hk2:0<k:=(by omega);obtain ⟨j,hjk⟩:∃ j,k=j+1:=⟨k - 1,by omega⟩;subst hjk;have hj1':(1:Int)≤(j:Int)+1:=(by omega);have htj:t0.length=j:=(by omega);obtain ⟨o2,ho2⟩:∃ o2,o2=if cl=1 then off else off+1:=⟨_,rfl⟩;have hse2:(if cl=1 then some (⟨b,off,none⟩:Addr) else some ⟨b,off+1,none⟩)=some ⟨b,o2,none⟩:=by rw [ho2];split <;> rfl
    have hci:=fun W (hE:Ext w W)=>zlf b o2 (cl - 1) t0 W (by omega) (fun i z hz=>by
     have hi:=(List.getElem?_eq_some_iff.1 hz).1;have hcl2:j+1≤cl:=hcl;rw [ho2,if_neg (by omega)];exact Htl.out W hE i z hz)
    rw [htj] at hci;have Hci:=hid hci;have Htj:=hid htj;clear hci ho2 htk htj;go_wp2_with fail
    have q0:=((Ext.refl wr).drew).cell q0;have q1:=((Ext.refl wr).drew).cell q1;have hc0:=((Ext.refl wr).drew).cell hc0;have HX:=hid (Ext.refl wr).drew;go_region_held3 (fun w'=>Ext wr w'∧w'.cell? ⟨w.heap.size,0,none⟩=some (.slice ap p.length cp)∧w'.cell? ⟨w.heap.size,1,none⟩=some (.slice an n cn)∧w'.cell? ⟨b,off,none⟩=some (.int .i64 x0))
     (first | (with_reducible assumption) | exact ⟨(Ext.refl wr).drew,q0,q1,hc0⟩)
     (first
      | (go_at_call 35;refine (Hnk.out _ (HE0.out.trans (Hx1.out.trans HX.out))).mono ?_;rintro e w2 ⟨g1,rfl,ho,hx⟩;have HO:=hid ho.rd;have hS3:Ext wr w2∧w2.cell? ⟨w.heap.size,0,none⟩=some (.slice ap p.length cp)∧w2.cell? ⟨w.heap.size,1,none⟩=some (.slice an n cn)∧w2.cell? ⟨b,off,none⟩=some (.int .i64 x0):=⟨HX.out.trans hx,hx.cell q0,hx.cell q1,hx.cell hc0⟩;have HX:=hid (HX.out.trans hx);clear ho hx))
    all_goals
     clear hS3 q0 q1 hc0 z0 z1 k0 k1;have hX2:=Hx1.out.trans HX.out;have q0:=(B1.out.ext hX2).c0;have q1:=(B1.out.ext hX2).c1;have HX2:=hid hX2;clear hX2;go_wp2_with fail
     refine (Hcp.out w2 (HE0.out.trans HX2.out)).mono ?_;rintro e w6 ⟨u6,rfl,ho6,hx6⟩;obtain ⟨a6,c6,rfl⟩:=zfj ho6;have Hx6:=hid (HX2.out.trans hx6);have Ho6:=hid (zan ho6 (HE0.out.trans HX2.out).size);have Ho16:=hid (hx6.rd HO.out);clear ho6 hx6 q0 q1;have Hb7:=hid (zic.new 28 w6 (.slice a6 p.length c6) (.slice none 0 0));have H6x:Hid (Ext w6 (w6.alloc (.cells #[.slice a6 p.length c6,.slice none 0 0] 28))):=hid ((Ext.refl w6).alloc _);go_upto_region 18 with (fail)
     have hwx:IntKind.i64.wrap (x0+(n:Int))=x0+(n:Int):=IntWalk.i64_in _ (by omega);have hB7:=Hb7.out;have hE7:=H6x.out;generalize hW7:w6.alloc (.cells #[.slice a6 p.length c6,.slice none 0 0] 28)=W7 at *;have hE67:=Hx6.out.trans hE7;have q0:=(B1.out.ext hE67.drew).c0;have q1:=(B1.out.ext hE67.drew).c1;have hwE7:=HE0.out.trans hE67;obtain ⟨b0',off0',e0',hc0'⟩:=Hlat.out W7.drew hwE7.drew 0 (by omega)
     cases e0'
     rw [Hlx.out,List.getElem?_cons_zero,Option.getD_some,Nat.add_zero] at hc0';have hm3:j+1≤maxLen:=(by unfold maxLen;omega);have hm4:(j+1) * 8≤140737488355328:=(by omega);have HE67:=hid hE67;have HwE7:=hid hwE7;have HB7:=hid hB7;have HE7:=hid hE7;have HV:=hid (Ext.refl W7).drew;clear hB7 hE7 hE67 hwE7 Hb7 H6x;go_cut [83,84,85] from 72 to 86 (fun v83 v84 v85 wx=>znj W7 j (t0++[x0+(n:Int)]) v83 v84 v85 wx)
     case first =>
      go_region_law (first
      | (go_simp;go_at_call 37;refine (Hci.out _ HwE7.out.drew).mono ?_;rintro e V1 ⟨uc,rfl,hoc,hnc,hx⟩;have hoc':=hoc;unfold zfi at hoc';rw [Htj.out] at hoc';obtain ⟨ac,cc,rfl⟩:=zfj hoc';have q0:=hx.cell q0;have q1:=hx.cell q1;have hc0':=hx.cell hc0';have Hoc:=hid hoc';have Hfirst:=hid hx;have HV1:=hid (HV.out.trans hx);clear hoc hoc' hx hnc)
      | (go_simp;go_at_call 37;refine (Hci.out _ (HwE7.out.drew.alloc _)).mono ?_;rintro e V1 ⟨uc,rfl,hoc,hnc,hx⟩;have hoc':=hoc;unfold zfi at hoc';rw [Htj.out] at hoc';obtain ⟨ac,cc,rfl⟩:=zfj hoc';have Hoc:=hid hoc';have Hsecond:=hid hx;have HV1:=hid ((HV.out.alloc _).trans hx);clear hoc hoc' hx hnc)
      | (have _t:=Hfirst;refine step_append_lies _ rfl (.tmp 74) (.tmp 82) 24 rfl W7.heap.size 3 i0 (.int .i64 0) 1 8 Tryz.underlying24 hi hz0 hz1 hz2 rfl (by decide) (.slice ac j cc) j (zaq t0) rfl ((zan Hoc.out (Nat.le_refl _)).alloc _) ⟨V1.heap.size,0,none⟩ 1 1 [.int .i64 (x0+(n:Int))] rfl rfl (cell_one_new V1 _ _) (by simp [Value.oneCell']) (by decide) hm3 hm4 (HV1.out.alloc (.cells #[.int .i64 (x0+(n:Int))] 3)).size _ rfl ?_;intro g3 c3 V2 hown3 hgrow3 hat3 hlt3;have HV2:=hid ((HV1.out.alloc (.cells #[.int .i64 (x0+(n:Int))] 3)).grown hgrow3 fun k hk=>(World.ownsRow.lt ((zan Hoc.out (Nat.le_refl _)).alloc (.cells #[.int .i64 (x0+(n:Int))] 3)) k hk).1);have Hown3:=hid hown3;clear hown3 hgrow3 hat3 hlt3)
      | (have _t:=Hsecond;refine step_append_lies _ rfl (.tmp 74) (.tmp 82) 24 rfl W7.heap.size 3 i0 (.int .i64 0) 1 8 Tryz.underlying24 hi hz0 hz1 hz2 rfl (by decide) (.slice ac j cc) j (zaq t0) rfl (zan Hoc.out (by rw [World.size_alloc];exact Nat.le_succ _)) ⟨W7.drew.heap.size,0,none⟩ 1 1 [.int .i64 (x0+(n:Int))] rfl rfl (fun j u h=>Hsecond.out.cell (cell_one_new W7.drew _ _ j u h)) (by simp [Value.oneCell']) (by decide) hm3 hm4 HV1.out.size _ rfl ?_;intro g3 c3 V2 hown3 hgrow3 hat3 hlt3;have HV2:=hid (HV1.out.grown hgrow3 fun k hk=>(World.ownsRow.lt (zan Hoc.out (by rw [World.size_alloc];exact Nat.le_succ _)) k hk).1);have Hown3:=hid hown3;clear hown3 hgrow3 hat3 hlt3))
      all_goals
      have Hfin3:Hid (znj W7 j (t0++[x0+(n:Int)]) (.slice (some ⟨g3,0,none⟩) (j+1) c3) (.int .i64 ((j:Int)+1)) (.int .i64 0) V2):=hid ⟨g3,c3,rfl,rfl,rfl,(by unfold zaq at *;rw [List.map_append];exact Hown3.out),HV2.out⟩;go_wp2_with fail
      go_meet
      exact Hfin3.out
     case rest =>
      obtain ⟨g3,c3,rfl,rfl,rfl,hown3,hV2⟩:=hcut;obtain ⟨wa,hwa⟩:∃ wa,wa=wr:=⟨_,rfl⟩;subst hwa;have hK:zlb p (rs.map Qw.x) l=(t0++[x0+(n:Int)]).map fun k=>zex (nt p (rs.map Qw.x) k) (nt p (rs.map Qw.x) x0):=by
       rw [Hlx.out];unfold zlb zla;rw [List.length_map,Hn.out];rfl
      have hKl:(t0++[x0+(n:Int)]).length=j+1:=(by rw [List.length_append,Htj.out];rfl);have hKb:∀ i,i<j+1→∃ z,(t0++[x0+(n:Int)])[i]?=some z∧-1000≤z∧z≤1000:=fun i hi=>by
       refine ⟨_,List.getElem?_eq_getElem (by rw [hKl];exact hi),?_⟩;have hm:=List.getElem_mem (l:=t0++[x0+(n:Int)]) (n:=i) (by rw [hKl];exact hi);generalize (t0++[x0+(n:Int)])[i]'(by rw [hKl];exact hi)=z at hm ⊢;rcases List.mem_append.1 hm with e | e
       ·have:=Hin.out z (by rw [Hlx.out];exact List.mem_cons_of_mem _ e);omega
       ·rw [List.mem_singleton] at e;omega
      have hKt:∀ i z,(t0++[x0+(n:Int)])[i]?=some z→((t0++[x0+(n:Int)]).map fun k=>zex (nt p (rs.map Qw.x) k) (nt p (rs.map Qw.x) x0)).take (i+1)=((t0++[x0+(n:Int)]).map fun k=>zex (nt p (rs.map Qw.x) k) (nt p (rs.map Qw.x) x0)).take i++[zex (nt p (rs.map Qw.x) z) (nt p (rs.map Qw.x) x0)]:=fun i z hz=>by
       obtain ⟨hi,e⟩:=List.getElem?_eq_some_iff.1 hz;rw [List.take_succ_eq_append_getElem (by rw [List.length_map];exact hi),List.getElem_map,e]
      have hKf:((t0++[x0+(n:Int)]).map fun k=>zex (nt p (rs.map Qw.x) k) (nt p (rs.map Qw.x) x0)).take (j+1)=zlb p (rs.map Qw.x) l:=(by rw [hK];exact List.take_of_length_le (by rw [List.length_map,hKl];exact Nat.le_refl _));have hKn:((t0++[x0+(n:Int)]).map fun k=>zex (nt p (rs.map Qw.x) k) (nt p (rs.map Qw.x) x0)).length=j+1:=(by rw [List.length_map,hKl]);have hx01:-1000≤x0∧x0≤1000:=(by omega);generalize (t0++[x0+(n:Int)]).map (fun k=>zex (nt p (rs.map Qw.x) k) (nt p (rs.map Qw.x) x0))=FS at *;generalize t0++[x0+(n:Int)]=KS at *;have HKb:=hid hKb;have HKt:=hid hKt;have HKf:=hid hKf;have HKl:=hid hKl;have HKn:=hid hKn;have HV2:=hid hV2;have Hown3:=hid hown3;have HE6w:=hid (HE7.out.trans hV2);have HBn:=hid (HB7.out.ext hV2);clear hK hKl hKb hKt hKf hKn hV2 hown3 hx0b hc0 hwx hm3 hm4;go_wp2_with fail
      go_loopw [13,14,15,85] (fun v13 v14 v15 v85 wr=>∃ i:Nat,v85=.int .i64 i∧i≤j+1∧NtR w6.heap.size w6 w6.heap.size (.slice a6 p.length c6) (FS.take i) wr∧Hid (wr.ownsRow W7.heap.size 3 1 (.slice (some ⟨g3,0,none⟩) (j+1) c3) (j+1) (zaq KS))) (fun _ _ _ v85 _=>j+1 - (zam v85).toNat)
      case atStart=>exact ⟨0,rfl,Nat.zero_le _,⟨.slice none 0 0,[],HBn.out,QwM.nil _ _ _,rfl,HE6w.out⟩,Hown3⟩
      case round =>
       obtain ⟨i,rfl,hi,⟨vn,nts,hbn,hqn,hmn,hEn⟩,Hrow⟩:=hrel;have hE6:=Hx6.out.trans hEn;have hEw:=HE0.out.trans hE6;have q0:=(B1.out.ext hE6).c0;have q1:=(B1.out.ext hE6).c1;by_cases hin:i<j+1
       ·obtain ⟨z,hz,hz0,hz1⟩:=HKb.out i hin;have hcg:wr.cell? ⟨g3,i,none⟩=some (.int .i64 z):=znk Hrow.out hz;have hik:(i:Int)<(j:Int)+1:=(by omega);have hi0:(0:Int)≤(i:Int):=(by omega);have hnk:=Hnt.out z hz0 hz1 wr hEw;have Hbn:=hid hbn;have Hqn:=hid hqn;have Hmn:=hid hmn;have HEn:=hid hEn;have HE6:=hid hE6;have HEw:=hid hEw;have Hnk:=hid hnk;have Hz:=hid hz;clear hbn hqn hmn hEn hE6 hEw hnk hz;go_wp2_with fail
        refine Hnk.out.mono ?_;rintro e w8 ⟨g8,rfl,ho8,hx8⟩;have q0:=hx8.cell q0;have q1:=hx8.cell q1;have hsk:=Hsb.out z x0 hz0 hz1 hx01.1 hx01.2 w8 _ _ (HEw.out.trans hx8) ho8.rd ((HEn.out.trans hx8).rd Ho16.out);have Hsk:=hid hsk;have Hx8:=hid hx8;clear hsk hx8 ho8 hcg;go_wp2_with fail
        refine Hsk.out.mono ?_;rintro e w9 ⟨g9,rfl,ho9,hx9⟩;have hx89:=Hx8.out.trans hx9;obtain ⟨avn,cvn,rfl⟩:=zfj Hqn.out.1;have hnl:nts.length=i:=by
         have:=congrArg List.length Hmn.out;rw [List.length_map,List.length_take,HKn.out] at this;omega
        have hbk:=Hbn.out.ext hx89;rw [hnl] at hbk;have hqk:=hx89.qwM Hqn.out;rw [hnl] at hqk;have hqo:=hx89.own Hqn.out.1;rw [hnl] at hqo;have hEk:=HEn.out.trans hx89;have hbase:=hEk.size;have hok:=ho9.mono (HEn.out.trans Hx8.out).size;have hrk:=hx89.own Hrow.out;have hrkal:=World.ownsRow.alloc hrk (.cells #[.slice (some ⟨g9,0,none⟩) p.length p.length] 41);have hrkne:=zfm hrkal (hqo.alloc (.cells #[.slice (some ⟨g9,0,none⟩) p.length p.length] 41)) (by decide);have Hrkal:=hid hrkal;have Hrkne:=hid hrkne;clear hrkal hrkne;have hm3:i+1≤maxLen:=(by unfold maxLen;omega);have hm4:(i+1) * 24≤140737488355328:=(by omega);have r1:=hbk.c1;have Hbk:=hid hbk;have Hqk:=hid hqk;have Hnl:=hid hnl;have HEk:=hid hEk;have Hok:=hid hok;have Hrk:=hid hrk;clear hbk hqk hnl hEk hok hx89 ho9 hx9 q0 q1 hrk Hrow;go_wp2_with (at_builtin;go_loud (refine wpList_append_own _ rfl _ _ 26 rfl w6.heap.size 41 j0 (.slice none 0 0) 1 24 Tryz.underlying26 hj hy0 hy1 hy2 rfl (by decide) _ _ _ rfl (hqo.alloc _) ⟨w9.heap.size,0,none⟩ 1 1 [.slice (some ⟨g9,0,none⟩) p.length p.length] rfl rfl (cell_one_new _ _ _) (by simp [Value.oneCell']) hm3 hm4 (by rw [World.size_alloc];omega) ?_;intro v7 V7 hown7 hgrow7 _;have hbV:zic 28 V7 w6.heap.size (.slice a6 p.length c6) (.slice avn i cvn):=zga (((Ext.refl w9).alloc _).heap Hbk.out) (hqo.alloc (.cells #[.slice (some ⟨g9,0,none⟩) p.length p.length] 41)) (by decide) hgrow7;have d1:=hbV.c1;have e1:=hbV.fz 1;have Hrow7:=hid (World.ownsRow.kept Hrkal.out hgrow7 Hrkne.out);have Hbv7:=hid hbV;obtain ⟨a7,c7,rfl⟩:=zfj hown7))
        have hR:=NtR.more (W6:=w6) (W:=w9) (v7:=.slice a7 (i+1) c7) (Nat.le_refl _) Hbk.out Hqk.out Hmn.out HEk.out Hok.out (by rw [Hnl.out];exact hown7) hgrow7;rw [← HKt.out i z Hz.out] at hR;have hRr:=zgd Hbv7.out Hrow7.out (by decide) 1 (.slice a7 (i+1) c7);have HR:=hid hR;have HRr:=hid hRr;clear hR hRr d1 e1 r1 hgrow7 hown7 hbV Hrow7 Hbv7;generalize V7.setCell ⟨w6.heap.size,1,none⟩ (.slice a7 (i+1) c7)=V2 at *;go_roundw
        case rel=>exact ⟨i+1,by go_num,by omega,HR.out,HRr⟩
        case measure=>simp [zam];omega
       ·obtain rfl:i=j+1:=by omega
        have hik:¬ ((j+1:Nat):Int)<(j:Int)+1:=(by omega);have hmn2:=hmn.trans HKf.out;obtain ⟨avn,cvn,rfl⟩:=zfj hqn.1;have r0:=hbn.c0;have r1:=hbn.c1;have hbr:=B2.out.ext hE6;have hKk:K0 28 w wr (w.heap.size+1):=⟨hEw,_,_,hbr⟩;have k0:=hKk.res.c0;have k1:=hKk.res.c1;have z0:=hKk.res.fz 0;have z1:=hKk.res.fz 1;have hfin:=hKk.fin (by omega) (.slice a6 p.length c6) (.slice avn nts.length cvn);have hq4:=(hqn.set hbr 0 (.slice a6 p.length c6)).set (zic.put0 hbr (.slice a6 p.length c6)) 1 (.slice avn nts.length cvn);have ho4:=zgd (zic.put0 hbr (.slice a6 p.length c6)) (zgd hbr (hEn.own Ho6.out) (by decide) 0 (.slice a6 p.length c6)) (by decide) 1 (.slice avn nts.length cvn);have hlo:=(HE0.out.trans Hx6.out).size;have Hfin:=hid hfin;have Hq4:=hid hq4;have Ho4:=hid ho4;have Hmn2:=hid hmn2;clear hfin hq4 ho4 hmn2 hKk hbr hqn hbn hmn hEn hE6 hEw;go_wp2_with fail
        obtain ⟨hb5,hx5⟩:=Hfin.out;have hd0:=hb5.c0;have hd1:=hb5.c1;exact bodyPost_ret (v:=.tuple #[.agg #[.slice a6 p.length c6,.slice avn nts.length cvn],.int .i64 0]) (by simp [results,Tryz.results8,go_sem,hd0,hd1]) rfl ⟨_,by rw [Hec.out],fun h=>absurd Hec.out h,fun _=>⟨nts,⟨_,_,rfl,Ho4.out,Hq4.out.mono hlo hlo⟩,Hmn2.out⟩,hx5⟩
end
end Go.Proofs.YtebabancfnmfjaaGreatDoor
