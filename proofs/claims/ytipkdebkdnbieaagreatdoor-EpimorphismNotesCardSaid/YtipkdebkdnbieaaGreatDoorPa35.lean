/- Walk: law 37's intervals. (KEEPALL) Walk: law 37's Make. (KEEPALL) Walk: scale.Check of a right scale. -/
import Derived.Test.YtipkdebkdnbieaaGreatDoorPa31
import Derived.Test.YtipkdebkdnbieaaGreatDoorPa33
import Derived.Test.YtipkdebkdnbieaaGreatDoorPa21
import Derived.Test.YtipkdebkdnbieaaGreatDoorPa17
set_option maxRecDepth 100000
set_option maxHeartbeats 4000000
namespace Go.Proofs.YtipkdebkdnbieaaGreatDoor
section
open Go.RowKit Go.Lib Go.Shelf
abbrev Q4:=Int × Int × Int × Int
def q4l (e:Q4):List Int:=[e.1,e.2.1,e.2.2.1,e.2.2.2]
def QIn (w:World)(am:Option Addr)(Q:List Q4):Prop:=∀ i e,Q[i]?=some e→∃ bb off,am=some ⟨bb,off,none⟩∧w.cell? ⟨bb,off+i * 4,none⟩=some (.int .i8 e.1)∧w.cell? ⟨bb,off+i * 4+1,none⟩=some (.int .i8 e.2.1)∧w.cell? ⟨bb,off+i * 4+2,none⟩=some (.int .i8 e.2.2.1)∧w.cell? ⟨bb,off+i * 4+3,none⟩=some (.int .i8 e.2.2.2)
theorem QIn.ext {w W:World}{am:Option Addr}{Q:List Q4}(h:QIn w am Q)(hx:Ext w W):QIn W am Q:=fun i e he=>by
 obtain ⟨b,o,h1,h2,h3,h4,h5⟩:=h i e he;exact ⟨b,o,h1,hx.cell h2,hx.cell h3,hx.cell h4,hx.cell h5⟩
def zry (Q:List Q4):Prop:=∀ e∈Q,∀ z∈q4l e,-128≤z∧z≤127
def ivs (n:Nat)(Q:List Q4):List (List Int):=Q.map fun e=>ivl n (q4l e)
theorem zrz {p:List Int}(e:Q4):Iv p (ivl p.length (q4l e))∧-9≤zas (ivl p.length (q4l e)) 0∧zas (ivl p.length (q4l e)) 0≤9:=by
 have hb:∀ i,-9≤zas (ivl p.length (q4l e)) i∧zas (ivl p.length (q4l e)) i≤9:=fun i=>by
  unfold zas;rw [List.getD_eq_getElem?_getD]
  cases h:(ivl p.length (q4l e))[i]? with
  | none=>simp
  | some z =>
   have hm:=List.mem_of_getElem? h
   unfold ivl at hm
   obtain ⟨k,_,rfl⟩:=List.mem_map.1 hm
   exact zhn _
 exact ⟨⟨zhm _ _,fun i _=>by have:=hb i;omega⟩,(hb 0).1,(hb 0).2⟩
theorem zr0 (vp:Value)(am:Option Addr)(cm m:Nat)(p:List Int)(Q:List Q4)(w:World)(hp:Sl w vp (zap p))(hl:p.length≤4)(hQ:QIn w am Q)(hm:Q.length=m)(h8:m≤8)(hb:zry Q) :
  Calls Tryz.prog 31 #[vp,.slice am m cm] w fun e w'=>∃ v,e=.returned v∧∃ rs,RwM w' w.heap.size w.heap.size v rs∧rs.map Rw.x=ivs p.length Q∧Ext w w':=by
 obtain ⟨j0,hj,hy0,hy1,hy2⟩:=info_parts zns;have hiv:=fun e (he:e∈Q) W (hE:Ext w W)=>zhp vp p e.1 e.2.1 e.2.2.1 e.2.2.2 W (hE.sl hp) hl (hb e he);have hlen:=fun e:Q4=>zhm p.length (q4l e);obtain ⟨ap,cp,rfl,_,_,_⟩:=hp.parts;rw [zar] at *;have Hiv:=hid hiv;have HQ:=hid hQ;have Hm:=hid hm;have Hlen:=hid hlen;clear hiv hQ hm hlen;clear hp hb;go_enter Tryz.func31,Tryz.ntmps31
 go_wp2_with fail
 go_loopw [5,6] (fun v5 v6 wr=>∃ (i:Nat)(rs:List Rw),v6=.int .i64 i∧i≤m∧Hid (RwM wr w.heap.size w.heap.size v5 rs)∧Hid (rs.map Rw.x=ivs p.length (Q.take i))∧Hid (Ext w wr)) (fun _ v6 _=>m - (zal v6).toNat)
 case atStart=>exact ⟨0,[],rfl,Nat.zero_le _,hid ⟨World.ownsRow_nil _ _ _ 1,fun r h=>by cases h⟩,hid rfl,hid (Ext.refl _)⟩
 case round =>
  obtain ⟨i,rs,rfl,him,HR,HM,HE⟩:=hrel;have hrl:rs.length=i:=by
   have h:=congrArg List.length HM.out;unfold ivs at h;rw [List.length_map,List.length_map,List.length_take,Hm.out] at h;omega
  obtain ⟨a5,c5,e5⟩:=zc3 HR.out.1;subst e5;by_cases hin:i<m
  ·obtain ⟨e,he⟩:∃ e,Q[i]?=some e:=⟨_,List.getElem?_eq_getElem (by rw [Hm.out];exact hin)⟩;obtain ⟨bb,off,rfl,g0,g1,g2,g3⟩:=HQ.out i e he;have k0:=HE.out.cell g0;have k1:=HE.out.cell g1;have k2:=HE.out.cell g2;have k3:=HE.out.cell g3;have h1:=Hiv.out e (List.mem_of_getElem? he) wr HE.out;have hll:=Hlen.out e;have htk:ivs p.length (Q.take (i+1))=ivs p.length (Q.take i)++[ivl p.length (q4l e)]:=by
    obtain ⟨q1,q2⟩:=List.getElem?_eq_some_iff.1 he;unfold ivs;rw [List.take_succ_eq_append_getElem q1,q2,List.map_append];rfl
   have hi8:decide ((i:Int)<8)=true:=decide_eq_true (by omega);have hi9:(i:Int)<8:=(by omega);have hi1:(0:Int)≤(i:Int):=(by omega);have hi2:(i:Int)<(m:Int):=(by omega);unfold q4l at hll htk;generalize e.1=z0 at *;generalize e.2.1=z1 at *;generalize e.2.2.1=z2 at *;generalize e.2.2.2=z3 at *;have Hrl:=hid hrl;have H1:=hid h1;have Hll:=hid hll;have Htk:=hid htk;clear h1 hll htk;clear he g0 g1 g2 g3 hrl;go_wp2_with fail
   refine H1.out.mono ?_;rintro e9 w5 ⟨v,rfl,ho,hx5⟩;have hs9:∃ a c,v=.slice a p.length c:=by
    obtain ⟨a,c,e⟩:=zc3 ho;rw [Hll.out] at e;exact ⟨a,c,e⟩
   obtain ⟨a9,c9,rfl⟩:=hs9;have HR5:=hid (HR.out.ext hx5);have Ho5:=hid (zam ho HE.out.size);have HE5:=hid (HE.out.trans hx5);have hqo:=HR5.out.1;have hm3:rs.length+1≤maxLen:=(by rw [Hrl.out];unfold maxLen;omega);have hm4:(rs.length+1) * 24≤140737488355328:=(by rw [Hrl.out];omega);have hbase:=HE5.out.size;clear ho hx5 k0 k1 k2 k3;go_wp2_with (at_builtin;refine wpList_append_own _ rfl _ _ 29 rfl w.heap.size 33 j0 (.slice none 0 0) 1 24 Tryz.underlying29 hj hy0 hy1 hy2 rfl (by decide) _ _ _ rfl (hqo.alloc _) ⟨w5.heap.size,0,none⟩ 1 1 [.slice a9 p.length c9] rfl rfl (cell_one_new _ _ _) (by simp [Value.oneCell']) hm3 hm4 (by rw [World.size_alloc];omega) ?_;intro v7 V7 hown7 hgrow7 _)
   go_roundw
   case rel =>
    have hmo:=HR5.out.more (r:=⟨ivl p.length [z0,z1,z2,z3],.slice a9 p.length c9,rfl⟩) ⟨Ho5.out,by show (ivl p.length [z0,z1,z2,z3]).length≤1000000;rw [Hll.out];omega⟩ hown7 hgrow7;exact ⟨i+1,rs++[⟨ivl p.length [z0,z1,z2,z3],.slice a9 p.length c9,rfl⟩],by go_num,hin,hid hmo,hid (by rw [Htk.out,List.map_append,HM.out];rfl),hid ((HE5.out.alloc _).grown hgrow7 fun q hq=>(World.ownsRow.lt hqo q hq).1)⟩
   case measure=>simp [zal];omega
  ·have him2:i=m:=(by omega);have hni:¬ (i:Int)<(m:Int):=(by omega);have hM:=HM.out;rw [him2,← Hm.out,List.take_length] at hM;have HM2:=hid hM;clear hM him2 hrl;go_wp2
   go_ret
   exact ⟨_,rfl,rs,HR.out,HM2.out,HE.out⟩
theorem zr1 (b k:Nat)(hb:b<256):(bits .and .u8 ((b:Int) / 2 ^ k) 1 == 0)=!b.testBit k:=by
 have e:((b:Int) / 2 ^ k)=((b / 2 ^ k:Nat):Int):=by
  rw [Int.natCast_ediv,Int.natCast_pow];rfl
 have hlt:b / 2 ^ k≤b:=Nat.div_le_self _ _;have h1:(BitVec.ofInt 8 ((b / 2 ^ k:Nat):Int)).toNat=b / 2 ^ k:=by
  rw [BitVec.ofInt_natCast,BitVec.toNat_ofNat];exact Nat.mod_eq_of_lt (by omega)
 have h2:(BitVec.ofInt 8 (1:Int)).toNat=1:=by decide
 have h3:bits .and .u8 ((b:Int) / 2 ^ k) 1=((b / 2 ^ k % 2:Nat):Int):=by
  rw [e];show IntKind.u8.wrap ((BitVec.ofInt 8 ((b / 2 ^ k:Nat):Int) &&& BitVec.ofInt 8 (1:Int)).toNat:Int)=_;rw [BitVec.toNat_and,h1,h2,Nat.and_one_is_mod];have:b / 2 ^ k % 2<2:=Nat.mod_lt _ (by omega);generalize b / 2 ^ k % 2=z at *;have:z=0∨z=1:=by omega
  rcases this with rfl | rfl <;> decide
 rw [h3,Nat.testBit_eq_decide_div_mod_eq,Bool.eq_iff_iff,beq_iff_eq,Bool.not_eq_true',decide_eq_false_iff_not];omega
def zr2 (o k:Nat):List (List Int):=((List.range k).filter fun i=>i == 6 || !o.testBit i).map fun i=>zjo.getD i []
theorem zr3 (o k:Nat):zr2 o (k+1)=zr2 o k++if (k == 6 || !o.testBit k)=true then [zjo.getD k []] else []:=by
 unfold zr2;rw [List.range_succ,List.filter_append,List.map_append];congr 1;by_cases h:(k == 6 || !o.testBit k)=true
 ·rw [if_pos h,List.filter_cons_of_pos (p:=fun i=>i == 6 || !o.testBit i) h];rfl
 ·rw [if_neg h,List.filter_cons_of_neg (p:=fun i=>i == 6 || !o.testBit i) h];rfl
theorem zr4 (o k:Nat):(zr2 o k).length≤k:=by
 unfold zr2;rw [List.length_map];exact Nat.le_trans (List.length_filter_le _ _) (by rw [List.length_range];exact Nat.le_refl _)
theorem zr5 : ∀ o,o<256→zhf [2,3,5] (zr2 o 7)=0:=by decide +kernel
theorem zr6 : ∀ o,o<256→(zr2 o 7).getD ((zr2 o 7).length - 1) []=zhN ([2,3,5]:List Int).length:=by decide +kernel
theorem zr7 (o:Nat):0<(zr2 o 7).length:=by
 rw [show (7:Nat)=6+1 from rfl,zr3,if_pos (by rfl),List.length_append];exact Nat.lt_of_lt_of_le Nat.one_pos (Nat.le_add_left _ _)
theorem zr8 : zh9 [2,3,5]:=by
 have h:let p:List Int:=[2,3,5];zcw p=0∧(0<p.length∧p.length≤4)∧(∀ i,i<p.length→2≤(zas p i).toNat)∧(∀ i,i<p.length→∀ j,j<i→Nat.gcd (zas p i).toNat (zas p j).toNat=1)∧prN p (fun i=>if i=0 then 0 else 9) p.length<(zas p 0).toNat ^ 100:=by decide +kernel
 obtain ⟨h1,h2,h3,h4,h5⟩:=h;exact ⟨h1,h2,h3,fun i j hi hj=>h4 i hi j hj,h5⟩
structure MjS (w0:World)(rs:List Rw)(v:Value)(wr:World):Prop where
 o:wr.ownsRow w0.heap.size 33 1 v rs.length (rwc rs)
 r:∀ r∈rs,Sl w0 r.u (zap r.x)
 x:Ext w0 wr
section
variable {w0 wr V : World} {v : Value} {rs : List Rw}
theorem MjS.ext (h:MjS w0 rs v wr)(hx:Ext wr V):MjS w0 rs v V:=⟨hx.own h.o,h.r,h.x.trans hx⟩
theorem MjS.nil (w:World):MjS w [] (.slice none 0 0) w:=by
 refine ⟨World.ownsRow_nil _ _ _ 1,fun r h=>?_,Ext.refl _⟩
 cases h
theorem MjS.more {v9:Value}(h:MjS w0 rs v wr)(r:Rw)(hr:Sl w0 r.u (zap r.x))(ho:V.ownsRow w0.heap.size 33 1 v9 (rs.length+1) (rwc rs++[r.u]))(hE:Ext w0 V):MjS w0 (rs++[r]) v9 V:=by
 refine ⟨?_,fun q hq=>?_,hE⟩
 ·unfold rwc at *;rw [List.length_append,List.map_append];exact ho
 ·rcases List.mem_append.1 hq with g | g
  ·exact h.r q g
  ·rw [List.mem_singleton.1 g];exact hr
theorem MjS.mat (h:MjS w0 rs v wr):Mat wr v (rs.map Rw.x):=by
 refine ⟨rwc rs,by simp [rwc],zan h.o,fun i u hu=>?_⟩;unfold rwc at hu;rw [List.getElem?_map] at hu
 cases hr:rs[i]? with
 | none=>rw [hr] at hu;cases hu
 | some r =>
  rw [hr] at hu
  obtain rfl:=Option.some.inj hu
  rw [List.getD_eq_getElem?_getD,List.getElem?_map,hr]
  exact h.x.sl (h.r r (List.mem_of_getElem? hr))
end
theorem Sl.apart {T:TypeId}{w W:World}{b:Nat}{v x y:Value}{xs:List Value}(h:Sl w v xs)(hb:zmh T w b x y)(hx:∀ u∈xs,u ≠ x∧u ≠ y)(hW:∀ c,c ≠ b→W.heap[c]?=w.heap[c]?):Sl W v xs:=by
 rcases h with h | ⟨c,off,cap,e,h1,h2,h3⟩
 ·exact .inl h
 ·refine .inr ⟨c,off,cap,e,h1,h2,fun i u hu=>?_⟩;have hc:=h3 i u hu;have hne:c ≠ b:=fun e=>by
   subst e;unfold zmh at hb;unfold World.cell? at hc;dsimp only at hc;rw [hb] at hc;have hxu:=hx u (List.mem_of_getElem? hu);generalize off+i=z at hc;match z,hc with
   | 0,hc=>exact hxu.1 (Option.some.inj hc).symm
   | 1,hc=>exact hxu.2 (Option.some.inj hc).symm
   | z+2,hc=>simp at hc
  unfold World.cell? at hc ⊢;dsimp only at hc ⊢;rw [hW c hne];exact hc
theorem zr9 (l:List Int)(a b:Option Addr)(n c m d:Nat):∀ u∈zap l,u ≠ .slice a n c∧u ≠ .slice b m d:=fun u hu=>by
 unfold zap at hu;obtain ⟨z,_,rfl⟩:=List.mem_map.1 hu;exact ⟨(by intro h;cases h),(by intro h;cases h)⟩
theorem zrA {w:World}{u:Value}{x:List Int}(h:Sl w u (zap x))(hx:0<x.length):u ≠ .slice none 0 0:=by
 rcases h with ⟨_,_,_,_,h⟩ | ⟨b,off,cap,rfl,_,_,_⟩
 ·have:=congrArg List.length h;rw [zar] at this;simp only [List.length_nil] at this;omega
 ·rw [zar];intro h
  cases h
theorem Mat.apart {T:TypeId}{w W:World}{b:Nat}{v:Value}{l:List (List Int)}(h:Mat w v l)(hl:∀ x∈l,0<x.length)(hb:zmh T w b (.slice none 0 0) (.slice none 0 0))(hW:∀ c,c ≠ b→W.heap[c]?=w.heap[c]?):Mat W v l:=by
 obtain ⟨vs,hv,hs,hr⟩:=h;have hz:∀ i u,vs[i]?=some u→0<(l.getD i []).length:=fun i u hu=>by
  have hi:=(List.getElem?_eq_some_iff.1 hu).1;rw [hv] at hi;rw [List.getD_eq_getElem?_getD,List.getElem?_eq_getElem hi];exact hl _ (List.getElem_mem _)
 refine ⟨vs,hv,hs.apart hb (fun u hu=>?_) hW,fun i u hu=>(hr i u hu).apart hb (zr9 _ _ _ _ _ _ _) hW⟩;obtain ⟨i,hi⟩:=List.mem_iff_getElem?.1 hu;have:=zrA (hr i u hi) (hz i u hi);exact ⟨this,this⟩
theorem zrB (w:World)(b:Nat)(x y:Value):∀ c,c ≠ b→((w.setCell ⟨b,0,none⟩ x).setCell ⟨b,1,none⟩ y).heap[c]?=w.heap[c]?:=fun c h=>by
 rw [heap_setCell_other _ ⟨b,1,none⟩ c _ h,heap_setCell_other _ ⟨b,0,none⟩ c _ h]
theorem MjS.set {T:TypeId}{w0 wr:World}{b n m c d:Nat}{v:Value}{a1 a2:Option Addr}{rs:List Rw}(h:MjS w0 rs v wr)(hb:zmh T wr b (.slice a1 n c) (.slice a2 m d))(hne:T ≠ 33)(z:Value):Mat (wr.setCell ⟨b,1,none⟩ z) v (rs.map Rw.x):=by
 have ho:=zfA hb h.o hne 1 z;refine ⟨rwc rs,by simp [rwc],zan ho,fun i u hu=>?_⟩;unfold rwc at hu;rw [List.getElem?_map] at hu
 cases hr:rs[i]? with
 | none=>rw [hr] at hu;cases hu
 | some r =>
  rw [hr] at hu
  obtain rfl:=Option.some.inj hu
  rw [List.getD_eq_getElem?_getD,List.getElem?_map,hr]
  exact (h.x.sl (h.r r (List.mem_of_getElem? hr))).apart hb (zr9 _ _ _ _ _ _ _) fun c hc=>heap_setCell_other wr ⟨b,1,none⟩ c z hc
def zrC (p:List Int)(rs:List (List Int)):Prop:=∀ x∈rs,x.length=p.length∧(∀ i,-200≤zas x i∧zas x i≤200)∧Tl9 x∧(-100≤zas x 0∧zas x 0≤101)
theorem zrD (o k:Nat)(h7:k≤7):zrC [2,3,5] (zr2 o k):=fun x hx=>by
 unfold zr2 at hx;obtain ⟨j,hj,rfl⟩:=List.mem_map.1 hx;have hj:=List.mem_range.1 (List.mem_filter.1 hj).1;have h:∀ j,j<7→(zjo.getD j []).length=3∧∀ i,i<3→-9≤zas (zjo.getD j []) i∧zas (zjo.getD j []) i≤9:=by decide
 obtain ⟨h1,h2⟩:=h j (by omega);have h3:∀ i,-9≤zas (zjo.getD j []) i∧zas (zjo.getD j []) i≤9:=fun i=>by
  rcases Nat.lt_or_ge i 3 with q | q
  ·exact h2 i q
  ·generalize zjo.getD j []=y at *;unfold zas;rw [List.getD_eq_getElem?_getD,List.getElem?_eq_none (by omega)];decide
 exact ⟨h1,fun i=>(by have:=h3 i;omega),fun i _=>(by have:=h3 i;omega),(by have:=h3 0;omega)⟩
theorem zk9.rowsB {p:List Int}{rs:List (List Int)}(h:zk9 p rs):zrC p rs:=fun x hx=>by
 refine ⟨(h.iv x hx).len,fun i=>?_,(h.iv x hx).tl,h.bd x hx⟩;by_cases e:i=0
 ·subst e;have:=h.bd x hx;omega
 ·have:=(h.iv x hx).tl i (by omega);omega
theorem zrE (o k:Nat)(h7:k≤7):∀ x∈zr2 o k,0<x.length:=fun x hx=>by
 unfold zr2 at hx;obtain ⟨i,hi,rfl⟩:=List.mem_map.1 hx;have hi:=List.mem_range.1 (List.mem_filter.1 hi).1;have h:∀ j,j<7→0<(zjo.getD j []).length:=by decide
 exact h i (by omega)
theorem zrF (n o m cm:Nat)(M:Bool)(am:Option Addr)(Q:List Q4)(w:World)(he:Env w)(hn:n<256)(ho:o<256)(hQ:QIn w am Q)(hm:Q.length=m)(h8:m≤8)(hb:zry Q) :
  Calls Tryz.prog 8 #[.agg #[.int .u8 n,.slice am m cm,.bool M,.int .u8 o]] w fun e w'=>∃ vp vl,e=.returned (.agg #[vp,vl])∧∃ p rs,Sl w' vp (zap p)∧Mat w' vl rs∧zh9 p∧zhf p rs=0∧0<rs.length∧rs.length≤9∧zrC p rs∧(∃ r,p=zhj (zhr r))∧rs.getD (rs.length - 1) []=zhN p.length∧Ext w w':=by
 obtain ⟨j0,hj,hy0,hy1,hy2⟩:=info_parts zns;have hma:=fun W=>zqz W;have hep:=zr5 o ho;have hp0:=World.alloc_heap_new w (.cells #[.int .u8 n,.slice am m cm,.bool M,.int .u8 o] 24);have hb0:=zmh.new 31 (w.alloc (.cells #[.int .u8 n,.slice am m cm,.bool M,.int .u8 o] 24)) (.slice none 0 0) (.slice none 0 0);rw [World.size_alloc] at hb0;have hXa:=(Ext.refl (w.alloc (.cells #[.int .u8 n,.slice am m cm,.bool M,.int .u8 o] 24))).alloc (.cells #[.slice none 0 0,.slice none 0 0] 31);have hX0:=((Ext.refl w).alloc (.cells #[.int .u8 n,.slice am m cm,.bool M,.int .u8 o] 24)).trans hXa;have hp1:=hXa.heap hp0;have hpl:∀ V,Ext ((w.alloc (.cells #[.int .u8 n,.slice am m cm,.bool M,.int .u8 o] 24)).alloc (.cells #[.slice none 0 0,.slice none 0 0] 31)) V→V.cell? ⟨w.heap.size,1,none⟩=some (.slice am m cm)∧V.cell? ⟨w.heap.size,3,none⟩=some (.int .u8 o):=fun V hE=>by
  have h:=hE.heap hp1;unfold World.cell?;dsimp only;rw [h];exact ⟨rfl,rfl⟩
 clear hp0 hXa hp1;have Hma:=hid hma;have Hep:=hid hep;have HX0:=hid hX0;have Hb0:=hid hb0;have Hpl:=hid hpl;clear hma hep hX0 hb0 hpl;go_enter Tryz.func8,Tryz.ntmps8
 cases M with
 | true =>
  clear hQ hm h8 hb
  go_wp2_with fail
  generalize (w.alloc (.cells #[.int .u8 n,.slice am m cm,.bool true,.int .u8 o] 24)).alloc (.cells #[.slice none 0 0,.slice none 0 0] 31)=W0 at *
  refine (Hma.out _).mono ?_
  rintro e w1 ⟨p1,b1,n1,q1,c1,m1,rfl,hp1,hm1,hx1⟩
  obtain ⟨vs,hvl,hvs,hrows⟩:=hm1
  obtain ⟨a2,cap2,e2,_,_,hcm⟩:=hvs.parts
  rw [show vs.length=7 from hvl] at e2
  rw [e2]
  have hb3:=zmh.new 31 w1 (.slice p1 b1 n1) (.slice a2 7 cap2)
  have hx3:=(Ext.refl w1).alloc (.cells #[.slice p1 b1 n1,.slice a2 7 cap2] 31)
  have hX3:=hx1.trans hx3
  have hp3:=hx3.sl hp1
  have hb2:=zmh.ext hX3 Hb0.out
  have hlt:w.heap.size+1<w1.heap.size:=(zmh.ext hx1 Hb0.out).lt
  have hcc:∀ i,i<7→∃ u bl off,a2=some ⟨bl,off,none⟩∧(w1.alloc (.cells #[.slice p1 b1 n1,.slice a2 7 cap2] 31)).cell? ⟨bl,off+i,none⟩=some u∧Sl (w1.alloc (.cells #[.slice p1 b1 n1,.slice a2 7 cap2] 31)) u (zap (zjo.getD i [])):=fun i hi=>by
   obtain ⟨u,hu⟩:∃ u,vs[i]?=some u:=⟨_,List.getElem?_eq_getElem (by rw [show vs.length=7 from hvl];exact hi)⟩;obtain ⟨bl,off,e,h⟩:=hcm i u hu;exact ⟨u,bl,off,e,hx3.cell h,hx3.sl (hrows i u hu)⟩
  have Hlt:=hid hlt
  clear hlt
  have Hb3:=hid hb3;have HX3:=hid hX3;have Hp3:=hid hp3;have Hb2:=hid hb2;have Hcc:=hid hcc;clear hb3 hX3 hp3 hb2 hcc
  clear e2 hvl hvs hrows hcm hx1 hx3 hp1 Hb0
  go_upto_region 3 with fail
  generalize w1.alloc (.cells #[.slice p1 b1 n1,.slice a2 7 cap2] 31)=W3 at *
  have hS0:=MjS.nil W3
  have HS0:=hid hS0;clear hS0
  clear Hma
  go_wp2_with fail
  go_loopw [4,5] (fun v4 v5 wr=>∃ (i:Nat)(rs:List Rw),v5=.int .i64 i∧i≤7∧Hid (MjS W3 rs v4 wr)∧Hid (rs.map Rw.x=zr2 o i)) (fun _ v5 _=>7 - (zal v5).toNat)
  case atStart=>exact ⟨0,[],rfl,Nat.zero_le _,HS0,hid rfl⟩
  case round =>
   obtain ⟨i,rs,rfl,hi7,HS,HM⟩:=hrel
   obtain ⟨a4,c4,e4⟩:=zc3 HS.out.o
   subst e4
   have hrl:rs.length≤i:=by
    have h:=congrArg List.length HM.out;rw [List.length_map] at h;have:=zr4 o i;omega
   have hbr:=zmh.ext HS.out.x Hb3.out
   have hc1:=hbr.c1
   obtain ⟨_,hc3⟩:=Hpl.out wr (HX3.out.trans HS.out.x)
   have hfz1:=hbr.fz 1
   by_cases hin:i<7
   ·obtain ⟨u,bl,off,e2,g1,g2⟩:=Hcc.out i hin
    have hcu:=HS.out.x.cell g1
    have hk1:(i:Int)<7:=by omega
    have hk2:(0:Int)≤(i:Int):=by omega
    have hbit:=zr1 o i ho
    have hsucc:=zr3 o i
    obtain ⟨au,cu,eu,_,_,_⟩:=g2.parts
    rw [zar] at eu
    subst e2 eu
    have Hg2:=hid g2
    have Hrl:=hid hrl
    clear g1 g2 hrl
    by_cases hi6:i=6
    ·subst hi6
     clear hbit
     have hm3:rs.length+1≤maxLen:=by unfold maxLen;have:=Hrl.out;omega
     have hm4:(rs.length+1) * 24≤140737488355328:=by have:=Hrl.out;omega
     have hbase:=HS.out.x.size
     go_wp2_with (at_builtin;refine wpList_append_own _ rfl _ _ 29 rfl W3.heap.size 33 j0 (.slice none 0 0) 1 24 Tryz.underlying29 hj hy0 hy1 hy2 rfl (by decide) _ _ _ rfl (HS.out.o.alloc _) ⟨wr.heap.size,0,none⟩ 1 1 [.slice au (zjo[6]?.getD []).length cu] rfl rfl (cell_one_new _ _ _) (by simp [Value.oneCell']) hm3 hm4 (by rw [World.size_alloc];omega) ?_;intro v7 V7 hown7 hgrow7 _)
     go_roundw
     case rel=>exact ⟨6+1,rs++[⟨zjo.getD 6 [],.slice au (zjo[6]?.getD []).length cu,rfl⟩],by go_num,by omega,hid (HS.out.more ⟨zjo.getD 6 [],.slice au (zjo[6]?.getD []).length cu,rfl⟩ Hg2.out hown7 ((HS.out.x.alloc _).grown hgrow7 fun q hq=>(World.ownsRow.lt HS.out.o q hq).1)),hid (by rw [hsucc,if_pos (by rfl),List.map_append,HM.out];rfl)⟩
     case measure=>simp [zal]
    ·have hi7:((i:Int) == 6)=false:=by
      rw [beq_eq_false_iff_ne];omega
     have hi8:(i == 6)=false:=by
      rw [beq_eq_false_iff_ne];exact hi6
     cases htb:o.testBit i with
     | true =>
      rw [htb] at hbit hsucc
      rw [hi8] at hsucc
      go_wp2_with fail
      go_roundw
      case rel=>exact ⟨i+1,rs,by go_num,by omega,HS,hid (by rw [hsucc,if_neg (by decide),List.append_nil,HM.out])⟩
      case measure=>simp [zal];omega
     | false =>
      rw [htb] at hbit hsucc
      rw [hi8] at hsucc
      have hm3:rs.length+1≤maxLen:=by unfold maxLen;have:=Hrl.out;omega
      have hm4:(rs.length+1) * 24≤140737488355328:=by have:=Hrl.out;omega
      have hbase:=HS.out.x.size
      go_wp2_with (at_builtin;refine wpList_append_own _ rfl _ _ 29 rfl W3.heap.size 33 j0 (.slice none 0 0) 1 24 Tryz.underlying29 hj hy0 hy1 hy2 rfl (by decide) _ _ _ rfl (HS.out.o.alloc _) ⟨wr.heap.size,0,none⟩ 1 1 [.slice au (zjo[i]?.getD []).length cu] rfl rfl (cell_one_new _ _ _) (by simp [Value.oneCell']) hm3 hm4 (by rw [World.size_alloc];omega) ?_;intro v7 V7 hown7 hgrow7 _)
      go_roundw
      case rel=>exact ⟨i+1,rs++[⟨zjo.getD i [],.slice au (zjo[i]?.getD []).length cu,rfl⟩],by go_num,by omega,hid (HS.out.more ⟨zjo.getD i [],.slice au (zjo[i]?.getD []).length cu,rfl⟩ Hg2.out hown7 ((HS.out.x.alloc _).grown hgrow7 fun q hq=>(World.ownsRow.lt HS.out.o q hq).1)),hid (by rw [hsucc,if_pos (by rfl),List.map_append,HM.out];rfl)⟩
      case measure=>simp [zal];omega
   ·have hni:¬ (i:Int)<7:=by omega
    have hie:i=7:=by omega
    subst hie
    have hb2r:=zmh.ext HS.out.x Hb2.out
    have hmt:=HS.out.set (Hb3.out.ext HS.out.x) zpP (.slice a4 rs.length c4)
    have hpt:=(HS.out.x.sl Hp3.out).apart (Hb3.out.ext HS.out.x) (zr9 _ _ _ _ _ _ _) fun c hc=>heap_setCell_other wr ⟨w1.heap.size,1,none⟩ c (.slice a4 rs.length c4) hc
    have hxn:=((HX0.out.trans HX3.out).trans HS.out.x).setCell (p:=⟨w1.heap.size,1,none⟩) (by show w.heap.size≤w1.heap.size;have:=Hlt.out;omega) (.slice a4 rs.length c4)
    have hkl:=congrArg List.length HM.out
    rw [List.length_map] at hkl
    rw [HM.out] at hmt
    have Hmt:=hid hmt;have Hpt:=hid hpt;have Hxn:=hid hxn;have Hkl:=hid hkl;clear hmt hpt hxn hkl
    have Hne:=hid (show w1.heap.size ≠ w.heap.size+1 by have:=Hlt.out;omega)
    have Hbr:=hid hbr;have Hb2r:=hid hb2r;clear hbr hb2r
    go_upto_region 10 with fail
    have hbn:=Hbr.out.put1 (.slice a4 rs.length c4)
    have hb2n:=Hb2r.out.past1 1 Hne.out.symm (.slice a4 rs.length c4)
    have hEn:=(Ext.refl W3).trans HS.out.x
    have hcn0:=hbn.c0
    have hcn1:=hbn.c1
    have hr0:=hb2n.c0
    have hr1:=hb2n.c1
    have hz0:=hb2n.fz 0
    have hz1:=hb2n.fz 1
    go_wp2_with fail
    generalize wr.setCell ⟨w1.heap.size,1,none⟩ (.slice a4 rs.length c4)=W9 at *
    have hfin:=hb2n.put (.slice p1 b1 n1) (.slice a4 rs.length c4)
    have hd0:=hfin.c0
    have hd1:=hfin.c1
    have hap:=zrB W9 (w.heap.size+1) (.slice p1 b1 n1) (.slice a4 rs.length c4)
    have hkl:=zr4 o 7
    have hlst:=zr6 o ho
    exact bodyPost_ret (v:=.agg #[.slice p1 b1 n1,.slice a4 rs.length c4]) (by simp [results,Tryz.results8,go_sem,hd0,hd1]) rfl ⟨_,_,rfl,[2,3,5],Hpt.out.apart hb2n (zr9 _ _ _ _ _ _ _) hap,zr2 o 7,Hmt.out.apart (zrE o 7 (Nat.le_refl _)) hb2n hap,zr8,Hep.out,zr7 o,by omega,zrD o 7 (Nat.le_refl _),⟨0,rfl⟩,hlst,(Hxn.out.setCell (p:=⟨w.heap.size+1,0,none⟩) (by show w.heap.size≤w.heap.size+1;omega) _).setCell (p:=⟨w.heap.size+1,1,none⟩) (by show w.heap.size≤w.heap.size+1;omega) _⟩
 | false =>
  clear Hep Hma
  have hok:=zhA n
  have h4:=hok.len
  obtain ⟨i0,hi,hz0,hz1,hz2⟩:=info_parts zc1
  have hpr:=fun W=>zhy n W hn
  have hten:∃ r,zhj (zhr n)=zhj (zhr r):=⟨n,rfl⟩
  generalize hpp:zhj (zhr n)=p at hpr hok h4 hten
  clear hpp
  obtain ⟨nn,hnn⟩:∃ nn,p.length=nn+1:=⟨p.length - 1,by omega⟩
  have Hpr:=hid hpr;have Hok:=hid hok;have Hten:=hid hten;clear hpr hok hten
  go_wp2_with fail
  generalize (w.alloc (.cells #[.int .u8 n,.slice am m cm,.bool false,.int .u8 o] 24)).alloc (.cells #[.slice none 0 0,.slice none 0 0] 31)=W0 at *
  refine (Hpr.out _).mono ?_
  rintro e w1 ⟨v1,rfl,ho1,hx1⟩
  have hs9:∃ a c,v1=.slice a (nn+1) c:=by
   obtain ⟨a,c,e⟩:=zc3 ho1;rw [hnn] at e;exact ⟨a,c,e⟩
  obtain ⟨a1,c1,rfl⟩:=hs9
  have hp1:=ho1.sl
  have Hp1:=hid hp1;have Hx1:=hid hx1;clear hp1 hx1
  clear ho1 Hpr
  have hn4:nn+1≤4:=by omega
  go_wp2_with (at_make;refine wpList_make_full _ rfl _ _ 33 rfl w1.heap.size 3 i0 (.int .i64 0) 1 Tryz.underlying33 hi hz0 hz1 _ _ _ _ (nn+1) rfl rfl (by simp) (by simp) (by rw [hz2];omega) (by unfold maxLen;omega) (Nat.le_refl _) ?_;intro w2 hown hgrow;have hO:=zmg hown;have hc0:=zgM hO 0 (by show 0<(zhd (nn+1)).length;unfold zhd;rw [List.length_replicate];omega);have hfz:w2.frozen? ⟨w1.heap.size,0,none⟩=false:=World.ownsRow.frozenAt hO 0;have hset:=zgL hO 0 1;have hx2:Ext w1 w2:=(Ext.refl _).grown hgrow (by simp);have hx3:Ext w1 (w2.setCell ⟨w1.heap.size,0,none⟩ (.int .i64 1)):=hx2.setCell (p:=⟨w1.heap.size,0,none⟩) (Nat.le_refl _) _;have hpl1:=(Hpl.out _ (Hx1.out.trans hx3)).1;have Hx3:=hid hx3;have hO2:=hid hset;clear hO hown hset hgrow hx2 hx3)
  rw [show (zhd (nn+1)).set 0 1=zkt nn from rfl,show (zhd (nn+1)).length=nn+1 from List.length_replicate] at hO2
  generalize w2.setCell ⟨w1.heap.size,0,none⟩ (.int .i64 1)=w3 at *
  have hX3:=Hx1.out.trans Hx3.out
  have hiv:=zr0 (.slice a1 (nn+1) c1) am cm m p Q w3 (Hx3.out.sl Hp1.out) (by omega) (hQ.ext (HX0.out.trans hX3)) hm h8 hb
  have Hiv:=hid hiv;have HX3:=hid hX3;clear hiv hX3
  clear hc0 hfz hpl1
  refine Hiv.out.mono ?_
  rintro e w4 ⟨v4,rfl,rs,hR,hMx,hx4⟩
  have hMt:Mat w4 v4 (ivs p.length Q):=by rw [← hMx];exact RwM.reads hR
  have hrl:rs.length=m:=by
   have h:=congrArg List.length hMx;unfold ivs at h;rw [List.length_map,List.length_map,hm] at h;exact h
  have hv4:∃ a c,v4=.slice a m c:=by
   obtain ⟨a,c,e⟩:=zc3 hR.1;rw [hrl] at e;exact ⟨a,c,e⟩
  obtain ⟨a4,c4,rfl⟩:=hv4
  have hcol:=fun W (hE:Ext w4 W)=>zpT (.slice a1 (nn+1) c1) (.slice (some ⟨w1.heap.size,0,none⟩) (nn+1) (nn+1)) (.slice a4 m c4) p (ivs p.length Q) nn m W (he.ext (((HX0.out.trans HX3.out).trans hx4).trans hE)) (((Hx3.out.trans hx4).trans hE).sl Hp1.out) ((hx4.trans hE).sl hO2.out.sl) (hE.mat hMt) Hok.out hnn (by unfold ivs;rw [List.length_map];exact hm) h8 (fun x hx=>by
   unfold ivs at hx;obtain ⟨e,_,rfl⟩:=List.mem_map.1 hx;exact zrz e)
  have hX4:=HX3.out.trans hx4
  have hp4:=(Hx3.out.trans hx4).sl Hp1.out
  have Hcol:=hid hcol;have HX4:=hid hX4;have Hp4:=hid hp4;clear hcol hX4 hp4
  clear hR hMx hMt hx4
  go_wp2_with fail
  refine (Hcol.out w4 (Ext.refl _)).mono ?_
  rintro e w5 ⟨v5,rfl,ss,hm5,hS5,hl5,hx5⟩
  have hv5:∃ a n c,v5=.slice a n c:=by
   obtain ⟨vs,_,hvs,_⟩:=hm5;obtain ⟨a,c,e,_⟩:=hvs.parts;exact ⟨a,_,c,e⟩
  obtain ⟨a5,n5,c5,rfl⟩:=hv5
  have hb2n:=zmh.ext (HX4.out.trans hx5) Hb0.out
  have hp5:=hx5.sl Hp4.out
  have hX5:=HX0.out.trans (HX4.out.trans hx5)
  have hr0:=hb2n.c0
  have hr1:=hb2n.c1
  have hz8:=hb2n.fz 0
  have hz9:=hb2n.fz 1
  have Hm5:=hid hm5;have HS5:=hid hS5;have Hl5:=hid hl5;have HX5:=hid hX5;have Hp5:=hid hp5;clear hm5 hS5 hl5 hX5 hp5
  clear hx5
  go_wp2_with fail
  have hfin:=hb2n.put (.slice a1 (nn+1) c1) (.slice a5 n5 c5)
  have hd0:=hfin.c0
  have hd1:=hfin.c1
  have hap:=zrB w5 (w.heap.size+1) (.slice a1 (nn+1) c1) (.slice a5 n5 c5)
  have hlS:=HS5.out.ne
  have hl9:=Hl5.out
  exact bodyPost_ret (v:=.agg #[.slice a1 (nn+1) c1,.slice a5 n5 c5]) (by simp [results,Tryz.results8,go_sem,hd0,hd1]) rfl ⟨_,_,rfl,p,ss,Hp5.out.apart hb2n (zr9 _ _ _ _ _ _ _) hap,Hm5.out.apart (fun x hx=>by rw [(HS5.out.iv x hx).len];omega) hb2n hap,Hok.out,HS5.out.ep Hok.out (by omega),hlS,by omega,HS5.out.rowsB,Hten.out,HS5.out.last,(HX5.out.setCell (p:=⟨w.heap.size+1,0,none⟩) (by show w.heap.size≤w.heap.size+1;omega) _).setCell (p:=⟨w.heap.size+1,1,none⟩) (by show w.heap.size≤w.heap.size+1;omega) _⟩
end
section
open Go.RowKit Go.Lib
attribute [local go_sem] Oper.semAt_some
def zrG (n:Nat)(rs:List Qw)(k:Nat):List Rat:=if k=0 then List.replicate n 0 else ((rs[k - 1]?).map Qw.x).getD []
structure zrH (p:List Int)(rs:List Qw):Prop where
 pe:zcw p=0
 few:p.length≤100
 ne:rs.length ≠ 0
 most:rs.length≤60
 len:∀ r∈rs,r.x.length=p.length
 ft:∀ r∈rs,∀ q∈r.x,Ft 30 q
 quick:∀ k r,rs[k]?=some r→zjZ p (zeX (zrG p.length rs k) r.x)
 up:∀ k r,rs[k]?=some r→zeY (tms p (dn (zeX (zrG p.length rs k) r.x)) (zeX (zrG p.length rs k) r.x))=-1
theorem zrI (v:Value)(p:List Int)(rs:List Qw)(w:World)(he:Env w)(hv:ScV w v p rs)(h:zrH p rs) :
  Calls Tryz.prog 21 #[v] w fun e w'=>e=.returned (.int .i64 0)∧Ext w w':=by
 obtain ⟨vp,vn,rfl,hp,hs,hm⟩:=hv;have hpl:=h.few;have h0:=h.ne;have h60:=h.most;have hpr:=fun W (hE:Ext w W)=>zcx vp p W (hE.sl hp) (by omega);rw [h.pe] at hpr;have hz:=fun W (hE:Ext w W)=>zjT vp p W (he.ext hE) (hE.sl hp) h.pe;have hck:=fun (r:Qw)(hr:r∈rs) W (hE:Ext w W)=>zfp vp r.u p r.x W (he.ext hE) (hE.sl hp) (hE.rd (hm r hr)) h.pe (h.len r hr) (h.ft r hr);have hcm:=fun k (r:Qw)(hr:rs[k]?=some r) vb W (hE:Ext w W)(hb:Rd W vb (zrG p.length rs k))(hbl:(zrG p.length rs k).length=p.length)(hbf:∀ q∈zrG p.length rs k,Ft 30 q) =>
  zkb vp vb r.u p (zrG p.length rs k) r.x W (he.ext hE) (hE.sl hp) hb (hE.rd (hm r (List.mem_of_getElem? hr))) h.pe hpl hbl (h.len r (List.mem_of_getElem? hr)) hbf (h.ft r (List.mem_of_getElem? hr)) (h.quick k r hr)
 have hpv:∀ k,k≤rs.length→(zrG p.length rs k).length=p.length∧∀ q∈zrG p.length rs k,Ft 30 q:=fun k hk=>by
  unfold zrG;by_cases h1:k=0
  ·rw [if_pos h1];refine ⟨List.length_replicate,fun q hq=>?_⟩;obtain rfl:=List.eq_of_mem_replicate hq;exact ziy.mono (by omega)
  ·rw [if_neg h1,List.getElem?_eq_getElem (by omega)];exact ⟨h.len _ (List.getElem_mem _),h.ft _ (List.getElem_mem _)⟩
 have hup:=h.up;have hln:=h.len;have hone:=fun (r:Qw)(hr:r∈rs)=>(hm r hr).parts;have hm2:=fun (r:Qw)(hr:r∈rs) W (hE:Ext w W)=>hE.rd (hm r hr);obtain ⟨ap,cp,rfl,_,_,_⟩:=hp.parts;obtain ⟨an,cn,rfl,_,_,hc⟩:=hs.parts;rw [zar] at hpr hz hck hcm ⊢;rw [zfh];have bx:(w.alloc (.cells #[.slice ap p.length cp,.slice an rs.length cn] 53)).heap[w.heap.size]?=some (.cells #[.slice ap p.length cp,.slice an rs.length cn] 53 (0,0)):=World.alloc_heap_new w _;have hE0:Ext w (w.alloc (.cells #[.slice ap p.length cp,.slice an rs.length cn] 53)):=(Ext.refl w).alloc _;have hbox:∀ W,Ext (w.alloc (.cells #[.slice ap p.length cp,.slice an rs.length cn] 53)) W→W.cell? ⟨w.heap.size,0,none⟩=some (.slice ap p.length cp)∧W.cell? ⟨w.heap.size,1,none⟩=some (.slice an rs.length cn):=fun W hE=>by
  have hb:=hE.heap bx;unfold World.cell?;dsimp only;rw [hb];exact ⟨rfl,rfl⟩
 clear hp hs hm he h hpl bx;have Hpr:=hid hpr;have Hz:=hid hz;have Hck:=hid hck;have Hcm:=hid hcm;have Hpv:=hid hpv;have Hup:=hid hup;have Hln:=hid hln;have Hone:=hid hone;have Hm2:=hid hm2;have Hc:=hid hc;have HE0:=hid hE0;have Hbox:=hid hbox;clear hpr hz hck hcm hpv hup hln hone hm2 hc hE0 hbox;go_enter Tryz.func21,Tryz.ntmps21
 go_wp2_with fail
 refine (Hpr.out _ HE0.out).mono ?_;rintro e w1 ⟨rfl,rfl⟩;go_wp2_with fail
 refine (Hz.out _ HE0.out).mono ?_;rintro e w1 ⟨rfl,hoz,hx1⟩;obtain ⟨q0,q1⟩:=Hbox.out w1 hx1;have hrz:Rd w1 (.slice (some ⟨w.heap.size+1,0,none⟩) p.length p.length) (zrG p.length rs 0):=by
  have:=hoz.rd;rw [World.size_alloc] at this;exact this
 have Hrz:=hid hrz;have Hx1:=hid hx1;clear hrz hx1;clear hoz;go_wp2_with fail
 have hcs:∀ k,(zrG p.length rs (k+1))=((rs[k]?).map Qw.x).getD []:=fun k=>by unfold zrG;rw [if_neg (by omega)];rfl
 have Hcs:=hid hcs;clear hcs;go_loopw [4,7,8,9,10,36] (fun v4 v7 v8 v9 v10 v36 wr=>∃ (k:Nat)(a:Option Addr)(c:Nat),v36=.int .i64 k∧k≤rs.length∧v4=.slice a p.length c∧Rd wr (.slice a p.length c) (zrG p.length rs k)∧Ext w1 wr) (fun _ _ _ _ _ v36 _=>rs.length - (zal v36).toNat)
 case atStart=>exact ⟨0,_,_,rfl,Nat.zero_le _,rfl,Hrz.out,Ext.refl _⟩
 case round =>
  clear q0 q1;obtain ⟨k,ab,cb,rfl,hk,rfl,hrd,hE⟩:=hrel;by_cases hkn:k<rs.length
  ·obtain ⟨r,hr⟩:∃ r,rs[k]?=some r:=⟨_,List.getElem?_eq_getElem hkn⟩;have hmem:=List.mem_of_getElem? hr;obtain ⟨b,off,rfl,hc0⟩:=Hc.out k r.u (by unfold qwc;rw [List.getElem?_map,hr];rfl);obtain ⟨ar,cr,hru,_,_,_⟩:=Hone.out r hmem;have hEw:=(HE0.out.trans Hx1.out).trans hE;have hcu:=hEw.cell hc0;have hrl:r.x.length=p.length:=Hln.out r hmem;rw [hru,hrl] at hcu;have h1:=Hck.out r hmem wr hEw;have hp1:=Hpv.out k hk;have h2:=fun W (hx:Ext wr W)=>Hcm.out k r hr (.slice ab p.length cb) W (hEw.trans hx) (hx.rd hrd) hp1.1 hp1.2;have hu:=Hup.out k r hr;rw [hu] at h2;have hr2:=fun W (hx:Ext wr W)=>Hm2.out r hmem W (hEw.trans hx);rw [hru,hrl] at h1 h2 hr2;have hnx:zrG p.length rs (k+1)=r.x:=(by rw [Hcs.out k,hr];rfl);rw [← hnx] at hr2;have hk0:(0:Int)≤(k:Int):=(by omega);have hk1:(k:Int)<(rs.length:Int):=(by omega);obtain ⟨q0,q1⟩:=Hbox.out wr (Hx1.out.trans hE);have hbx2:=fun W (hx:Ext wr W)=>Hbox.out W ((Hx1.out.trans hE).trans hx);clear hmem hc0 hEw hrl hp1 hu hnx hrd hru hr;have H1:=hid h1;have H2:=hid h2;have Hr2:=hid hr2;have HE:=hid hE;have Hbx2:=hid hbx2;clear h1 h2 hr2 hE hbx2;go_wp2_with fail
   refine H1.out.mono ?_;rintro e w3 ⟨rfl,hx3⟩;obtain ⟨s0,s1⟩:=Hbx2.out w3 hx3;have Hx3:=hid hx3;clear hx3;clear q0 q1;go_wp2_with fail
   refine (H2.out w3 Hx3.out).mono ?_;rintro e w4 ⟨rfl,hx4⟩;have Hx4:=hid (Hx3.out.trans hx4);clear hx4 s0 s1;go_wp2_with fail
   go_roundw
   case rel=>exact ⟨k+1,_,_,by go_num,by omega,rfl,Hr2.out _ Hx4.out,HE.out.trans Hx4.out⟩
   case measure=>simp [zal];omega
  ·obtain rfl:rs.length=k:=by omega
   have Hrd:=hid hrd;have HE:=hid hE;clear hrd hE;go_wp2
   go_ret
   exact ⟨rfl,(HE0.out.trans Hx1.out).trans HE.out⟩
end
end Go.Proofs.YtipkdebkdnbieaaGreatDoor
