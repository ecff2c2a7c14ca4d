/- Walk: table.Columns and table.Transpose at a right table. Walk: table.rows, table.nothing: a table as a grid of fractions. (KEEPALL) A grid of fractions in memory: its rows' cells; a fraction is set, rows change places; boxes of fractions beside it. (KEEPALL) Plain: the steps inside a round of table.reduce. (KEEPALL) Walks: fraction.lowest at a negative denominator, fraction.Div by a negative fraction. (Printed by mkdivn.py.) -/
import Derived.Test.YtkdgmahilfnnmaaGreatDoorPc22
import Derived.Test.YtkdgmahilfnnmaaGreatDoorPc19
import Derived.Test.YtkdgmahilfnnmaaGreatDoorPc21
import Derived.Test.YtkdgmahilfnnmaaGreatDoorPc08
import Derived.Test.YtkdgmahilfnnmaaGreatDoorPc12
import Derived.Test.YtkdgmahilfnnmaaGreatDoorPc17
set_option maxRecDepth 100000
set_option maxHeartbeats 4000000
namespace Go.Proofs.YtkdgmahilfnnmaaGreatDoor
section
open Go.RowKit Go.Lib Go.Shelf
theorem zm7 (vm:Value)(m:List (List Int))(n:Nat)(w:World)(hm:Mat w vm m)(h0:0<m.length)(hn:(m.getD 0 []).length=n)(hml:m.length≤1000) :
  Calls Tryz.prog 97 #[vm] w fun e w'=>e=.returned (.int .i64 n)∧Ext w w':=by
 obtain ⟨vs,hvs,hsl,hrows⟩:=hm;obtain ⟨am,cm,rfl,_,_,hcm⟩:=hsl.parts;obtain ⟨u,hu⟩:∃ u,vs[0]?=some u:=⟨_,List.getElem?_eq_getElem (by omega)⟩;obtain ⟨b,off,e1,hcu⟩:=hcm 0 u hu;subst e1;obtain ⟨a0,c0,rfl,_,_,_⟩:=(hrows 0 u hu).parts;rw [zar,hn,Nat.add_zero] at hcu;rw [hvs];clear hsl hrows hcm hvs hu hn;have hi1:(0:Int)<(m.length:Int):=by omega
 have hne:((m.length:Int) == 0)=false:=beq_eq_false_iff_ne.2 (by omega);go_enter Tryz.func97,Tryz.ntmps97
 go_wp2
 go_ret
 exact ⟨rfl,Ext.refl _⟩
def zm8 (z:Int):List Value:=[.int .i64 z]
theorem zm9 (l:List Int):l.flatMap zm8=zap l:=by
 induction l with
 | nil=>rfl
 | cons z l ih=>rw [List.flatMap_cons,ih];rfl
theorem zmA : 3 ≠ 26:=by decide
theorem GdM.mat {w:World}{B:Nat}{v:Value}{ls:List (GR Int)}(h:GdM zm8 3 26 1 w B v ls):Mat w v (ls.map GR.x):=by
 refine ⟨ls.map GR.u,by simp,zan h.own,fun i u hu=>?_⟩;rw [List.getElem?_map] at hu
 cases he:ls[i]? with
 | none=>rw [he] at hu;cases hu
 | some e =>
  rw [he] at hu
  obtain rfl:=Option.some.inj hu
  rw [List.getD_eq_getElem?_getD,List.getElem?_map,he]
  have:=zan (h.rows e (List.mem_of_getElem? he))
  rw [zm9] at this
  exact this
def zmB (m:List (List Int))(c j:Nat):List Int:=(m.take j).map fun r=>zas r c
theorem zmC {m:List (List Int)}{c j:Nat}{r:List Int}(h:m[j]?=some r):zap (zmB m c (j+1))=zap (zmB m c j)++[.int .i64 (zas r c)]:=by
 obtain ⟨h1,h2⟩:=List.getElem?_eq_some_iff.1 h;unfold zmB zap;rw [List.take_succ_eq_append_getElem h1,h2,List.map_append,List.map_append];rfl
theorem zmD {m:List (List Int)}{n c:Nat}(hn:(m.getD 0 []).length=n)(hc:c<n):(zhf m).take (c+1)=(zhf m).take c++[zmB m c m.length]:=by
 have hl:c<(zhf m).length:=by unfold zhf;rw [List.length_map,List.length_range,hn];exact hc
 rw [List.take_succ_eq_append_getElem hl];have:(zhf m)[c]=zmB m c m.length:=by
  have h2:(zhf m)[c]?=some (zmB m c m.length):=by
   unfold zhf zmB zas;rw [List.getElem?_map,List.getElem?_range (by rw [hn];exact hc),List.take_length];rfl
  exact (List.getElem?_eq_some_iff.1 h2).2
 rw [this]
theorem zmE (vm:Value)(m:List (List Int))(n k:Nat)(w:World)(hm:Mat w vm m)(hk:m.length=k)(hk0:0<k)(hk9:k≤1000)(hn0:0<n)(hn9:n≤1000)(hrec:∀ r∈m,r.length=n)(ht:zk9 m=0) :
  Calls Tryz.prog 69 #[vm] w fun e w'=>∃ v,e=.returned (.tuple #[v,.int .i64 0])∧∃ ls,GdM zm8 3 26 1 w' w.heap.size v ls∧ls.map GR.x=zhf m∧Ext w w':=by
 obtain ⟨i0,hi,hz0,hz1,hz2⟩:=info_parts zc1;obtain ⟨j0,hj,hy0,hy1,hy2⟩:=info_parts zmt;have hg0:(m.getD 0 []).length=n:=by
  rw [List.getD_eq_getElem?_getD,List.getElem?_eq_getElem (by omega)];exact hrec _ (List.getElem_mem _)
 have hrow:∀ i,(m.getD i []).length≤1000000:=fun i=>by
  rw [List.getD_eq_getElem?_getD]
  cases h:m[i]? with
  | none=>exact Nat.zero_le _
  | some r=>have:=hrec r (List.mem_of_getElem? h);simp only [Option.getD_some];omega
 have htc:=zkB vm m w hm hrow (by omega);rw [ht] at htc;have hco:=fun W (hE:Ext w W)=>zm7 vm m n W (hE.mat hm) (by omega) hg0 (by omega);obtain ⟨vs,hvl,hvs,hrows⟩:=hm;obtain ⟨am,cm,rfl,_,_,hc⟩:=hvs.parts;rw [hvl,hk] at htc hco ⊢;have Htc:=hid htc;have Hco:=hid hco;have Hc:=hid hc;have Hrows:=hid hrows;have Hrec:=hid hrec;have Hk:=hid hk;have Hvl:=hid hvl;have Hg0:=hid hg0;clear htc hco hc hrows hrec hk hvl hvs hrow hg0 ht;go_enter Tryz.func69,Tryz.ntmps69
 go_wp2_with fail
 refine Htc.out.mono ?_;rintro e w1 ⟨rfl,hx1⟩;have Hx1:=hid hx1;clear hx1;go_wp2_with fail
 refine (Hco.out w1 Hx1.out).mono ?_;rintro e w2 ⟨rfl,hx2⟩;have Hx2:=hid (Hx1.out.trans hx2);clear hx2;go_wp2_with fail
 go_loopw [17,5] (fun v17 v5 wr=>∃ (c:Nat)(ls:List (GR Int)),v17=.int .i64 c∧c≤n∧Hid (GdM zm8 3 26 1 wr w.heap.size v5 ls)∧Hid (ls.map GR.x=(zhf m).take c)∧Hid (Ext w wr)) (fun v17 _ _=>n - (zal v17).toNat)
 case atStart=>exact ⟨0,[],rfl,Nat.zero_le _,hid (GdM.nil _ _),hid rfl,Hx2⟩
 case round =>
  obtain ⟨c,ls,rfl,hcn,HG,HM,HE⟩:=hrel;by_cases hcc:c<n
  ·have hk1:(0:Int)≤(c:Int):=(by omega);have hk2:(c:Int)<(n:Int):=(by omega);have hll:ls.length=c:=by
    have:=congrArg List.length HM.out;rw [List.length_map,List.length_take] at this;unfold zhf at this;rw [List.length_map,List.length_range,Hg0.out] at this;omega
   have Hll:=hid hll;clear hll;go_wp2_with fail
   obtain ⟨wb,hwb⟩:∃ wb,wb=wr:=⟨_,rfl⟩;subst hwb;go_loopw [22,7] (fun v22 v7 wj=>∃ j:Nat,v22=.int .i64 j∧j≤k∧wj.ownsRow wb.heap.size 3 1 v7 j (zap (zmB m c j))∧Ext wb wj) (fun v22 _ _=>k - (zal v22).toNat)
   case atStart=>exact ⟨0,rfl,Nat.zero_le _,World.ownsRow_nil _ _ _ 1,Ext.refl _⟩
   case round =>
    obtain ⟨j,rfl,hjk,ho,hE⟩:=hrel;obtain ⟨a6,c6,rfl⟩:=zc3 ho;have hEw:=HE.out.trans hE;by_cases hjj:j<k
    ·obtain ⟨r,hr⟩:∃ r,m[j]?=some r:=⟨_,List.getElem?_eq_getElem (by have:=Hk.out;omega)⟩;obtain ⟨u,hu⟩:∃ u,vs[j]?=some u:=⟨_,List.getElem?_eq_getElem (by rw [Hvl.out,Hk.out];exact hjj)⟩;obtain ⟨b,off,rfl,hcu⟩:=Hc.out j u hu;have hru:=Hrows.out j u hu;rw [List.getD_eq_getElem?_getD,hr] at hru;simp only [Option.getD_some] at hru;have hrl:=Hrec.out r (List.mem_of_getElem? hr);obtain ⟨ar,cr,rfl,_,_,hcr⟩:=hru.parts;have hil:(zap r).length=n:=(by rw [zar];exact hrl);rw [hil] at hcu;obtain ⟨b2,o2,rfl,hcj⟩:=hcr c (.int .i64 (zas r c)) (by unfold zap zas;rw [List.getElem?_map,List.getElem?_eq_getElem (by omega),List.getD_eq_getElem?_getD,List.getElem?_eq_getElem (by omega)];rfl);have hcw:=hEw.cell hcu;have hcj2:=hEw.cell hcj;have hst:=zmC (c:=c) hr;generalize zas r c=z at *;have hj1:(0:Int)≤(j:Int):=(by omega);have hj2:(j:Int)<(k:Int):=(by omega);have Hst:=hid hst;have Ho:=hid ho;have HE2:=hid hE;have hm3:j+1≤maxLen:=(by unfold maxLen;omega);have hm4:(j+1) * 8≤140737488355328:=(by omega);have hbase:=HE2.out.size;clear hst ho hE hEw hcu hcj hru hil hrl hr hu hcr;go_wp2_with (at_builtin;refine wpList_append_own _ rfl _ _ 26 rfl wb.heap.size 3 i0 (.int .i64 0) 1 8 Tryz.underlying26 hi hz0 hz1 hz2 rfl (by decide) _ _ _ rfl (Ho.out.alloc _) ⟨wr.heap.size,0,none⟩ 1 1 [.int .i64 z] rfl rfl (cell_one_new _ _ _) (by simp [Value.oneCell']) hm3 hm4 (by rw [World.size_alloc];omega) ?_;intro v7 V7 hown7 hgrow7 _)
     go_roundw
     case rel=>exact ⟨j+1,by go_num,hjj,by rw [Hst.out];exact hown7,(HE2.out.alloc _).grown hgrow7 fun q hq=>(World.ownsRow.lt Ho.out q hq).1⟩
     case measure=>simp [zal];omega
    ·have hjn2:j=k:=(by omega);subst hjn2;obtain ⟨g,cg,eg,hg1,hg2⟩:=zlY ho hk0;injection eg with eg1 _ eg2;subst eg1 eg2;have hcl:(zmB m c j).length=j:=(by unfold zmB;rw [List.length_map,List.length_take,Hk.out,Nat.min_self]);have hG:=HG.out.ext hE;have hne:∀ f∈ls,f.g ≠ g:=fun f hf=>by
      have:=(HG.out.lt hf).2;omega
     have hrow:wr.ownsRow w.heap.size 3 1 (GR.u ⟨g,c6,zmB m c j⟩) (zmB m c j).length ((zmB m c j).flatMap zm8):=by
      unfold GR.u;rw [zm9,show (GR.mk g c6 (zmB m c j)).x=zmB m c j from rfl,hcl];exact zam ho HE.out.size
     obtain ⟨a3,c3,e3⟩:=zc3 hG.own;subst e3;have hm3:c+1≤maxLen:=(by unfold maxLen;omega);have hm4:(c+1) * 24≤140737488355328:=(by omega);have hqo:=hG.own;rw [Hll.out] at hqo ⊢;have hbase:w.heap.size≤wr.heap.size:=hEw.size;have HG2:=hid hG;have Hrow:=hid hrow;have Hne:=hid hne;have HEw:=hid hEw;have Hcl:=hid hcl;clear hG hrow hne hEw ho hE hcl;have hkk9:¬ (j:Int)<(j:Int):=(by omega);go_wp2_with (at_builtin;refine wpList_append_own _ rfl _ _ 58 rfl w.heap.size 26 j0 (.slice none 0 0) 1 24 Tryz.underlying58 hj hy0 hy1 hy2 rfl (by decide) _ _ _ rfl (hqo.alloc _) ⟨wr.heap.size,0,none⟩ 1 1 [.slice (some ⟨g,0,none⟩) j c6] rfl rfl (cell_one_new _ _ _) (by simp [Value.oneCell']) hm3 hm4 (by rw [World.size_alloc];omega) ?_;intro v7 V7 hown7 hgrow7 _)
     go_roundw
     case rel =>
      have hown7':V7.ownsRow w.heap.size 26 1 v7 (ls.length+1) (ls.map GR.u++[GR.u ⟨g,c6,zmB m c j⟩]):=by
       rw [Hll.out];unfold GR.u;rw [show (GR.mk g c6 (zmB m c j)).x=zmB m c j from rfl,Hcl.out];exact hown7
      have hmo:=HG2.out.more (e:=⟨g,c6,zmB m c j⟩) zmA Hrow.out Hne.out hown7' (by rw [Hll.out] <;> exact hgrow7)
      refine ⟨c+1,ls++[⟨g,c6,zmB m c j⟩],by go_num,hcc,hid hmo,hid ?_,hid ((HEw.out.alloc _).grown hgrow7 fun q hq=>(World.ownsRow.lt hqo q hq).1)⟩;rw [List.map_append,HM.out,zmD Hg0.out hcc,Hk.out];rfl
     case measure=>simp [zal];omega
  ·have hcl:c=n:=(by omega);have hkk2:¬ (c:Int)<(n:Int):=(by omega);have hM:=HM.out;rw [hcl,List.take_of_length_le (by unfold zhf;rw [List.length_map,List.length_range,Hg0.out];exact Nat.le_refl _)] at hM;have HM2:=hid hM;clear hM hcl;go_wp2
   go_ret2
   exact ⟨_,rfl,ls,HG.out,HM2.out,HE.out⟩
theorem zmF {P:Program}(w:World){ops:Array Oper}{rest:List Oper}{o:Oper}{a:Act}{Q:Exit→Act→World→Prop}
  (hg:o.guard=none) (s x:Operand) (t:TypeId) (hop:o.op=Op.call { callee:=Callee.builtin Builtin.append,args:=#[s,x],argTypes:=#[t,t] })
  (base:Nat) (e:TypeId) (i:TypeInfo) (size:Nat) (h1:P.underlying t=some (.slice e)) (h2:P.info? e=some i) (_h4:i.size=size)
  (g k cap:Nat) (xs:List Value) (hs:a.eval s=.slice (some ⟨g,0,none⟩) k cap) (hown:w.ownsRow base e size (.slice (some ⟨g,0,none⟩) k cap) k xs) (hx:a.eval x=.slice none 0 0)
  (hK:wpList P ops Q rest (a.put o.dst (.slice (some ⟨g,0,none⟩) k cap)) w) :
  wpList P ops Q (o::rest) a w:=by
 refine wpList_plain hg fun K hK'=>?_;have hrun:=run_append_owned_none (P:=P) w base t o.type e i size h1 h2 _ k xs hown;unfold Oper.wp;simp [execOp,hop,resolve,invoke,builtin,hs,hx,hrun,Result.andThen];exact hK' _ _ hK
theorem zmG : (Tryz.prog.info? 109).map (fun i=>(i.zero,i.size,i.bytes))=some (some (.agg #[.string ByteArray.empty,.string ByteArray.empty]),2,32):=by kernel_rfl
theorem zmH : (Tryz.prog.info? 78).map (fun i=>(i.zero,i.size,i.bytes))=some (some (.slice none 0 0),1,24):=by kernel_rfl
theorem zmI : 109 ≠ 78:=by decide
theorem zmJ (z:Int):zlr (z:Rat)=[.string (I z),.string ⟨#[49]⟩]:=by
 unfold zlr;rw [Rat.num_intCast,Rat.den_intCast,zmd];rfl
theorem zmK {w:World}(x y:Value)(t:TypeId):∀ j u,[x,y][j]?=some u→(w.alloc (.cells #[x,y] t)).cell? ((⟨w.heap.size,0,none⟩:Addr).add j)=some u:=fun j u hj=>World.news_of_block (World.alloc_heap_new w (.cells #[x,y] t)) j u (by simpa using hj)
theorem zmL (i:Int)(w:World):Calls Tryz.prog 96 #[.int .i64 i] w fun e w'=>e=.returned (.slice none 0 0)∧w'=w:=by
 go_enter Tryz.func96,Tryz.ntmps96
 go_wp2
 go_ret
 exact ⟨rfl,rfl⟩
theorem zmM {r:List Int}{j:Nat}(h:j<r.length):(zgN (r.take (j+1))).flatMap zlr=(zgN (r.take j)).flatMap zlr++[.string (I (zas r j)),.string ⟨#[49]⟩]:=by
 rw [List.take_succ_eq_append_getElem h];unfold zgN zas;rw [List.map_append,List.flatMap_append,List.getD_eq_getElem?_getD,List.getElem?_eq_getElem h];simp only [List.map_cons,List.map_nil,List.flatMap_cons,List.flatMap_nil,List.append_nil,Option.getD_some];rw [zmJ]
theorem zmN (vm:Value)(m:List (List Int))(n:Nat)(w:World)(he:Env w)(hm:Mat w vm m)(hrec:∀ r∈m,r.length=n)(hn0:0<n)(hn:n≤1000)(hml:m.length≤1000)(hb:∀ r∈m,∀ z∈r,-9223372036854775808≤z∧z≤9223372036854775807) :
  Calls Tryz.prog 95 #[vm,.func (.func 96) #[] #[]] w fun e w'=>∃ v,e=.returned v∧∃ ls,GdM zlr 109 78 2 w' w.heap.size v ls∧ls.map GR.x=m.map zgN∧Ext w w':=by
 obtain ⟨i0,hi,hz0,hz1,hz2⟩:=info_parts zmG;obtain ⟨j0,hj,hy0,hy1,hy2⟩:=info_parts zmH;obtain ⟨vs,hvl,hvs,hrows⟩:=hm;have hof:=fun (z:Int)(h0:-9223372036854775808≤z)(h1:z≤9223372036854775807) W (hE:Ext w W)=>zaQ z h0 h1 W (he.ext hE);obtain ⟨am,cm,rfl,_,_,hc⟩:=hvs.parts;rw [hvl];generalize hl:m.length=k0 at *;have Hc:=hid hc;have Hrows:=hid hrows;have Hrec:=hid hrec;have Hb:=hid hb;have Hof:=hid hof;have Hl:=hid hl;have Hvl:=hid hvl;clear hc hrows hrec hb hof hl hvl hvs he;go_enter Tryz.func95,Tryz.ntmps95
 go_wp2_with fail
 go_loopw [13,5] (fun v13 v5 wr=>∃ (k:Nat)(ls:List (GR Rat)),v13=.int .i64 k∧k≤k0∧Hid (GdM zlr 109 78 2 wr w.heap.size v5 ls)∧Hid (ls.map GR.x=(m.take k).map zgN)∧Hid (Ext w wr)) (fun v13 _ _=>k0 - (zal v13).toNat)
 case atStart=>exact ⟨0,[],rfl,Nat.zero_le _,hid (GdM.nil _ _),hid rfl,hid (Ext.refl _)⟩
 case round =>
  obtain ⟨k,ls,rfl,hk,HG,HM,HE⟩:=hrel;by_cases hkk:k<k0
  ·obtain ⟨r,hr⟩:∃ r,m[k]?=some r:=⟨_,List.getElem?_eq_getElem (by have:=Hl.out;omega)⟩;obtain ⟨u,hu⟩:∃ u,vs[k]?=some u:=⟨_,List.getElem?_eq_getElem (by rw [Hvl.out];exact hkk)⟩;obtain ⟨b,off,rfl,hcu⟩:=Hc.out k u hu;have hru:=Hrows.out k u hu;rw [List.getD_eq_getElem?_getD,hr] at hru;simp only [Option.getD_some] at hru;have hrl:=Hrec.out r (List.mem_of_getElem? hr);obtain ⟨ar,cr,rfl,_,_,hcr⟩:=hru.parts;have hil:(zap r).length=n:=(by unfold zap;rw [List.length_map];exact hrl);rw [hil] at hcu;have hcw:=HE.out.cell hcu;have hk1:(0:Int)≤(k:Int):=(by omega);have hk2:(k:Int)<(k0:Int):=(by omega);have hll:ls.length=k:=by
    have:=congrArg List.length HM.out;rw [List.length_map,List.length_map,List.length_take,Hl.out] at this;omega
   have Hcr:=hid hcr;have Hr:=hid hr;have Hrl:=hid hrl;have Hll:=hid hll;clear hcr hr hrl hll hcu hru hil hu;go_wp2_with fail
   obtain ⟨wb,hwb⟩:∃ wb,wb=wr:=⟨_,rfl⟩;subst hwb;go_loopw [20,8] (fun v20 v8 wj=>∃ j:Nat,v20=.int .i64 j∧j≤n∧wj.ownsRow wb.heap.size 109 2 v8 j ((zgN (r.take j)).flatMap zlr)∧Ext wb wj) (fun v20 _ _=>n - (zal v20).toNat)
   case atStart=>exact ⟨0,rfl,Nat.zero_le _,World.ownsRow_nil _ _ _ 2,Ext.refl _⟩
   case round =>
    clear hcw;obtain ⟨j,rfl,hjn,ho,hE⟩:=hrel;obtain ⟨a6,c6,rfl⟩:=zc3 ho;have hEw:=HE.out.trans hE;by_cases hjj:j<n
    ·have hjr:j<r.length:=(by rw [Hrl.out];exact hjj);obtain ⟨b2,o2,rfl,hcj⟩:=Hcr.out j (.int .i64 (zas r j)) (by unfold zap zas;rw [List.getElem?_map,List.getElem?_eq_getElem hjr,List.getD_eq_getElem?_getD,List.getElem?_eq_getElem hjr];rfl);have hcj2:=hEw.cell hcj;have hzb:=Hb.out r (List.mem_of_getElem? Hr.out) (zas r j) (zc8 hjr);have hofj:=Hof.out (zas r j) hzb.1 hzb.2 wr hEw;have hst:=zmM hjr;generalize zas r j=z at *;have hj1:(0:Int)≤(j:Int):=(by omega);have hj2:(j:Int)<(n:Int):=(by omega);have Hofj:=hid hofj;have Hst:=hid hst;have Ho:=hid ho;have HE2:=hid hE;have hm3:j+1≤maxLen:=(by unfold maxLen;omega);have hm4:(j+1) * 32≤140737488355328:=(by omega);clear hofj hst ho hE hEw hzb hjr hcj;go_wp2_with fail
     refine Hofj.out.mono ?_;rintro e VB ⟨rfl,hxa⟩;have hqo:=hxa.own Ho.out;have hbase:=(HE2.out.trans hxa).size;have HEB:=hid (HE2.out.trans hxa);clear hxa;go_wp2_with (at_builtin;refine wpList_append_own _ rfl _ _ 78 rfl wb.heap.size 109 i0 (.agg #[.string ByteArray.empty,.string ByteArray.empty]) 2 32 Tryz.underlying78 hi hz0 hz1 hz2 rfl (by decide) _ _ _ rfl (hqo.alloc _) ⟨VB.heap.size,0,none⟩ 1 1 [.string (I z),.string ⟨#[49]⟩] rfl rfl (zmK _ _ _) (by simp [Value.oneCell']) hm3 hm4 (by rw [World.size_alloc];omega) ?_;intro v7 V7 hown7 hgrow7 _)
     go_roundw
     case rel=>exact ⟨j+1,by go_num,hjj,by rw [Hst.out];exact hown7,(HEB.out.alloc _).grown hgrow7 fun q hq=>(World.ownsRow.lt hqo q hq).1⟩
     case measure=>simp [zal];omega
    ·have hjn2:j=n:=(by omega);have ho2:=ho;rw [hjn2,show r.take n=r by rw [← Hrl.out];exact List.take_length] at ho2;obtain ⟨g,cg,eg,hg1,hg2⟩:=World.ownsRow.form ho2 hn0;injection eg with eg1 _ eg2;subst eg1 eg2;have hG:=HG.out.ext hE;have hne:∀ f∈ls,f.g ≠ g:=fun f hf=>by
      have:=(HG.out.lt hf).2;omega
     have hsz:=(HE.out).size;have hrq:(zgN r).length=n:=(by unfold zgN;rw [List.length_map];exact Hrl.out);have hrow:wr.ownsRow w.heap.size 109 2 (GR.u ⟨g,c6,zgN r⟩) (zgN r).length ((zgN r).flatMap zlr):=by
      unfold GR.u;rw [show (GR.mk g c6 (zgN r)).x=zgN r from rfl,hrq];exact zam ho2 hsz
     obtain ⟨a3,c3,e3⟩:=zc3 hG.own;subst e3;have hm3:k+1≤maxLen:=(by unfold maxLen;omega);have hm4:(k+1) * 24≤140737488355328:=(by omega);have hqo:=hG.own;rw [Hll.out] at hqo ⊢;have hbase:w.heap.size≤wr.heap.size:=hEw.size;have hno:=zmL (k:Int) wr;have HG2:=hid hG;have Hrow:=hid hrow;have Hne:=hid hne;have HEw:=hid hEw;have Hrq:=hid hrq;have Hno:=hid hno;have Ho:=hid ho;have Hjn:=hid hjn2;clear hG hrow hne hEw ho ho2 hE hjn2 hrq hno;go_wp2_with fail
     refine Hno.out.mono ?_;rintro e V0 ⟨rfl,rfl⟩;go_wp2_with (first | (at_builtin;refine zmF _ rfl _ _ 78 rfl wb.heap.size 109 i0 2 Tryz.underlying78 hi hz1 g j c6 _ rfl Ho.out rfl ?_) | (at_builtin;refine wpList_append_own _ rfl _ _ 148 rfl w.heap.size 78 j0 (.slice none 0 0) 1 24 Tryz.underlying148 hj hy0 hy1 hy2 rfl (by decide) _ _ _ rfl (hqo.alloc _) ⟨V0.heap.size,0,none⟩ 1 1 [.slice (some ⟨g,0,none⟩) j c6] rfl rfl (cell_one_new _ _ _) (by simp [Value.oneCell']) hm3 hm4 (by rw [World.size_alloc];omega) ?_;intro v7 V7 hown7 hgrow7 _))
     go_roundw
     case rel =>
      have hown7':V7.ownsRow w.heap.size 78 1 v7 (ls.length+1) (ls.map GR.u++[GR.u ⟨g,c6,zgN r⟩]):=by
       rw [Hll.out];unfold GR.u;rw [show (GR.mk g c6 (zgN r)).x=zgN r from rfl,Hrq.out,← Hjn.out];exact hown7
      have hmo:=HG2.out.more (e:=⟨g,c6,zgN r⟩) zmI Hrow.out Hne.out hown7' (by rw [Hll.out] <;> exact hgrow7)
      refine ⟨k+1,ls++[⟨g,c6,zgN r⟩],by go_num,hkk,hid hmo,hid ?_,hid ((HEw.out.alloc _).grown hgrow7 fun q hq=>(World.ownsRow.lt hqo q hq).1)⟩;obtain ⟨h1,h2⟩:=List.getElem?_eq_some_iff.1 Hr.out;rw [List.map_append,HM.out,List.take_succ_eq_append_getElem h1,h2,List.map_append];rfl
     case measure=>simp [zal];omega
  ·have hkl:k=k0:=(by omega);have hkk2:¬ (k:Int)<(k0:Int):=(by omega);have hM:=HM.out;rw [hkl,← Hl.out,List.take_length] at hM;have HM2:=hid hM;clear hM hkl;go_wp2
   go_ret
   exact ⟨_,rfl,ls,HG.out,HM2.out,HE.out⟩
theorem zmO {l:List Rat}{j:Nat}{q:Rat}(h:l[j]?=some q):(l.flatMap zlr)[j * 2]?=some (.string (I q.num))∧(l.flatMap zlr)[j * 2+1]?=some (.string (I (q.den:Int))):=by
 induction l generalizing j with
 | nil=>simp at h
 | cons x l ih =>
  rw [List.flatMap_cons]
  cases j with
  | zero =>
   obtain rfl:x=q:=by simpa using h
   exact ⟨rfl,rfl⟩
  | succ j =>
   rw [List.getElem?_cons_succ] at h
   obtain ⟨h1,h2⟩:=ih h
   have hl:(zlr x).length=2:=rfl
   refine ⟨?_,?_⟩
   ·rw [List.getElem?_append_right (by rw [hl];omega),hl,show (j+1) * 2 - 2=j * 2 by omega];exact h1
   ·rw [List.getElem?_append_right (by rw [hl];omega),hl,show (j+1) * 2+1 - 2=j * 2+1 by omega];exact h2
theorem zmP {l:List Rat}{j:Nat}(q:Rat)(h:j<l.length):((l.flatMap zlr).set (j * 2) (.string (I q.num))).set (j * 2+1) (.string (I (q.den:Int)))=(l.set j q).flatMap zlr:=by
 induction l generalizing j with
 | nil=>simp at h
 | cons x l ih =>
  cases j with
  | zero=>rfl
  | succ j =>
   rw [List.set_cons_succ,List.flatMap_cons,List.flatMap_cons]
   have hl:(zlr x).length=2:=rfl
   rw [List.set_append_right _ _ (by rw [hl];omega),List.set_append_right _ _ (by rw [hl];omega),hl,show (j+1) * 2 - 2=j * 2 by omega,show (j+1) * 2+1 - 2=j * 2+1 by omega,ih (by simpa using h)]
def GQ (W0:World)(B H gs cap:Nat)(m:List (List Rat))(w:World):Prop :=
 ∃ ls:List (GR Rat),Gd zlr 109 78 2 w B gs cap ls∧ls.map GR.x=m∧(∀ e∈ls,e.g<H)∧gs<H∧W0.heap.size≤B∧Ext W0 w
section
variable {W0 w : World} {B H gs cap : Nat} {m : List (List Rat)}
theorem GQ.ext {w':World}(h:GQ W0 B H gs cap m w)(hx:Ext w w'):GQ W0 B H gs cap m w':=by
 obtain ⟨ls,h1,h2,h3,h4,h5,h6⟩:=h;exact ⟨ls,h1.ext hx,h2,h3,h4,h5,h6.trans hx⟩
theorem GQ.x (h:GQ W0 B H gs cap m w):Ext W0 w:=by
 obtain ⟨_,_,_,_,_,_,h6⟩:=h;exact h6
theorem GQ.gsH (h:GQ W0 B H gs cap m w):gs<H:=by
 obtain ⟨_,_,_,_,h4,_,_⟩:=h;exact h4
theorem GQ.frozen (h:GQ W0 B H gs cap m w)(i:Nat):w.frozen? ⟨gs,i,none⟩=false:=by
 obtain ⟨ls,hd,_⟩:=h;exact World.ownsRow.frozenAt hd.own i
theorem zmQ {ls:List (GR Rat)}{i:Nat}{r:List Rat}(h:(ls.map GR.x)[i]?=some r):∃ e,ls[i]?=some e∧e.x=r:=by
 rw [List.getElem?_map] at h
 cases hl:ls[i]? with
 | none=>rw [hl] at h;cases h
 | some e=>rw [hl] at h;exact ⟨e,rfl,Option.some.inj h⟩
theorem GQ.row (h:GQ W0 B H gs cap m w){i:Nat}{r:List Rat}(hr:m[i]?=some r) :
  ∃ gi ci,w.cell? ⟨gs,i,none⟩=some (.slice (some ⟨gi,0,none⟩) r.length ci)∧gi<H ∧
   ∀ V,Ext w V→V.cell? ⟨gs,i,none⟩=some (.slice (some ⟨gi,0,none⟩) r.length ci)∧(∀ j q,r[j]?=some q→V.cell? ⟨gi,j * 2,none⟩=some (.string (I q.num))∧V.cell? ⟨gi,j * 2+1,none⟩=some (.string (I (q.den:Int))))∧(∀ j,V.frozen? ⟨gi,j,none⟩=false) ∧
    ∀ j (q:Rat),j<r.length→GQ W0 B H gs cap (m.set i (r.set j q)) ((V.setCell ⟨gi,j * 2,none⟩ (.string (I q.num))).setCell ⟨gi,j * 2+1,none⟩ (.string (I (q.den:Int))))∧V.grownBy ((V.setCell ⟨gi,j * 2,none⟩ (.string (I q.num))).setCell ⟨gi,j * 2+1,none⟩ (.string (I (q.den:Int)))) (some gi):=by
 obtain ⟨ls,hd,rfl,hH,hgH,hB,hx⟩:=h;obtain ⟨e,hE,rfl⟩:=zmQ hr;have hm:=List.mem_of_getElem? hE;refine ⟨e.g,e.c,hd.at hE,hH e hm,fun V hV=>⟨(hd.ext hV).at hE,fun j q hq=>?_,fun j=>World.ownsRow.frozenAt ((hd.ext hV).rows e hm) j,fun j q hj=>?_⟩⟩
 ·have ho:=(hd.ext hV).rows e hm;have hj:=(List.getElem?_eq_some_iff.1 hq).1;obtain ⟨h1,h2⟩:=zmO hq;have c0:=World.ownsRow.cellAt ho (j * 2) (by omega);have c1:=World.ownsRow.cellAt ho (j * 2+1) (by omega);rw [h1] at c0;rw [h2] at c1;exact ⟨c0,c1⟩
 ·have ho:=(hd.ext hV).rows e hm;have s1:=World.ownsRow.stored ho (j * 2) (.string (I q.num));have s2:=World.ownsRow.stored s1.1 (j * 2+1) (.string (I (q.den:Int)));have hg:=s1.2.trans s2.2;rw [zmP q hj] at s2;have hup:=(hd.ext hV).upd zmI hE hg (x:=e.x.set j q) (by rw [List.length_set]) s2.1;refine ⟨⟨_,hup,by rw [List.map_set],fun f hf=>?_,hgH,hB,zlp hg (hx.trans hV) (Nat.le_trans hB (hd.rowB hm).1)⟩,hg⟩;obtain ⟨k,hk⟩:=List.mem_iff_getElem?.1 hf;rw [List.getElem?_set] at hk;split at hk
  ·split at hk
   ·obtain rfl:=Option.some.inj hk;exact hH e hm
   ·cases hk
  ·exact hH f (List.mem_of_getElem? hk)
theorem GQ.swap (h:GQ W0 B H gs cap m w){i j:Nat}{r s:List Rat}(hr:m[i]?=some r)(hs:m[j]?=some s) :
  ∃ gi ci gj cj,w.cell? ⟨gs,i,none⟩=some (.slice (some ⟨gi,0,none⟩) r.length ci)∧w.cell? ⟨gs,j,none⟩=some (.slice (some ⟨gj,0,none⟩) s.length cj) ∧
   GQ W0 B H gs cap (swp m i j) ((w.setCell ⟨gs,i,none⟩ (.slice (some ⟨gj,0,none⟩) s.length cj)).setCell ⟨gs,j,none⟩ (.slice (some ⟨gi,0,none⟩) r.length ci))∧w.grownBy ((w.setCell ⟨gs,i,none⟩ (.slice (some ⟨gj,0,none⟩) s.length cj)).setCell ⟨gs,j,none⟩ (.slice (some ⟨gi,0,none⟩) r.length ci)) (some gs):=by
 obtain ⟨ls,hd,rfl,hH,hgH,hB,hx⟩:=h;obtain ⟨e,hE,rfl⟩:=zmQ hr;obtain ⟨f,hF,rfl⟩:=zmQ hs;obtain ⟨h1,h2⟩:=hd.swap zmI hE hF;refine ⟨e.g,e.c,f.g,f.c,hd.at hE,hd.at hF,⟨(ls.set i f).set j e,h1,?_,fun k hk=>?_,hgH,hB,zlp h2 hx (Nat.le_trans hB hd.gsB.1)⟩,h2⟩
 ·rw [List.map_set,List.map_set];exact (zgF hr hs).symm
 ·obtain ⟨z,hz⟩:=List.mem_iff_getElem?.1 hk;rw [zlo hE hF] at hz;exact hH k (List.mem_of_getElem? hz)
theorem zmR {V:World}{b gi H:Nat}{u v:Value}(h:zep w b u v)(hb:H≤b)(hg:w.grownBy V (some gi))(hi:gi<H):zep V b u v :=
 (hg.block b h.lt (fun q=>by have:=Option.some.inj q;omega)).trans h
theorem zmS {V:World}{E s n gi H:Nat}{v:Value}{xs:List Value}(h:w.ownsRow H E s v n xs)(hg:w.grownBy V (some gi))(hi:gi<H):V.ownsRow H E s v n xs:=by
 refine World.ownsRow.kept h hg ?_;rcases h.2 with ⟨rfl,_⟩ | ⟨g,cap,cur,rfl,hb,_⟩
 ·exact .inl rfl
 ·exact .inr fun q=>by
   have:g=gi:=Option.some.inj q;omega
theorem GQ.kept {V:World}{b:Nat}(h:GQ W0 B H gs cap m w)(hg:w.grownBy V (some b))(hb:H≤b)(hW:W0.heap.size≤H):GQ W0 B H gs cap m V:=by
 obtain ⟨ls,hd,rfl,hH,hgH,hB,hx⟩:=h;refine ⟨ls,⟨World.ownsRow.kept hd.own hg (.inr fun q=>by have:gs=b:=Option.some.inj q;omega),fun e he=>World.ownsRow.kept (hd.rows e he) hg (.inr fun q=>by have:e.g=b:=Option.some.inj q;have:=hH e he;omega),hd.apart⟩,rfl,hH,hgH,hB,hx.grown hg fun k hk=>by cases hk;omega⟩
end
end
section
theorem zmT {c:Nat}{m:List (List Rat)}{a:Nat}(h:m.length≤a):zgH c (m.drop a)=0:=by rw [List.drop_of_length_le h];rfl
theorem zmU {c:Nat}{m:List (List Rat)}{a:Nat}{r:List Rat}(h:m[a]?=some r):zgH c (m.drop a)=if r.getD c 0=0 then zgH c (m.drop (a+1))+1 else 0:=by
 obtain ⟨h1,h2⟩:=List.getElem?_eq_some_iff.1 h;rw [List.drop_eq_getElem_cons h1,h2];rfl
def zmV (m:List (List Rat))(n:Nat):Prop:=∀ r∈m,r.length=n
theorem zmV.set {m:List (List Rat)}{n i:Nat}{r:List Rat}(h:zmV m n)(hr:r.length=n):zmV (m.set i r) n:=fun x hx=>by
 rcases List.mem_or_eq_of_mem_set hx with g | g
 ·exact h x g
 ·rw [g];exact hr
theorem zmV.swp {m:List (List Rat)}{n i j:Nat}(h:zmV m n):zmV (swp m i j) n:=by
 unfold Go.Proofs.YtkdgmahilfnnmaaGreatDoor.swp;split
 ·rename_i x y hx hy;exact (h.set (h y (List.mem_of_getElem? hy))).set (h x (List.mem_of_getElem? hx))
 ·exact h
/-! The pivot's row is divided. -/
def zmW (f:Rat)(r:List Rat)(j:Nat):List Rat:=r.mapIdx fun i a=>if i<j then a / f else a
theorem zmX (f:Rat)(r:List Rat):zmW f r 0=r:=by
 unfold zmW;apply List.ext_getElem?;intro i;rw [List.getElem?_mapIdx]
 cases r[i]? <;> simp
theorem zmY (f:Rat)(r:List Rat)(j:Nat):(zmW f r j).length=r.length:=by unfold zmW;simp
theorem zmZ {f:Rat}{r:List Rat}{j:Nat}{q:Rat}(h:r[j]?=some q):(zmW f r j)[j]?=some q:=by
 unfold zmW;rw [List.getElem?_mapIdx,h];simp
theorem zna {f:Rat}{r:List Rat}{j:Nat}{q:Rat}(h:r[j]?=some q):(zmW f r j).set j (q / f)=zmW f r (j+1):=by
 have hj:=(List.getElem?_eq_some_iff.1 h).1;apply List.ext_getElem?;intro i;rw [List.getElem?_set,zmY];unfold zmW;rw [List.getElem?_mapIdx,List.getElem?_mapIdx];by_cases e:j=i
 ·subst e;rw [if_pos rfl,if_pos hj,h];simp
 ·rw [if_neg e]
  cases r[i]? with
  | none=>rfl
  | some a=>simp only [Option.map_some];congr 1;by_cases g:i<j <;> simp [g] <;> omega
theorem znb (f:Rat)(r:List Rat):zmW f r r.length=zgI f r:=by
 unfold zmW zgI;apply List.ext_getElem?;intro i;rw [List.getElem?_mapIdx,List.getElem?_map]
 cases h:r[i]? with
 | none=>rfl
 | some a =>
  have hi:=(List.getElem?_eq_some_iff.1 h).1
  simp only [Option.map_some,if_pos hi]
/-! A row less a multiple of the pivot's. -/
def znc (r t:List Rat)(f:Rat)(j:Nat):List Rat:=r.mapIdx fun i a=>if i<j then a - f * t.getD i 0 else a
theorem znd (r t:List Rat)(f:Rat):znc r t f 0=r:=by
 unfold znc;apply List.ext_getElem?;intro i;rw [List.getElem?_mapIdx]
 cases r[i]? <;> simp
theorem zne (r t:List Rat)(f:Rat)(j:Nat):(znc r t f j).length=r.length:=by unfold znc;simp
theorem znf {r t:List Rat}{f:Rat}{j:Nat}{q:Rat}(h:r[j]?=some q):(znc r t f j)[j]?=some q:=by
 unfold znc;rw [List.getElem?_mapIdx,h];simp
theorem zng {r t:List Rat}{f:Rat}{j:Nat}{q s:Rat}(h:r[j]?=some q)(hs:t[j]?=some s):(znc r t f j).set j (q - f * s)=znc r t f (j+1):=by
 have hj:=(List.getElem?_eq_some_iff.1 h).1;apply List.ext_getElem?;intro i;rw [List.getElem?_set,zne];unfold znc;rw [List.getElem?_mapIdx,List.getElem?_mapIdx];by_cases e:j=i
 ·subst e;rw [if_pos rfl,if_pos hj,h,List.getD_eq_getElem?_getD,hs];simp
 ·rw [if_neg e]
  cases r[i]? with
  | none=>rfl
  | some a=>simp only [Option.map_some];congr 1;by_cases g:i<j <;> simp [g] <;> omega
theorem znh {r t:List Rat}(f:Rat)(h:r.length=t.length):znc r t f r.length=zgJ r t f:=by
 unfold znc zgJ;apply List.ext_getElem?;intro i;rw [List.getElem?_mapIdx,List.getElem?_zipWith];by_cases hi:i<r.length
 ·rw [List.getElem?_eq_getElem hi,List.getElem?_eq_getElem (by omega)];simp only [Option.map_some,if_pos hi];rw [List.getD_eq_getElem?_getD,List.getElem?_eq_getElem (by omega)];rfl
 ·rw [List.getElem?_eq_none (by omega)];simp
theorem zni {r t:List Rat}(h:r.length=t.length):zgJ r t 0=r:=by
 unfold zgJ;apply List.ext_getElem?;intro i;rw [List.getElem?_zipWith];by_cases hi:i<r.length
 ·rw [List.getElem?_eq_getElem hi,List.getElem?_eq_getElem (by omega)];simp [Rat.zero_mul,Rat.sub_eq_add_neg,Rat.add_zero]
 ·rw [List.getElem?_eq_none (by omega)]
/-! The other rows, one after another. -/
theorem znj (m:List (List Rat))(k c:Nat):zgK m k c 0=m:=by
 unfold zgK;apply List.ext_getElem?;intro i;rw [List.getElem?_mapIdx]
 cases m[i]? <;> simp
theorem znk (m:List (List Rat))(k c n:Nat):(zgK m k c n).length=m.length:=by unfold zgK;simp
theorem znl {m:List (List Rat)}{k c n:Nat}{r:List Rat}(h:m[n]?=some r):(zgK m k c n)[n]?=some r:=by
 unfold zgK;rw [List.getElem?_mapIdx,h];simp
theorem znm {m:List (List Rat)}{k c n:Nat}{r:List Rat}(h:m[k]?=some r):(zgK m k c n)[k]?=some r:=by
 unfold zgK;rw [List.getElem?_mapIdx,h];simp
theorem znn {m:List (List Rat)}{k c n:Nat}(h:n=k):zgK m k c (n+1)=zgK m k c n:=by
 subst h;unfold zgK;apply List.ext_getElem?;intro i;rw [List.getElem?_mapIdx,List.getElem?_mapIdx]
 cases m[i]? with
 | none=>rfl
 | some r =>
  simp only [Option.map_some]
  congr 1
  by_cases g:i=n
  ·simp [g]
  ·by_cases g2:i<n
   ·rw [if_pos ⟨by omega,g⟩,if_pos ⟨g2,g⟩]
   ·rw [if_neg (by omega),if_neg (by omega)]
theorem zno {m:List (List Rat)}{k c n:Nat}{r:List Rat}(h:m[n]?=some r)(hk:n ≠ k):(zgK m k c n).set n (zgJ r (m.getD k []) (r.getD c 0))=zgK m k c (n+1):=by
 have hn:=(List.getElem?_eq_some_iff.1 h).1;apply List.ext_getElem?;intro i;rw [List.getElem?_set,znk];unfold zgK;rw [List.getElem?_mapIdx,List.getElem?_mapIdx];by_cases e:n=i
 ·subst e;rw [if_pos rfl,if_pos hn,h];simp [hk]
 ·rw [if_neg e]
  cases m[i]? with
  | none=>rfl
  | some r =>
   simp only [Option.map_some]
   congr 1
   by_cases g:i<n∧i ≠ k
   ·rw [if_pos g,if_pos ⟨by omega,g.2⟩]
   ·rw [if_neg g,if_neg (by omega)]
theorem znp {m:List (List Rat)}{k c n:Nat}{r t:List Rat}(h:m[n]?=some r)(ht:m[k]?=some t)(hl:r.length=t.length)(h0:r.getD c 0=0):zgK m k c (n+1)=zgK m k c n:=by
 by_cases hk:n=k
 ·exact znn hk
 ·rw [← zno h hk,List.getD_eq_getElem?_getD,ht,h0];simp only [Option.getD_some];rw [zni hl];obtain ⟨h1,h2⟩:=List.getElem?_eq_some_iff.1 (znl (k:=k) (c:=c) h);rw [← h2];exact List.set_getElem_self h1
end
section
open Go.RowKit Go.Lib
theorem znq (n0 n:Int)(d:Nat)(hn0:n0=-n)(w:World)(he:Env w)(hn:Fit n)(hd:Fit (d:Int))(h0:0<d) :
  Calls Tryz.prog 168 #[.string (I n0),.string (I (-(d:Int)))] w fun e w'=>e=.returned (Rv (mkRat n d))∧Ext w w':=by
 have hg:=fun W (h:Ext w W)=>zen n (d:Int) W (he.ext h) hn hd;have hs:=fun W=>zbR (-(d:Int)) W hd.negI;have hn1:=fun W=>zd5 n0 W (by rw [hn0];exact hn.negI);have hn2:=fun W=>zd5 (-(d:Int)) W hd.negI;rw [hn0,Int.neg_neg] at hn1;rw [Int.neg_neg] at hn2;rw [← hn0] at hn1;generalize I (-(d:Int))=sd0 at *;generalize I n0=sn0 at *;clear hn0;rw [Int.natAbs_natCast] at hg;rw [zbk (by omega)] at hs;have hgp:0<Nat.gcd n.natAbs d:=Nat.gcd_pos_of_pos_right _ h0;have hgd:Nat.gcd n.natAbs d≤d:=Nat.gcd_le_right _ h0;have e1:(mkRat n d).num=n / ((Nat.gcd n.natAbs d:Nat):Int):=by rw [Rat.num_mkRat,if_neg (by omega),Nat.gcd_comm]
 have e2:(((mkRat n d).den:Nat):Int)=(d:Int) / ((Nat.gcd n.natAbs d:Nat):Int):=by rw [Rat.den_mkRat,if_neg (by omega),Nat.gcd_comm,Int.natCast_ediv]
 unfold Rv;rw [e1,e2];generalize Nat.gcd n.natAbs d=g at *;have hfg:Fit (g:Int):=Nat.le_trans (Dec.nDigits_mono (by omega)) hd;have hq1:=fun W (h:Ext w W)=>zeh n (g:Int) W (he.ext h) (by omega) hn hfg;have hq2:=fun W (h:Ext w W)=>zeh (d:Int) (g:Int) W (he.ext h) (by omega) hd hfg;have f1:fdv n (g:Int)=n / (g:Int):=by unfold fdv;rw [if_pos (by omega)]
 have f2:fdv (d:Int) (g:Int)=(d:Int) / (g:Int):=by unfold fdv;rw [if_pos (by omega)]
 rw [f1] at hq1;rw [f2] at hq2;have b2:=zep.new w (.string ⟨#[]⟩) (.string ⟨#[]⟩);have hE:Ext w (w.alloc (.cells #[.string ⟨#[]⟩,.string ⟨#[]⟩] 109)):=(Ext.refl _).alloc _;have hone:=zez (g:Int);have hdiv1:¬ g=1∨(n / (g:Int)=n∧(d:Int) / (g:Int)=d):=by
  by_cases e:g=1
  ·right;subst e;simp
  ·exact .inl e
 generalize n / (g:Int)=x at *;generalize (d:Int) / (g:Int)=y at *;generalize fmd n (g:Int)=r1 at *;generalize fmd (d:Int) (g:Int)=r2 at *;clear f1 f2 e1 e2 he hn hd hfg hgd hgp;have Hg:=hid hg;have Hs:=hid hs;have Hq1:=hid hq1;have Hq2:=hid hq2;have B2:=hid b2;have HE:=hid hE;have Hn1:=hid hn1;have Hn2:=hid hn2;clear hg hs hq1 hq2 b2 hE hn1 hn2;by_cases hg1:g=1
 ·rcases hdiv1 with h | ⟨rfl,rfl⟩
  ·exact absurd hg1 h
  have ht:((I (g:Int)).toList == [49])=true:=by rw [hone,hg1];rfl
  have ht2:((I (g:Int)).toList != [49])=false:=by rw [bne,ht];rfl
  clear hone hg1;go_enter Tryz.func168,Tryz.ntmps168
  go_wp2_with fail
  refine (Hs.out _).mono ?_;rintro e W1 ⟨rfl,rfl⟩;go_wp2_with fail
  refine (Hn1.out _).mono ?_;rintro e wa ⟨rfl,hxa⟩;have Hxa:=hid hxa;clear hxa;go_wp2_with fail
  refine (Hn2.out _).mono ?_;rintro e wb ⟨rfl,hxb⟩;have Hxb:=hid (Hxa.out.trans hxb);clear hxb;go_wp2_with fail
  refine (Hg.out wb (HE.out.trans Hxb.out)).mono ?_;rintro e w2 ⟨rfl,hx2⟩;have Hx2:=hid (Hxb.out.trans hx2);clear hx2;have hk:Res w2 w.heap.size:=⟨_,_,B2.out.ext Hx2.out⟩;have hc0:=hk.c0;have hc1:=hk.c1;have hz0:=hk.fz 0;have hz1:=hk.fz 1;obtain ⟨hb,hfx⟩:=Kp0.fin ⟨HE.out.trans Hx2.out,hk⟩ (Nat.le_refl _) (.string (I x)) (.string (I (d:Int)));have Hb:=hid hb;have Hfx:=hid hfx;have Hk:=hid hk;clear hb hfx hk;go_wp2_with fail
  have hd0:=Hb.out.c0;have hd1:=Hb.out.c1;exact bodyPost_ret (v:=.agg #[.string (I x),.string (I (d:Int))]) (by simp [results,Tryz.results168,go_sem,hd0,hd1]) rfl ⟨rfl,Hfx.out⟩
 ·have ht:((I (g:Int)).toList == [49])=false:=by rw [hone];exact decide_eq_false (by omega)
  have ht2:((I (g:Int)).toList != [49])=true:=by rw [bne,ht];rfl
  clear hone hg1 hdiv1;go_enter Tryz.func168,Tryz.ntmps168
  go_wp2_with fail
  refine (Hs.out _).mono ?_;rintro e W1 ⟨rfl,rfl⟩;go_wp2_with fail
  refine (Hn1.out _).mono ?_;rintro e wa ⟨rfl,hxa⟩;have Hxa:=hid hxa;clear hxa;go_wp2_with fail
  refine (Hn2.out _).mono ?_;rintro e wb ⟨rfl,hxb⟩;have Hxb:=hid (Hxa.out.trans hxb);clear hxb;go_wp2_with fail
  refine (Hg.out wb (HE.out.trans Hxb.out)).mono ?_;rintro e w2 ⟨rfl,hx2⟩;have Hx2:=hid (Hxb.out.trans hx2);clear hx2;go_wp2_with fail
  refine (Hq1.out w2 (HE.out.trans Hx2.out)).mono ?_;rintro e w3 ⟨rfl,hx3⟩;have Hx3:=hid (Hx2.out.trans hx3);clear hx3;go_wp2_with fail
  refine (Hq2.out w3 (HE.out.trans Hx3.out)).mono ?_;rintro e w4 ⟨rfl,hx4⟩;have Hx4:=hid (Hx3.out.trans hx4);clear hx4;have hk:Res w4 w.heap.size:=⟨_,_,B2.out.ext Hx4.out⟩;have hc0:=hk.c0;have hc1:=hk.c1;have hz0:=hk.fz 0;have hz1:=hk.fz 1;obtain ⟨hb,hfx⟩:=Kp0.fin ⟨HE.out.trans Hx4.out,hk⟩ (Nat.le_refl _) (.string (I x)) (.string (I y));have Hb:=hid hb;have Hfx:=hid hfx;have Hk:=hid hk;clear hb hfx hk;go_wp2_with fail
  have hd0:=Hb.out.c0;have hd1:=Hb.out.c1;exact bodyPost_ret (v:=.agg #[.string (I x),.string (I y)]) (by simp [results,Tryz.results168,go_sem,hd0,hd1]) rfl ⟨rfl,Hfx.out⟩
theorem znr (a b:Rat)(w:World)(he:Env w)(ha:Ft 100000 a)(hb:Ft 100000 b)(hp:b.num<0) :
  Calls Tryz.prog 133 #[Rv a,Rv b] w fun e w'=>e=.returned (.tuple #[Rv (a / b),.int .i64 0])∧Ext w w':=by
 obtain ⟨n,hn⟩:∃ n:Nat,b.num=-(n:Int):=⟨(-b.num).toNat,by omega⟩;have hn0:0<n:=by omega
 have fa1:=ha.num (by omega);have fa2:=ha.den (by omega);have fb1:=hb.num (by omega);have fb2:=hb.den (by omega);have hda:nDigits ((a.den:Int)).natAbs≤100000:=by rw [Int.natAbs_natCast];exact ha.2
 have hdb:nDigits ((b.den:Int)).natAbs≤100000:=by rw [Int.natAbs_natCast];exact hb.2
 have g1:nDigits (a.num * (b.den:Int)).natAbs≤200000:=ze1 ha.1 hdb;have g3:nDigits ((a.den:Int) * b.num).natAbs≤200000:=ze1 hda hb.1;have hk0:=zes w (.string (I a.num)) (.string (I (a.den:Int))) (.string (I b.num)) (.string (I (b.den:Int)));have hsg:=fun W=>ze9 b W fb1;have hc1:zbj b.num 0=-1:=by unfold zbj;(repeat' split) <;> omega
 rw [hc1] at hsg;have hm1:=fun W (h:Ext w W)=>zca a.num (b.den:Int) W (he.ext h) fa1 fb2;have hm3:=fun W (h:Ext w W)=>zca (a.den:Int) b.num W (he.ext h) fa2 fb1;have hlo:=fun W (h:Ext w W)=>znq (a.num * (b.den:Int)) (-(a.num * (b.den:Int))) (a.den * n) (by rw [Int.neg_neg]) W (he.ext h) (by unfold Fit;rw [Int.natAbs_neg];omega) (by
  have e:((a.den:Int) * b.num).natAbs=((a.den * n:Nat):Int).natAbs:=by rw [hn,Int.mul_neg,Int.natAbs_neg,Int.natCast_mul]
  unfold Fit;rw [← e];omega) (Nat.mul_pos a.den_pos hn0)
 have hdv:=zjL a (-b) n (by show -b.num=_;omega) hn0;rw [show (-b).den=b.den from rfl] at hdv;have hmk:mkRat (-(a.num * (b.den:Int))) (a.den * n)=a / b:=by
  rw [← Rat.neg_mkRat,hdv];grind
 rw [hmk,Int.natCast_mul,← Int.mul_neg,← hn] at hlo;unfold Rv at hsg hlo ⊢;generalize I (a.num * (b.den:Int))=sm at *;generalize I ((a.den:Int) * b.num)=so at *;generalize I (a / b).num=st at *;generalize I (((a / b).den:Nat):Int)=su at *;generalize I a.num=sa at *;generalize I b.num=sb at *;generalize I (a.den:Int)=sc at *;generalize I (b.den:Int)=sd at *;clear g1 g3 fa1 fa2 fb1 fb2 hda hdb he ha hb hn hn0 hp hc1;have Hk0:=hid hk0;have Hsg:=hid hsg;have Hm1:=hid hm1;have Hm3:=hid hm3;have Hlo:=hid hlo;clear hk0 hsg hm1 hm3 hlo;go_enter Tryz.func133,Tryz.ntmps133
 go_wp2_with fail
 generalize hV:((w.alloc (.cells #[.string sa,.string sc] 109)).alloc (.cells #[.string sb,.string sd] 109)).alloc (.cells #[.string ⟨#[]⟩,.string ⟨#[]⟩] 109)=V at *;refine (Hsg.out _).mono ?_;rintro e W2 ⟨rfl,hxa⟩;have hK:=Hk0.out.ext hxa;have HK:=hid hK;clear hK;clear hxa;go_wp2_with fail
 go_region_held3 (fun w'=>Kp2 w w' w.heap.size (.string sa) (.string sc) (w.heap.size+1) (.string sb) (.string sd) (w.heap.size+1+1)∧w'.cell? ⟨w.heap.size,0,none⟩=some (.string sa)∧w'.cell? ⟨w.heap.size,1,none⟩=some (.string sc)∧w'.cell? ⟨w.heap.size+1,0,none⟩=some (.string sb)∧w'.cell? ⟨w.heap.size+1,1,none⟩=some (.string sd)∧w'.cell? ⟨w.heap.size+1+1,0,none⟩=some (zeq w' (w.heap.size+1+1) 0)∧w'.cell? ⟨w.heap.size+1+1,1,none⟩=some (zeq w' (w.heap.size+1+1) 1)∧w'.frozen? ⟨w.heap.size+1+1,0,none⟩=false∧w'.frozen? ⟨w.heap.size+1+1,1,none⟩=false)
  (first | exact (Kp2.ext HK.out ((Ext.refl _).drew)).all | exact (Kp2.ext (And.left (by assumption)) hxa).all | exact (Kp2.put (And.left (by assumption)) (by omega) (by omega) (by omega) _ _).all)
  (first
   | (go_at_call_of 147 (Value.string sa);refine (Hm1.out _ (And.left (And.left (by assumption)))).mono ?_;rintro e9 V4 ⟨rfl,hxa⟩;have hkk:=Kp2.ext (And.left (by assumption)) hxa)
   | (go_at_call_of 147 (Value.string sc);refine (Hm3.out _ (And.left (And.left (by assumption)))).mono ?_;rintro e9 V4 ⟨rfl,hxa⟩;have hkk:=Kp2.ext (And.left (by assumption)) hxa)
   | (go_at_call 168;refine (Hlo.out _ (And.left (And.left (by assumption)))).mono ?_;rintro e9 V4 ⟨rfl,hxa⟩;have hkk:=Kp2.ext (And.left (by assumption)) hxa))
 all_goals
  obtain ⟨hb,hfx⟩:=(hkk).fin (by omega) (.string st) (.string su);have Hfx:=hid hfx;clear hfx hxa hkk;generalize (V4.setCell ⟨w.heap.size+1+1,0,none⟩ (.string st)).setCell ⟨w.heap.size+1+1,1,none⟩ (.string su)=W5 at *;have hd0:=hb.c0;have hd1:=hb.c1;go_wp2_with fail
  exact bodyPost_ret (v:=.tuple #[.agg #[.string st,.string su],.int .i64 0]) (by simp [results,Tryz.results133,go_sem,hd0,hd1]) rfl ⟨rfl,Hfx.out⟩
end
end Go.Proofs.YtkdgmahilfnnmaaGreatDoor
