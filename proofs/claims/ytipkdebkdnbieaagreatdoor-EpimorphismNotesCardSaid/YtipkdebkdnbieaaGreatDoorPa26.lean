/- Walk: table.rows, table.nothing: a table as a grid of fractions. (KEEPALL) A grid of fractions in memory: its rows' cells; a fraction is set, rows change places; boxes of fractions beside it. (KEEPALL) Plain: the steps inside a round of table.reduce. (KEEPALL) Walks: fraction.lowest at a negative denominator, fraction.Div by a negative fraction. (Printed by mkdivn.py.) Walks: table.one, table.zero; how long a quotient gets; dividing fractions by any other than zero. (KEEPALL) -/
import Derived.Test.YtipkdebkdnbieaaGreatDoorPa25
import Derived.Test.YtipkdebkdnbieaaGreatDoorPa23
import Derived.Test.YtipkdebkdnbieaaGreatDoorPa08
import Derived.Test.YtipkdebkdnbieaaGreatDoorPa14
import Derived.Test.YtipkdebkdnbieaaGreatDoorPa17
set_option maxRecDepth 100000
set_option maxHeartbeats 4000000
namespace Go.Proofs.YtipkdebkdnbieaaGreatDoor
section
open Go.RowKit Go.Lib Go.Shelf
theorem znU {P:Program}(w:World){ops:Array Oper}{rest:List Oper}{o:Oper}{a:Act}{Q:Exit→Act→World→Prop}
  (hg:o.guard=none) (s x:Operand) (t:TypeId) (hop:o.op=Op.call { callee:=Callee.builtin Builtin.append,args:=#[s,x],argTypes:=#[t,t] })
  (base:Nat) (e:TypeId) (i:TypeInfo) (size:Nat) (h1:P.underlying t=some (.slice e)) (h2:P.info? e=some i) (_h4:i.size=size)
  (g k cap:Nat) (xs:List Value) (hs:a.eval s=.slice (some ⟨g,0,none⟩) k cap) (hown:w.ownsRow base e size (.slice (some ⟨g,0,none⟩) k cap) k xs) (hx:a.eval x=.slice none 0 0)
  (hK:wpList P ops Q rest (a.put o.dst (.slice (some ⟨g,0,none⟩) k cap)) w) :
  wpList P ops Q (o::rest) a w:=by
 refine wpList_plain hg fun K hK'=>?_;have hrun:=run_append_owned_none (P:=P) w base t o.type e i size h1 h2 _ k xs hown;unfold Oper.wp;simp [execOp,hop,resolve,invoke,builtin,hs,hx,hrun,Result.andThen];exact hK' _ _ hK
theorem znV : (Tryz.prog.info? 102).map (fun i=>(i.zero,i.size,i.bytes))=some (some (.agg #[.string ByteArray.empty,.string ByteArray.empty]),2,32):=by kernel_rfl
theorem znW : (Tryz.prog.info? 64).map (fun i=>(i.zero,i.size,i.bytes))=some (some (.slice none 0 0),1,24):=by kernel_rfl
theorem znX : 102 ≠ 64:=by decide
theorem znY (z:Int):zmo (z:Rat)=[.string (I z),.string ⟨#[49]⟩]:=by
 unfold zmo;rw [Rat.num_intCast,Rat.den_intCast,znc];rfl
theorem znZ {w:World}(x y:Value)(t:TypeId):∀ j u,[x,y][j]?=some u→(w.alloc (.cells #[x,y] t)).cell? ((⟨w.heap.size,0,none⟩:Addr).add j)=some u:=fun j u hj=>World.news_of_block (World.alloc_heap_new w (.cells #[x,y] t)) j u (by simpa using hj)
theorem zoa (i:Int)(w:World):Calls Tryz.prog 107 #[.int .i64 i] w fun e w'=>e=.returned (.slice none 0 0)∧w'=w:=by
 go_enter Tryz.func107,Tryz.ntmps107
 go_wp2
 go_ret
 exact ⟨rfl,rfl⟩
theorem zob {r:List Int}{j:Nat}(h:j<r.length):(ziS (r.take (j+1))).flatMap zmo=(ziS (r.take j)).flatMap zmo++[.string (I (zas r j)),.string ⟨#[49]⟩]:=by
 rw [List.take_succ_eq_append_getElem h];unfold ziS zas;rw [List.map_append,List.flatMap_append,List.getD_eq_getElem?_getD,List.getElem?_eq_getElem h];simp only [List.map_cons,List.map_nil,List.flatMap_cons,List.flatMap_nil,List.append_nil,Option.getD_some];rw [znY]
theorem zoc (vm:Value)(m:List (List Int))(n:Nat)(w:World)(he:Env w)(hm:Mat w vm m)(hrec:∀ r∈m,r.length=n)(hn0:0<n)(hn:n≤1000)(hml:m.length≤1000)(hb:∀ r∈m,∀ z∈r,-9223372036854775808≤z∧z≤9223372036854775807) :
  Calls Tryz.prog 106 #[vm,.func (.func 107) #[] #[]] w fun e w'=>∃ v,e=.returned v∧∃ ls,GdM zmo 102 64 2 w' w.heap.size v ls∧ls.map GR.x=m.map ziS∧Ext w w':=by
 obtain ⟨i0,hi,hz0,hz1,hz2⟩:=info_parts znV;obtain ⟨j0,hj,hy0,hy1,hy2⟩:=info_parts znW;obtain ⟨vs,hvl,hvs,hrows⟩:=hm;have hof:=fun (z:Int)(h0:-9223372036854775808≤z)(h1:z≤9223372036854775807) W (hE:Ext w W)=>zaQ z h0 h1 W (he.ext hE);obtain ⟨am,cm,rfl,_,_,hc⟩:=hvs.parts;rw [hvl];generalize hl:m.length=k0 at *;have Hc:=hid hc;have Hrows:=hid hrows;have Hrec:=hid hrec;have Hb:=hid hb;have Hof:=hid hof;have Hl:=hid hl;have Hvl:=hid hvl;clear hc hrows hrec hb hof hl hvl hvs he;go_enter Tryz.func106,Tryz.ntmps106
 go_wp2_with fail
 go_loopw [13,5] (fun v13 v5 wr=>∃ (k:Nat)(ls:List (GR Rat)),v13=.int .i64 k∧k≤k0∧Hid (GdM zmo 102 64 2 wr w.heap.size v5 ls)∧Hid (ls.map GR.x=(m.take k).map ziS)∧Hid (Ext w wr)) (fun v13 _ _=>k0 - (zal v13).toNat)
 case atStart=>exact ⟨0,[],rfl,Nat.zero_le _,hid (GdM.nil _ _),hid rfl,hid (Ext.refl _)⟩
 case round =>
  obtain ⟨k,ls,rfl,hk,HG,HM,HE⟩:=hrel;by_cases hkk:k<k0
  ·obtain ⟨r,hr⟩:∃ r,m[k]?=some r:=⟨_,List.getElem?_eq_getElem (by have:=Hl.out;omega)⟩;obtain ⟨u,hu⟩:∃ u,vs[k]?=some u:=⟨_,List.getElem?_eq_getElem (by rw [Hvl.out];exact hkk)⟩;obtain ⟨b,off,rfl,hcu⟩:=Hc.out k u hu;have hru:=Hrows.out k u hu;rw [List.getD_eq_getElem?_getD,hr] at hru;simp only [Option.getD_some] at hru;have hrl:=Hrec.out r (List.mem_of_getElem? hr);obtain ⟨ar,cr,rfl,_,_,hcr⟩:=hru.parts;have hil:(zap r).length=n:=(by unfold zap;rw [List.length_map];exact hrl);rw [hil] at hcu;have hcw:=HE.out.cell hcu;have hk1:(0:Int)≤(k:Int):=(by omega);have hk2:(k:Int)<(k0:Int):=(by omega);have hll:ls.length=k:=by
    have:=congrArg List.length HM.out;rw [List.length_map,List.length_map,List.length_take,Hl.out] at this;omega
   have Hcr:=hid hcr;have Hr:=hid hr;have Hrl:=hid hrl;have Hll:=hid hll;clear hcr hr hrl hll hcu hru hil hu;go_wp2_with fail
   obtain ⟨wb,hwb⟩:∃ wb,wb=wr:=⟨_,rfl⟩;subst hwb;go_loopw [20,8] (fun v20 v8 wj=>∃ j:Nat,v20=.int .i64 j∧j≤n∧wj.ownsRow wb.heap.size 102 2 v8 j ((ziS (r.take j)).flatMap zmo)∧Ext wb wj) (fun v20 _ _=>n - (zal v20).toNat)
   case atStart=>exact ⟨0,rfl,Nat.zero_le _,World.ownsRow_nil _ _ _ 2,Ext.refl _⟩
   case round =>
    clear hcw;obtain ⟨j,rfl,hjn,ho,hE⟩:=hrel;obtain ⟨a6,c6,rfl⟩:=zc3 ho;have hEw:=HE.out.trans hE;by_cases hjj:j<n
    ·have hjr:j<r.length:=(by rw [Hrl.out];exact hjj);obtain ⟨b2,o2,rfl,hcj⟩:=Hcr.out j (.int .i64 (zas r j)) (by unfold zap zas;rw [List.getElem?_map,List.getElem?_eq_getElem hjr,List.getD_eq_getElem?_getD,List.getElem?_eq_getElem hjr];rfl);have hcj2:=hEw.cell hcj;have hzb:=Hb.out r (List.mem_of_getElem? Hr.out) (zas r j) (zc8 hjr);have hofj:=Hof.out (zas r j) hzb.1 hzb.2 wr hEw;have hst:=zob hjr;generalize zas r j=z at *;have hj1:(0:Int)≤(j:Int):=(by omega);have hj2:(j:Int)<(n:Int):=(by omega);have Hofj:=hid hofj;have Hst:=hid hst;have Ho:=hid ho;have HE2:=hid hE;have hm3:j+1≤maxLen:=(by unfold maxLen;omega);have hm4:(j+1) * 32≤140737488355328:=(by omega);clear hofj hst ho hE hEw hzb hjr hcj;go_wp2_with fail
     refine Hofj.out.mono ?_;rintro e VB ⟨rfl,hxa⟩;have hqo:=hxa.own Ho.out;have hbase:=(HE2.out.trans hxa).size;have HEB:=hid (HE2.out.trans hxa);clear hxa;go_wp2_with (at_builtin;refine wpList_append_own _ rfl _ _ 64 rfl wb.heap.size 102 i0 (.agg #[.string ByteArray.empty,.string ByteArray.empty]) 2 32 Tryz.underlying64 hi hz0 hz1 hz2 rfl (by decide) _ _ _ rfl (hqo.alloc _) ⟨VB.heap.size,0,none⟩ 1 1 [.string (I z),.string ⟨#[49]⟩] rfl rfl (znZ _ _ _) (by simp [Value.oneCell']) hm3 hm4 (by rw [World.size_alloc];omega) ?_;intro v7 V7 hown7 hgrow7 _)
     go_roundw
     case rel=>exact ⟨j+1,by go_num,hjj,by rw [Hst.out];exact hown7,(HEB.out.alloc _).grown hgrow7 fun q hq=>(World.ownsRow.lt hqo q hq).1⟩
     case measure=>simp [zal];omega
    ·have hjn2:j=n:=(by omega);have ho2:=ho;rw [hjn2,show r.take n=r by rw [← Hrl.out];exact List.take_length] at ho2;obtain ⟨g,cg,eg,hg1,hg2⟩:=World.ownsRow.form ho2 hn0;injection eg with eg1 _ eg2;subst eg1 eg2;have hG:=HG.out.ext hE;have hne:∀ f∈ls,f.g ≠ g:=fun f hf=>by
      have:=(HG.out.lt hf).2;omega
     have hsz:=(HE.out).size;have hrq:(ziS r).length=n:=(by unfold ziS;rw [List.length_map];exact Hrl.out);have hrow:wr.ownsRow w.heap.size 102 2 (GR.u ⟨g,c6,ziS r⟩) (ziS r).length ((ziS r).flatMap zmo):=by
      unfold GR.u;rw [show (GR.mk g c6 (ziS r)).x=ziS r from rfl,hrq];exact zam ho2 hsz
     obtain ⟨a3,c3,e3⟩:=zc3 hG.own;subst e3;have hm3:k+1≤maxLen:=(by unfold maxLen;omega);have hm4:(k+1) * 24≤140737488355328:=(by omega);have hqo:=hG.own;rw [Hll.out] at hqo ⊢;have hbase:w.heap.size≤wr.heap.size:=hEw.size;have hno:=zoa (k:Int) wr;have HG2:=hid hG;have Hrow:=hid hrow;have Hne:=hid hne;have HEw:=hid hEw;have Hrq:=hid hrq;have Hno:=hid hno;have Ho:=hid ho;have Hjn:=hid hjn2;clear hG hrow hne hEw ho ho2 hE hjn2 hrq hno;go_wp2_with fail
     refine Hno.out.mono ?_;rintro e V0 ⟨rfl,rfl⟩;go_wp2_with (first | (at_builtin;refine znU _ rfl _ _ 64 rfl wb.heap.size 102 i0 2 Tryz.underlying64 hi hz1 g j c6 _ rfl Ho.out rfl ?_) | (at_builtin;refine wpList_append_own _ rfl _ _ 157 rfl w.heap.size 64 j0 (.slice none 0 0) 1 24 Tryz.underlying157 hj hy0 hy1 hy2 rfl (by decide) _ _ _ rfl (hqo.alloc _) ⟨V0.heap.size,0,none⟩ 1 1 [.slice (some ⟨g,0,none⟩) j c6] rfl rfl (cell_one_new _ _ _) (by simp [Value.oneCell']) hm3 hm4 (by rw [World.size_alloc];omega) ?_;intro v7 V7 hown7 hgrow7 _))
     go_roundw
     case rel =>
      have hown7':V7.ownsRow w.heap.size 64 1 v7 (ls.length+1) (ls.map GR.u++[GR.u ⟨g,c6,ziS r⟩]):=by
       rw [Hll.out];unfold GR.u;rw [show (GR.mk g c6 (ziS r)).x=ziS r from rfl,Hrq.out,← Hjn.out];exact hown7
      have hmo:=HG2.out.more (e:=⟨g,c6,ziS r⟩) znX Hrow.out Hne.out hown7' (by rw [Hll.out] <;> exact hgrow7)
      refine ⟨k+1,ls++[⟨g,c6,ziS r⟩],by go_num,hkk,hid hmo,hid ?_,hid ((HEw.out.alloc _).grown hgrow7 fun q hq=>(World.ownsRow.lt hqo q hq).1)⟩;obtain ⟨h1,h2⟩:=List.getElem?_eq_some_iff.1 Hr.out;rw [List.map_append,HM.out,List.take_succ_eq_append_getElem h1,h2,List.map_append];rfl
     case measure=>simp [zal];omega
  ·have hkl:k=k0:=(by omega);have hkk2:¬ (k:Int)<(k0:Int):=(by omega);have hM:=HM.out;rw [hkl,← Hl.out,List.take_length] at hM;have HM2:=hid hM;clear hM hkl;go_wp2
   go_ret
   exact ⟨_,rfl,ls,HG.out,HM2.out,HE.out⟩
theorem zod {l:List Rat}{j:Nat}{q:Rat}(h:l[j]?=some q):(l.flatMap zmo)[j * 2]?=some (.string (I q.num))∧(l.flatMap zmo)[j * 2+1]?=some (.string (I (q.den:Int))):=by
 induction l generalizing j with
 | nil=>simp at h
 | cons x l ih =>
  rw [List.flatMap_cons]
  cases j with
  | zero =>
   obtain rfl:x=q:=by simpa using h
   exact ⟨rfl,rfl⟩
  | succ j =>
   rw [List.getElem?_cons_succ] at h
   obtain ⟨h1,h2⟩:=ih h
   have hl:(zmo x).length=2:=rfl
   refine ⟨?_,?_⟩
   ·rw [List.getElem?_append_right (by rw [hl];omega),hl,show (j+1) * 2 - 2=j * 2 by omega];exact h1
   ·rw [List.getElem?_append_right (by rw [hl];omega),hl,show (j+1) * 2+1 - 2=j * 2+1 by omega];exact h2
theorem zoe {l:List Rat}{j:Nat}(q:Rat)(h:j<l.length):((l.flatMap zmo).set (j * 2) (.string (I q.num))).set (j * 2+1) (.string (I (q.den:Int)))=(l.set j q).flatMap zmo:=by
 induction l generalizing j with
 | nil=>simp at h
 | cons x l ih =>
  cases j with
  | zero=>rfl
  | succ j =>
   rw [List.set_cons_succ,List.flatMap_cons,List.flatMap_cons]
   have hl:(zmo x).length=2:=rfl
   rw [List.set_append_right _ _ (by rw [hl];omega),List.set_append_right _ _ (by rw [hl];omega),hl,show (j+1) * 2 - 2=j * 2 by omega,show (j+1) * 2+1 - 2=j * 2+1 by omega,ih (by simpa using h)]
def GQ (W0:World)(B H gs cap:Nat)(m:List (List Rat))(w:World):Prop :=
 ∃ ls:List (GR Rat),Gd zmo 102 64 2 w B gs cap ls∧ls.map GR.x=m∧(∀ e∈ls,e.g<H)∧gs<H∧W0.heap.size≤B∧Ext W0 w
section
variable {W0 w : World} {B H gs cap : Nat} {m : List (List Rat)}
theorem GQ.ext {w':World}(h:GQ W0 B H gs cap m w)(hx:Ext w w'):GQ W0 B H gs cap m w':=by
 obtain ⟨ls,h1,h2,h3,h4,h5,h6⟩:=h;exact ⟨ls,h1.ext hx,h2,h3,h4,h5,h6.trans hx⟩
theorem GQ.x (h:GQ W0 B H gs cap m w):Ext W0 w:=by
 obtain ⟨_,_,_,_,_,_,h6⟩:=h;exact h6
theorem GQ.gsH (h:GQ W0 B H gs cap m w):gs<H:=by
 obtain ⟨_,_,_,_,h4,_,_⟩:=h;exact h4
theorem GQ.frozen (h:GQ W0 B H gs cap m w)(i:Nat):w.frozen? ⟨gs,i,none⟩=false:=by
 obtain ⟨ls,hd,_⟩:=h;exact World.ownsRow.frozenAt hd.own i
theorem zof {ls:List (GR Rat)}{i:Nat}{r:List Rat}(h:(ls.map GR.x)[i]?=some r):∃ e,ls[i]?=some e∧e.x=r:=by
 rw [List.getElem?_map] at h
 cases hl:ls[i]? with
 | none=>rw [hl] at h;cases h
 | some e=>rw [hl] at h;exact ⟨e,rfl,Option.some.inj h⟩
theorem GQ.row (h:GQ W0 B H gs cap m w){i:Nat}{r:List Rat}(hr:m[i]?=some r) :
  ∃ gi ci,w.cell? ⟨gs,i,none⟩=some (.slice (some ⟨gi,0,none⟩) r.length ci)∧gi<H ∧
   ∀ V,Ext w V→V.cell? ⟨gs,i,none⟩=some (.slice (some ⟨gi,0,none⟩) r.length ci)∧(∀ j q,r[j]?=some q→V.cell? ⟨gi,j * 2,none⟩=some (.string (I q.num))∧V.cell? ⟨gi,j * 2+1,none⟩=some (.string (I (q.den:Int))))∧(∀ j,V.frozen? ⟨gi,j,none⟩=false) ∧
    ∀ j (q:Rat),j<r.length→GQ W0 B H gs cap (m.set i (r.set j q)) ((V.setCell ⟨gi,j * 2,none⟩ (.string (I q.num))).setCell ⟨gi,j * 2+1,none⟩ (.string (I (q.den:Int))))∧V.grownBy ((V.setCell ⟨gi,j * 2,none⟩ (.string (I q.num))).setCell ⟨gi,j * 2+1,none⟩ (.string (I (q.den:Int)))) (some gi):=by
 obtain ⟨ls,hd,rfl,hH,hgH,hB,hx⟩:=h;obtain ⟨e,hE,rfl⟩:=zof hr;have hm:=List.mem_of_getElem? hE;refine ⟨e.g,e.c,hd.at hE,hH e hm,fun V hV=>⟨(hd.ext hV).at hE,fun j q hq=>?_,fun j=>World.ownsRow.frozenAt ((hd.ext hV).rows e hm) j,fun j q hj=>?_⟩⟩
 ·have ho:=(hd.ext hV).rows e hm;have hj:=(List.getElem?_eq_some_iff.1 hq).1;obtain ⟨h1,h2⟩:=zod hq;have c0:=World.ownsRow.cellAt ho (j * 2) (by omega);have c1:=World.ownsRow.cellAt ho (j * 2+1) (by omega);rw [h1] at c0;rw [h2] at c1;exact ⟨c0,c1⟩
 ·have ho:=(hd.ext hV).rows e hm;have s1:=World.ownsRow.stored ho (j * 2) (.string (I q.num));have s2:=World.ownsRow.stored s1.1 (j * 2+1) (.string (I (q.den:Int)));have hg:=s1.2.trans s2.2;rw [zoe q hj] at s2;have hup:=(hd.ext hV).upd znX hE hg (x:=e.x.set j q) (by rw [List.length_set]) s2.1;refine ⟨⟨_,hup,by rw [List.map_set],fun f hf=>?_,hgH,hB,zmm hg (hx.trans hV) (Nat.le_trans hB (hd.rowB hm).1)⟩,hg⟩;obtain ⟨k,hk⟩:=List.mem_iff_getElem?.1 hf;rw [List.getElem?_set] at hk;split at hk
  ·split at hk
   ·obtain rfl:=Option.some.inj hk;exact hH e hm
   ·cases hk
  ·exact hH f (List.mem_of_getElem? hk)
theorem GQ.swap (h:GQ W0 B H gs cap m w){i j:Nat}{r s:List Rat}(hr:m[i]?=some r)(hs:m[j]?=some s) :
  ∃ gi ci gj cj,w.cell? ⟨gs,i,none⟩=some (.slice (some ⟨gi,0,none⟩) r.length ci)∧w.cell? ⟨gs,j,none⟩=some (.slice (some ⟨gj,0,none⟩) s.length cj) ∧
   GQ W0 B H gs cap (swp m i j) ((w.setCell ⟨gs,i,none⟩ (.slice (some ⟨gj,0,none⟩) s.length cj)).setCell ⟨gs,j,none⟩ (.slice (some ⟨gi,0,none⟩) r.length ci))∧w.grownBy ((w.setCell ⟨gs,i,none⟩ (.slice (some ⟨gj,0,none⟩) s.length cj)).setCell ⟨gs,j,none⟩ (.slice (some ⟨gi,0,none⟩) r.length ci)) (some gs):=by
 obtain ⟨ls,hd,rfl,hH,hgH,hB,hx⟩:=h;obtain ⟨e,hE,rfl⟩:=zof hr;obtain ⟨f,hF,rfl⟩:=zof hs;obtain ⟨h1,h2⟩:=hd.swap znX hE hF;refine ⟨e.g,e.c,f.g,f.c,hd.at hE,hd.at hF,⟨(ls.set i f).set j e,h1,?_,fun k hk=>?_,hgH,hB,zmm h2 hx (Nat.le_trans hB hd.gsB.1)⟩,h2⟩
 ·rw [List.map_set,List.map_set];exact (ziF hr hs).symm
 ·obtain ⟨z,hz⟩:=List.mem_iff_getElem?.1 hk;rw [zml hE hF] at hz;exact hH k (List.mem_of_getElem? hz)
theorem zog {V:World}{b gi H:Nat}{u v:Value}(h:zep w b u v)(hb:H≤b)(hg:w.grownBy V (some gi))(hi:gi<H):zep V b u v :=
 (hg.block b h.lt (fun q=>by have:=Option.some.inj q;omega)).trans h
theorem zoh {V:World}{E s n gi H:Nat}{v:Value}{xs:List Value}(h:w.ownsRow H E s v n xs)(hg:w.grownBy V (some gi))(hi:gi<H):V.ownsRow H E s v n xs:=by
 refine World.ownsRow.kept h hg ?_;rcases h.2 with ⟨rfl,_⟩ | ⟨g,cap,cur,rfl,hb,_⟩
 ·exact .inl rfl
 ·exact .inr fun q=>by
   have:g=gi:=Option.some.inj q;omega
theorem GQ.kept {V:World}{b:Nat}(h:GQ W0 B H gs cap m w)(hg:w.grownBy V (some b))(hb:H≤b)(hW:W0.heap.size≤H):GQ W0 B H gs cap m V:=by
 obtain ⟨ls,hd,rfl,hH,hgH,hB,hx⟩:=h;refine ⟨ls,⟨World.ownsRow.kept hd.own hg (.inr fun q=>by have:gs=b:=Option.some.inj q;omega),fun e he=>World.ownsRow.kept (hd.rows e he) hg (.inr fun q=>by have:e.g=b:=Option.some.inj q;have:=hH e he;omega),hd.apart⟩,rfl,hH,hgH,hB,hx.grown hg fun k hk=>by cases hk;omega⟩
end
end
section
theorem zoi {c:Nat}{m:List (List Rat)}{a:Nat}(h:m.length≤a):ziM c (m.drop a)=0:=by rw [List.drop_of_length_le h];rfl
theorem zoj {c:Nat}{m:List (List Rat)}{a:Nat}{r:List Rat}(h:m[a]?=some r):ziM c (m.drop a)=if r.getD c 0=0 then ziM c (m.drop (a+1))+1 else 0:=by
 obtain ⟨h1,h2⟩:=List.getElem?_eq_some_iff.1 h;rw [List.drop_eq_getElem_cons h1,h2];rfl
def zok (m:List (List Rat))(n:Nat):Prop:=∀ r∈m,r.length=n
theorem zok.set {m:List (List Rat)}{n i:Nat}{r:List Rat}(h:zok m n)(hr:r.length=n):zok (m.set i r) n:=fun x hx=>by
 rcases List.mem_or_eq_of_mem_set hx with g | g
 ·exact h x g
 ·rw [g];exact hr
theorem zok.swp {m:List (List Rat)}{n i j:Nat}(h:zok m n):zok (swp m i j) n:=by
 unfold Go.Proofs.YtipkdebkdnbieaaGreatDoor.swp;split
 ·rename_i x y hx hy;exact (h.set (h y (List.mem_of_getElem? hy))).set (h x (List.mem_of_getElem? hx))
 ·exact h
/-! The pivot's row is divided. -/
def zol (f:Rat)(r:List Rat)(j:Nat):List Rat:=r.mapIdx fun i a=>if i<j then a / f else a
theorem zom (f:Rat)(r:List Rat):zol f r 0=r:=by
 unfold zol;apply List.ext_getElem?;intro i;rw [List.getElem?_mapIdx]
 cases r[i]? <;> simp
theorem zon (f:Rat)(r:List Rat)(j:Nat):(zol f r j).length=r.length:=by unfold zol;simp
theorem zoo {f:Rat}{r:List Rat}{j:Nat}{q:Rat}(h:r[j]?=some q):(zol f r j)[j]?=some q:=by
 unfold zol;rw [List.getElem?_mapIdx,h];simp
theorem zop {f:Rat}{r:List Rat}{j:Nat}{q:Rat}(h:r[j]?=some q):(zol f r j).set j (q / f)=zol f r (j+1):=by
 have hj:=(List.getElem?_eq_some_iff.1 h).1;apply List.ext_getElem?;intro i;rw [List.getElem?_set,zon];unfold zol;rw [List.getElem?_mapIdx,List.getElem?_mapIdx];by_cases e:j=i
 ·subst e;rw [if_pos rfl,if_pos hj,h];simp
 ·rw [if_neg e]
  cases r[i]? with
  | none=>rfl
  | some a=>simp only [Option.map_some];congr 1;by_cases g:i<j <;> simp [g] <;> omega
theorem zoq (f:Rat)(r:List Rat):zol f r r.length=ziN f r:=by
 unfold zol ziN;apply List.ext_getElem?;intro i;rw [List.getElem?_mapIdx,List.getElem?_map]
 cases h:r[i]? with
 | none=>rfl
 | some a =>
  have hi:=(List.getElem?_eq_some_iff.1 h).1
  simp only [Option.map_some,if_pos hi]
/-! A row less a multiple of the pivot's. -/
def zor (r t:List Rat)(f:Rat)(j:Nat):List Rat:=r.mapIdx fun i a=>if i<j then a - f * t.getD i 0 else a
theorem zos (r t:List Rat)(f:Rat):zor r t f 0=r:=by
 unfold zor;apply List.ext_getElem?;intro i;rw [List.getElem?_mapIdx]
 cases r[i]? <;> simp
theorem zot (r t:List Rat)(f:Rat)(j:Nat):(zor r t f j).length=r.length:=by unfold zor;simp
theorem zou {r t:List Rat}{f:Rat}{j:Nat}{q:Rat}(h:r[j]?=some q):(zor r t f j)[j]?=some q:=by
 unfold zor;rw [List.getElem?_mapIdx,h];simp
theorem zov {r t:List Rat}{f:Rat}{j:Nat}{q s:Rat}(h:r[j]?=some q)(hs:t[j]?=some s):(zor r t f j).set j (q - f * s)=zor r t f (j+1):=by
 have hj:=(List.getElem?_eq_some_iff.1 h).1;apply List.ext_getElem?;intro i;rw [List.getElem?_set,zot];unfold zor;rw [List.getElem?_mapIdx,List.getElem?_mapIdx];by_cases e:j=i
 ·subst e;rw [if_pos rfl,if_pos hj,h,List.getD_eq_getElem?_getD,hs];simp
 ·rw [if_neg e]
  cases r[i]? with
  | none=>rfl
  | some a=>simp only [Option.map_some];congr 1;by_cases g:i<j <;> simp [g] <;> omega
theorem zow {r t:List Rat}(f:Rat)(h:r.length=t.length):zor r t f r.length=ziO r t f:=by
 unfold zor ziO;apply List.ext_getElem?;intro i;rw [List.getElem?_mapIdx,List.getElem?_zipWith];by_cases hi:i<r.length
 ·rw [List.getElem?_eq_getElem hi,List.getElem?_eq_getElem (by omega)];simp only [Option.map_some,if_pos hi];rw [List.getD_eq_getElem?_getD,List.getElem?_eq_getElem (by omega)];rfl
 ·rw [List.getElem?_eq_none (by omega)];simp
theorem zox {r t:List Rat}(h:r.length=t.length):ziO r t 0=r:=by
 unfold ziO;apply List.ext_getElem?;intro i;rw [List.getElem?_zipWith];by_cases hi:i<r.length
 ·rw [List.getElem?_eq_getElem hi,List.getElem?_eq_getElem (by omega)];simp [Rat.zero_mul,Rat.sub_eq_add_neg,Rat.add_zero]
 ·rw [List.getElem?_eq_none (by omega)]
/-! The other rows, one after another. -/
theorem zoy (m:List (List Rat))(k c:Nat):ziP m k c 0=m:=by
 unfold ziP;apply List.ext_getElem?;intro i;rw [List.getElem?_mapIdx]
 cases m[i]? <;> simp
theorem zoz (m:List (List Rat))(k c n:Nat):(ziP m k c n).length=m.length:=by unfold ziP;simp
theorem zo0 {m:List (List Rat)}{k c n:Nat}{r:List Rat}(h:m[n]?=some r):(ziP m k c n)[n]?=some r:=by
 unfold ziP;rw [List.getElem?_mapIdx,h];simp
theorem zo1 {m:List (List Rat)}{k c n:Nat}{r:List Rat}(h:m[k]?=some r):(ziP m k c n)[k]?=some r:=by
 unfold ziP;rw [List.getElem?_mapIdx,h];simp
theorem zo2 {m:List (List Rat)}{k c n:Nat}(h:n=k):ziP m k c (n+1)=ziP m k c n:=by
 subst h;unfold ziP;apply List.ext_getElem?;intro i;rw [List.getElem?_mapIdx,List.getElem?_mapIdx]
 cases m[i]? with
 | none=>rfl
 | some r =>
  simp only [Option.map_some]
  congr 1
  by_cases g:i=n
  ·simp [g]
  ·by_cases g2:i<n
   ·rw [if_pos ⟨by omega,g⟩,if_pos ⟨g2,g⟩]
   ·rw [if_neg (by omega),if_neg (by omega)]
theorem zo3 {m:List (List Rat)}{k c n:Nat}{r:List Rat}(h:m[n]?=some r)(hk:n ≠ k):(ziP m k c n).set n (ziO r (m.getD k []) (r.getD c 0))=ziP m k c (n+1):=by
 have hn:=(List.getElem?_eq_some_iff.1 h).1;apply List.ext_getElem?;intro i;rw [List.getElem?_set,zoz];unfold ziP;rw [List.getElem?_mapIdx,List.getElem?_mapIdx];by_cases e:n=i
 ·subst e;rw [if_pos rfl,if_pos hn,h];simp [hk]
 ·rw [if_neg e]
  cases m[i]? with
  | none=>rfl
  | some r =>
   simp only [Option.map_some]
   congr 1
   by_cases g:i<n∧i ≠ k
   ·rw [if_pos g,if_pos ⟨by omega,g.2⟩]
   ·rw [if_neg g,if_neg (by omega)]
theorem zo4 {m:List (List Rat)}{k c n:Nat}{r t:List Rat}(h:m[n]?=some r)(ht:m[k]?=some t)(hl:r.length=t.length)(h0:r.getD c 0=0):ziP m k c (n+1)=ziP m k c n:=by
 by_cases hk:n=k
 ·exact zo2 hk
 ·rw [← zo3 h hk,List.getD_eq_getElem?_getD,ht,h0];simp only [Option.getD_some];rw [zox hl];obtain ⟨h1,h2⟩:=List.getElem?_eq_some_iff.1 (zo0 (k:=k) (c:=c) h);rw [← h2];exact List.set_getElem_self h1
end
section
open Go.RowKit Go.Lib
theorem zo5 (n0 n:Int)(d:Nat)(hn0:n0=-n)(w:World)(he:Env w)(hn:Fit n)(hd:Fit (d:Int))(h0:0<d) :
  Calls Tryz.prog 192 #[.string (I n0),.string (I (-(d:Int)))] w fun e w'=>e=.returned (Rv (mkRat n d))∧Ext w w':=by
 have hg:=fun W (h:Ext w W)=>zen n (d:Int) W (he.ext h) hn hd;have hs:=fun W=>zbR (-(d:Int)) W hd.negI;have hn1:=fun W=>zd5 n0 W (by rw [hn0];exact hn.negI);have hn2:=fun W=>zd5 (-(d:Int)) W hd.negI;rw [hn0,Int.neg_neg] at hn1;rw [Int.neg_neg] at hn2;rw [← hn0] at hn1;generalize I (-(d:Int))=sd0 at *;generalize I n0=sn0 at *;clear hn0;rw [Int.natAbs_natCast] at hg;rw [zbk (by omega)] at hs;have hgp:0<Nat.gcd n.natAbs d:=Nat.gcd_pos_of_pos_right _ h0;have hgd:Nat.gcd n.natAbs d≤d:=Nat.gcd_le_right _ h0;have e1:(mkRat n d).num=n / ((Nat.gcd n.natAbs d:Nat):Int):=by rw [Rat.num_mkRat,if_neg (by omega),Nat.gcd_comm]
 have e2:(((mkRat n d).den:Nat):Int)=(d:Int) / ((Nat.gcd n.natAbs d:Nat):Int):=by rw [Rat.den_mkRat,if_neg (by omega),Nat.gcd_comm,Int.natCast_ediv]
 unfold Rv;rw [e1,e2];generalize Nat.gcd n.natAbs d=g at *;have hfg:Fit (g:Int):=Nat.le_trans (Dec.nDigits_mono (by omega)) hd;have hq1:=fun W (h:Ext w W)=>zeh n (g:Int) W (he.ext h) (by omega) hn hfg;have hq2:=fun W (h:Ext w W)=>zeh (d:Int) (g:Int) W (he.ext h) (by omega) hd hfg;have f1:fdv n (g:Int)=n / (g:Int):=by unfold fdv;rw [if_pos (by omega)]
 have f2:fdv (d:Int) (g:Int)=(d:Int) / (g:Int):=by unfold fdv;rw [if_pos (by omega)]
 rw [f1] at hq1;rw [f2] at hq2;have b2:=zep.new w (.string ⟨#[]⟩) (.string ⟨#[]⟩);have hE:Ext w (w.alloc (.cells #[.string ⟨#[]⟩,.string ⟨#[]⟩] 102)):=(Ext.refl _).alloc _;have hone:=zez (g:Int);have hdiv1:¬ g=1∨(n / (g:Int)=n∧(d:Int) / (g:Int)=d):=by
  by_cases e:g=1
  ·right;subst e;simp
  ·exact .inl e
 generalize n / (g:Int)=x at *;generalize (d:Int) / (g:Int)=y at *;generalize fmd n (g:Int)=r1 at *;generalize fmd (d:Int) (g:Int)=r2 at *;clear f1 f2 e1 e2 he hn hd hfg hgd hgp;have Hg:=hid hg;have Hs:=hid hs;have Hq1:=hid hq1;have Hq2:=hid hq2;have B2:=hid b2;have HE:=hid hE;have Hn1:=hid hn1;have Hn2:=hid hn2;clear hg hs hq1 hq2 b2 hE hn1 hn2;by_cases hg1:g=1
 ·rcases hdiv1 with h | ⟨rfl,rfl⟩
  ·exact absurd hg1 h
  have ht:((I (g:Int)).toList == [49])=true:=by rw [hone,hg1];rfl
  have ht2:((I (g:Int)).toList != [49])=false:=by rw [bne,ht];rfl
  clear hone hg1;go_enter Tryz.func192,Tryz.ntmps192
  go_wp2_with fail
  refine (Hs.out _).mono ?_;rintro e W1 ⟨rfl,rfl⟩;go_wp2_with fail
  refine (Hn1.out _).mono ?_;rintro e wa ⟨rfl,hxa⟩;have Hxa:=hid hxa;clear hxa;go_wp2_with fail
  refine (Hn2.out _).mono ?_;rintro e wb ⟨rfl,hxb⟩;have Hxb:=hid (Hxa.out.trans hxb);clear hxb;go_wp2_with fail
  refine (Hg.out wb (HE.out.trans Hxb.out)).mono ?_;rintro e w2 ⟨rfl,hx2⟩;have Hx2:=hid (Hxb.out.trans hx2);clear hx2;have hk:Res w2 w.heap.size:=⟨_,_,B2.out.ext Hx2.out⟩;have hc0:=hk.c0;have hc1:=hk.c1;have hz0:=hk.fz 0;have hz1:=hk.fz 1;obtain ⟨hb,hfx⟩:=Kp0.fin ⟨HE.out.trans Hx2.out,hk⟩ (Nat.le_refl _) (.string (I x)) (.string (I (d:Int)));have Hb:=hid hb;have Hfx:=hid hfx;have Hk:=hid hk;clear hb hfx hk;go_wp2_with fail
  have hd0:=Hb.out.c0;have hd1:=Hb.out.c1;exact bodyPost_ret (v:=.agg #[.string (I x),.string (I (d:Int))]) (by simp [results,Tryz.results192,go_sem,hd0,hd1]) rfl ⟨rfl,Hfx.out⟩
 ·have ht:((I (g:Int)).toList == [49])=false:=by rw [hone];exact decide_eq_false (by omega)
  have ht2:((I (g:Int)).toList != [49])=true:=by rw [bne,ht];rfl
  clear hone hg1 hdiv1;go_enter Tryz.func192,Tryz.ntmps192
  go_wp2_with fail
  refine (Hs.out _).mono ?_;rintro e W1 ⟨rfl,rfl⟩;go_wp2_with fail
  refine (Hn1.out _).mono ?_;rintro e wa ⟨rfl,hxa⟩;have Hxa:=hid hxa;clear hxa;go_wp2_with fail
  refine (Hn2.out _).mono ?_;rintro e wb ⟨rfl,hxb⟩;have Hxb:=hid (Hxa.out.trans hxb);clear hxb;go_wp2_with fail
  refine (Hg.out wb (HE.out.trans Hxb.out)).mono ?_;rintro e w2 ⟨rfl,hx2⟩;have Hx2:=hid (Hxb.out.trans hx2);clear hx2;go_wp2_with fail
  refine (Hq1.out w2 (HE.out.trans Hx2.out)).mono ?_;rintro e w3 ⟨rfl,hx3⟩;have Hx3:=hid (Hx2.out.trans hx3);clear hx3;go_wp2_with fail
  refine (Hq2.out w3 (HE.out.trans Hx3.out)).mono ?_;rintro e w4 ⟨rfl,hx4⟩;have Hx4:=hid (Hx3.out.trans hx4);clear hx4;have hk:Res w4 w.heap.size:=⟨_,_,B2.out.ext Hx4.out⟩;have hc0:=hk.c0;have hc1:=hk.c1;have hz0:=hk.fz 0;have hz1:=hk.fz 1;obtain ⟨hb,hfx⟩:=Kp0.fin ⟨HE.out.trans Hx4.out,hk⟩ (Nat.le_refl _) (.string (I x)) (.string (I y));have Hb:=hid hb;have Hfx:=hid hfx;have Hk:=hid hk;clear hb hfx hk;go_wp2_with fail
  have hd0:=Hb.out.c0;have hd1:=Hb.out.c1;exact bodyPost_ret (v:=.agg #[.string (I x),.string (I y)]) (by simp [results,Tryz.results192,go_sem,hd0,hd1]) rfl ⟨rfl,Hfx.out⟩
theorem zo6 (a b:Rat)(w:World)(he:Env w)(ha:Ft 100000 a)(hb:Ft 100000 b)(hp:b.num<0) :
  Calls Tryz.prog 151 #[Rv a,Rv b] w fun e w'=>e=.returned (.tuple #[Rv (a / b),.int .i64 0])∧Ext w w':=by
 obtain ⟨n,hn⟩:∃ n:Nat,b.num=-(n:Int):=⟨(-b.num).toNat,by omega⟩;have hn0:0<n:=by omega
 have fa1:=ha.num (by omega);have fa2:=ha.den (by omega);have fb1:=hb.num (by omega);have fb2:=hb.den (by omega);have hda:nDigits ((a.den:Int)).natAbs≤100000:=by rw [Int.natAbs_natCast];exact ha.2
 have hdb:nDigits ((b.den:Int)).natAbs≤100000:=by rw [Int.natAbs_natCast];exact hb.2
 have g1:nDigits (a.num * (b.den:Int)).natAbs≤200000:=ze1 ha.1 hdb;have g3:nDigits ((a.den:Int) * b.num).natAbs≤200000:=ze1 hda hb.1;have hk0:=zes w (.string (I a.num)) (.string (I (a.den:Int))) (.string (I b.num)) (.string (I (b.den:Int)));have hsg:=fun W=>ze9 b W fb1;have hc1:zbj b.num 0=-1:=by unfold zbj;(repeat' split) <;> omega
 rw [hc1] at hsg;have hm1:=fun W (h:Ext w W)=>zca a.num (b.den:Int) W (he.ext h) fa1 fb2;have hm3:=fun W (h:Ext w W)=>zca (a.den:Int) b.num W (he.ext h) fa2 fb1;have hlo:=fun W (h:Ext w W)=>zo5 (a.num * (b.den:Int)) (-(a.num * (b.den:Int))) (a.den * n) (by rw [Int.neg_neg]) W (he.ext h) (by unfold Fit;rw [Int.natAbs_neg];omega) (by
  have e:((a.den:Int) * b.num).natAbs=((a.den * n:Nat):Int).natAbs:=by rw [hn,Int.mul_neg,Int.natAbs_neg,Int.natCast_mul]
  unfold Fit;rw [← e];omega) (Nat.mul_pos a.den_pos hn0)
 have hdv:=zki a (-b) n (by show -b.num=_;omega) hn0;rw [show (-b).den=b.den from rfl] at hdv;have hmk:mkRat (-(a.num * (b.den:Int))) (a.den * n)=a / b:=by
  rw [← Rat.neg_mkRat,hdv];grind
 rw [hmk,Int.natCast_mul,← Int.mul_neg,← hn] at hlo;unfold Rv at hsg hlo ⊢;generalize I (a.num * (b.den:Int))=sm at *;generalize I ((a.den:Int) * b.num)=so at *;generalize I (a / b).num=st at *;generalize I (((a / b).den:Nat):Int)=su at *;generalize I a.num=sa at *;generalize I b.num=sb at *;generalize I (a.den:Int)=sc at *;generalize I (b.den:Int)=sd at *;clear g1 g3 fa1 fa2 fb1 fb2 hda hdb he ha hb hn hn0 hp hc1;have Hk0:=hid hk0;have Hsg:=hid hsg;have Hm1:=hid hm1;have Hm3:=hid hm3;have Hlo:=hid hlo;clear hk0 hsg hm1 hm3 hlo;go_enter Tryz.func151,Tryz.ntmps151
 go_wp2_with fail
 generalize hV:((w.alloc (.cells #[.string sa,.string sc] 102)).alloc (.cells #[.string sb,.string sd] 102)).alloc (.cells #[.string ⟨#[]⟩,.string ⟨#[]⟩] 102)=V at *;refine (Hsg.out _).mono ?_;rintro e W2 ⟨rfl,hxa⟩;have hK:=Hk0.out.ext hxa;have HK:=hid hK;clear hK;clear hxa;go_wp2_with fail
 go_region_held3 (fun w'=>Kp2 w w' w.heap.size (.string sa) (.string sc) (w.heap.size+1) (.string sb) (.string sd) (w.heap.size+1+1)∧w'.cell? ⟨w.heap.size,0,none⟩=some (.string sa)∧w'.cell? ⟨w.heap.size,1,none⟩=some (.string sc)∧w'.cell? ⟨w.heap.size+1,0,none⟩=some (.string sb)∧w'.cell? ⟨w.heap.size+1,1,none⟩=some (.string sd)∧w'.cell? ⟨w.heap.size+1+1,0,none⟩=some (zeq w' (w.heap.size+1+1) 0)∧w'.cell? ⟨w.heap.size+1+1,1,none⟩=some (zeq w' (w.heap.size+1+1) 1)∧w'.frozen? ⟨w.heap.size+1+1,0,none⟩=false∧w'.frozen? ⟨w.heap.size+1+1,1,none⟩=false)
  (first | exact (Kp2.ext HK.out ((Ext.refl _).drew)).all | exact (Kp2.ext (And.left (by assumption)) hxa).all | exact (Kp2.put (And.left (by assumption)) (by omega) (by omega) (by omega) _ _).all)
  (first
   | (go_at_call_of 165 (Value.string sa);refine (Hm1.out _ (And.left (And.left (by assumption)))).mono ?_;rintro e9 V4 ⟨rfl,hxa⟩;have hkk:=Kp2.ext (And.left (by assumption)) hxa)
   | (go_at_call_of 165 (Value.string sc);refine (Hm3.out _ (And.left (And.left (by assumption)))).mono ?_;rintro e9 V4 ⟨rfl,hxa⟩;have hkk:=Kp2.ext (And.left (by assumption)) hxa)
   | (go_at_call 192;refine (Hlo.out _ (And.left (And.left (by assumption)))).mono ?_;rintro e9 V4 ⟨rfl,hxa⟩;have hkk:=Kp2.ext (And.left (by assumption)) hxa))
 all_goals
  obtain ⟨hb,hfx⟩:=(hkk).fin (by omega) (.string st) (.string su);have Hfx:=hid hfx;clear hfx hxa hkk;generalize (V4.setCell ⟨w.heap.size+1+1,0,none⟩ (.string st)).setCell ⟨w.heap.size+1+1,1,none⟩ (.string su)=W5 at *;have hd0:=hb.c0;have hd1:=hb.c1;go_wp2_with fail
  exact bodyPost_ret (v:=.tuple #[.agg #[.string st,.string su],.int .i64 0]) (by simp [results,Tryz.results151,go_sem,hd0,hd1]) rfl ⟨rfl,Hfx.out⟩
end
section
open Go.RowKit Go.Lib Go.Shelf
theorem zo7 (w:World):Calls Tryz.prog 146 #[] w fun e w'=>e=.returned (Rv 1)∧Ext w w':=by
 have hb:=zep.new w (.string ⟨#[]⟩) (.string ⟨#[]⟩);have hc0:=hb.c0;have hc1:=hb.c1;have hf0:=hb.fz 0;have hf1:=hb.fz 1;have hp:=zep.new w (.string ⟨#[49]⟩) (.string ⟨#[49]⟩);have hd0:=hp.c0;have hd1:=hp.c1;clear hb hp;go_enter Tryz.func146,Tryz.ntmps146
 go_wp2_with fail
 exact bodyPost_ret (v:=.agg #[.string ⟨#[49]⟩,.string ⟨#[49]⟩]) (by simp [results,Tryz.results146,go_sem,hd0,hd1]) rfl ⟨by rw [znc];rfl,(Ext.refl w).alloc _⟩
theorem zo8 (w:World):Calls Tryz.prog 148 #[] w fun e w'=>e=.returned (Rv 0)∧Ext w w':=by
 have hb:=zep.new w (.string ⟨#[]⟩) (.string ⟨#[]⟩);have hc0:=hb.c0;have hc1:=hb.c1;have hf0:=hb.fz 0;have hf1:=hb.fz 1;have hp:=zep.new w (.string ⟨#[48]⟩) (.string ⟨#[49]⟩);have hd0:=hp.c0;have hd1:=hp.c1;clear hb hp;go_enter Tryz.func148,Tryz.ntmps148
 go_wp2_with fail
 exact bodyPost_ret (v:=.agg #[.string ⟨#[48]⟩,.string ⟨#[49]⟩]) (by simp [results,Tryz.results148,go_sem,hd0,hd1]) rfl ⟨by rw [znc,znd];rfl,(Ext.refl w).alloc _⟩
theorem zo9 {k l:Nat}{a b:Rat}(ha:Ft k a)(hb:Ft l b)(h0:0<b.num):Ft (k+l) (a / b):=by
 obtain ⟨n,hn⟩:∃ n:Nat,b.num=(n:Int):=⟨b.num.toNat,by omega⟩;have hbn:=hb.1;rw [hn,Int.natAbs_natCast] at hbn;rw [← zki a b n hn (by omega)];unfold Ft;refine zir (Nat.mul_pos a.den_pos (by omega)) ?_ ?_
 ·rw [Int.natAbs_mul,Int.natAbs_natCast];exact Nat.le_trans (zbD _ _) (Nat.add_le_add ha.1 hb.2)
 ·exact Nat.le_trans (zbD _ _) (Nat.add_le_add ha.2 hbn)
theorem zoA {k l:Nat}{a b:Rat}(ha:Ft k a)(hb:Ft l b)(h0:b ≠ 0):Ft (k+l) (a / b):=by
 have hn:b.num ≠ 0:=fun h=>h0 (Rat.num_eq_zero.1 h);by_cases hp:0<b.num
 ·exact zo9 ha hb hp
 ·have:=zo9 ha.neg hb.neg (by rw [Rat.neg_num];omega);have e:-a / -b=a / b:=by grind
  rwa [e] at this
theorem zoB (a b:Rat)(w:World)(he:Env w)(ha:Ft 100000 a)(hb:Ft 100000 b)(h0:b ≠ 0) :
  Calls Tryz.prog 151 #[Rv a,Rv b] w fun e w'=>e=.returned (.tuple #[Rv (a / b),.int .i64 0])∧Ext w w':=by
 have hn:b.num ≠ 0:=fun h=>h0 (Rat.num_eq_zero.1 h);by_cases hp:0<b.num
 ·exact zkj a b w he ha hb hp
 ·exact zo6 a b w he ha hb (by omega)
theorem zoC {q:Rat}(h:okQ q=true):Ft 1000 q:=by
 unfold okQ at h;rw [Bool.and_eq_true,decide_eq_true_eq,decide_eq_true_eq] at h;have hk:ziH≤1000:=by unfold ziH;omega
 have h0:0<ziH:=by unfold ziH;omega
 exact ⟨Nat.le_trans (Dec.nDigits_le (k:=ziH) h0 (by have:=h.1;unfold ziI at this;exact this)) hk,Nat.le_trans (Dec.nDigits_le (k:=ziH) h0 (by have:=h.2;unfold ziI at this;exact this)) hk⟩
theorem zoD {m:List (List Rat)}(h:okM m=true){r:List Rat}(hr:r∈m){q:Rat}(hq:q∈r):Ft 1000 q:=by
 unfold okM at h;rw [List.all_eq_true] at h;have:=h r hr;rw [List.all_eq_true] at this;exact zoC (this q hq)
end
end Go.Proofs.YtipkdebkdnbieaaGreatDoor
