/- Walk: schismaref06.Sets. Walk: law 38's contains. Walk: law 38's holds. Walk: the law SubsetModes. A list of lists of ints to be read; walks: law 38's sameLists, behind. -/
import Derived.Test.YtiameffonflhgaaGreatDoorPk38
import Derived.Test.YtiameffonflhgaaGreatDoorPk35
import Derived.Test.YtiameffonflhgaaGreatDoorPk23
import Derived.Test.YtiameffonflhgaaGreatDoorPk37
import Derived.Test.YtiameffonflhgaaGreatDoorPk32
import Derived.Deep.RegionHeld3
set_option maxRecDepth 100000
set_option maxHeartbeats 4000000
namespace Go.Proofs.YtiameffonflhgaaGreatDoor
open Go.RowKit Go.Lib Go.Shelf
attribute [local go_sem] Oper.semAt_some
theorem zrw (l:List Int):∀ u∈zaq l,u.oneCell'=true:=fun u hu=>by
 obtain ⟨x,_,rfl⟩:=List.mem_map.1 hu;rfl
theorem zrx (l:List Int)(x:Int):zaq (l++[x])=zaq l++[.int .i64 x]:=by unfold zaq;rw [List.map_append];rfl
theorem zry (w:World):(w.alloc (.cells #[] 3)).ownsRow w.heap.size 3 1 (.slice (some ⟨w.heap.size,0,none⟩) 0 0) 0 [] :=
 ⟨rfl,.inr ⟨w.heap.size,0,#[],rfl,Nat.le_refl _,World.alloc_heap_new w _,Nat.le_refl _,by unfold maxLen;omega,rfl,rfl⟩⟩
theorem zrz {W:World}{B B' s:Nat}{u:Value}{l:List Int}{z:Int}(h:W.ownsRow B 3 1 u (s+1) ([]++zaq l++[.int .i64 z]))(hl:l.length=s)(hB:B'≤B):zeb W B' u (l++[z]):=by
 have h2:=zan h hB;unfold zeb;rwa [zrx,List.length_append,List.length_singleton,hl]
theorem zr0 {P:Program}(w:World){ops:Array Oper}{rest:List Oper}{o:Oper}{a:Act}{Q:Exit→Act→World→Prop}(hgd:o.guard=none)(s x:Operand)(t:TypeId)
  (ho:o.op=.call { callee:=.builtin .append,args:=#[s,x],argTypes:=#[t,t] })
  (base:Nat) (e:TypeId) (i:TypeInfo) (z:Value) (size bytes:Nat) (ht:P.underlying t=some (.slice e)) (hi:P.info? e=some i) (hz:i.zero=some z)
  (hsize:i.size=size) (hby:i.bytes=bytes) (hzs:z.cells.size=size) (hsz:0<size)
  (v:Value) (n:Nat) (xs:List Value) (hs:a.eval s=v) (hown:w.ownsRow base e size v n xs)
  (ao:Option Addr) (m c:Nat) (news:List Value) (hx:a.eval x=.slice ao m c) (hnone:ao=none→m=0∧c=0) (hl:news.length=m * size) (hnews:∀ ad,ao=some ad→∀ j u,news[j]?=some u→w.cell? (ad.add j)=some u) (h1:∀ u∈news,u.oneCell'=true)
  (h63:n+m≤maxLen) (hbytes:(n+m) * bytes≤140737488355328) (hbase:base≤w.heap.size)
  (h:∀ v' w',w'.ownsRow base e size v' (n+m) (xs++news)→w.grownBy w' v.ownBlock→wpList P ops Q rest (a.put o.dst v') w'):wpList P ops Q (o::rest) a w:=by
 cases ao with
 | none =>
  obtain ⟨rfl,rfl⟩:=hnone rfl
  obtain rfl:news=[]:=List.eq_nil_of_length_eq_zero (by simpa using hl)
  have hr:=run_append_owned_none (P:=P) (w:=w) base t o.type e i size ht hi v n xs hown
  refine wpList_plain hgd fun K hK=>?_
  unfold Oper.wp
  simp [execOp,ho,resolve,invoke,builtin,hs,hx,hr,Result.andThen]
  exact hK _ _ (h v w (by rw [List.append_nil];exact hown) ⟨rfl,rfl,rfl,Nat.le_refl _,fun _ _ _=>rfl⟩)
 | some ad=>exact wpList_append_own w hgd s x t ho base e i z size bytes ht hi hz hsize hby hzs hsz v n xs hs hown ad m c news hx hl (hnews ad rfl) h1 h63 hbytes hbase fun v' w' h2 h3 _=>h v' w' h2 h3
theorem zr1 (n k:Nat)(w:World)(hn:n≤12)(hk:k≤n) :
  Calls Tryz.prog 77 #[.int .i64 (n:Int),.int .i64 (k:Int)] w fun e w'=>∃ v fs,e=.returned v∧LsI w' w.heap.size v fs∧fs.map Iw.l=sts n k∧Ext w w':=by
 obtain ⟨i0,hi,hz0,hz1,hz2⟩:=info_parts zea;obtain ⟨j0,hj,hy0,hy1,hy2⟩:=info_parts zpx;have hst:LsI (w.alloc (.cells #[.slice none 0 0] 24)) w.heap.size (.slice (some ⟨w.heap.size,0,none⟩) 1 1) [⟨.slice none 0 0,[]⟩] :=
  ⟨zkP 24 #[.slice none 0 0] (Nat.le_refl _) (by unfold maxLen;simp),fun f hf=>by rw [List.mem_singleton.1 hf];exact World.ownsRow_nil _ _ _ _⟩
 have Hst:=hid hst;clear hst;have hE0:=hid ((Ext.refl w).alloc (.cells #[.slice none 0 0] 24));go_enter Tryz.func77,Tryz.ntmps77
 go_wp2_with fail
 go_loopw [5,6,7,8,9,10] (fun v5 v6 _ _ _ _ wr=>∃ (s:Nat)(fs:List Iw),v6=.int .i64 s∧s≤k∧LsI wr w.heap.size v5 fs∧fs.map Iw.l=sts n s∧Ext w wr) (fun _ v6 _ _ _ _ _=>k - (zam v6).toNat)
 case atStart=>exact ⟨0,_,rfl,Nat.zero_le _,Hst.out,rfl,hE0.out⟩
 case round =>
  clear Hst hE0;obtain ⟨s,fs,rfl,hs,hL,hm,hE⟩:=hrel;obtain ⟨wa,hwa⟩:∃ wa,wa=wr:=⟨_,rfl⟩;subst hwa;obtain ⟨a5,c5,rfl⟩:=zec hL.row;have hfl:(sts n s).length=fs.length:=by rw [← hm,List.length_map]
  have hf5:fs.length≤5000:=by rw [← hfl];exact zrs hn (by omega)
  have HL:=hid hL;have Hm:=hid hm;have HE:=hid hE;have Hfl:=hid hfl;clear hL hm hE hfl;by_cases hsk:s<k
  ·have hf6:(sts n (s+1)).length≤5000:=zrs hn (by omega);have Hf6:=hid hf6;clear hf6;have hsz:=HE.out.size;go_wp2_with fail
   go_loopw [7,8,9,10] (fun v7 v8 _ _ ws=>∃ (i:Nat)(gs:List Iw),v8=.int .i64 i∧i≤fs.length∧LsI ws wa.heap.size v7 gs∧gs.map Iw.l=stI n s i∧Ext wa ws) (fun _ v8 _ _ _=>fs.length - (zam v8).toNat)
   case atStart=>exact ⟨0,[],rfl,Nat.zero_le _,LsI.nil _ _,rfl,Ext.refl _⟩
   case round =>
    obtain ⟨i,gs,rfl,hi1,hG,hgm,hE2⟩:=hrel;obtain ⟨ws,hws⟩:∃ ws,ws=wr:=⟨_,rfl⟩;subst hws;obtain ⟨a7,c7,rfl⟩:=zec hG.row;by_cases hif:i<fs.length
    ·obtain ⟨f,hf⟩:∃ f,fs[i]?=some f:=⟨_,List.getElem?_eq_getElem hif⟩;have hl2:i<(sts n s).length:=(by rw [Hfl.out];exact hif);have hfs:(sts n s)[i]=f.l:=by
      have h1:(fs.map Iw.l)[i]?=some f.l:=(by rw [List.getElem?_map,hf];rfl);rw [Hm.out,List.getElem?_eq_getElem hl2] at h1;exact Option.some.inj h1
     have hmem:f.l∈sts n s:=(by rw [← hfs];exact List.getElem_mem hl2);obtain ⟨hlen,_,_⟩:=zri hmem;obtain ⟨hx0,hx1⟩:=zrk hmem;obtain ⟨g,a2,c2,rfl,hcell,hfu,hown⟩:=HL.out.at' hf;rw [hlen] at hcell hown;have hint:=zqc (zao (show zeb wa w.heap.size (.slice a2 f.l.length c2) f.l by rw [hlen];exact hown));have hnone:a2=none→s=0∧c2=0:=fun e=>by
      rcases hown.2 with ⟨e1,e2⟩ | ⟨_,_,_,e1,_⟩
      ·injection e1 with _ e3 e4;exact ⟨e3,e4⟩
      ·rw [e] at e1
       cases e1
     have hsome:∀ ad,a2=some ad→∀ j u,(zaq f.l)[j]?=some u→wa.cell? (ad.add j)=some u:=fun ad e j u hu=>by
      rcases hown.2 with ⟨e1,_⟩ | ⟨g2,cap2,_,e1,_⟩
      ·rw [e] at e1;cases e1
      ·rw [e] at e1;injection e1 with e1;injection e1 with e1;subst e1;exact World.ownsRow.cells hown (g:=g2) (by rw [e];rfl) j u hu
     have hnx:s=0→nx f.l=0:=fun e=>by
      have:f.l=[]:=List.eq_nil_of_length_eq_zero (hlen.trans e);rw [this];rfl
     have hny:0<s→nx f.l=(f.l[s - 1]?).getD 0+1:=fun e=>by
      have:=zrj (l:=f.l) (by omega);rw [hlen] at this;exact this
     have hle:∀ j:Nat,nx f.l+(j:Int)≤(n:Int)→(stI n s i).length+j≤5000:=fun j h=>by
      have:=zrr (j:=j) hl2 (by rw [hfs];omega);have:=Hf6.out;omega
     have hnext:stI n s (i+1)=stI n s i++gro f.l (n - (nx f.l).toNat):=(by rw [zro hl2,hfs,zrn]);have hgro:=fun j=>zrl f.l j;have hll:(zaq f.l).length=s * 1:=(by rw [zas,hlen,Nat.mul_one]);obtain ⟨X,hX⟩:∃ X,X=nx f.l:=⟨_,rfl⟩;rw [← hX] at hx0 hx1 hnx hny hle hnext hgro;have Hown:=hid hown;have Hnone:=hid hnone;have Hsome:=hid hsome;have Hle:=hid hle;have Hnext:=hid hnext;have HG:=hid hG;have Hgm:=hid hgm;have HE2:=hid hE2;have Hcell:=hid hcell;have Hlen:=hid hlen;have Hgro:=hid hgro;have Hll:=hid hll;clear hown hnone hsome hle hnext hG hgm hcell hlen hf hl2 hfs hmem hfu hgro hll hX;have hi0:(0:Int)≤(i:Int):=(by omega);have hil:(i:Int)<(fs.length:Int):=(by omega);have hX12:X≤12:=(by omega);have hc2:=hE2.cell Hcell.out;have Hbase:=hid hE2.size;clear hE2;rcases Nat.eq_zero_or_pos s with h0 | h0
     case' inl =>
      have HX:=hid (hnx h0);have Hz0:=hid (show (0:Int)=(s:Int) by omega);have hs0:¬ (0:Int)<(s:Int):=(by omega);clear hint hnx hny;go_wp2_with fail
     case' inr =>
      obtain ⟨q,hq⟩:∃ q,s=q+1:=⟨s - 1,by omega⟩;obtain ⟨b,off,e2,hc1⟩:=hint (s - 1) (by rw [Hlen.out];omega);have HX:=hid (hny h0);have Hz0:=hid True.intro;generalize (f.l[s - 1]?).getD 0=x at *;have hx3:x≤12∧-1≤x:=(by have:=HX.out;omega);rw [show s - 1=q by omega] at hc1;have hc1:=HE2.out.cell hc1;subst e2;have hwj:IntKind.i64.wrap ((s:Int) - 1)=(q:Int):=(by rw [show ((s:Int) - 1)=(q:Int) by omega];exact IntWalk.i64_in _ (by omega));have hwj2:IntKind.i64.wrap (q:Int)=(q:Int):=IntWalk.i64_in _ (by omega);have hq0:(0:Int)≤(q:Int):=(by omega);have hq1:(q:Int)<(s:Int):=(by omega);have hs0:(0:Int)<(s:Int):=(by omega);have hsq:(s:Int) - 1=(q:Int):=(by omega);clear hint hnx hny;go_wp2_with fail
      clear hc1 hwj hwj2 hq0 hq1 hsq hx3 hq;generalize hA2:(some ⟨b,off,none⟩:Option Addr)=a2 at *;clear hA2
     all_goals
      clear hs0 h0;go_loopw [7,10] (fun v7 v10 wt=>∃ (j:Nat)(hs:List Iw),v10=.int .i64 (X+j)∧X+(j:Int)≤(n:Int)∧LsI wt wa.heap.size v7 hs∧Hid (hs.map Iw.l=stI n s i++gro f.l j)∧Ext wa wt) (fun _ v10 _=>n - (zam v10).toNat)
      case atStart=>exact ⟨0,gs,by rw [HX.out];simp,by omega,HG.out,hid (by rw [Hgm.out];unfold gro;simp),HE2.out⟩
      case round =>
       clear HG Hgm HE2 Hbase hc2;obtain ⟨j,hs',rfl,hjn,hH,HT,hE3⟩:=hrel;obtain ⟨wt,hwt⟩:∃ wt,wt=wr:=⟨_,rfl⟩;subst hwt;obtain ⟨a8,c8,rfl⟩:=zec hH.row;have HE3:=hid hE3;have HH:=hid hH;by_cases hjX:X+(j:Int)<(n:Int)
       ·have hn5:hs'.length+1≤5000:=by
         have h1:=congrArg List.length HT.out;rw [List.length_map,List.length_append,zrm] at h1;have:=Hle.out (j+1) (by omega);omega
        have hcA:=(hE3.alloc (.cells #[] 3)).cell Hcell.out;have h63:hs'.length+1≤maxLen:=(by unfold maxLen;omega);have h24:(hs'.length+1) * 24≤140737488355328:=(by omega);have h63b:0+s≤maxLen:=(by unfold maxLen;omega);have h8b:(0+s) * 8≤140737488355328:=(by omega);have h63c:0+s+1≤maxLen:=(by unfold maxLen;omega);have h8c:(0+s+1) * 8≤140737488355328:=(by omega);have hxj:X+(j:Int)≤12:=(by omega);have hxj0:0≤X+(j:Int):=(by omega);have Hbt:=hid hE3.size;have Hsm:=hid (fun ad e jj u hu=>(hE3.alloc (.cells #[] 3)).cell (Hsome.out ad e jj u hu));have Hgj:=hid (Hgro.out j);clear hE3 hH;obtain ⟨z,hz⟩:∃ z,z=X+(j:Int):=⟨_,rfl⟩;rw [← hz] at hjX hxj hxj0 Hgj ⊢;have Hz:=hid hz;clear hz hjn;go_wp2_with (first
         | (at_builtin;refine zr0 _ rfl (.tmp 41) (.tmp 45) 24 rfl wt.heap.size 3 i0 (.int .i64 0) 1 8 Tryz.underlying24 hi hz0 hz1 hz2 rfl (by decide) (.slice (some ⟨wt.heap.size,0,none⟩) 0 0) 0 [] rfl (zry wt) a2 s c2 (zaq f.l) rfl Hnone.out Hll.out Hsm.out (zrw _) h63b h8b (by rw [World.size_alloc];omega) ?_;intro u1 wA ho1 hg1;have HxA:=hid (((Ext.refl wt).alloc (.cells #[] 3)).grown hg1 (fun r e=>by cases e;exact Nat.le_refl _));have HoA:=hid ho1;have HbA:=hid HxA.out.size;clear ho1 hg1)
         | (at_builtin;refine wpList_append_own _ rfl (.tmp 46) (.tmp 48) 24 rfl wt.heap.size 3 i0 (.int .i64 0) 1 8 Tryz.underlying24 hi hz0 hz1 hz2 rfl (by decide) u1 (0+s) ([]++zaq f.l) rfl (HoA.out.alloc _) ⟨wA.heap.size,0,none⟩ 1 1 [.int .i64 z] rfl rfl (cell_one_new _ _ _) (by simp [Value.oneCell']) h63c h8c (by rw [World.size_alloc];have:=HbA.out;omega) ?_;intro u2 wB ho2 hg2 _;rw [Nat.zero_add] at ho2;have HxB:=hid ((HxA.out.alloc (.cells #[.int .i64 z] 3)).grown hg2 (fun r e=>(World.ownsRow.lt HoA.out r e).1));have HoB:=hid ho2;obtain ⟨a9,c9,rfl⟩:=zec ho2;clear ho2 hg2)
         | (at_builtin;refine wpList_append_own _ rfl (.tmp 40) (.tmp 50) 55 rfl wa.heap.size 24 j0 (.slice none 0 0) 1 24 Tryz.underlying55 hj hy0 hy1 hy2 rfl (by decide) (.slice a8 hs'.length c8) hs'.length (iwU hs') rfl ((HxB.out.alloc (.cells #[.slice a9 (s+1) c9] 24)).own HH.out.row) ⟨wB.heap.size,0,none⟩ 1 1 [.slice a9 (s+1) c9] rfl rfl (cell_one_new _ _ _) (by simp [Value.oneCell']) h63 h24 (by rw [World.size_alloc];have:=HxB.out.size;have:=Hbt.out;omega) ?_;intro v3 wC ho3 hg3 _))
        have HL4:=hid ((HH.out.ext (HxB.out.alloc (.cells #[.slice a9 (s+1) c9] 24))).put (f:=⟨.slice a9 (s+1) c9,f.l++[z]⟩) (zrz (HoB.out.alloc _) Hlen.out Hbt.out) hg3 ho3);have HE4:=hid ((HE3.out.trans (HxB.out.alloc (.cells #[.slice a9 (s+1) c9] 24))).grown hg3 (fun r e=>(HH.out.lt r e).1));clear hg3 ho3 hcA;go_wp2_with fail
        go_roundw
        case rel=>exact ⟨j+1,_,by rw [Hz.out];congr 1;omega,by have:=Hz.out;omega,HL4.out,hid (by rw [List.map_append,HT.out,Hgj.out,List.append_assoc];rfl),HE4.out⟩
        case measure=>simp [zam];omega
       ·have hjX2:((j:Int))=(n:Int) - X:=(by omega);have hfin:hs'.map Iw.l=stI n s (i+1):=by
         rw [HT.out,Hnext.out];congr 2;omega
        have Hfin:=hid hfin;clear hfin hE3 hH;go_wp2_with fail
        go_roundw
        case rel=>first | exact ⟨i+1,hs',by go_num,by omega,HH.out,Hfin.out,HE3.out⟩ | ((repeat apply Exists.intro);exact ⟨⟨i+1,by go_num,by omega,hs',HH.out,Hfin.out,HE3.out⟩,by first | rfl | exact ⟨Hz0.out,rfl,rfl,Hz0.out⟩⟩)
        case measure=>simp [zam];omega
    ·obtain rfl:i=fs.length:=by omega
     have hfin:gs.map Iw.l=sts n (s+1):=(by rw [hgm,← Hfl.out];exact zrp n s);have HGl:=hid ((hG.less HE.out.size));have HE4:=hid (HE.out.trans hE2);have Hfin:=hid hfin;clear hfin hG hgm hE2;go_wp2_with fail
     go_roundw
     case rel=>first | exact ⟨s+1,gs,by go_num,by omega,HGl.out,Hfin.out,HE4.out⟩ | ((repeat apply Exists.intro);exact ⟨⟨s+1,by go_num,by omega,gs,HGl.out,Hfin.out,HE4.out⟩,rfl⟩)
     case measure=>simp [zam];omega
  ·obtain rfl:s=k:=by omega
   go_wp2_with fail
   go_ret
   exact ⟨_,fs,rfl,HL.out,Hm.out,HE.out⟩
theorem zr2 {l:List Int}{k:Nat}(hk:k<l.length)(y:Int):((l.take (k+1)).any fun x=>x == y)=(((l.take k).any fun x=>x == y) || ((l[k]?).getD 0 == y)):=by
 rw [List.take_succ_eq_append_getElem hk,List.any_append,List.getElem?_eq_getElem hk];simp
theorem zr3 {l:List Int}(y:Int):((l.take l.length).any fun x=>x == y)=l.contains y:=by
 rw [List.take_length,Bool.eq_iff_iff,List.any_eq_true,List.contains_iff_mem];exact ⟨fun ⟨z,hz,e⟩=>by rw [← beq_iff_eq.1 e];exact hz,fun h=>⟨y,h,beq_self_eq_true y⟩⟩
theorem zr4 (vl vm:Value)(l M:List Int)(w:World)(hl:Sl w vl (zaq l))(hm:Sl w vm (zaq M))(hl6:l.length≤1000)(hm6:M.length≤1000) :
  Calls Tryz.prog 78 #[vl,vm] w fun e w'=>e=.returned (.bool (M.all fun y=>l.contains y))∧Ext w w':=by
 obtain ⟨al,cl,rfl,_,_,_⟩:=hl.parts;obtain ⟨am,cm,rfl,_,_,_⟩:=hm.parts;rw [zas] at *;rw [zas] at *;have hcl:=zqc hl;have hcm:=zqc hm;have hnx:=fun k (hk:k<l.length) y=>zr2 hk y;have hfu:=fun y=>zr3 (l:=l) y;generalize hLl:l.length=L at *;generalize hLm:M.length=N at *;have HLl:=hid hLl;have HLm:=hid hLm;have Hcl:=hid hcl;have Hcm:=hid hcm;have Hnx:=hid hnx;have Hfu:=hid hfu;clear hl hm hcl hcm hLl hLm hnx hfu;obtain ⟨R,hR⟩:∃ R,R=(M.all fun y=>l.contains y):=⟨_,rfl⟩;rw [← hR];have HR:=hid hR;clear hR;go_enter Tryz.func78,Tryz.ntmps78
 go_wp2_with fail
 go_loopw [5,6,7] (fun v5 v6 v7 wr=>∃ i:Nat,v5=.int .i64 i∧i≤N∧Hid (∀ y∈M.take i,l.contains y=true)∧Ext w wr) (fun v5 _ _ _=>N - (zam v5).toNat)
 case atStart=>exact ⟨0,rfl,Nat.zero_le _,hid (fun y hy=>by simp at hy),Ext.refl _⟩
 case round =>
  obtain ⟨i,rfl,hi,HA,hE⟩:=hrel;have HE:=hid hE;by_cases hiN:i<N
  ·obtain ⟨b2,o2,rfl,hm0⟩:=Hcm.out i hiN;have hi0:(0:Int)≤(i:Int):=(by omega);have hi1:(i:Int)<(N:Int):=(by omega);have Hm0:=hid (hE.cell hm0);clear hE hm0;generalize hy:(M[i]?).getD 0=y at *;have Hy:=hid hy;clear hy;go_wp2_with fail
   go_loopw [6,7] (fun v6 v7 ws=>∃ (k:Nat)(A:Bool),v7=.int .i64 k∧k≤L∧v6=.bool A∧Hid (A=((l.take k).any fun x=>x == y))∧Ext wr ws) (fun _ v7 _=>L - (zam v7).toNat)
   case atStart=>exact ⟨0,false,rfl,Nat.zero_le _,rfl,hid (by simp),Ext.refl _⟩
   case round =>
    obtain ⟨k,A,rfl,hk,rfl,HAk,hEs⟩:=hrel;have HEs:=hid hEs;by_cases hkL:k<L
    ·obtain ⟨b1,o1,rfl,hc0⟩:=Hcl.out k hkL;have c1:=(HE.out.trans hEs).cell hc0;have c2:=hEs.cell Hm0.out;have hk0:(0:Int)≤(k:Int):=(by omega);have hk1:(k:Int)<(L:Int):=(by omega);have hn:=Hnx.out k hkL y;clear hEs hc0;generalize (l[k]?).getD 0=x at *
     cases A with
     | true =>
      have Hn:=hid (show true=((l.take (k+1)).any fun x=>x == y) by rw [hn,← HAk.out,Bool.true_or])
      clear hn
      go_wp2_with fail
      go_quiet (fail)
      go_wp2_with fail
      go_roundw
      case rel=>exact ⟨k+1,true,by go_num,hkL,rfl,Hn,HEs.out.drewN _⟩
      case measure=>simp [zam];omega
     | false =>
      by_cases hxy:x=y
      ·have f1:(x == y)=true:=by simpa using hxy
       have Hn:=hid (show true=((l.take (k+1)).any fun x=>x == y) by rw [hn,f1,Bool.or_true])
       clear hn hxy
       go_wp2_with fail
       go_quiet (fail)
       go_wp2_with fail
       go_roundw
       case rel=>exact ⟨k+1,true,by go_num,hkL,rfl,Hn,HEs.out.drewN _⟩
       case measure=>simp [zam];omega
      ·have f1:(x == y)=false:=by simpa using hxy
       have Hn:=hid (show false=((l.take (k+1)).any fun x=>x == y) by rw [hn,f1,← HAk.out,Bool.or_false])
       clear hn hxy
       go_wp2_with fail
       go_quiet (fail)
       go_wp2_with fail
       go_roundw
       case rel=>exact ⟨k+1,false,by go_num,hkL,rfl,Hn,HEs.out.drewN _⟩
       case measure=>simp [zam];omega
    ·obtain rfl:k=L:=by omega
     have hkL2:¬ (k:Int)<(k:Int):=(by omega);have hAk:=HAk.out;rw [Hfu.out] at hAk;have HEE:=hid (HE.out.trans HEs.out);clear hEs
     cases A with
     | true =>
      have Hnx2:=hid (show ∀ z∈M.take (i+1),l.contains z=true from fun z hz=>by
       have hl2:i<M.length:=(by rw [HLm.out];exact hiN);rw [List.take_succ_eq_append_getElem hl2] at hz;rcases List.mem_append.1 hz with h | h
       ·exact HA.out z h
       ·rw [List.mem_singleton] at h;have e:M[i]=y:=(by have:=Hy.out;rw [List.getElem?_eq_getElem hl2] at this;exact this);rw [h,e,← hAk])
      clear hAk
      go_wp2_with fail
      go_roundw
      case rel=>exact ⟨i+1,by go_num,hiN,Hnx2,HEE.out⟩
      case measure=>simp [zam];omega
     | false =>
      have Hno:=hid (show (M.all fun z=>l.contains z)=false by
       rw [List.all_eq_false];have hl2:i<M.length:=(by rw [HLm.out];exact hiN);have e:M[i]=y:=(by have:=Hy.out;rw [List.getElem?_eq_getElem hl2] at this;exact this);exact ⟨y,by rw [← e];exact List.getElem_mem hl2,by rw [← hAk];simp⟩)
      clear hAk
      obtain rfl:R=false:=HR.out.trans Hno.out
      go_wp2_with fail
      go_ret
      exact ⟨rfl,HEE.out⟩
  ·obtain rfl:i=N:=by omega
   have hin:¬ (i:Int)<(i:Int):=(by omega);have Hyes:=hid (show (M.all fun z=>l.contains z)=true by
    rw [List.all_eq_true];intro z hz;exact HA.out z (by rw [← HLm.out,List.take_length];exact hz))
   clear hE;obtain rfl:R=true:=HR.out.trans Hyes.out;go_wp2_with fail
   go_ret
   exact ⟨rfl,HE.out⟩
theorem zr5 (v:Value)(p:List Int)(rs:List Qw)(w:World)(he:Env w)(hs:ScV w v p rs)(hc:Wc p (rs.map Qw.x)) :
  Calls Tryz.prog 13 #[v] w fun e w'=>(∃ j1 j2 a1 n1 c1 a2 n2 c2,e=.returned (.tuple #[.agg #[.int .i64 j1,.int .i64 j2,.slice a1 n1 c1,.slice a2 n2 c2],.bool (tst 4 p (rs.map Qw.x)),.int .i64 0]))∧Ext w w' :=
 (zo2 v p rs w he hs hc).mono fun e w' ⟨⟨c,is,hr,ho⟩,hx⟩=>by
  have e1:is=tst 4 p (rs.map Qw.x):=by rw [zoJ];exact zoM (ho.is.trans hc.pro_iff.symm)
  subst hr e1;refine ⟨?_,hx⟩;rcases ho with ⟨_,e,_⟩ | ⟨_,d,x,y,_,hv⟩
  ·obtain ⟨j1,j2,a1,n1,c1,a2,n2,c2,h⟩:=zoA;exact ⟨j1,j2,a1,n1,c1,a2,n2,c2,by rw [e,h]⟩
  ·obtain ⟨j1,j2,a1,n1,c1,a2,n2,c2,h⟩:=zo9 hv;exact ⟨j1,j2,a1,n1,c1,a2,n2,c2,by rw [h]⟩
theorem zr6 (v:Value)(p:List Int)(rs:List Qw)(w:World)(he:Env w)(hs:ScV w v p rs)(hc:Wc p (rs.map Qw.x)) :
  Calls Tryz.prog 123 #[v] w fun e w'=>(∃ j1 j2 a1 n1 c1 a2 n2 c2,e=.returned (.tuple #[.agg #[.int .i64 j1,.int .i64 j2,.slice a1 n1 c1,.slice a2 n2 c2],.bool (tst 5 p (rs.map Qw.x)),.int .i64 0]))∧Ext w w' :=
 (zo3 v p rs w he hs hc).mono fun e w' ⟨⟨c,is,hr,ho⟩,hx⟩=>by
  have e1:is=tst 5 p (rs.map Qw.x):=by rw [zoK];exact zoM (ho.is.trans hc.str_iff2.symm)
  subst hr e1;refine ⟨?_,hx⟩;rcases ho with ⟨_,e,_⟩ | ⟨_,d,x,y,_,hv⟩
  ·obtain ⟨j1,j2,a1,n1,c1,a2,n2,c2,h⟩:=zoA;exact ⟨j1,j2,a1,n1,c1,a2,n2,c2,by rw [e,h]⟩
  ·obtain ⟨j1,j2,a1,n1,c1,a2,n2,c2,h⟩:=zo9 hv;exact ⟨j1,j2,a1,n1,c1,a2,n2,c2,by rw [h]⟩
theorem zr7 (v:Value)(p:List Int)(rs:List Qw)(w:World)(he:Env w)(hs:ScV w v p rs)(hc:Wc p (rs.map Qw.x)) :
  Calls Tryz.prog 124 #[v] w fun e w'=>(∃ j1 j2 a1 n1 c1 a2 n2 c2,e=.returned (.tuple #[.agg #[.int .i64 j1,.int .i64 j2,.slice a1 n1 c1,.slice a2 n2 c2],.bool (tst 6 p (rs.map Qw.x)),.int .i64 0]))∧Ext w w' :=
 (zo8 v p rs w he hs hc).mono fun e w' ⟨⟨c,is,hr,ho⟩,hx⟩=>by
  have e1:is=tst 6 p (rs.map Qw.x):=by rw [zoL];exact zoM (ho.is)
  subst hr e1;refine ⟨?_,hx⟩;rcases ho with ⟨_,e,_⟩ | ⟨_,d,u,i,x,_,hv⟩
  ·obtain ⟨j1,j2,a1,n1,c1,a2,n2,c2,h⟩:=zoA;exact ⟨j1,j2,a1,n1,c1,a2,n2,c2,by rw [e,h]⟩
  ·obtain ⟨j1,j2,a1,n1,c1,a2,n2,c2,h⟩:=zo9 hv;exact ⟨j1,j2,a1,n1,c1,a2,n2,c2,by rw [h]⟩
theorem zr8 (v:Value)(p:List Int)(rs:List Qw)(P:Int)(w:World)(he:Env w)(hv:ScV w v p rs)(hw:2≤P→P≤6→Wc p (rs.map Qw.x)) :
  Calls Tryz.prog 79 #[v,.int .i64 P] w fun e w'=>e=.returned (.tuple #[.bool (tst P p (rs.map Qw.x)),.int .i64 0])∧Ext w w':=by
 have hkc:=fun W sv (hc:Wc p (rs.map Qw.x))(hE:Ext w W)(hs:ScV W sv p rs)=>zoz sv p rs W (he.ext hE) hs hc;have hpr:=fun W sv (hc:Wc p (rs.map Qw.x))(hE:Ext w W)(hs:ScV W sv p rs)=>zr5 sv p rs W (he.ext hE) hs hc;have hst:=fun W sv (hc:Wc p (rs.map Qw.x))(hE:Ext w W)(hs:ScV W sv p rs)=>zr6 sv p rs W (he.ext hE) hs hc;have hcs:=fun W sv (hc:Wc p (rs.map Qw.x))(hE:Ext w W)(hs:ScV W sv p rs)=>zr7 sv p rs W (he.ext hE) hs hc;obtain ⟨ap,cp,an,cn,rfl,hs⟩:=zom hv;have hE0:Ext w (w.alloc (.cells #[.slice ap p.length cp,.slice an rs.length cn] 28)):=(Ext.refl w).alloc _;have hb1:=zdM.new 28 w (.slice ap p.length cp) (.slice an rs.length cn);have q0:=hb1.c0;have q1:=hb1.c1;have HE0:=hid hE0;have Hs:=hid (hs.ext hE0);clear hb1 hs hE0 hv he;have t2:=zoH (p:=p) (N:=rs.map Qw.x);have t3:=zoI (p:=p) (N:=rs.map Qw.x);by_cases e2:P=2
 ·subst e2;have hc:=hkc _ _ (hw (by omega) (by omega)) HE0.out Hs.out;rw [t2];have Hc:=hid hc;clear hkc hpr hst hcs hw hc t2 t3;generalize kd p (rs.map Qw.x)=K at *;go_enter Tryz.func79,Tryz.ntmps79
  go_wp2_with fail
  refine Hc.out.mono ?_;rintro e w1 ⟨rfl,hx1⟩;have Hx1:=hid (HE0.out.trans hx1);clear hx1 q0 q1;by_cases hk:K=1
  ·have hk2:(K == 1)=true:=(by simpa using hk);have Hk:=hid (decide_eq_true hk);clear hk;go_wp2_with fail
   go_ret2
   exact ⟨by rw [Hk.out] <;> rfl,Hx1.out⟩
  ·have hk2:(K == 1)=false:=(by simpa using hk);have Hk:=hid (decide_eq_false hk);clear hk;go_wp2_with fail
   go_ret2
   exact ⟨by rw [Hk.out] <;> rfl,Hx1.out⟩
 by_cases e3:P=3
 ·subst e3;have hc:=hkc _ _ (hw (by omega) (by omega)) HE0.out Hs.out;rw [t3];have Hc:=hid hc;clear hkc hpr hst hcs hw hc t2 t3;generalize kd p (rs.map Qw.x)=K at *;go_enter Tryz.func79,Tryz.ntmps79
  go_wp2_with fail
  refine Hc.out.mono ?_;rintro e w1 ⟨rfl,hx1⟩;have Hx1:=hid (HE0.out.trans hx1);clear hx1 q0 q1;by_cases hk:K=2
  ·have hk2:(K == 2)=true:=(by simpa using hk);have Hk:=hid (decide_eq_true hk);clear hk;go_wp2_with fail
   go_ret2
   exact ⟨by rw [Hk.out] <;> rfl,Hx1.out⟩
  ·have hk2:(K == 2)=false:=(by simpa using hk);have Hk:=hid (decide_eq_false hk);clear hk;go_wp2_with fail
   go_ret2
   exact ⟨by rw [Hk.out] <;> rfl,Hx1.out⟩
 by_cases e4:P=4
 ·subst e4;have hc:=hpr _ _ (hw (by omega) (by omega)) HE0.out Hs.out;have Hc:=hid hc;clear hkc hpr hst hcs hw hc t2 t3;generalize tst 4 p (rs.map Qw.x)=T at *;go_enter Tryz.func79,Tryz.ntmps79
  go_wp2_with fail
  refine Hc.out.mono ?_;rintro e w1 ⟨⟨j1,j2,a1,n1,c1,a2,n2,c2,rfl⟩,hx1⟩;have Hx1:=hid ((HE0.out.trans hx1).alloc (.cells #[.int .i64 j1,.int .i64 j2,.slice a1 n1 c1,.slice a2 n2 c2] 43));clear hx1 q0 q1;go_wp2_with fail
  go_ret2
  exact ⟨rfl,Hx1.out⟩
 by_cases e5:P=5
 ·subst e5;have hc:=hst _ _ (hw (by omega) (by omega)) HE0.out Hs.out;have Hc:=hid hc;clear hkc hpr hst hcs hw hc t2 t3;generalize tst 5 p (rs.map Qw.x)=T at *;go_enter Tryz.func79,Tryz.ntmps79
  go_wp2_with fail
  refine Hc.out.mono ?_;rintro e w1 ⟨⟨j1,j2,a1,n1,c1,a2,n2,c2,rfl⟩,hx1⟩;have Hx1:=hid ((HE0.out.trans hx1).alloc (.cells #[.int .i64 j1,.int .i64 j2,.slice a1 n1 c1,.slice a2 n2 c2] 43));clear hx1 q0 q1;go_wp2_with fail
  go_ret2
  exact ⟨rfl,Hx1.out⟩
 by_cases e6:P=6
 ·subst e6;have hc:=hcs _ _ (hw (by omega) (by omega)) HE0.out Hs.out;have Hc:=hid hc;clear hkc hpr hst hcs hw hc t2 t3;generalize tst 6 p (rs.map Qw.x)=T at *;go_enter Tryz.func79,Tryz.ntmps79
  go_wp2_with fail
  refine Hc.out.mono ?_;rintro e w1 ⟨⟨j1,j2,a1,n1,c1,a2,n2,c2,rfl⟩,hx1⟩;have Hx1:=hid ((HE0.out.trans hx1).alloc (.cells #[.int .i64 j1,.int .i64 j2,.slice a1 n1 c1,.slice a2 n2 c2] 43));clear hx1 q0 q1;go_wp2_with fail
  go_ret2
  exact ⟨rfl,Hx1.out⟩
 have e:tst P p (rs.map Qw.x)=true:=by
  unfold tst;rw [if_neg e2,if_neg e3,if_neg e4,if_neg e5,if_neg e6]
 rw [e];clear e hkc hpr hst hcs hw t2 t3;have f2:(P == 2)=false:=by simpa using e2
 have f3:(P == 3)=false:=by simpa using e3
 have f4:(P == 4)=false:=by simpa using e4
 have f5:(P == 5)=false:=by simpa using e5
 have f6:(P == 6)=false:=by simpa using e6
 clear e2 e3 e4 e5 e6;go_enter Tryz.func79,Tryz.ntmps79
 go_wp2_with fail
 go_ret2
 exact ⟨rfl,HE0.out⟩
theorem zr9 {W:World}{B:Nat}{p:List Int}{N:List (List Rat)}{us:Value}{g L cap:Nat}{fs:List Fw}(h:Fnd W B p N us (.slice (some ⟨g,0,none⟩) L cap) fs){k:Nat}(hk:k<fs.length) :
  ∃ (f:Fw)(a8:Option Addr)(c8:Nat)(a9:Option Addr)(n9 c9:Nat),fs[k]?=some f∧W.cell? ⟨g,k * 2,none⟩=some (.slice a8 p.length c8)∧W.cell? ⟨g,k * 2+1,none⟩=some (.slice a9 n9 c9) ∧
   ScV W (.agg #[.slice a8 p.length c8,.slice a9 n9 c9]) p f.rs∧f.rs.map Qw.x=zlk p N f.l∧Wd p (zlk p N f.l):=by
 obtain ⟨f,hf⟩:∃ f,fs[k]?=some f:=⟨_,List.getElem?_eq_getElem hk⟩;obtain ⟨_,h2,h3,h4,h5⟩:=h.all f (List.mem_of_getElem? hf);have hcs:=World.ownsRow.cells h.vs (g:=g) rfl;have f0:=hcs (k * 2) _ (zp2 hf).1;have f1:=hcs (k * 2+1) _ (zp2 hf).2;rw [Addr.add_lit] at f0 f1;rw [Nat.zero_add] at f0 f1;obtain ⟨a8,c8,e8⟩:=zec h2;obtain ⟨a9,c9,e9⟩:=zec h3.1;rw [e8] at f0 h2;rw [e9] at f1 h3;exact ⟨f,a8,c8,a9,_,c9,hf,f0,f1,⟨_,_,rfl,zao h2,h3.rd⟩,h4,h5⟩
theorem zrA {W:World}{B:Nat}{p:List Int}{N:List (List Rat)}{us vs:Value}{fs:List Fw}(h:Fnd W B p N us vs fs):(fs=[]∧vs=.slice none 0 0)∨∃ g cap,vs=.slice (some ⟨g,0,none⟩) fs.length cap:=by
 rcases h.vs.2 with ⟨e,h0⟩ | ⟨g,cap,cur,e,_⟩
 ·exact .inl ⟨List.eq_nil_of_length_eq_zero h0,e⟩
 ·exact .inr ⟨g,cap,e⟩
structure LsR (W:World)(v:Value)(fs:List Iw):Prop where
 row:Sl W v (iwU fs)
 all:∀ f∈fs,Sl W f.u (zaq f.l)
theorem LsR.ext {W W':World}{v:Value}{fs:List Iw}(h:LsR W v fs)(hx:Ext W W'):LsR W' v fs:=⟨hx.sl h.row,fun f hf=>hx.sl (h.all f hf)⟩
theorem LsI.r {W:World}{B:Nat}{v:Value}{fs:List Iw}(h:LsI W B v fs):LsR W v fs:=⟨zao h.row,fun f hf=>zao (h.all f hf)⟩
def fwI (fs:List Fw):List Iw:=fs.map fun f=>⟨f.u,f.l⟩
theorem zrB (fs:List Fw):iwU (fwI fs)=fwU fs:=by unfold iwU fwI fwU;rw [List.map_map];rfl
theorem zrC (fs:List Fw):(fwI fs).map Iw.l=fs.map Fw.l:=by unfold fwI;rw [List.map_map];rfl
theorem zrD (fs:List Fw):(fwI fs).length=fs.length:=List.length_map ..
theorem Fnd.r {W:World}{B:Nat}{p:List Int}{N:List (List Rat)}{us vs:Value}{fs:List Fw}(h:Fnd W B p N us vs fs):LsR W us (fwI fs) :=
 ⟨by rw [zrB];exact zao h.us,fun f hf=>by
  obtain ⟨g,hg,rfl⟩:=List.mem_map.1 hf;exact zao (h.all g hg).1⟩
theorem LsR.shape {W:World}{v:Value}{fs:List Iw}(h:LsR W v fs):∃ a c,v=.slice a fs.length c:=by
 obtain ⟨a,c,e,_⟩:=h.row.parts;rw [zrh] at e;exact ⟨a,c,e⟩
theorem LsR.at' {W:World}{fs:List Iw}{a:Option Addr}{L c k:Nat}{f:Iw}(h:LsR W (.slice a L c) fs)(hf:fs[k]?=some f):∃ b off a2 c2,a=some ⟨b,off,none⟩∧W.cell? ⟨b,off+k,none⟩=some (.slice a2 f.l.length c2)∧Sl W (.slice a2 f.l.length c2) (zaq f.l):=by
 obtain ⟨a9,c9,e9,_,_,hc⟩:=h.row.parts;injection e9 with e9 _ _;obtain ⟨b,off,e,hcell⟩:=hc k f.u (by unfold iwU;rw [List.getElem?_map,hf];rfl);have hs:=h.all f (List.mem_of_getElem? hf);obtain ⟨a2,c2,e2,_⟩:=hs.parts;rw [zas] at e2;rw [e2] at hcell hs;exact ⟨b,off,a2,c2,e9.trans e,hcell,hs⟩
theorem zrE (va vb:Value)(fs gs:List Iw)(w:World)(ha:LsR w va fs)(hb:LsR w vb gs)(hf5:fs.length≤1000000)(hf:∀ f∈fs,f.l.length≤1000)(hg:∀ f∈gs,f.l.length≤1000) :
  Calls Tryz.prog 33 #[va,vb] w fun e w'=>e=.returned (.bool (decide (fs.map Iw.l=gs.map Iw.l)))∧Ext w w':=by
 obtain ⟨aa,ca,rfl⟩:=ha.shape;obtain ⟨ab,cb,rfl⟩:=hb.shape;by_cases hl:fs.length=gs.length
 ·have hmf:(fs.map Iw.l).length=(gs.map Iw.l).length:=by rw [List.length_map,List.length_map,hl]
  have hfull:(fs.map Iw.l).take fs.length=fs.map Iw.l∧(gs.map Iw.l).take fs.length=gs.map Iw.l:=⟨List.take_of_length_le (by rw [List.length_map];omega),List.take_of_length_le (by rw [List.length_map];omega)⟩;have Ha:=hid ha;have Hb:=hid hb;have Hf:=hid hf;have Hg:=hid hg;have Hl:=hid hl;have Hfull:=hid hfull;clear ha hb hf hg hmf hfull;rw [← hl] at ⊢;have Hb:Hid (LsR w (.slice ab fs.length cb) gs):=hid (by rw [hl];exact Hb.out);clear hl;go_enter Tryz.func33,Tryz.ntmps33
  go_wp2_with fail
  go_loopw [5] (fun v5 wr=>∃ k:Nat,v5=.int .i64 k∧k≤fs.length∧Hid ((fs.map Iw.l).take k=(gs.map Iw.l).take k)∧Ext w wr) (fun v5 _=>fs.length - (zam v5).toNat)
  case atStart=>exact ⟨0,rfl,Nat.zero_le _,hid (by simp),Ext.refl _⟩
  case round =>
   obtain ⟨k,rfl,hk,HT,hE⟩:=hrel;have HE:=hid hE;by_cases hkl:k<fs.length
   ·obtain ⟨f,hfk⟩:∃ f,fs[k]?=some f:=⟨_,List.getElem?_eq_getElem hkl⟩;obtain ⟨g,hgk⟩:∃ g,gs[k]?=some g:=⟨_,List.getElem?_eq_getElem (by have:=Hl.out;omega)⟩;obtain ⟨b1,o1,a2,c2,rfl,hc1,hs1⟩:=(Ha.out.ext hE).at' hfk;obtain ⟨b3,o3,a4,c4,rfl,hc3,hs3⟩:=(Hb.out.ext hE).at' hgk;have hsm:=fun W (hx:Ext wr W)=>zqe _ _ f.l g.l W (hx.sl hs1) (hx.sl hs3) (Hf.out f (List.mem_of_getElem? hfk)) (Hg.out g (List.mem_of_getElem? hgk));have hnx:(fs.map Iw.l).take (k+1)=(fs.map Iw.l).take k++[f.l]∧(gs.map Iw.l).take (k+1)=(gs.map Iw.l).take k++[g.l]:=by
     constructor <;> (rw [List.take_add_one,List.getElem?_map];first | (rw [hfk];rfl) | (rw [hgk];rfl))
    have hk0:(0:Int)≤(k:Int):=(by omega);have hk1:(k:Int)<(fs.length:Int):=(by omega);have Hsm:=hid hsm;have Hnx:=hid hnx;clear hsm hnx hs1 hs3 hE hfk hgk;by_cases hfg:f.l=g.l
    ·have hd:decide (f.l=g.l)=true:=decide_eq_true hfg;rw [hd] at Hsm;have HN:=hid (show (fs.map Iw.l).take (k+1)=(gs.map Iw.l).take (k+1) by rw [Hnx.out.1,Hnx.out.2,HT.out,hfg]);clear hd hfg;go_wp2_with fail
     go_region_held3 (fun w'=>Ext wr w'∧w'.cell? ⟨b1,o1+k,none⟩=some (.slice a2 f.l.length c2)∧w'.cell? ⟨b3,o3+k,none⟩=some (.slice a4 g.l.length c4))
      (first | (with_reducible assumption) | exact ⟨(Ext.refl wr).drew,hc1,hc3⟩)
      (first
       | (go_at_call 36;refine (Hsm.out _ (And.left (by assumption))).mono ?_;rintro e9 VA ⟨rfl,hxa⟩;have hEA:Ext wr VA:=Ext.trans (And.left (by assumption)) hxa;have hS2:Ext wr VA∧VA.cell? ⟨b1,o1+k,none⟩=some (.slice a2 f.l.length c2)∧VA.cell? ⟨b3,o3+k,none⟩=some (.slice a4 g.l.length c4):=⟨hEA,hEA.cell hc1,hEA.cell hc3⟩;have HEA:=hid hEA;clear hxa hEA))
     all_goals
      clear hS2 hc1 hc3;go_wp2_with fail
      go_roundw
      case rel=>exact ⟨k+1,by go_num,by omega,HN,HE.out.trans HEA.out⟩
      case measure=>simp [zam];omega
    ·have hd:decide (f.l=g.l)=false:=decide_eq_false hfg;rw [hd] at Hsm;have HN:=hid (show decide (fs.map Iw.l=gs.map Iw.l)=false from decide_eq_false fun e=>by
      have h1:=Hnx.out.1;rw [e,Hnx.out.2] at h1;exact hfg (by simpa using h1.symm))
     clear hd hfg;go_wp2_with fail
     go_region_held3 (fun w'=>Ext wr w'∧w'.cell? ⟨b1,o1+k,none⟩=some (.slice a2 f.l.length c2)∧w'.cell? ⟨b3,o3+k,none⟩=some (.slice a4 g.l.length c4))
      (first | (with_reducible assumption) | exact ⟨(Ext.refl wr).drew,hc1,hc3⟩)
      (first
       | (go_at_call 36;refine (Hsm.out _ (And.left (by assumption))).mono ?_;rintro e9 VA ⟨rfl,hxa⟩;have hEA:Ext wr VA:=Ext.trans (And.left (by assumption)) hxa;have hS2:Ext wr VA∧VA.cell? ⟨b1,o1+k,none⟩=some (.slice a2 f.l.length c2)∧VA.cell? ⟨b3,o3+k,none⟩=some (.slice a4 g.l.length c4):=⟨hEA,hEA.cell hc1,hEA.cell hc3⟩;have HEA:=hid hEA;clear hxa hEA))
     all_goals
      clear hS2 hc1 hc3;go_wp2_with fail
      go_ret
      exact ⟨by rw [HN.out] <;> rfl,HE.out.trans HEA.out⟩
   ·obtain rfl:k=fs.length:=by omega
    have HN:=hid (show decide (fs.map Iw.l=gs.map Iw.l)=true from decide_eq_true (by rw [← Hfull.out.1,← Hfull.out.2,HT.out]));clear hE;go_wp2_with fail
    go_ret
    exact ⟨by rw [HN.out] <;> rfl,HE.out⟩
 ·have hln:¬ (fs.length:Int)=(gs.length:Int):=by omega
  have HN:=hid (show decide (fs.map Iw.l=gs.map Iw.l)=false from decide_eq_false fun e=>hl (by have:=congrArg List.length e;rwa [List.length_map,List.length_map] at this));clear ha hb hf hg;go_enter Tryz.func33,Tryz.ntmps33
  go_wp2_with fail
  go_ret
  exact ⟨by rw [HN.out] <;> rfl,Ext.refl _⟩
def zrF : List Int→List Int→Bool
 | [],_=>false
 | _::_,[]=>true
 | x::a,y::b=>if x=y then zrF a b else decide (y<x)
theorem zrG {a b:List Int}{k:Nat}(ha:k<a.length)(hb:k<b.length):zrF (a.drop k) (b.drop k)=if (a[k]?).getD 0=(b[k]?).getD 0 then zrF (a.drop (k+1)) (b.drop (k+1)) else decide ((b[k]?).getD 0<(a[k]?).getD 0):=by
 rw [List.drop_eq_getElem_cons ha,List.drop_eq_getElem_cons hb,List.getElem?_eq_getElem ha,List.getElem?_eq_getElem hb];rfl
theorem zrH {a b:List Int}{k:Nat}(h:¬ (k<a.length∧k<b.length))(ha:k≤a.length)(hb:k≤b.length):zrF (a.drop k) (b.drop k)=decide (b.length<a.length):=by
 rcases Nat.lt_or_ge k a.length with h1 | h1
 ·have h2:b.length=k:=by omega
  rw [show b.drop k=[] from List.drop_eq_nil_of_le (by omega),List.drop_eq_getElem_cons h1];exact (decide_eq_true (by omega)).symm
 ·rw [List.drop_eq_nil_of_le h1];exact (decide_eq_false (by omega)).symm
theorem zrI (va vb:Value)(a b:List Int)(w:World)(ha:Sl w va (zaq a))(hb:Sl w vb (zaq b))(hla:a.length≤1000)(hlb:b.length≤1000) :
  Calls Tryz.prog 35 #[va,vb] w fun e w'=>e=.returned (.bool (zrF a b))∧Ext w w':=by
 obtain ⟨aa,ca,rfl,_,_,_⟩:=ha.parts;obtain ⟨ab,cb,rfl,_,_,_⟩:=hb.parts;rw [zas] at *;rw [zas] at *;have hca:=zqc ha;have hcb:=zqc hb;have hcn:=fun k (h1:k<a.length)(h2:k<b.length)=>zrG (a:=a) (b:=b) h1 h2;have hen:=fun k (h1:¬ (k<a.length∧k<b.length))(h2:k≤a.length)(h3:k≤b.length)=>zrH (a:=a) (b:=b) h1 h2 h3;obtain ⟨R,hR⟩:∃ R,R=zrF a b:=⟨_,rfl⟩;rw [← hR];have HR:=hid hR;clear hR;generalize hn:a.length=n at *;generalize hm:b.length=m at *;have Hca:=hid hca;have Hcb:=hid hcb;have Hcn:=hid hcn;have Hen:=hid hen;clear ha hb hca hcb hcn hen hn hm;go_enter Tryz.func35,Tryz.ntmps35
 go_wp2_with fail
 go_loopw [5] (fun v5 wr=>∃ k:Nat,v5=.int .i64 k∧k≤n∧k≤m∧Hid (R=zrF (a.drop k) (b.drop k))∧Ext w wr) (fun v5 _=>n - (zam v5).toNat)
 case atStart=>exact ⟨0,rfl,Nat.zero_le _,Nat.zero_le _,hid HR.out,Ext.refl _⟩
 case round =>
  obtain ⟨k,rfl,hkn,hkm,HT,hE⟩:=hrel;have HE:=hid hE;by_cases hk2:k<n∧k<m
  ·obtain ⟨h1,h2⟩:=hk2;obtain ⟨b1,o1,rfl,hc1⟩:=Hca.out k h1;obtain ⟨b2,o2,rfl,hc2⟩:=Hcb.out k h2;have hc1:=hE.cell hc1;have hc2:=hE.cell hc2;have hcn:=Hcn.out k h1 h2;generalize (a[k]?).getD 0=x at *;generalize (b[k]?).getD 0=y at *;have hk0:(0:Int)≤(k:Int):=(by omega);have hk1:(k:Int)<(n:Int):=(by omega);have hk3:(k:Int)<(m:Int):=(by omega);have Hcn1:=hid hcn;clear hcn hE;by_cases hxy:x=y
   ·subst hxy;have HN:=hid (HT.out.trans (by rw [Hcn1.out,if_pos rfl]));go_wp2_with fail
    go_quiet (fail)
    go_wp2_with fail
    go_roundw
    case rel=>exact ⟨k+1,by go_num,by omega,by omega,HN,HE.out.drewN _⟩
    case measure=>simp [zam];omega
   ·have HN:=hid (HT.out.trans (by rw [Hcn1.out,if_neg hxy]));have hx1:(x == y)=false:=(by simpa using hxy);have hx2:(x != y)=true:=(by simpa using hxy);go_wp2_with fail
    go_quiet (fail)
    go_wp2_with fail
    go_quiet (fail)
    go_wp2_with fail
    go_ret
    exact ⟨by rw [HN.out] <;> rfl,(HE.out.drewN _).drewN _⟩
  ·have HN:=hid (HT.out.trans (Hen.out k hk2 hkn hkm));clear hE;by_cases h1:k<n
   ·obtain rfl:k=m:=by omega
    have hk1:(k:Int)<(n:Int):=(by omega);go_wp2_with fail
    go_ret
    exact ⟨by rw [HN.out];simp;exact h1,HE.out⟩
   ·obtain rfl:k=n:=by omega
    go_wp2_with fail
    go_ret
    exact ⟨by rw [HN.out];simp,HE.out⟩
end Go.Proofs.YtiameffonflhgaaGreatDoor
