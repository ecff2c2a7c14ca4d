/- Plain: a sorted list of ints, each once; the greatest and the least of a list. Walks: evenness at right sets: Check, sizes, Spectrum, IsEven. Walks: evenness.Spectrum, IsEven at right sets. Walks: class.classed, class.Sizes. -/
import Derived.Test.YtebabancfnmfjaaGreatDoorPm35
import Derived.Lib.SlicesCompact
import Derived.Lib.Slices
import Derived.Test.YtebabancfnmfjaaGreatDoorPm32
import Derived.Test.YtebabancfnmfjaaGreatDoorPm23
import Derived.Test.YtebabancfnmfjaaGreatDoorShelfJ
import Derived.Shelf.SlicesG.Turned
import Derived.Shelf.SlicesG.CompactI
import Derived.Shelf.SortG.Plain
import Derived.Lib.OwnBridge
import Derived.Test.YtebabancfnmfjaaGreatDoorPm09
import Derived.Test.YtebabancfnmfjaaGreatDoorPm27
set_option maxRecDepth 100000
set_option maxHeartbeats 4000000
namespace Go.Proofs.YtebabancfnmfjaaGreatDoor
section
theorem zpV {d:Array Int}(hd:∀ i,i+1<d.size→d[i]!≤d[i+1]!):∀ m,m≤d.size →
  (Lib.compactUpTo d m).Pairwise (·<·)∧(∀ z∈Lib.compactUpTo d m,0<m∧z≤d[m - 1]!)∧∀ z,z∈Lib.compactUpTo d m ↔ ∃ j,j<m∧d[j]! =z
 | 0,_=>by
  have e:Lib.compactUpTo d 0=[]:=rfl;rw [e];exact ⟨List.Pairwise.nil,fun z (hz:z∈[])=>(by cases hz),fun z=>⟨fun (h:z∈[])=>(by cases h),fun ⟨j,hj,_⟩=>(by omega)⟩⟩
 | m+1,hm=>by
  obtain ⟨h1,h2,h3⟩:=zpV hd m (by omega);rw [Lib.compactUpTo_succ];rcases Nat.eq_zero_or_pos m with e | e
  ·subst e;have e:Lib.compactUpTo d 0=[]:=rfl;rw [e,if_pos (by simp [Lib.keeps])];refine ⟨by simp,fun z hz=>?_,fun z=>?_⟩
   ·have:z=d[0]!:=(by simpa using hz);exact ⟨by omega,by rw [this];exact Int.le_refl _⟩
   ·constructor
    ·intro hz;have hz0:z=d[0]!:=by simpa using hz
     exact ⟨0,by omega,hz0.symm⟩
    ·rintro ⟨j,hj,rfl⟩;obtain rfl:j=0:=by omega
     simp
  ·have hle:=hd (m - 1) (by omega);rw [show m - 1+1=m by omega] at hle;by_cases hk:d[m]! =d[m - 1]!
   ·rw [Lib.keeps_neg e hk,if_neg (by decide),List.append_nil];refine ⟨h1,fun z hz=>?_,fun z=>?_⟩
    ·have:=h2 z hz;rw [Nat.add_sub_cancel,hk];exact ⟨by omega,this.2⟩
    ·rw [h3];constructor
     ·rintro ⟨j,hj,g⟩;exact ⟨j,by omega,g⟩
     ·rintro ⟨j,hj,g⟩;rcases (by omega:j<m∨j=m) with k | k
      ·exact ⟨j,k,g⟩
      ·exact ⟨m - 1,by omega,by rw [← g,k,hk]⟩
   ·rw [Lib.keeps_pos hk,if_pos rfl];refine ⟨?_,fun z hz=>?_,fun z=>?_⟩
    ·rw [List.pairwise_append];refine ⟨h1,List.pairwise_singleton _ _,fun a ha b hb=>?_⟩;rw [List.mem_singleton] at hb;have:=(h2 a ha).2;omega
    ·rw [Nat.add_sub_cancel];rcases List.mem_append.1 hz with g | g
     ·have:=(h2 z g).2;omega
     ·rw [List.mem_singleton] at g;omega
    ·rw [List.mem_append,h3,List.mem_singleton];constructor
     ·rintro (⟨j,hj,g⟩ | g)
      ·exact ⟨j,by omega,g⟩
      ·exact ⟨m,by omega,g.symm⟩
     ·rintro ⟨j,hj,g⟩;rcases (by omega:j<m∨j=m) with k | k
      ·exact .inl ⟨j,k,g⟩
      ·right;rw [← g,k]
theorem zpW {n:Nat}{S:List Int}{d:Int}:Lib.compact ((exs n S d).mergeSort fun x y=>decide (x≤y))=spc n S d:=by
 have hs:((exs n S d).mergeSort fun x y=>decide (x≤y)).Pairwise (fun x y=>decide (x≤y)=true):=List.pairwise_mergeSort (fun a b c h1 h2=>by simp at *;omega) (fun a b=>by simp;omega) _;have hm:∀ z,z∈((exs n S d).mergeSort fun x y=>decide (x≤y)) ↔ z∈exs n S d:=fun z=>List.mem_mergeSort;generalize (exs n S d).mergeSort (fun x y=>decide (x≤y))=s at *;have hget:∀ i (hi:i<s.length),s.toArray[i]! =s[i]:=fun i hi=>by
  rw [getElem!_pos s.toArray i (by simpa using hi)];simp
 have key:=zpV (d:=s.toArray) (fun i hi=>by
  have hi2:i+1<s.length:=by simpa using hi
  rw [hget i (by omega),hget (i+1) hi2];exact of_decide_eq_true ((List.pairwise_iff_getElem.1 hs) i (i+1) (by omega) hi2 (by omega))) s.length (by simp)
 refine zpF key.1 fun z=>?_;unfold Lib.compact;rw [key.2.2,← hm];constructor
 ·rintro ⟨j,hj,e⟩;rw [hget j hj] at e;rw [← e];exact List.getElem_mem hj
 ·intro hz;obtain ⟨j,hj,e⟩:=List.mem_iff_getElem.1 hz;exact ⟨j,hj,by rw [hget j hj,e]⟩
theorem zpX : ∀ (l:List Int)(a:Int),a≤l.foldl max a∧∀ x∈l,x≤l.foldl max a
 | [],a=>⟨Int.le_refl _,fun x hx=>by cases hx⟩
 | y::l,a=>by
  obtain ⟨h1,h2⟩:=zpX l (max a y);rw [List.foldl_cons];refine ⟨by omega,fun x hx=>?_⟩;rcases List.mem_cons.1 hx with e | e
  ·omega
  ·exact h2 x e
theorem zpY : ∀ (l:List Int)(a:Int),l.foldl min a≤a∧∀ x∈l,l.foldl min a≤x
 | [],a=>⟨Int.le_refl _,fun x hx=>by cases hx⟩
 | y::l,a=>by
  obtain ⟨h1,h2⟩:=zpY l (min a y);rw [List.foldl_cons];refine ⟨by omega,fun x hx=>?_⟩;rcases List.mem_cons.1 hx with e | e
  ·omega
  ·exact h2 x e
theorem zpZ {l:List Int}(h:Lib.maxOf l - Lib.minOf l≤1):∀ x∈l,∀ y∈l,x≤y+1:=fun x hx y hy=>by
 have h1:=(zpX l (l.headD 0)).2 x hx;have h2:=(zpY l (l.headD 0)).2 y hy;unfold Lib.maxOf Lib.minOf at h;omega
theorem zqa {n:Nat}{S:List Int}{i d:Nat}(hi:i<S.length):(exs n S (d:Int))[i]?=some ((S[(i+d) % S.length]?).getD 0+(((i+d) / S.length:Nat):Int) * (n:Int) - (S[i]?).getD 0):=by
 unfold exs;rw [List.getElem?_map,List.getElem?_range hi];show some (ivE n S (i:Int) (d:Int))=_;unfold ivE;rw [zpu hi];unfold exl;rw [show (i:Int)+(d:Int)=((i+d:Nat):Int) by omega,← Int.natCast_emod,Int.toNat_natCast,← Int.natCast_ediv]
end
section
open Go.RowKit Go.Lib Go.Shelf
attribute [local go_sem] Oper.semAt_some
structure EvS (n:Nat)(S:List Int):Prop where
 n1:1≤n
 n60:n≤60
 pos:0<S.length
 bd:∀ x∈S,0≤x∧x<(n:Int)
 up:S.Pairwise (·<·)
theorem EvS.len {n:Nat}{S:List Int}(h:EvS n S):S.length≤n:=by
 have hs:S ⊆ (List.range n).map (fun (k:Nat)=>(k:Int)):=fun x hx=>by
  have hb:=h.bd x hx;exact List.mem_map.2 ⟨x.toNat,List.mem_range.2 (by omega),by omega⟩
 have:=zkM (h.up.imp (fun g=>by omega)) hs;simpa using this
theorem EvS.at' {n:Nat}{S:List Int}(h:EvS n S){k:Nat}(hk:k<S.length):0≤(S[k]?).getD 0∧(S[k]?).getD 0<(n:Int):=by
 rw [List.getElem?_eq_getElem hk];exact h.bd _ (List.getElem_mem hk)
theorem EvS.lt {n:Nat}{S:List Int}(h:EvS n S){k:Nat}(hk:k+1<S.length):(S[k]?).getD 0<(S[k+1]?).getD 0:=by
 rw [List.getElem?_eq_getElem (by omega),List.getElem?_eq_getElem hk];exact List.pairwise_iff_getElem.1 h.up k (k+1) (by omega) hk (by omega)
theorem zqb (vs:Value)(n:Nat)(S:List Int)(w:World)(hs:Sl w vs (zaq S))(h:EvS n S) :
  Calls Tryz.prog 39 #[.int .i64 (n:Int),vs] w fun e w'=>e=.returned (.int .i64 0)∧Ext w w':=by
 have hdv:∀ W,Calls Tryz.prog 97 #[.int .i64 (n:Int)] W fun e w'=>e=.returned (.int .i64 0)∧W=w':=fun W=>by
  have h1:=h.n1;have h2:=h.n60;go_enter Tryz.func97,Tryz.ntmps97
  go_wp2_with fail
  go_ret
  exact ⟨rfl,rfl⟩
 obtain ⟨a,c,rfl,_,_,_⟩:=hs.parts;rw [zas] at *;have hat:=zoF hs;have hL:=h.len;have hp:=h.pos;have h60:=h.n60;have hbd:=fun k (hk:k<S.length)=>h.at' hk;have hlt:=fun k (hk:k+1<S.length)=>h.lt hk;generalize hSl:S.length=L at *;have Hdv:=hid hdv;have Hat:=hid hat;have Hbd:=hid hbd;have Hlt:=hid hlt;clear hdv hat hbd hlt h hSl hs;go_enter Tryz.func39,Tryz.ntmps39
 go_wp2_with fail
 refine (Hdv.out w).mono ?_;rintro e w1 ⟨rfl,rfl⟩;have hL0:¬ L=0:=by omega
 have hLi:¬ (L:Int)=0:=by omega
 have hLe:((L:Int) == 0)=false:=by simpa using hLi
 go_wp2_with fail
 go_loopw [6,7,18] (fun _ _ v18 wr=>∃ k:Nat,v18=.int .i64 k∧k≤L∧Ext w wr) (fun _ _ v18 _=>L - (zam v18).toNat)
 case atStart=>exact ⟨0,rfl,Nat.zero_le _,Ext.refl _⟩
 case round =>
  obtain ⟨k,rfl,hk,hE⟩:=hrel;have HE:=hid hE;by_cases hkl:k<L
  ·obtain ⟨b,off,rfl,hc0⟩:=Hat.out k hkl;have hc:=hE.cell hc0;obtain ⟨hx0,hx1⟩:=Hbd.out k hkl;have hpv:=fun (h0:0<k)=>Hat.out (k - 1) (by omega);have hlv:=fun j (h0:k=j+1)=>(h0 ▸ Hlt.out j (by omega):(S[j]?).getD 0<(S[k]?).getD 0);have hxp:=fun (h0:0<k)=>Hbd.out (k - 1) (by omega);generalize (S[k]?).getD 0=x at *;have hk0:(0:Int)≤(k:Int):=(by omega);have hk1:(k:Int)<(L:Int):=(by omega);clear hE hc0;rcases Nat.eq_zero_or_pos k with h0 | h0
   ·subst h0;rw [Nat.add_zero] at hc;clear hpv hlv hxp;go_wp2_with fail
    go_roundw
    case rel=>first | exact ⟨1,by go_num,by omega,HE.out⟩ | ((repeat apply Exists.intro);exact ⟨⟨1,by go_num,by omega,HE.out⟩,rfl⟩)
    case measure=>simp [zam];omega
   ·obtain ⟨j,rfl⟩:∃ j,k=j+1:=⟨k - 1,by omega⟩;obtain ⟨b',off',e',hc1⟩:=hpv h0
    cases e'
    have hc':=HE.out.cell hc1;rw [Nat.add_sub_cancel] at hc';have hxy:=hlv j rfl;have hxp2:=hxp h0;rw [Nat.add_sub_cancel] at hxp2;generalize (S[j]?).getD 0=y at *;have hwj:IntKind.i64.wrap (((j+1:Nat):Int) - 1)=(j:Int):=(by rw [show (((j+1:Nat):Int) - 1)=(j:Int) by omega];exact IntWalk.i64_in _ (by omega));have hwj2:IntKind.i64.wrap (j:Int)=(j:Int):=IntWalk.i64_in _ (by omega);have hj0:(0:Int)≤(j:Int):=(by omega);have hj1:(j:Int)<(L:Int):=(by omega);have hjc:((j+1:Nat):Int)=(j:Int)+1:=(by omega);have hjp:(0:Int)<(j:Int)+1:=(by omega);clear hpv hlv hxp hc1;go_wp2_with fail
    go_roundw
    case rel=>first | exact ⟨j+1+1,by go_num,by omega,HE.out⟩ | ((repeat apply Exists.intro);exact ⟨⟨j+1+1,by go_num,by omega,HE.out⟩,rfl⟩)
    case measure=>simp [zam];omega
  ·obtain rfl:k=L:=by omega
   clear hE;go_wp2_with fail
   go_ret
   exact ⟨rfl,HE.out⟩
theorem zqc (vs:Value)(n d:Nat)(S:List Int)(w:World)(hs:Sl w vs (zaq S))(h:EvS n S)(hd:d≤S.length) :
  Calls Tryz.prog 40 #[.int .i64 (n:Int),vs,.int .i64 (d:Int)] w fun e w'=>∃ u,e=.returned u∧zfi w' w.heap.size u (exs n S (d:Int))∧Ext w w':=by
 obtain ⟨i0,hi,hz0,hz1,hz2⟩:=info_parts zfh;obtain ⟨a,c,rfl,_,_,_⟩:=hs.parts;rw [zas] at *;have hat:=zoF hs;have hL:=h.len;have hp:=h.pos;have h60:=h.n60;have hbd:=fun k (hk:k<S.length)=>h.at' hk;have hex:=fun i (hi:i<S.length)=>zqa (n:=n) (S:=S) (i:=i) (d:=d) hi;have hxl:=zpE n S (d:Int);obtain ⟨X,hX⟩:∃ X,X=exs n S (d:Int):=⟨_,rfl⟩;rw [← hX] at hex hxl ⊢;generalize hSl:S.length=L at *;have Hat:=hid hat;have Hbd:=hid hbd;have Hex:=hid hex;have Hxl:=hid hxl;clear hat hbd hex h hSl hs hX hxl;go_enter Tryz.func40,Tryz.ntmps40
 go_wp2_with fail
 go_loopw [7,8,9,10,13] (fun v7 _ _ _ v13 wr=>∃ i:Nat,v13=.int .i64 i∧i≤L∧Hid (wr.ownsRow w.heap.size 3 1 v7 i (zaq (X.take i)))∧Ext w wr) (fun _ _ _ _ v13 _=>L - (zam v13).toNat)
 case atStart=>exact ⟨0,rfl,Nat.zero_le _,hid ⟨rfl,.inl ⟨rfl,rfl⟩⟩,Ext.refl _⟩
 case round =>
  obtain ⟨i,rfl,hiL,HO,hE⟩:=hrel;have HE:=hid hE;by_cases hil:i<L
  ·obtain ⟨q,hq⟩:∃ q,q=(i+d) / L:=⟨_,rfl⟩;obtain ⟨r,hr⟩:∃ r,r=(i+d) % L:=⟨_,rfl⟩;have hrL:r<L:=(by rw [hr];exact Nat.mod_lt _ hp);have hdm:=Nat.div_add_mod (i+d) L;rw [← hq,← hr] at hdm;have hq2:q≤2:=(by rw [hq];exact Nat.le_of_lt_succ (Nat.div_lt_of_lt_mul (by omega)));obtain ⟨b,off,rfl,hc0⟩:=Hat.out i hil;obtain ⟨b',off',e',hc1⟩:=Hat.out r hrL
   cases e'
   have hxi:=Hbd.out i hil;have hyr:=Hbd.out r hrL;have hexi:=Hex.out i hil;rw [← hq,← hr] at hexi;have hci:=hE.cell hc0;have hcr:=hE.cell hc1;have hrem:((i:Int)+(d:Int)).tmod (L:Int)=(r:Int):=(by rw [← Int.natCast_add,Int.tmod_eq_emod_of_nonneg (by omega),hr];rfl);have hquo:((i:Int)+(d:Int)).tdiv (L:Int)=(q:Int):=(by rw [← Int.natCast_add,Int.tdiv_eq_ediv_of_nonneg (by omega),hq];rfl);generalize (S[i]?).getD 0=x at *;generalize (S[r]?).getD 0=y at *;have hP0:0≤(q:Int) * (n:Int):=Int.mul_nonneg (by omega) (by omega);have hP1:(q:Int) * (n:Int)≤120:=by
    have h1:q * n≤2 * 60:=Nat.mul_le_mul hq2 h60;have h2:(q:Int) * (n:Int)=((q * n:Nat):Int):=(Int.natCast_mul q n).symm;omega
   have hmulw:IntKind.i64.wrap ((q:Int) * (n:Int))=(q:Int) * (n:Int):=IntWalk.i64_in _ (by omega);have hLn:¬ L=0:=(by omega);have hLi:¬ (L:Int)=0:=(by omega);have hwk:IntKind.i64.wrap ((i:Int)+(d:Int))=(i:Int)+(d:Int):=IntWalk.i64_in _ (by omega);have hwq:IntKind.i64.wrap (q:Int)=(q:Int):=IntWalk.i64_in _ (by omega);have hwr:IntKind.i64.wrap (r:Int)=(r:Int):=IntWalk.i64_in _ (by omega);have hwy:IntKind.i64.wrap (y+(q:Int) * (n:Int))=y+(q:Int) * (n:Int):=IntWalk.i64_in _ (by omega);have hwz:IntKind.i64.wrap (y+(q:Int) * (n:Int) - x)=y+(q:Int) * (n:Int) - x:=IntWalk.i64_in _ (by omega);have hi0:(0:Int)≤(i:Int):=(by omega);have hi1:(i:Int)<(L:Int):=(by omega);have hr0:(0:Int)≤(r:Int):=(by omega);have hr1:(r:Int)<(L:Int):=(by omega);have Hexi:=hid hexi;have h63:i+1≤maxLen:=(by unfold maxLen;omega);have h8:(i+1) * 8≤140737488355328:=(by omega);have HsE:=hid hE.size;obtain ⟨a7,c7,rfl⟩:=zfj HO.out;have HE7:=hid ((Ext.refl wr).drew.alloc (.cells #[.int .i64 (y+(q:Int) * (n:Int) - x)] 3));have HcR:=hid hc1;clear hexi hE hc0 hc1 hdm hq hr hq2;go_wp2_with fail
   go_region_held3 (fun w'=>w'.cell? ⟨b,off+r,none⟩=some (.int .i64 y))
    (first | (with_reducible assumption) | exact (Ext.refl wr).drew.cell hcr | exact HE7.out.cell hcr)
    (first
     | (refine zoD (wr.drew.alloc (.cells #[.int .i64 (y+(q:Int) * (n:Int) - x)] 3)) rfl (.tmp 21) (.tmp 38) 24 rfl w.heap.size 3 i0 (.int .i64 0) 1 8 Tryz.underlying24 hi hz0 hz1 hz2 rfl (by decide) (.slice a7 i c7) i (zaq (X.take i)) (by simp [Act.eval]) (HE7.out.own HO.out) (some ⟨wr.heap.size,0,none⟩) 1 1 [.int .i64 (y+(q:Int) * (n:Int) - x)] (by simp [Act.eval]) (fun h=>by cases h) rfl (fun ad h=>by cases h;exact cell_one_new wr.drew _ _) (by simp [Value.oneCell']) h63 h8 (Nat.le_trans HsE.out HE7.out.size) ?_;intro v8 wB ho8 hg8;have HO8:=hid ho8;have HE8:=hid ((HE.out.trans HE7.out).grown hg8 (fun r e=>(World.ownsRow.lt HO.out r e).1));have hS8:wB.cell? ⟨b,off+r,none⟩=some (.int .i64 y):=HE8.out.cell HcR.out;clear ho8 hg8))
   all_goals
    have HN:=hid (show zaq (X.take (i+1))=zaq (X.take i)++[.int .i64 (y+(q:Int) * (n:Int) - x)] by
     rw [List.take_add_one,Hexi.out,zaq,List.map_append];rfl)
    clear hS8 hcr hci;go_wp2_with fail
    go_roundw
    case rel=>exact ⟨i+1,by go_num,by omega,hid (by rw [HN.out];exact HO8.out),HE8.out⟩
    case measure=>simp [zam];omega
  ·obtain rfl:i=L:=by omega
   have hXt:X.take i=X:=List.take_of_length_le (by rw [Hxl.out];exact Nat.le_refl _);rw [hXt] at HO;clear hE;go_wp2_with fail
   go_ret
   exact ⟨_,rfl,by unfold zfi;rw [Hxl.out];exact HO.out,HE.out⟩
end
section
open Go.RowKit Go.Lib Go.Shelf Go.Sort
attribute [local go_sem] Oper.semAt_some
theorem zqd {a b:Int}:∀ (X:List Int)(z:Int),(∀ x∈X,a≤x∧x≤b)→a≤z∧z≤b→(a≤X.foldl max z∧X.foldl max z≤b)∧(a≤X.foldl min z∧X.foldl min z≤b)
 | [],_,_,hz=>⟨hz,hz⟩
 | x::X,z,h,hz=>by
  have hx:=h x (List.mem_cons_self ..);have hX:=fun y hy=>h y (List.mem_cons_of_mem _ hy);rw [List.foldl_cons,List.foldl_cons];exact ⟨(zqd X (max z x) hX (by omega)).1,(zqd X (min z x) hX (by omega)).2⟩
theorem zqe {X:List Int}{a b:Int}(h:∀ x∈X,a≤x∧x≤b)(hp:0<X.length):(a≤Lib.maxOf X∧Lib.maxOf X≤b)∧(a≤Lib.minOf X∧Lib.minOf X≤b):=by
 obtain ⟨x,t,rfl⟩:∃ x t,X=x::t:=by
  cases X with
  | nil=>simp at hp
  | cons x t=>exact ⟨x,t,rfl⟩
 exact zqd (x::t) x h (h x (List.mem_cons_self ..))
theorem zqf {w0 w:World}{B g cap:Nat}(l:List Int)(hE:Ext w0 w)(hB:w0.heap.size≤B)(h:zfi w B (.slice (some ⟨g,0,none⟩) l.length cap) l)(hl:l.length≤1000) :
  Calls Tryz.prog 50 #[.slice (some ⟨g,0,none⟩) l.length cap] w fun e w'=>e=.returned (.tuple #[])∧zfi w' B (.slice (some ⟨g,0,none⟩) l.length cap) (l.mergeSort fun x y=>decide (x≤y))∧Ext w0 w':=by
 obtain ⟨g',cap',e,hb,hlt,_,_,_,hH⟩:=holds_of_ownsRow (enc:=Value.int .i64) (zs:=l) (show w.ownsRow B 3 1 _ l.length (l.map (Value.int .i64)) from h) (by intro e;cases e)
 cases e
 have hm:(l.mergeSort fun x y=>decide (x≤y)).length=l.length:=List.length_mergeSort ..;refine (show Calls Tryz.prog 50 _ w _ from AnyG.slices_Sort_int Tryz.lSortI g 0 cap l w hH hlt (by omega)).mono ?_;rintro e w' ⟨rfl,n,os,rfl⟩;have hs:=ownsRow_putRow (enc:=Value.int .i64) (q:=n) (k:=l.length) (ys:=l.mergeSort fun x y=>decide (x≤y)) (show w.ownsRow B 3 1 (.slice (some ⟨g,0,none⟩) l.length cap) l.length (l.map (Value.int .i64)) from h) hm (Nat.le_refl _);rw [List.take_of_length_le (by omega)] at hs;refine ⟨rfl,?_,Ext.grow (show Ext w0 (putRow (Value.int .i64) (Sort.ahead w n) g 0 (l.mergeSort fun x y=>decide (x≤y)).toArray) from below_putRow hE (by omega)) os⟩;unfold zfi;rw [hm];exact ((Ext.refl _).grow os).own hs
theorem zqg {w0 w:World}{B g cap:Nat}(l:List Int)(hE:Ext w0 w)(hB:w0.heap.size≤B)(h:zfi w B (.slice (some ⟨g,0,none⟩) l.length cap) l)(hl:l.length≤1000) :
  Calls Tryz.prog 51 #[.slice (some ⟨g,0,none⟩) l.length cap] w fun e w'=>e=.returned (.slice (some ⟨g,0,none⟩) (Lib.compact l).length cap)∧zfi w' B (.slice (some ⟨g,0,none⟩) (Lib.compact l).length cap) (Lib.compact l)∧Ext w0 w':=by
 obtain ⟨g',cap',e,hb,hlt,hnc,_,_,hH⟩:=holds_of_ownsRow (enc:=Value.int .i64) (zs:=l) (show w.ownsRow B 3 1 _ l.length (l.map (Value.int .i64)) from h) (by intro e;cases e)
 cases e
 have hcl:(Lib.compact l).length≤l.length:=Lib.compact_length_le l;refine (show Calls Tryz.prog 51 _ w _ from AnyG.slices_Compact_int Tryz.lCompactI g 0 cap l w hH (by omega) hnc).mono ?_;rintro e w' ⟨rfl,q,rfl⟩;have hs:=ownsRow_putRow (enc:=Value.int .i64) (q:=q) (k:=(Lib.compact l).length) (ys:=Lib.compact l++List.replicate (l.length - (Lib.compact l).length) 0) (show w.ownsRow B 3 1 (.slice (some ⟨g,0,none⟩) l.length cap) l.length (l.map (Value.int .i64)) from h) (by rw [List.length_append,List.length_replicate];omega) hcl;rw [List.take_left] at hs;exact ⟨rfl,hs,below_putRow hE (by omega)⟩
theorem zqh (vs:Value)(n d:Nat)(S:List Int)(w:World)(hs:Sl w vs (zaq S))(h:EvS n S)(hd:d≤S.length) :
  Calls Tryz.prog 13 #[.int .i64 (n:Int),vs,.int .i64 (d:Int)] w fun e w'=>∃ u,e=.returned (.tuple #[u,.int .i64 0])∧zfi w' w.heap.size u (spc n S (d:Int))∧Ext w w':=by
 have hck:=zqb vs n S w hs h;have hsz:=fun W (hE:Ext w W)=>zqc vs n d S W (hE.sl hs) h hd;have hsp:=zpW (n:=n) (S:=S) (d:=(d:Int));have hxl:=zpE n S (d:Int);obtain ⟨a,c,rfl,_,_,_⟩:=hs.parts;rw [zas] at *;have hL:=h.len;have hp:=h.pos;have h60:=h.n60;obtain ⟨X,hX⟩:∃ X,X=exs n S (d:Int):=⟨_,rfl⟩;rw [← hX] at hsz hsp hxl;generalize spc n S (d:Int)=Y at *;generalize hSl:S.length=L at *;have Hck:=hid hck;have Hsz:=hid hsz;have Hsp:=hid hsp;have Hxl:=hid hxl;clear hck hsz hsp hxl hs h hX hSl;go_enter Tryz.func13,Tryz.ntmps13
 go_wp2_with fail
 refine Hck.out.mono ?_;rintro e w1 ⟨rfl,hx1⟩;have Hx1:=hid hx1;clear hx1;have hd0:¬ (d:Int)<0:=by omega
 have hdL:¬ (L:Int)<(d:Int):=by omega
 go_wp2_with fail
 refine (Hsz.out _ Hx1.out).mono ?_;rintro e w2 ⟨u2,rfl,ho2,hx2⟩;have ho2':=zan ho2 Hx1.out.size;obtain ⟨g,cap,rfl⟩:∃ g cap,u2=.slice (some ⟨g,0,none⟩) X.length cap:=by
  rcases ho2.2 with ⟨_,e⟩ | ⟨g,cap,_,e,_⟩
  ·have:=Hxl.out;omega
  ·exact ⟨g,cap,e⟩
 have hst:=zqf X (Hx1.out.trans hx2) (Nat.le_refl _) ho2' (by have:=Hxl.out;omega);have Hst:=hid hst;have hml:(X.mergeSort fun x y=>decide (x≤y)).length=X.length:=List.length_mergeSort ..;clear ho2 ho2' hx2 hst;generalize hZ:(X.mergeSort fun x y=>decide (x≤y))=Z at *;have Hml:=hid hml;have HZ:=hid hZ;clear hml hZ;generalize hXl:X.length=xl at *;have HXl:=hid hXl;clear hXl;go_wp2_with fail
 refine Hst.out.mono ?_;rintro e w3 ⟨rfl,ho3,hx3⟩;have ho3':zfi w3 w.heap.size (.slice (some ⟨g,0,none⟩) Z.length cap) Z:=by rw [Hml.out];exact ho3
 have hcp:=zqg Z hx3 (Nat.le_refl _) ho3' (by have:=Hml.out;have:=HXl.out;have:=Hxl.out;omega);rw [Hml.out,Hsp.out] at hcp;have Hcp:=hid hcp;clear ho3 ho3' hx3 hcp;go_wp2_with fail
 refine Hcp.out.mono ?_;rintro e w4 ⟨rfl,ho4,hx4⟩;have Ho4:=hid ho4;have Hx4:=hid hx4;clear ho4 hx4;go_wp2_with fail
 go_ret2
 exact ⟨_,rfl,Ho4.out,Hx4.out⟩
theorem zqi (vs:Value)(S:List Int)(x:Int)(w:World)(hs:Sl w vs (zaq S))(hl:S.length≤1000) :
  Calls Tryz.prog 43 #[vs,.int .i64 x] w fun e w'=>∃ k:Int,e=.returned (.int .i64 k)∧Ext w w':=by
 obtain ⟨a,c,rfl,_,_,_⟩:=hs.parts;rw [zas] at *;have hat:=zoF hs;generalize hSl:S.length=L at *;have Hat:=hid hat;clear hat hs hSl;go_enter Tryz.func43,Tryz.ntmps43
 go_wp2_with fail
 go_loopw [5,8] (fun _ v8 wr=>∃ k:Nat,v8=.int .i64 k∧k≤L∧Ext w wr) (fun _ v8 _=>L - (zam v8).toNat)
 case atStart=>exact ⟨0,rfl,Nat.zero_le _,Ext.refl _⟩
 case round =>
  obtain ⟨k,rfl,hk,hE⟩:=hrel;have HE:=hid hE;by_cases hkl:k<L
  ·obtain ⟨b,off,rfl,hc0⟩:=Hat.out k hkl;have hc:=hE.cell hc0;generalize (S[k]?).getD 0=y at *;have hk0:(0:Int)≤(k:Int):=(by omega);have hk1:(k:Int)<(L:Int):=(by omega);clear hE hc0;by_cases hxy:x=y
   ·subst hxy;go_wp2_with fail
    first
     | (go_ret;exact ⟨_,rfl,HE.out⟩)
     | (go_quiet (fail);go_wp2_with fail;go_ret;exact ⟨_,rfl,HE.out.drewN _⟩)
   ·have h1:(x == y)=false:=(by simpa using hxy);go_wp2_with fail
    first
     | (go_roundw
        case rel=>exact ⟨k+1,by go_num,by omega,HE.out⟩
        case measure=>simp [zam];omega)
     | (go_quiet (fail)
        go_wp2_with fail
        go_roundw
        case rel=>exact ⟨k+1,by go_num,by omega,HE.out.drewN _⟩
        case measure=>simp [zam];omega)
  ·obtain rfl:k=L:=by omega
   clear hE;go_wp2_with fail
   go_ret
   exact ⟨_,rfl,HE.out⟩
def zqj (w:World)(b:Nat)(u v x:Value):Prop:=w.heap[b]?=some (.cells #[u,v,x] 35 (0,0))
theorem zqj.c {w:World}{b:Nat}{u v x:Value}(h:zqj w b u v x):w.cell? ⟨b,0,none⟩=some u∧w.cell? ⟨b,1,none⟩=some v∧w.cell? ⟨b,2,none⟩=some x∧w.frozen? ⟨b,0,none⟩=false∧w.frozen? ⟨b,1,none⟩=false∧w.frozen? ⟨b,2,none⟩=false:=by
 refine ⟨?_,?_,?_,frozen_of_row _ _ _ _ _ h,frozen_of_row _ _ _ _ _ h,frozen_of_row _ _ _ _ _ h⟩ <;> (unfold World.cell?;dsimp only;rw [h];rfl)
theorem zqj.put {w:World}{b:Nat}{u v x:Value}(h:zqj w b u v x)(y z q:Value):zqj (((w.setCell ⟨b,0,none⟩ y).setCell ⟨b,1,none⟩ z).setCell ⟨b,2,none⟩ q) b y z q :=
 heap_setCell_same _ b 2 _ _ q (heap_setCell_same _ b 1 _ _ z (heap_setCell_same w b 0 _ _ y h))
theorem zqk {n:Nat}{S:List Int}{d:Nat}(h:∀ d':Nat,1≤d'→d'<d→∀ x∈exs n S (d':Int),∀ y∈exs n S (d':Int),x≤y+1)(hm:Lib.maxOf (exs n S (d:Int)) - Lib.minOf (exs n S (d:Int))≤1) :
  ∀ d':Nat,1≤d'→d'<d+1→∀ x∈exs n S (d':Int),∀ y∈exs n S (d':Int),x≤y+1:=fun d' h1 h2=>by
 rcases Nat.lt_or_ge d' d with g | g
 ·exact h d' h1 g
 ·obtain rfl:d'=d:=by omega
  exact zpZ hm
def zql (n:Nat)(S:List Int)(e:Ending):Prop:=∃ (b:Bool)(x y z:Int),e=.returned (.tuple #[.bool b,.agg #[.int .i64 x,.int .i64 y,.int .i64 z],.int .i64 0])∧(b=true→EvA n S)
theorem zqm (vs:Value)(n:Nat)(S:List Int)(w:World)(hs:Sl w vs (zaq S))(h:EvS n S) :
  Calls Tryz.prog 9 #[.int .i64 (n:Int),vs] w fun e w'=>zql n S e∧Ext w w':=by
 have hck:=fun W (hE:Ext w W)=>zqb vs n S W (hE.sl hs) h;have hsz:=fun (d:Nat)(hd:d≤S.length) W (hE:Ext w W)=>zqc vs n d S W (hE.sl hs) h hd;have hxl:=fun (d:Nat)=>zpE n S (d:Int);have hxb:∀ (d:Nat),d≤S.length→∀ x∈exs n S (d:Int),-1000≤x∧x≤1000:=fun d hd x hx=>by
  obtain ⟨i,hi,e⟩:=List.getElem_of_mem hx;rw [zpE] at hi;have h1:=zqa (n:=n) (S:=S) (i:=i) (d:=d) hi;rw [List.getElem?_eq_getElem (by rw [zpE];exact hi),e] at h1;have h2:=Option.some.inj h1;have h3:=h.at' hi;have h4:=h.at' (Nat.mod_lt (i+d) h.pos);have h5:(i+d) / S.length≤2:=Nat.le_of_lt_succ (Nat.div_lt_of_lt_mul (by omega));have h6:(i+d) / S.length * n≤2 * 60:=Nat.mul_le_mul h5 h.n60;have h7:(((i+d) / S.length:Nat):Int) * (n:Int)=(((i+d) / S.length * n:Nat):Int):=(Int.natCast_mul _ n).symm;have h8:=h.n60;omega
 have hmx:∀ (d:Nat),d≤S.length→(-1000≤Lib.maxOf (exs n S (d:Int))∧Lib.maxOf (exs n S (d:Int))≤1000)∧(-1000≤Lib.minOf (exs n S (d:Int))∧Lib.minOf (exs n S (d:Int))≤1000):=fun d hd =>
  ⟨zqe (hxb d hd) (by rw [zpE];exact h.pos) |>.1,zqe (hxb d hd) (by rw [zpE];exact h.pos) |>.2⟩
 obtain ⟨a,c,rfl,_,_,_⟩:=hs.parts;rw [zas] at *;have hL:=h.len;have hp:=h.pos;have h60:=h.n60;have hEA:(∀ d':Nat,1≤d'→d'<S.length→∀ x∈exs n S (d':Int),∀ y∈exs n S (d':Int),x≤y+1)→EvA n S:=fun g=>g;have hb0:zqj (w.alloc (.cells #[.int .i64 0,.int .i64 0,.int .i64 0] 35)) w.heap.size (.int .i64 0) (.int .i64 0) (.int .i64 0):=World.alloc_heap_new w _;have hE0:=(Ext.refl w).alloc (.cells #[.int .i64 0,.int .i64 0,.int .i64 0] 35);generalize hSl:S.length=L at *;have Hck:=hid hck;have Hsz:=hid hsz;have Hxl:=hid hxl;have Hmx:=hid hmx;have HEA:=hid hEA;have Hb0:=hid hb0;have HE0:=hid hE0;clear hck hsz hxl hmx hEA hb0 hE0 hs h hSl hxb;go_enter Tryz.func9,Tryz.ntmps9
 go_wp2_with fail
 refine (Hck.out _ HE0.out).mono ?_;rintro e w1 ⟨rfl,hx1⟩;have Hx1:=hid (HE0.out.trans hx1);have Hb1:=hid (show zqj w1 _ _ _ _ from hx1.heap Hb0.out);clear hx1;go_wp2_with fail
 go_loopw [8,9,10,11] (fun v8 _ _ _ wr=>∃ d:Nat,v8=.int .i64 d∧1≤d∧d≤L∧Hid (∀ d':Nat,1≤d'→d'<d→∀ x∈exs n S (d':Int),∀ y∈exs n S (d':Int),x≤y+1)∧Ext w1 wr) (fun v8 _ _ _ _=>L - (zam v8).toNat)
 case atStart=>exact ⟨1,rfl,Nat.le_refl _,hp,hid (fun d' h1 h2=>by omega),Ext.refl _⟩
 case round =>
  obtain ⟨d,rfl,hd1,hdL,HT,hE⟩:=hrel;have HE:=hid hE;by_cases hdl:d<L
  ·have hdi:(d:Int)<(L:Int):=(by omega);have hsz:=Hsz.out d hdL wr (Hx1.out.trans hE);have hxl:=Hxl.out d;have hmx:=Hmx.out d hdL;have hnx:=fun hm=>zqk (n:=n) (S:=S) (d:=d) HT.out hm;generalize exs n S (d:Int)=X at *;have Hsz:=hid hsz;have Hxl1:=hid hxl;have Hnx:=hid hnx;clear hsz hxl hnx hE;go_wp2_with fail
   refine Hsz.out.mono ?_;rintro e w2 ⟨u2,rfl,ho2,hx2⟩;obtain ⟨g,cap,rfl⟩:∃ g cap,u2=.slice (some ⟨g,0,none⟩) X.length cap:=by
    rcases ho2.2 with ⟨_,e⟩ | ⟨g,cap,_,e,_⟩
    ·have:=Hxl1.out;omega
    ·exact ⟨g,cap,e⟩
   have hcc:∀ j,j<X.length→w2.cell? ⟨g,0+j,none⟩=some (.int .i64 (X.getD j 0)):=fun j hj=>by
    have:=World.ownsRow.cells ho2 (g:=g) rfl j (.int .i64 (X.getD j 0)) (by unfold zaq;rw [List.getElem?_map,List.getD_eq_getElem?_getD,List.getElem?_eq_getElem hj];rfl);rwa [Addr.add_lit] at this
   have hmin:=AnyG.slices_Min_int Tryz.lMinI g 0 X.length cap X w2 (by have:=Hxl1.out;omega) (Nat.le_refl _) (by have:=Hxl1.out;omega) hcc;have hmax:=AnyG.slices_Max_int Tryz.lMaxI g 0 X.length cap X w2 (by have:=Hxl1.out;omega) (Nat.le_refl _) (by have:=Hxl1.out;omega) hcc;rw [List.take_length] at hmin hmax;have hix:=fun x W (hx:Ext w2 W)=>zqi _ X x W (hx.sl (zao ho2)) (by have:=Hxl1.out;omega);have HX2:=hid (HE.out.trans hx2);have Hmin:=hid (show Calls Tryz.prog 41 _ w2 _ from hmin);have Hmax:=hid (show Calls Tryz.prog 42 _ w2 _ from hmax);have Hix:=hid hix;clear ho2 hx2 hcc hmin hmax hix;generalize hXl:X.length=xl at *;clear hXl;generalize Lib.maxOf X=mx at *;generalize Lib.minOf X=mn at *;have hw1:IntKind.i64.wrap (mx - mn)=mx - mn:=IntWalk.i64_in _ (by omega);go_wp2_with fail
   refine Hmin.out.mono ?_;rintro e w3 ⟨rfl,rfl⟩;go_wp2_with fail
   refine Hmax.out.mono ?_;rintro e w4 ⟨rfl,rfl⟩;by_cases hfar:1<mx - mn
   ·go_wp2_with fail
    refine (Hix.out _ _ (Ext.refl _)).mono ?_;rintro e w5 ⟨k1,rfl,hx5⟩;have Hx5:=hid hx5;clear hx5;go_wp2_with fail
    refine (Hix.out _ _ Hx5.out).mono ?_;rintro e w6 ⟨k2,rfl,hx6⟩;have hE6:=HX2.out.trans (Hx5.out.trans hx6);have b6:=(show zqj w6 _ _ _ _ from hE6.heap Hb1.out);obtain ⟨c0,c1,c2,z0,z1,z2⟩:=b6.c;obtain ⟨d0,d1,d2,_,_,_⟩:=(b6.put (.int .i64 (d:Int)) (.int .i64 k1) (.int .i64 k2)).c;have HE6:=hid (Hx1.out.trans hE6);clear b6 hE6 hx6;go_wp2_with fail
    exact bodyPost_ret (v:=.tuple #[.bool false,.agg #[.int .i64 (d:Int),.int .i64 k1,.int .i64 k2],.int .i64 0]) (by simp [results,Tryz.results9,go_sem,d0,d1,d2]) rfl ⟨⟨false,_,_,_,rfl,fun e=>by cases e⟩,((HE6.out.setCell (p:=⟨w.heap.size,0,none⟩) (Nat.le_refl _) _).setCell (p:=⟨w.heap.size,1,none⟩) (Nat.le_refl _) _).setCell (p:=⟨w.heap.size,2,none⟩) (Nat.le_refl _) _⟩
   ·have hfn:¬ (1:Int)<mx - mn:=hfar;have HN:=hid (Hnx.out (by omega));go_wp2_with fail
    go_roundw
    case rel=>exact ⟨d+1,by go_num,by omega,by omega,HN,HX2.out⟩
    case measure=>simp [zam];omega
  ·obtain rfl:d=L:=by omega
   have hdi:¬ (d:Int)<(d:Int):=(by omega);have b6:=(show zqj wr _ _ _ _ from hE.heap Hb1.out);obtain ⟨c0,c1,c2,z0,z1,z2⟩:=b6.c;obtain ⟨d0,d1,d2,_,_,_⟩:=(b6.put (.int .i64 0) (.int .i64 0) (.int .i64 0)).c;have HE6:=hid (Hx1.out.trans hE);have HF:=hid (HEA.out HT.out);clear b6 hE;go_wp2_with fail
   exact bodyPost_ret (v:=.tuple #[.bool true,.agg #[.int .i64 0,.int .i64 0,.int .i64 0],.int .i64 0]) (by simp [results,Tryz.results9,go_sem,d0,d1,d2]) rfl ⟨⟨true,_,_,_,rfl,fun _=>HF.out⟩,((HE6.out.setCell (p:=⟨w.heap.size,0,none⟩) (Nat.le_refl _) _).setCell (p:=⟨w.heap.size,1,none⟩) (Nat.le_refl _) _).setCell (p:=⟨w.heap.size,2,none⟩) (Nat.le_refl _) _⟩
end
section
open Go.RowKit Go.Lib Go.Shelf
attribute [local go_sem] Oper.semAt_some
theorem zqn (v:Value)(p:List Int)(rs:List Qw)(d:Nat)(w:World)(he:Env w)(hv:ScV w v p rs)(h:Wc p (rs.map Qw.x))(hd:d≤rs.length) :
  Calls Tryz.prog 48 #[v,.int .i64 (d:Int)] w fun e w'=>∃ u,e=.returned (.tuple #[u,.int .i64 0])∧Vw w' u p rs∧Ext w w':=by
 have hlk:=fun W (hE:Ext w W)=>zl3 v p rs W (he.ext hE) (hv.ext hE) h.wd;have hfew:=h.few;rw [List.length_map] at hfew;obtain ⟨vp,vn,rfl,hp,hs,hmr⟩:=hv;obtain ⟨ap,cp,rfl,_,_,_⟩:=hp.parts;obtain ⟨an,cn,rfl,_,_,_⟩:=hs.parts;rw [zas] at *;rw [zf0] at *;generalize rs.length=n at *;have hE0:Ext w (w.alloc (.cells #[.slice ap p.length cp,.slice an n cn] 28)):=(Ext.refl w).alloc _;have b1:=zic.new 28 w (.slice ap p.length cp) (.slice an n cn);have Hlk:=hid hlk;have HE0:=hid hE0;have B1:=hid b1;have q0:=b1.c0;have q1:=b1.c1;clear hlk hE0 b1 hp hs hmr he h;go_enter Tryz.func48,Tryz.ntmps48
 go_wp2_with fail
 refine (Hlk.out _ HE0.out).mono ?_;rintro e w2 ⟨u,rfl,hu,hx2⟩;have hx:=HE0.out.trans hx2;have q0:=(B1.out.ext hx2).c0;have q1:=(B1.out.ext hx2).c1;obtain ⟨b,v1,v2,v3,nts,rfl,hrest⟩:=hu;have h1:¬ (d:Int)<0:=by omega
 have h2:¬ (n:Int)<(d:Int):=by omega
 have Hx:=hid hx;have Hr:=hid hrest;clear hx hrest hx2;go_wp2_with fail
 exact bodyPost_ret (v:=.tuple #[.pointer (some ⟨b,0,none⟩),.int .i64 0]) (by simp [results,Tryz.results48,go_sem]) rfl ⟨_,rfl,⟨b,v1,v2,v3,nts,rfl,Hr.out⟩,Hx.out⟩
theorem zqo (v:Value)(p:List Int)(rs:List Qw)(d:Nat)(w:World)(he:Env w)(hv:ScV w v p rs)(h:Wc p (rs.map Qw.x))(hd:d≤rs.length) :
  Calls Tryz.prog 12 #[v,.int .i64 (d:Int)] w fun e w'=>∃ u out,e=.returned (.tuple #[u,.int .i64 0])∧QwM w' w.heap.size w.heap.size u out∧out.map Qw.x=cls p (rs.map Qw.x) (d:Int)∧Ext w w':=by
 have hcl:=fun W (hE:Ext w W)=>zqn v p rs d W (he.ext hE) (hv.ext hE) h hd;have hsz:=fun u W (hE:Ext w W)(hu:Vw W u p rs)=>zmv u p rs d W (he.ext hE) hu h hd;have hfew:=h.few;rw [List.length_map] at hfew;obtain ⟨vp,vn,rfl,hp,hs,hmr⟩:=hv;obtain ⟨ap,cp,rfl,_,_,_⟩:=hp.parts;obtain ⟨an,cn,rfl,_,_,_⟩:=hs.parts;rw [zas] at *;rw [zf0] at *;generalize rs.length=n at *;have hE0:Ext w (w.alloc (.cells #[.slice ap p.length cp,.slice an n cn] 28)):=(Ext.refl w).alloc _;have b1:=zic.new 28 w (.slice ap p.length cp) (.slice an n cn);have Hcl:=hid hcl;have Hsz:=hid hsz;have HE0:=hid hE0;have q0:=b1.c0;have q1:=b1.c1;clear hcl hsz hE0 b1 hp hs hmr he h;go_enter Tryz.func12,Tryz.ntmps12
 go_wp2_with fail
 refine (Hcl.out _ HE0.out).mono ?_;rintro e w2 ⟨u,rfl,hu,hx2⟩;have hx:=HE0.out.trans hx2;have hak:=Hsz.out u w2 hx hu;obtain ⟨b,v1,v2,v3,nts,rfl,hrest⟩:=hu;have Hx:=hid hx;have Hak:=hid hak;have Hr:=hid hrest;clear hx hak hrest hx2 q0 q1;go_wp2_with fail
 refine Hak.out.mono ?_;rintro e w3 ⟨v4,out,rfl,hq,hm,hx3⟩;obtain ⟨a4,c4,rfl⟩:=zfj hq.1;have hq2:=hq.mono Hx.out.size Hx.out.size;have Hq2:=hid hq2;have Hm:=hid hm;have Hx3:=hid (Hx.out.trans hx3);clear hq2 hm hx3 hq;generalize hll:out.length=m at *;go_wp2_with fail
 exact bodyPost_ret (v:=.tuple #[.slice a4 m c4,.int .i64 0]) (by simp [results,Tryz.results12,go_sem]) rfl ⟨_,out,rfl,Hq2.out,Hm.out,Hx3.out⟩
end
end Go.Proofs.YtebabancfnmfjaaGreatDoor
