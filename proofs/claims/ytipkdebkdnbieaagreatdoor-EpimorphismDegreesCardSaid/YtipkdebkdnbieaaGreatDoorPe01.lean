/- The walk of decimal's trim: what it leaves are the pieces of the value. The walk of decimal's cut: a numeral in pieces of nine digits. The library's calls, in the words of the walks: strconv's, the reversal of bytes. strconv.FormatUint at base 10; decimal's Of and Small. The walk of decimal's text: pieces as a numeral. Plain law: the product of pieces. The walk of decimal's times. Plain law: numerals are compared by their lengths, then byte by byte. Walks: decimal's Compare, both, Mul. Walks: whole's split, join, little, Sign, Compare, Mul. Walks: decimal's Bits and Power (of small bases), whole's Power. -/
import Derived.Test.YtipkdebkdnbieaaGreatDoorPe00
import Derived.Test.YtipkdebkdnbieaaGreatDoorShelfA
import Derived.Lib.OwnBridge
import Derived.Lib.ItoaMem
import Derived.Shelf.Strconv.Itoa2
import Derived.Lib.RabinKarpLaws
set_option maxRecDepth 100000
set_option maxHeartbeats 1600000
namespace Go.Proofs.YtipkdebkdnbieaaGreatDoor
open Go.RowKit Go.Lib Go.Sort
theorem Ext.grow {a w:World}(h:Ext a w)(os:Array Obj):Ext a (Sort.grow w os) :=
 Ext.trans h ⟨rfl,rfl,rfl,by simp,fun k hk=>heap_grow_old w os hk⟩
theorem Ext.ahead {a w:World}(h:Ext a w)(n:Nat):Ext a (Sort.ahead w n) :=
 Ext.trans h ⟨rfl,rfl,rfl,Nat.le_refl _,fun _ _=>rfl⟩
theorem zaE (z:Int)(h0:-9223372036854775808≤z)(h1:z≤9223372036854775807)(w:World)(he:Env w) :
  Calls Tryz.prog 124 #[.int .i64 z] w fun e w'=>e=.returned (.string (I z))∧Ext w w' :=
 (Any.strconv_Itoa Tryz.lItoa z h0 h1 w he).mono fun e w' ⟨h,k,os,hw⟩=>⟨h,by rw [hw];exact ((Ext.refl w).drewN k).grow os⟩
theorem zaF (z:Int)(h0:-9223372036854775808≤z)(h1:z≤9223372036854775807):Lib.atoiAll (itoa z)=.ok z:=by
 have key:∀ (l:List UInt8)(acc:Nat),Dec.Dig l→Dec.val acc l<18446744073709551616→parseUint10 acc l=.ok (Dec.val acc l):=by
  intro l;induction l with
  | nil=>intro acc _ _;rw [Dec.val_nil];rfl
  | cons c r ih =>
   intro acc hd hv
   have hc:=hd c (List.mem_cons_self ..)
   have hr:Dec.Dig r:=fun x hx=>hd x (List.mem_cons_of_mem _ hx)
   rw [Dec.val_cons] at hv ⊢
   have hmono:10 * acc+Dec.dv c≤Dec.val (10 * acc+Dec.dv c) r:=by
    rw [Dec.val_acc];have:1≤10 ^ r.length:=Nat.one_le_pow _ _ (by decide);have:=Nat.mul_le_mul_left (10 * acc+Dec.dv c) this;omega
   have hdv:c.toNat - 48=Dec.dv c:=rfl
   simp only [parseUint10]
   rw [if_pos hc,if_neg (by omega),hdv,if_neg (by omega),Nat.mul_comm acc 10,ih _ hr hv]
 have mag:∀ n:Nat,n<18446744073709551616→parseMag (decDigits n)=.ok n:=by
  intro n hn;unfold parseMag;rw [if_neg (Dec.dec_ne_nil n),key _ 0 (Dec.dig_dec n) (by rw [Dec.val_dec];exact hn),Dec.val_dec]
 unfold itoa;by_cases hz:z<0
 ·rw [if_pos hz];unfold atoiAll;have e45:(45:UInt8).toNat=45:=rfl;simp only [e45,or_true,if_true];rw [mag _ (by omega)];simp only [not_true,false_and,if_false,true_and];rw [if_neg (by omega)];congr 1;omega
 ·rw [if_neg hz];obtain ⟨n,rfl⟩:∃ n:Nat,z=n:=⟨z.toNat,by omega⟩;rw [Int.toNat_natCast]
  cases hl:decDigits n with
  | nil=>exact absurd hl (Dec.dec_ne_nil n)
  | cons c r =>
   have hc:=Dec.dig_dec n c (by rw [hl];exact List.mem_cons_self ..)
   unfold atoiAll
   simp only
   rw [if_neg (by omega),← hl,mag _ (by omega)]
   simp only
   have h45:¬ c.toNat=45:=by omega
   simp only [h45,not_false_eq_true,true_and,false_and,if_false]
   rw [if_neg (by omega)]
theorem zaG (z:Int)(h0:-9223372036854775808≤z)(h1:z≤9223372036854775807)(w:World) :
  Calls Tryz.prog 193 #[.string (I z)] w fun e w'=>e=.returned (.tuple #[.int .i64 z,.nilIface])∧Ext w w':=by
 have hs:(I z).size≤9223372036854775806:=by
  show (itoa z).toArray.size≤_;rw [List.size_toArray];unfold itoa;split
  ·rw [List.length_cons,decDigits_length];have:=Dec.nDigits_le (n:=z.natAbs) (k:=20) (by omega) (by omega);omega
  ·rw [decDigits_length];have:=Dec.nDigits_le (n:=z.toNat) (k:=20) (by omega) (by omega);omega
 refine (Any.strconv_Atoi_ok Tryz.lAtoi (I z) hs z (zaF z h0 h1) w).mono fun e w' ⟨h,hw⟩=>⟨h,?_⟩;rcases hw with rfl | ⟨t,rfl⟩
 ·exact Ext.refl _
 ·exact Ext.bytes _ _ _
theorem zaH (n:Nat)(h:n<18446744073709551616):Lib.parseUintB 64 (decDigits n)=.ok n:=by
 have key:∀ (l:List UInt8)(acc:Nat),Dec.Dig l→Dec.val acc l<18446744073709551616→parseUintM (2 ^ 64 - 1) acc l=.ok (Dec.val acc l):=by
  intro l;induction l with
  | nil=>intro acc _ _;rw [Dec.val_nil];rfl
  | cons c r ih =>
   intro acc hd hv
   have hc:=hd c (List.mem_cons_self ..)
   have hr:Dec.Dig r:=fun x hx=>hd x (List.mem_cons_of_mem _ hx)
   rw [Dec.val_cons] at hv ⊢
   have hmono:10 * acc+Dec.dv c≤Dec.val (10 * acc+Dec.dv c) r:=by
    rw [Dec.val_acc];have:1≤10 ^ r.length:=Nat.one_le_pow _ _ (by decide);have:=Nat.mul_le_mul_left (10 * acc+Dec.dv c) this;omega
   have hdv:c.toNat - 48=Dec.dv c:=rfl
   simp only [parseUintM]
   rw [if_pos hc,if_neg (by omega),hdv,if_neg (by omega),Nat.mul_comm acc 10,ih _ hr hv]
 unfold parseUintB;rw [if_neg (Dec.dec_ne_nil n),key _ 0 (Dec.dig_dec n) (by rw [Dec.val_dec];exact h),Dec.val_dec]
theorem zaI (n:Nat)(h:n<18446744073709551616)(w:World) :
  Calls Tryz.prog 216 #[.string (D n),.int .i64 10,.int .i64 64] w fun e w'=>e=.returned (.tuple #[.int .u64 n,.nilIface])∧Ext w w':=by
 have hs:(D n).size≤9223372036854775806:=by
  rw [zaz];have:=Dec.nDigits_le (n:=n) (k:=20) (by omega) (by omega);omega
 refine (Any.strconv_ParseUint_10_at64_ok Tryz.lParseUint (D n) hs n (zaH n h) w).mono fun e w' ⟨h,hw⟩=>⟨h,?_⟩;rcases hw with rfl | rfl
 ·exact Ext.refl _
 ·exact Ext.bytes _ _ _
def u8s (l:List UInt8):List Value:=l.map fun (b:UInt8)=>Value.int .u8 (b.toNat:Int)
def zaJ (w:World)(B:Nat)(v:Value)(l:List UInt8):Prop:=w.ownsRow B 5 1 v l.length (u8s l)
theorem zaK (l:List UInt8)(b:UInt8):u8s (l++[b])=u8s l++[Value.int .u8 (b.toNat:Int)]:=by simp [u8s]
theorem zaL (B:Nat)(v:Value)(l:List UInt8)(w:World)(hl:l.length≤1000000)(ho:zaJ w B v l) :
  Calls Tryz.prog 188 #[v] w fun e w'=>e=.returned (.tuple #[])∧zaJ w' B v l.reverse∧Below B w w':=by
 have ho1:w.ownsRow B 5 1 v l.length (l.map fun (b:UInt8)=>Value.int .u8 (b.toNat:Int)):=ho;by_cases hv:v=.slice none 0 0
 ·subst hv;refine (AnyE.slices_Reverse_empty Tryz.lReverseB none 0 w).mono fun e w' ⟨h,hw⟩=>⟨h,?_,by rw [hw];exact Below.refl _ _⟩;rcases ho1.2 with ⟨_,h0⟩ | ⟨g,cap,cur,e0,_⟩
  ·obtain rfl:=List.eq_nil_of_length_eq_zero h0;rw [hw];exact ho
  ·cases e0
 ·obtain ⟨g,cap,rfl,hb,hg,hn,hm,hlen,hH⟩:=holds_of_ownsRow ho1 hv;refine (AnyE.slices_Reverse Tryz.lReverseB (fun (b:UInt8)=>Value.int .u8 (b.toNat:Int)) (fun _=>rfl) g 0 cap l w hH (by omega)).mono fun e w' ⟨h,n,hw⟩=>⟨h,?_,?_⟩
  ·rw [hw];have:=ownsRow_putRow (q:=n) (ys:=l.reverse) ho1 (by simp) (Nat.le_refl _);rw [List.take_of_length_le (by simp)] at this;unfold zaJ u8s;rw [List.length_reverse];exact this
  ·rw [hw];exact below_putRow (Below.refl _ _) hb
end Go.Proofs.YtipkdebkdnbieaaGreatDoor
namespace Go.Proofs.YtipkdebkdnbieaaGreatDoor
open Go.RowKit Go.Lib Go.Sort
theorem zaM (u:Nat)(hu64:u<18446744073709551616)(w:World)(he:Env w) :
  Calls Tryz.prog 208 #[.int .u64 u,.int .i64 10] w fun e w'=>e=.returned (.string (D u))∧Ext w w':=by
 by_cases hs:u<100
 ·go_enter Tryz.func208,Tryz.ntmps208
  go_wp2_with (go_at_call 225;refine (Any.internal_strconv_small Tryz.lSmall u hs _).mono ?_;rintro e w' ⟨rfl,rfl⟩)
  go_ret
  exact ⟨rfl,Ext.refl _⟩
 ·have hu1:1≤u:=by omega
  have hnd20:Lib.nDigits u≤20:=Dec.nDigits_le (by omega) (by omega);have hal:Tryz.prog.arrayLen 276=24:=by kernel_rfl
  have hsl:∀ W,(Instr.sliceAt 276 (.pointer (some ⟨w.heap.size,0,none⟩)) none (some (.int .i64 (Lib.nDigits u:Int))) none).run Tryz.prog W=.ok (.slice (some ⟨w.heap.size,0,none⟩) (Lib.nDigits u) 24) W:=fun W=>by
   rw [run_sliceAt_array_h W 276 ⟨w.heap.size,0,none⟩ (by simp [Program.arrayLen,Program.elem,Tryz.underlying276]) .i64 (Lib.nDigits u:Int) (by omega) (by rw [hal];omega)];go_simp
  have hH0:Holds (fun (b:UInt8)=>Value.int .u8 (b.toNat:Int)) (w.alloc (.cells Lib.zeros24 276)) w.heap.size 0 (Array.replicate (Lib.nDigits u) 0):=by
   intro j hj;have hj':j<Lib.nDigits u:=(by simpa using hj);refine ⟨?_,World.frozen?_alloc_new _ _ _ _⟩;rw [World.cell?_alloc_new,Lib.zeros24_at _ (by omega),getElem!_pos _ j hj];simp
  have hfmt:=Any.internal_strconv_formatBase10 Tryz.lBase10 w.heap.size 0 24 u (Array.replicate (Lib.nDigits u) 0) (w.alloc (.cells Lib.zeros24 276)) hH0 (by rw [Array.size_replicate];exact Lib.lt_pow_nDigits u) hu64 (by rw [Array.size_replicate];omega);rw [Array.size_replicate] at hfmt;have HH0:=hid hH0;clear hH0 hal;go_enter Tryz.func208,Tryz.ntmps208
  go_wp2_with (go_at_call 226;refine (Any.internal_strconv_numDigits Tryz.lDigits u hu1 hu64 _ (Lib.tabIs_alloc he _)).mono ?_;rintro e w' ⟨rfl,rfl⟩)
  refine hfmt.mono ?_;rintro e w' ⟨rfl,k,v',dk,rfl,hF⟩;have hcv:(convert 239 9 (.slice (some ⟨w.heap.size,0,none⟩) (Lib.nDigits u) 24)).run Tryz.prog ((putRow (fun (b:UInt8)=>Value.int .u8 (b.toNat:Int)) (w.alloc (.cells Lib.zeros24 276)) w.heap.size 0 dk).drewN k)=.ok (.string (D u)) ((putRow (fun (b:UInt8)=>Value.int .u8 (b.toNat:Int)) (w.alloc (.cells Lib.zeros24 276)) w.heap.size 0 dk).drewN k):=by
   have h:=run_convert_bytes_back (P:=Tryz.prog) ((putRow (fun (b:UInt8)=>Value.int .u8 (b.toNat:Int)) (w.alloc (.cells Lib.zeros24 276)) w.heap.size 0 dk).drewN k) 239 9 5 ⟨w.heap.size,0,none⟩ 24 (Lib.decDigits u) Tryz.underlying239 Tryz.underlying5 Tryz.underlying9 (fun j hj=>by
    rw [Lib.row_is_numeral hF j hj,Lib.add_plain,World.cell?_drewN];exact cell?_putRow (fun (b:UInt8)=>Value.int .u8 (b.toNat:Int)) _ w.heap.size 0 _ dk HH0.out (by rw [hF.size,Array.size_replicate]) j (by rw [hF.size];rw [Lib.decDigits_length] at hj;exact hj))
   rw [Lib.decDigits_length] at h;exact h
  have hx:Ext w ((putRow (fun (b:UInt8)=>Value.int .u8 (b.toNat:Int)) (w.alloc (.cells Lib.zeros24 276)) w.heap.size 0 dk).drewN k) :=
   Ext.drewN (show Ext w _ from below_putRow (q:=0) ((Ext.refl w).alloc _).below (Nat.le_refl _)) k
  have Hx:=hid hx;clear hx;go_wp2
  go_ret
  exact ⟨rfl,Hx.out⟩
theorem zaN (u:Nat)(hu64:u<18446744073709551616)(w:World)(he:Env w) :
  Calls Tryz.prog 175 #[.int .u64 u,.int .i64 10] w fun e w'=>e=.returned (.string (D u))∧Ext w w':=by
 have He:=hid he;clear he;go_enter Tryz.func175,Tryz.ntmps175
 go_wp2_with fail
 refine (zaM u hu64 w He.out).mono ?_;rintro e w' ⟨rfl,hx⟩;have Hx:=hid hx;clear hx;go_wp2
 go_ret
 exact ⟨rfl,Hx.out⟩
theorem zaO (u:Nat)(hu64:u<18446744073709551616)(w:World)(he:Env w) :
  Calls Tryz.prog 126 #[.int .u64 u] w fun e w'=>e=.returned (.string (D u))∧Ext w w':=by
 have He:=hid he;clear he;go_enter Tryz.func126,Tryz.ntmps126
 go_wp2_with fail
 refine (zaN u hu64 w He.out).mono ?_;rintro e w' ⟨rfl,hx⟩;have Hx:=hid hx;clear hx;go_wp2
 go_ret
 exact ⟨rfl,Hx.out⟩
theorem zaP (u:Nat)(hu64:u<18446744073709551616)(w:World) :
  Calls Tryz.prog 186 #[.string (D u)] w fun e w'=>e=.returned (.tuple #[.int .u64 u,.bool true])∧Ext w w':=by
 go_enter Tryz.func186,Tryz.ntmps186
 go_wp2_with fail
 refine (zaI u hu64 w).mono ?_;rintro e w' ⟨rfl,hx⟩;have Hx:=hid hx;clear hx;go_wp2
 go_ret2
 exact ⟨rfl,Hx.out⟩
theorem zaQ (z:Int)(h0:-9223372036854775808≤z)(h1:z≤9223372036854775807)(w:World)(he:Env w) :
  Calls Tryz.prog 92 #[.int .i64 z] w fun e w'=>e=.returned (.string (I z))∧Ext w w':=by
 have He:=hid he;clear he;go_enter Tryz.func92,Tryz.ntmps92
 go_wp2_with fail
 refine (zaE z h0 h1 w He.out).mono ?_;rintro e w' ⟨rfl,hx⟩;have Hx:=hid hx;clear hx;go_wp2
 go_ret
 exact ⟨rfl,Hx.out⟩
end Go.Proofs.YtipkdebkdnbieaaGreatDoor
namespace Go.Proofs.YtipkdebkdnbieaaGreatDoor
open Go.RowKit Go.Lib Go.Sort
theorem zaR : (Tryz.prog.info? 5).map (fun i=>(i.zero,i.size,i.bytes))=some (some (.int .u8 0),1,1):=by kernel_rfl
def laid (N k:Nat):Nat:=if k<(Dec.P N).length then 9 * k else nDigits N
def zaS (N:Nat)(w0:World)(v i:Value)(wr:World):Prop :=
 ∃ k:Nat,i=.int .i64 k∧k≤(Dec.P N).length∧zaJ wr w0.heap.size v (Dec.rd N (laid N k))∧Ext w0 wr
def zaT (N i:Nat)(w0:World)(v n k:Value)(wr:World):Prop :=
 ∃ j:Nat,k=.int .i64 j∧j≤9∧n=.int .u64 (Dec.left N i j:Nat)∧9 * i+j≤nDigits N∧zaJ wr w0.heap.size v (Dec.rd N (9 * i+j))∧Ext w0 wr
theorem zaU {w:World}{B:Nat}{v:Value}{l:List UInt8}(h:zaJ w B v l)(hv:l ≠ []) :
  ∃ g cap,v=.slice (some ⟨g,0,none⟩) l.length cap∧∀ j (hj:j<l.length),w.cell? ((⟨g,0,none⟩:Addr).add j)=some (.int .u8 (l[j].toNat:Int)):=by
 have ho:w.ownsRow B 5 1 v l.length (u8s l):=h;rcases ho.2 with ⟨_,h0⟩ | ⟨g,cap,cur,rfl,_,_,_⟩
 ·exact absurd (List.eq_nil_of_length_eq_zero h0) hv
 ·exact ⟨g,cap,rfl,fun j hj=>ho.cells (g:=g) rfl j _ (by simp [u8s,hj])⟩
theorem zaV (b off cap N:Nat)(w:World)(hN:N ≠ 0)(hl:(Dec.P N).length≤100000)(_hcap:cap≤maxLen)
  (hc:∀ i,i<(Dec.P N).length→w.cell? ⟨b,off+i,none⟩=some (.int .u64 (nth (Dec.P N) i:Nat))) :
  Calls Tryz.prog 143 #[.slice (some ⟨b,off,none⟩) (Dec.P N).length cap] w fun e w'=>e=.returned (.string (D N))∧Ext w w':=by
 obtain ⟨i0,hi,hz0,hz1,hz2⟩:=info_parts zaR;have hd:=Dec.nDigits_P hN;have hpos:=Dec.P_len_pos hN;have Hc:=hid hc;clear hc;generalize hL:(Dec.P N).length=L at *;have HL:=hid hL;clear hL;have hL0:((L:Int) == 0)=false:=beq_eq_false_iff_ne.2 (by omega);go_enter Tryz.func143,Tryz.ntmps143
 go_wp2_with (at_make;refine wpList_make_own _ rfl _ _ 239 rfl w.heap.size 5 i0 (.int .u8 0) 1 Tryz.underlying239 hi hz0 hz1 _ _ _ (9 * L) rfl rfl ?hC ?b2 ?b3 (Nat.le_refl _) ?_)
 case hC=>simp
 case b2=>rw [hz2];omega
 case b3=>unfold maxLen;omega
 intro w1 hown hgrow;go_wp2_with fail
 go_loopw [3,16] (fun v i wr=>zaS N w v i wr) (fun _ i _=>L - (zal i).toNat)
 case atStart =>
  refine ⟨0,rfl,Nat.zero_le _,?_,(Ext.refl w).grown hgrow (by simp)⟩;unfold laid;rw [if_pos (by rw [HL.out];exact hpos),Nat.mul_zero,Dec.rd_zero];exact hown
 case round =>
  obtain ⟨k,rfl,hk,hown1,hext⟩:=hrel;rw [HL.out] at hk;have Hown1:=hid hown1;clear hown1;have Hext:=hid hext;clear hext;clear hown hgrow;by_cases hlt:k<L
  ·have hcell:=Hext.out.cell (Hc.out k hlt);have hnth:nth (Dec.P N) k=Dec.left N k 0:=(by rw [Dec.left_zero];exact Dec.P_at N k);rw [hnth] at hcell;have Hcell:=hcell;clear hnth;have hnd1:9 * k<nDigits N:=(by omega);go_wp2_with fail
   go_loopw [3,5,6] (fun v n j wr=>zaT N k w v n j wr) (fun _ _ j _=>9 - (zal j).toNat)
   case atStart =>
    refine ⟨0,rfl,Nat.zero_le _,rfl,by omega,?_,Hext.out⟩;have:=Hown1.out;unfold laid at this;rw [HL.out,if_pos hlt] at this;exact this
   case round =>
    rename_i wo _ _ _;obtain ⟨j,rfl,hj,rfl,hjd,hown2,hext2⟩:=hrel;have Hown2:=hid hown2;clear hown2;have Hext2:=hid hext2;clear hext2;have hleft:Dec.left N k j<1000000000:=Dec.left_lt N k j;have hdig:j<9→Dec.left N k j % 10=N / 10 ^ (9 * k+j) % 10:=Dec.left_mod N k j;have Hdig:=hid hdig;clear hdig;have hsucc:=Dec.left_succ N k j;generalize hn:Dec.left N k j=n at *;have Hn:=hid hn;clear hn;have Hsucc:=hid hsucc;clear hsucc;have hlast:k+1=L→n=N / 10 ^ (9 * k+j):=fun e=>by rw [← Hn.out];exact Dec.left_last N k j (by rw [e,← HL.out];exact Dec.P_len_lt N)
    have Hlast:=hid hlast;clear hlast;by_cases hgo:j<9∧(k+1<L∨0<n)
    ·obtain ⟨hj9,hor⟩:=hgo;have hm:9 * k+j<nDigits N:=by
      rcases Nat.lt_or_ge (k+1) L with h | h
      ·omega
      ·have h0:0<n:=(by omega);rw [Hlast.out (by omega)] at h0;exact Dec.div_pow_pos h0
     have hx:(Lib.dg N (9 * k+j)).toNat=48+n % 10:=Dec.dg_eq N (9 * k+j) n (48+n % 10) (Hdig.out hj9) rfl;have Hx:=hid hx;clear hx;have hown3:wr.ownsRow w.heap.size 5 1 _ (Dec.rd N (9 * k+j)).length (u8s (Dec.rd N (9 * k+j))):=Hown2.out;rw [Dec.rd_length] at hown3;have hm3:9 * k+j+1≤maxLen:=(by unfold maxLen;omega);have hm4:(9 * k+j+1) * 1≤140737488355328:=(by omega);have hm5:w.heap.size≤(wr.alloc (.cells #[.int .u8 (48+(n:Int) % 10)] 5)).heap.size:=(by have:=Hext2.out.size;simp;omega);have hmod:(n:Int) % 10<10∧0≤(n:Int) % 10:=(by omega);rcases Nat.lt_or_ge (k+1) L with h1 | h1
     all_goals
      try have h0:0<n:=by omega
      go_wp2_with (at_builtin;refine wpList_append_own _ rfl _ _ 239 rfl w.heap.size 5 i0 (.int .u8 0) 1 1 Tryz.underlying239 hi hz0 hz1 hz2 rfl (by decide) _ _ _ rfl (hown3.alloc _) ⟨wr.heap.size,0,none⟩ 1 1 [.int .u8 (48+(n:Int) % 10)] rfl rfl (cell_one_new _ _ _) (by simp [Value.oneCell']) hm3 hm4 hm5 ?_)
      intro v' w2 hown4 hgrow4 _;have hx2:Ext w w2:=(Hext2.out.alloc _).grown hgrow4 (fun g hg=>(hown3.lt g hg).1);have Hx2:=hid hx2;clear hx2;have hown5:zaJ w2 w.heap.size v' (Dec.rd N (9 * k+(j+1))):=by
       unfold zaJ;rw [Dec.rd_length,← Nat.add_assoc,Dec.rd_succ,zaK,Hx.out];exact hown4
      have Hown5:=hid hown5;clear hown5 hown4 hgrow4 hown3;go_wp2
      go_roundw
      case rel=>exact ⟨j+1,by go_num,by omega,by rw [Hsucc.out];go_num,by omega,Hown5.out,Hx2.out⟩
      case measure=>simp [zal];omega
    ·have hend:9 * k+j=laid N (k+1):=by
      unfold laid;rw [HL.out];rcases Nat.lt_or_ge (k+1) L with h | h
      ·rw [if_pos h];omega
      ·rw [if_neg (by omega)];rcases Nat.lt_or_ge j 9 with h9 | h9
       ·have h0:n=0:=(by omega);have h1:=Hlast.out (by omega);rw [h0] at h1;rcases Nat.eq_zero_or_pos (9 * k+j) with e | e
        ·rw [e] at h1;rw [Nat.pow_zero,Nat.div_one] at h1;omega
        ·have:=Dec.div_pow_zero e h1.symm;omega
       ·omega
     have hnext:zaJ wr w.heap.size u3 (Dec.rd N (laid N (k+1))):=(by rw [← hend];exact Hown2.out);have Hnext:=hid hnext;clear hnext hend;have hcase:(j<9∧L≤k+1∧n=0)∨¬ j<9:=(by omega);rcases hcase with ⟨h9,h1,rfl⟩ | h9
     all_goals
      go_wp2
      go_roundw
      case rel=>exact ⟨k+1,by go_num,by rw [HL.out];omega,Hnext.out,Hext2.out⟩
      case measure=>simp [zal];omega
  ·have hfin:zaJ wr w.heap.size u3 (Dec.rd N (nDigits N)):=by
    have:=Hown1.out;unfold laid at this;rwa [HL.out,if_neg hlt] at this
   have Hfin:=hid hfin;clear hfin;go_wp2_with fail
   refine (zaL w.heap.size _ _ wr (by rw [Dec.rd_length];omega) Hfin.out).mono ?_;rintro e w' ⟨rfl,ho2,hb2⟩;rw [Dec.rd_reverse] at ho2;obtain ⟨g,cp,rfl,hcells⟩:=zaU ho2 (Dec.dec_ne_nil N);have hx2:Ext w w':=Below.trans Hext.out hb2;have Hx2:=hid hx2;clear hx2 hb2 ho2;have hcv:=run_convert_bytes_back (P:=Tryz.prog) w' 239 100 5 ⟨g,0,none⟩ cp (decDigits N) Tryz.underlying239 Tryz.underlying5 Tryz.underlying100 hcells;clear hcells;generalize (decDigits N).length=M at *;go_wp2
   go_ret
   exact ⟨rfl,Hx2.out⟩
theorem zaW (a:Option Addr)(cap:Nat)(w:World) :
  Calls Tryz.prog 143 #[.slice a 0 cap] w fun e w'=>e=.returned (.string (D 0))∧Ext w w':=by
 have h0:D 0=⟨#[48]⟩:=by unfold D;rw [decDigits];rfl
 rw [h0];go_enter Tryz.func143,Tryz.ntmps143
 go_wp2
 go_ret
 exact ⟨rfl,Ext.refl _⟩
theorem zaX (v:Value)(N:Nat)(w:World)(h:Sl w v (zao (Dec.P N)))(hl:(Dec.P N).length≤100000) :
  Calls Tryz.prog 143 #[v] w fun e w'=>e=.returned (.string (D N))∧Ext w w':=by
 by_cases hN:N=0
 ·subst hN;rw [Dec.P_zero] at h;rcases h with ⟨a,cap,rfl,_,_⟩ | ⟨b,off,cap,rfl,_⟩
  ·exact zaW a cap w
  ·exact zaW _ cap w
 ·rcases h with ⟨_,_,_,_,h0⟩ | ⟨b,off,cap,rfl,_,h2,hc⟩
  ·exfalso;have:=Dec.P_len_pos hN;rw [← zaq,h0] at this;simp at this
  ·rw [zaq];exact zaV b off cap N w hN hl h2 (fun i hi=>hc i _ (zat hi))
end Go.Proofs.YtipkdebkdnbieaaGreatDoor
namespace Go.Proofs.YtipkdebkdnbieaaGreatDoor.Dec
open Go.Lib
theorem nthD_set (o:List Nat)(i j x:Nat)(hi:i<o.length):(o.set i x).getD j 0=if j=i then x else o.getD j 0:=by
 rw [List.getD_eq_getElem?_getD,List.getElem?_set,List.getD_eq_getElem?_getD];by_cases h:i=j
 ·subst h;simp [hi]
 ·rw [if_neg h,if_neg (by omega)]
theorem zaY (o:List Nat):∀ (i x:Nat),i<o.length→pv (o.set i x)+o.getD i 0 * B ^ i=pv o+x * B ^ i:=by
 induction o with
 | nil=>intro i x h;simp at h
 | cons y r ih =>
  intro i x h
  cases i with
  | zero=>simp [pv];omega
  | succ i =>
   have:=ih i x (by simpa using h)
   rw [List.set_cons_succ,zaj]
   simp only [pv,Nat.pow_succ]
   have e:∀ z:Nat,z * (B ^ i * B)=B * (z * B ^ i):=fun z=>by rw [← Nat.mul_assoc,Nat.mul_comm]
   rw [e,e]
   have h2:B * (pv (r.set i x)+r.getD i 0 * B ^ i)=B * (pv r+x * B ^ i):=by rw [this]
   rw [Nat.mul_add,Nat.mul_add] at h2
   omega
theorem small_set {o:List Nat}{i x:Nat}(h:Small o)(hx:x<B):Small (o.set i x):=by
 intro y hy;rcases List.mem_or_eq_of_mem_set hy with h1 | h1
 ·exact h y h1
 ·rw [h1];exact hx
theorem zaZ (q:List Nat)(m:Nat)(h:m<q.length):pv (q.take (m+1))=pv (q.take m)+q.getD m 0 * B ^ m:=by
 rw [List.take_succ_eq_append_getElem h,zaf,List.length_take,Nat.min_eq_left (by omega)];simp only [pv,Nat.mul_zero,Nat.add_zero];rw [List.getD_eq_getElem?_getD,List.getElem?_eq_getElem h,Nat.mul_comm];rfl
theorem times_step (o q:List Nat)(k m a c b t:Nat)(hi:k+m<o.length)(hm:m<q.length)(hb:q.getD m 0=b)(ht:t=c+(o.getD (k+m) 0+a * b))(S:Nat)
  (hinv:pv o+c * B ^ (k+m)=S+a * B ^ k * pv (q.take m)) :
  pv (o.set (k+m) (t % B))+t / B * B ^ (k+(m+1))=S+a * B ^ k * pv (q.take (m+1)):=by
 have h1:=zaY o (k+m) (t % B) hi;rw [zaZ q m hm,hb,Nat.mul_add,← Nat.add_assoc S,← hinv];have h2:t / B * B ^ (k+(m+1))+t % B * B ^ (k+m)=t * B ^ (k+m):=by
  rw [← Nat.add_assoc,Nat.pow_succ,Nat.mul_comm (B ^ (k+m)) B,← Nat.mul_assoc,← Nat.add_mul,Nat.mul_comm (t / B) B,Nat.div_add_mod]
 have h3:t * B ^ (k+m)=c * B ^ (k+m)+(o.getD (k+m) 0 * B ^ (k+m)+a * b * B ^ (k+m)):=by rw [ht,Nat.add_mul,Nat.add_mul]
 have h4:a * B ^ k * (b * B ^ m)=a * b * B ^ (k+m):=by
  rw [Nat.pow_add,Nat.mul_assoc,Nat.mul_assoc];congr 1;rw [← Nat.mul_assoc,← Nat.mul_assoc,Nat.mul_comm (B ^ k) b]
 rw [h4];omega
theorem times_row (o p q:List Nat)(k c a S:Nat)(hk:k<p.length)(hi:k+q.length<o.length)(ha:p.getD k 0=a)(h0:o.getD (k+q.length) 0=0)
  (hS:S=pv (p.take k) * pv q) (hinv:pv o+c * B ^ (k+q.length)=S+a * B ^ k * pv (q.take q.length)) :
  pv (o.set (k+q.length) c)=pv (p.take (k+1)) * pv q:=by
 have h1:=zaY o (k+q.length) c hi;rw [h0,Nat.zero_mul,Nat.add_zero] at h1;rw [h1,hinv,hS,zaZ p k hk,ha,List.take_length,Nat.add_mul]
theorem prod_lt {x y:Nat}(hx:x<B)(hy:y<B):x * y≤999999998000000001:=by
 unfold B at *;have h1:x * y≤999999999 * y:=Nat.mul_le_mul_right _ (by omega);omega
theorem small_zeros (n:Nat):Small (List.replicate n 0):=by
 intro x hx;rw [(List.mem_replicate.1 hx).2];exact B_pos
theorem small_getD {o:List Nat}(h:Small o)(i:Nat):o.getD i 0<B:=by
 rw [List.getD_eq_getElem?_getD]
 cases hi:o[i]? with
 | none=>exact B_pos
 | some x=>exact h x (List.mem_of_getElem? hi)
end Go.Proofs.YtipkdebkdnbieaaGreatDoor.Dec
namespace Go.Proofs.YtipkdebkdnbieaaGreatDoor
open Go.RowKit Go.Lib
theorem zba : (Tryz.prog.info? 181).map (fun i=>(i.zero,i.size,i.bytes))=some (some (.int .u64 0),1,8):=by kernel_rfl
theorem zbb {w:World}{B g cap:Nat}{o:List Nat}(h:Own w B (.slice (some ⟨g,0,none⟩) o.length cap) o)(j x:Nat) :
  Own (w.setCell ⟨g,j,none⟩ (.int .u64 (x:Int))) B (.slice (some ⟨g,0,none⟩) o.length cap) (o.set j x):=by
 have:=(World.ownsRow.stored h j (.int .u64 (x:Int))).1;unfold Own;rw [List.length_set];rwa [show (zao o).set j (.int .u64 (x:Int))=zao (o.set j x) by simp [zao,List.map_set]] at this
theorem zbc {w:World}{B g cap:Nat}{o:List Nat}(h:Own w B (.slice (some ⟨g,0,none⟩) o.length cap) o)(j:Nat)(hj:j<o.length) :
  w.cell? ⟨g,j,none⟩=some (.int .u64 (nth o j:Nat)):=by
 rw [World.ownsRow.cellAt h j (by omega),zat hj]
def zbd (p q:List Nat)(w0:World)(i:Value)(wr:World):Prop :=
 ∃ (k:Nat)(o:List Nat),i=.int .i64 k∧k≤p.length∧o.length=p.length+q.length∧Dec.Small o∧Dec.pv o=Dec.pv (p.take k) * Dec.pv q∧(∀ j,k+q.length≤j→nth o j=0) ∧
  Own wr w0.heap.size (.slice (some ⟨w0.heap.size,0,none⟩) o.length o.length) o∧Ext w0 wr
def zbe (p q:List Nat)(k:Nat)(w0:World)(cr i:Value)(wr:World):Prop :=
 ∃ (m c:Nat)(o:List Nat),i=.int .i64 m∧m≤q.length∧cr=.int .u64 c∧c<Dec.B∧o.length=p.length+q.length∧Dec.Small o ∧
  Dec.pv o+c * Dec.B ^ (k+m)=Dec.pv (p.take k) * Dec.pv q+p.getD k 0 * Dec.B ^ k * Dec.pv (q.take m)∧(∀ j,k+q.length≤j→nth o j=0) ∧
  Own wr w0.heap.size (.slice (some ⟨w0.heap.size,0,none⟩) o.length o.length) o∧Ext w0 wr
theorem zbf (ap aq:Option Addr)(cp cq:Nat)(p q:List Nat)(w:World)(hsp:Dec.Small p)(hsq:Dec.Small q)
  (hp:∀ i u,(zao p)[i]?=some u→∃ b off,ap=some ⟨b,off,none⟩∧w.cell? ⟨b,off+i,none⟩=some u)
  (hq:∀ i u,(zao q)[i]?=some u→∃ b off,aq=some ⟨b,off,none⟩∧w.cell? ⟨b,off+i,none⟩=some u)
  (hlp:p.length≤100000) (hlq:q.length≤100000) :
  Calls Tryz.prog 142 #[.slice ap p.length cp,.slice aq q.length cq] w fun e w'=>za7 w' w.heap.size (Dec.P (Dec.pv p * Dec.pv q)) e∧Ext w w':=by
 obtain ⟨i0,hi,hz0,hz1,hz2⟩:=info_parts zba;have Hp:=hid hp;clear hp;have Hq:=hid hq;clear hq;have Hsp:=hid hsp;clear hsp;have Hsq:=hid hsq;clear hsq;go_enter Tryz.func142,Tryz.ntmps142
 go_wp2_with (at_make;refine wpList_make_full _ rfl _ _ 201 rfl w.heap.size 181 i0 (.int .u64 0) 1 Tryz.underlying201 hi hz0 hz1 _ _ _ _ (p.length+q.length) rfl rfl ?hL ?hC ?b2 ?b3 (Nat.le_refl _) ?_)
 case hL=>simp
 case hC=>simp
 case b2=>rw [hz2];omega
 case b3=>unfold maxLen;omega
 intro w1 hown hgrow;go_wp2_with fail
 go_loopw [19] (fun i wr=>zbd p q w i wr) (fun i _=>p.length - (zal i).toNat)
 case atStart =>
  refine ⟨0,List.replicate (p.length+q.length) 0,rfl,Nat.zero_le _,List.length_replicate ..,Dec.small_zeros _,?_,?_,?_,(Ext.refl w).grown hgrow (by simp)⟩
  ·rw [Dec.pv_zeros,List.take_zero];simp [Dec.pv]
  ·intro j _;unfold nth;rw [List.getD_eq_getElem?_getD,List.getElem?_replicate];split <;> rfl
  ·unfold Own;rw [List.length_replicate];have e:zao (List.replicate (p.length+q.length) 0)=(madeCells #[Value.int .u64 0] (p.length+q.length)).toList:=by
    rw [toList_madeCells_one];simp [zao]
   rw [e];exact hown
 case round =>
  obtain ⟨k,o,rfl,hk,hlo,hso,hpv,hzer,hown1,hext⟩:=hrel;have Hso:=hid hso;clear hso;have Hpv:=hid hpv;clear hpv;have Hzer:=hid hzer;clear hzer;have Hown1:=hid hown1;clear hown1;have Hext:=hid hext;clear hext;have Hlo:=hid hlo;clear hlo;clear hown hgrow;by_cases hlt:k<p.length
  ·obtain ⟨bp,op,rfl,hcp⟩:=Hp.out k _ (zat hlt);have hcell:=Hext.out.cell hcp;clear hcp;go_wp2_with fail
   go_loopw [8,26] (fun c i wr=>zbe p q k w c i wr) (fun _ i _=>q.length - (zal i).toNat)
   case atStart =>
    exact ⟨0,0,o,rfl,Nat.zero_le _,rfl,Dec.B_pos,Hlo.out,Hso.out,by rw [Hpv.out];simp [Dec.pv],Hzer.out,Hown1.out,Hext.out⟩
   case round =>
    obtain ⟨m,c,o',rfl,hm,rfl,hcB,hlo',hso',hpv',hzer',hown2,hext2⟩:=hrel;have Hso':=hid hso';clear hso';have Hpv':=hid hpv';clear hpv';have Hzer':=hid hzer';clear hzer';have Hext2:=hid hext2;clear hext2;unfold Dec.B at hcB;have hfr:∀ j,wr.frozen? ⟨w.heap.size,j,none⟩=false:=World.ownsRow.frozenAt hown2;by_cases hmlt:m<q.length
    ·obtain ⟨bq,oq,rfl,hcq⟩:=Hq.out m _ (zat hmlt);have hcellq:=Hext2.out.cell hcq;clear hcq;have hcello:=zbc hown2 (k+m) (by omega);have hf:=hfr (k+m);have hset:=zbb hown2 (k+m);have Hset:=hid hset;clear hset;have Hown2:=hid hown2;clear hown2;have Hlo':=hid hlo';clear hlo';clear hfr;have hxa:nth p k<Dec.B:=Dec.small_getD Hsp.out k;have hxb:nth q m<Dec.B:=Dec.small_getD Hsq.out m;have hxo:nth o' (k+m)<Dec.B:=Dec.small_getD Hso'.out (k+m);have hprod:nth p k * nth q m≤999999998000000001:=Dec.prod_lt hxa hxb;have hstep:=Dec.times_step o' q k m (nth p k) c (nth q m) (c+(nth o' (k+m)+nth p k * nth q m)) (by rw [Hlo'.out];omega) hmlt rfl rfl _ Hpv'.out;have Hstep:=hid hstep;clear hstep;unfold Dec.B at hxa hxb hxo;generalize hA:nth p k=A at *;generalize hBq:nth q m=Bq at *;generalize hO:nth o' (k+m)=O at *;have HA:=hid hA;clear hA;have HB:=hid hBq;clear hBq;have HO:=hid hO;clear hO;have hprod':(A:Int) * (Bq:Int)≤999999998000000001:=(by rw [← Int.natCast_mul];omega);have hprod0:0≤(A:Int) * (Bq:Int):=(by rw [← Int.natCast_mul];omega);go_wp2
     go_roundw
     case rel =>
      have e1:((c:Int)+(O+A * Bq)) / 1000000000=(((c+(O+A * Bq)) / Dec.B:Nat):Int):=(by unfold Dec.B;rw [← Int.natCast_mul];omega);have e2:((c:Int)+(O+A * Bq)) % 1000000000=(((c+(O+A * Bq)) % Dec.B:Nat):Int):=(by unfold Dec.B;rw [← Int.natCast_mul];omega);refine ⟨m+1,(c+(O+A * Bq)) / Dec.B,o'.set (k+m) ((c+(O+A * Bq)) % Dec.B),by go_num,by omega,by rw [e1],?_,by rw [List.length_set];exact Hlo'.out,Dec.small_set Hso'.out (Nat.mod_lt _ Dec.B_pos),?_,?_,?_,?_⟩
      ·unfold Dec.B;omega
      ·have:=Hstep.out;rw [← HA.out] at this ⊢;exact this
      ·intro j hj;have:=Hzer'.out j hj;unfold nth at *;rw [Dec.nthD_set _ _ _ _ (by rw [Hlo'.out];omega),if_neg (by omega)];exact this
      ·have:=Hset.out ((c+(O+A * Bq)) % Dec.B);rw [List.length_set,e2];exact this
      ·exact Hext2.out.setCell (Nat.le_refl _) _
     case measure=>simp [zal];omega
    ·obtain rfl:m=q.length:=by omega
     have hcello:=zbc hown2 (k+q.length) (by omega);rw [Hzer'.out (k+q.length) (Nat.le_refl _)] at hcello;have hf:=hfr (k+q.length);have hset:=zbb hown2 (k+q.length);have Hset:=hid hset;clear hset;have hrow:=Dec.times_row o' p q k c (p.getD k 0) _ hlt (by omega) rfl (Hzer'.out (k+q.length) (Nat.le_refl _)) rfl Hpv'.out;have Hrow:=hid hrow;clear hrow;have Hown2:=hid hown2;clear hown2;have Hlo':=hid hlo';clear hlo';clear hfr;go_wp2
     go_roundw
     case rel =>
      refine ⟨k+1,o'.set (k+q.length) c,by go_num,by omega,by rw [List.length_set];exact Hlo'.out,Dec.small_set Hso'.out hcB,Hrow.out,?_,?_,?_⟩
      ·intro j hj;have:=Hzer'.out j (by omega);unfold nth at *;rw [Dec.nthD_set _ _ _ _ (by rw [Hlo'.out];omega),if_neg (by omega)];exact this
      ·have:=Hset.out c;rw [List.length_set];exact this
      ·exact Hext2.out.setCell (Nat.le_refl _) _
     case measure=>simp [zal];omega
  ·obtain rfl:k=p.length:=by omega
   have hval:Dec.pv o=Dec.pv p * Dec.pv q:=(by rw [Hpv.out,List.take_length]);have Hval:=hid hval;clear hval;have hown3:Own wr w.heap.size (.slice (some ⟨w.heap.size,0,none⟩) (p.length+q.length) (p.length+q.length)) o:=by
    have:=Hown1.out;rwa [Hlo.out] at this
   have Hown3:=hid hown3;clear hown3;go_wp2_with fail
   refine (za8 w.heap.size _ o wr Hown3.out Hso.out).mono ?_;rintro e w' ⟨⟨v,rfl,hv⟩,rfl⟩;have Hv2:=hid hv;clear hv;go_wp2
   go_ret
   exact ⟨⟨v,rfl,by rw [← Hval.out];exact Hv2.out⟩,Hext.out⟩
theorem zbg (vp vq:Value)(a b:Nat)(w:World)(hp:Sl w vp (zao (Dec.P a)))(hq:Sl w vq (zao (Dec.P b)))(hla:(Dec.P a).length≤100000)(hlb:(Dec.P b).length≤100000) :
  Calls Tryz.prog 142 #[vp,vq] w fun e w'=>za7 w' w.heap.size (Dec.P (a * b)) e∧Ext w w':=by
 obtain ⟨ap,cp,rfl,_,_,hcp⟩:=hp.parts;obtain ⟨aq,cq,rfl,_,_,hcq⟩:=hq.parts;have:=zbf ap aq cp cq (Dec.P a) (Dec.P b) w (Dec.small_P a) (Dec.small_P b) hcp hcq hla hlb;rw [Dec.pv_P,Dec.pv_P] at this;rw [zaq,zaq];exact this
end Go.Proofs.YtipkdebkdnbieaaGreatDoor
namespace Go.Proofs.YtipkdebkdnbieaaGreatDoor
open Go.RowKit Go.Lib
theorem zbh : ∀ (l m:List UInt8),Dec.Dig l→Dec.Dig m→l.length=m.length→Op.bytesLess l m=decide (Dec.val 0 l<Dec.val 0 m)
 | [],[],_,_,_=>by simp [Op.bytesLess,Dec.val_nil]
 | [],_::_,_,_,h=>by simp at h
 | _::_,[],_,_,h=>by simp at h
 | a::l,b::m,hl,hm,h=>by
  have ha:=hl a (List.mem_cons_self ..);have hb:=hm b (List.mem_cons_self ..);have hl':Dec.Dig l:=fun x hx=>hl x (List.mem_cons_of_mem _ hx);have hm':Dec.Dig m:=fun x hx=>hm x (List.mem_cons_of_mem _ hx);have hlen:l.length=m.length:=by simpa using h
  have ih:=zbh l m hl' hm' hlen;have vl:=Dec.val_lt l hl';have vm:=Dec.val_lt m hm';rw [Dec.val_cons,Dec.val_cons,Dec.val_acc l,Dec.val_acc m,hlen];rw [hlen] at vl;generalize Dec.val 0 l=x at *;generalize Dec.val 0 m=y at *;generalize 10 ^ m.length=t at *;have hda:Dec.dv a=a.toNat - 48:=rfl;have hdb:Dec.dv b=b.toNat - 48:=rfl;rw [hda,hdb];simp only [Op.bytesLess];rw [ih];have e10:∀ z:Nat,(10 * 0+z) * t=z * t:=fun z=>by rw [Nat.mul_zero,Nat.zero_add]
  rw [e10,e10];rcases Nat.lt_trichotomy a.toNat b.toNat with g | g | g
  ·have g1:(a<b)=True:=(by rw [UInt8.lt_iff_toNat_lt];simp [g]);have g2:(a.toNat - 48) * t+x<(b.toNat - 48) * t+y:=by
    have h1:(a.toNat - 48+1) * t≤(b.toNat - 48) * t:=Nat.mul_le_mul_right _ (by omega);rw [Nat.add_mul,Nat.one_mul] at h1;omega
   simp [g1,g2]
  ·have g1:a=b:=UInt8.toNat_inj.1 g;subst g1;simp
  ·have g1:(a<b)=False:=(by rw [UInt8.lt_iff_toNat_lt];simp;omega);have g3:(a == b)=false:=by
    rw [beq_eq_false_iff_ne];intro e;rw [e] at g;omega
   have g2:¬ (a.toNat - 48) * t+x<(b.toNat - 48) * t+y:=by
    have h1:(b.toNat - 48+1) * t≤(a.toNat - 48) * t:=Nat.mul_le_mul_right _ (by omega);rw [Nat.add_mul,Nat.one_mul] at h1;omega
   simp [g1,g3,g2]
theorem zbi {k:IntKind}{a b:Int}(h:a=b):Ending.returned (.int k a)=.returned (.int k b):=by rw [h]
def zbj (a b:Int):Int:=if a<b then -1 else if a=b then 0 else 1
theorem zbk {a b:Int}(h:a<b):zbj a b=-1:=by unfold zbj;rw [if_pos h]
theorem zbl {a b:Int}(h:a=b):zbj a b=0:=by unfold zbj;rw [if_neg (by omega),if_pos h]
theorem zbm {a b:Int}(h:b<a):zbj a b=1:=by unfold zbj;rw [if_neg (by omega),if_neg (by omega)]
theorem zbn (n:Nat):(D n).toList=decDigits n:=by rw [Lib.toList_data];simp [D]
theorem zbo (n:Nat):0<(D n).size:=by rw [zaz];exact nDigits_pos n
theorem zbp (a b:Nat)(h:nDigits a=nDigits b):Op.bytesLess (D a).toList (D b).toList=decide (a<b):=by
 rw [zbn,zbn,zbh _ _ (Dec.dig_dec a) (Dec.dig_dec b) (by rw [decDigits_length,decDigits_length,h]),Dec.val_dec,Dec.val_dec]
theorem zbq (a b:Nat):((D a).toList == (D b).toList)=decide (a=b):=by
 rw [zbn,zbn];by_cases h:a=b
 ·subst h;simp
 ·rw [decide_eq_false h,beq_eq_false_iff_ne];exact fun e=>h (Dec.dec_inj e)
theorem zbr : D 0=⟨#[48]⟩:=by unfold D;rw [decDigits];rfl
theorem zbs : D 1=⟨#[49]⟩:=by unfold D;rw [decDigits];rfl
theorem zbt (a:Nat):((D a).toList == [48])=decide (a=0):=by
 have:=zbq a 0;rwa [zbn 0,show decDigits 0=[48] by rw [decDigits];rfl] at this
theorem zbu (a:Nat):((D a).toList == [49])=decide (a=1):=by
 have:=zbq a 1;rwa [zbn 1,show decDigits 1=[49] by rw [decDigits];rfl] at this
theorem zbv (n:Nat)(h:0<n):(I (-(n:Int))).toList=45::decDigits n:=by
 rw [Lib.toList_data];unfold I itoa;rw [if_pos (by omega)];simp
theorem zbw (n:Nat)(h:0<n):(I (-(n:Int))).size=nDigits n+1:=by
 have:=zbv n h;rw [Lib.size_eq,← Lib.toList_data,this,List.length_cons,decDigits_length]
theorem zbx (z:Int):(I z).toList=itoa z:=by rw [Lib.toList_data];simp [I]
theorem zby {a b:Int}(h:itoa a=itoa b):a=b:=by
 unfold itoa at h;by_cases h1:a<0 <;> by_cases h2:b<0
 ·rw [if_pos h1,if_pos h2] at h;injection h with _ h;have:=Dec.dec_inj h;omega
 ·rw [if_pos h1,if_neg h2] at h;have:=Dec.dig_dec b.toNat 45 (by rw [← h];exact List.mem_cons_self ..);have e45:(45:UInt8).toNat=45:=rfl;rw [e45] at this;omega
 ·rw [if_neg h1,if_pos h2] at h;have:=Dec.dig_dec a.toNat 45 (by rw [h];exact List.mem_cons_self ..);have e45:(45:UInt8).toNat=45:=rfl;rw [e45] at this;omega
 ·rw [if_neg h1,if_neg h2] at h;have:=Dec.dec_inj h;omega
theorem zbz {a b:Int}(h:I a=I b):a=b:=zby (by rw [← zbx,h,zbx])
theorem zb2 (a b:Int):((I a).toList == (I b).toList)=decide (a=b):=by
 rw [zbx,zbx];by_cases h:a=b
 ·subst h;simp
 ·rw [decide_eq_false h,beq_eq_false_iff_ne];exact fun e=>h (zby e)
theorem zb3 (a:Int):((I a).toList == [48])=decide (a=0):=by
 have:=zb2 a 0;rwa [zbx 0,show itoa 0=[48] by unfold itoa;rw [if_neg (by omega),show (0:Int).toNat=0 from rfl,decDigits];rfl] at this
theorem zb4 (n:Nat)(h:0<(D n).size):48≤((D n)[0]'h).toNat∧((D n)[0]'h).toNat≤57:=by
 have e:(D n)[0]'h∈decDigits n:=by
  have h1:(D n)[0]'h=(D n).data[0]'h:=rfl;rw [h1];have:(D n).data.toList=decDigits n:=by simp [D]
  rw [← this];exact Array.mem_toList_iff.2 (Array.getElem_mem _)
 exact Dec.dig_dec n _ e
theorem zb5 (n:Nat)(hn:0<n)(h:0<(I (-(n:Int))).size):((I (-(n:Int)))[0]'h).toNat=45:=by
 have e:I (-(n:Int))=⟨(45::decDigits n).toArray⟩:=by
  unfold I itoa;rw [if_pos (by omega)];simp
 have h1:∀ (s:ByteArray)(hs:0<s.size),s=⟨(45::decDigits n).toArray⟩→(s[0]'hs).toNat=45:=by
  intro s hs he;subst he;rfl
 exact h1 _ h e
theorem zb6 (n:Nat)(hn:0<n):(I (-(n:Int))).extract 1 (I (-(n:Int))).size=D n:=by
 have e:I (-(n:Int))=⟨(45::decDigits n).toArray⟩:=by
  unfold I itoa;rw [if_pos (by omega)];simp
 rw [zbw n hn,e,zay];unfold D;congr 2;rw [List.take_of_length_le (by rw [List.length_cons,decDigits_length];omega)];rfl
end Go.Proofs.YtipkdebkdnbieaaGreatDoor
namespace Go.Proofs.YtipkdebkdnbieaaGreatDoor
open Go.RowKit Go.Lib
theorem zb7 (s t:ByteArray)(w:World)(r:Int)(h1:s.size≤1000000)(h2:t.size≤1000000)
  (hr:(s.size ≠ t.size∧r=zbj s.size t.size)∨(s.size=t.size∧((Op.bytesLess s.toList t.toList=true∧r=-1)∨(Op.bytesLess s.toList t.toList=false∧(s.toList == t.toList)=true∧r=0)∨(Op.bytesLess s.toList t.toList=false∧(s.toList == t.toList)=false∧r=1)))) :
  Calls Tryz.prog 94 #[.string s,.string t] w fun e w'=>e=.returned (.int .i64 r)∧w=w':=by
 rcases hr with ⟨hne,rfl⟩ | ⟨he,⟨hb,rfl⟩ | ⟨hb,hc,rfl⟩ | ⟨hb,hc,rfl⟩⟩
 ·have ht:((s.size:Int) != (t.size:Int))=true:=by rw [bne_iff_ne];omega
  rcases Nat.lt_or_gt_of_ne hne with g | g
  ·rw [zbk (by omega)];clear hne;go_enter Tryz.func94,Tryz.ntmps94
   go_wp2
   go_ret
   exact ⟨zbi (by omega),rfl⟩
  ·rw [zbm (by omega)];clear hne;go_enter Tryz.func94,Tryz.ntmps94
   go_wp2
   go_ret
   exact ⟨zbi (by omega),rfl⟩
 all_goals
  have ht:((s.size:Int) != (t.size:Int))=false:=by rw [bne_eq_false_iff_eq];omega
  clear he;go_enter Tryz.func94,Tryz.ntmps94
  go_wp2
  go_ret
  exact ⟨rfl,rfl⟩
theorem zb8 (a b:Nat)(w:World)(ha:nDigits a≤1000000)(hb:nDigits b≤1000000) :
  Calls Tryz.prog 94 #[.string (D a),.string (D b)] w fun e w'=>e=.returned (.int .i64 (zbj a b))∧w=w':=by
 refine zb7 (D a) (D b) w (zbj a b) (by rw [zaz];exact ha) (by rw [zaz];exact hb) ?_;rw [zaz,zaz];by_cases h:nDigits a=nDigits b
 ·refine .inr ⟨h,?_⟩;rw [zbp a b h,zbq a b];rcases Nat.lt_trichotomy a b with g | g | g
  ·exact .inl ⟨decide_eq_true g,zbk (by omega)⟩
  ·exact .inr (.inl ⟨decide_eq_false (by omega),decide_eq_true g,zbl (by omega)⟩)
  ·exact .inr (.inr ⟨decide_eq_false (by omega),decide_eq_false (by omega),zbm (by omega)⟩)
 ·refine .inl ⟨h,?_⟩;rcases Nat.lt_or_gt_of_ne h with g | g
  ·have:=Dec.lt_of_nDigits_lt g;rw [zbk (by omega),zbk (by omega)]
  ·have:=Dec.lt_of_nDigits_lt g;rw [zbm (by omega),zbm (by omega)]
theorem zb9 {n:Nat}(h:nDigits n≤18):n<1000000000000000000:=by
 have h1:=lt_pow_nDigits n;have h2:10 ^ nDigits n≤10 ^ 18:=Nat.pow_le_pow_right (by omega) h;omega
theorem zbA (a b:Nat)(w:World)(ha:nDigits a≤18)(hb:nDigits b≤18) :
  Calls Tryz.prog 140 #[.string (D a),.string (D b)] w fun e w'=>e=.returned (.tuple #[.int .u64 a,.int .u64 b,.bool true])∧Ext w w':=by
 have hsa:=zaz a;have hsb:=zaz b;have ha':¬ (18:Int)<nDigits a:=by omega
 have hb':¬ (18:Int)<nDigits b:=by omega
 have la:=zb9 ha;have lb:=zb9 hb;generalize hna:nDigits a=na at *;generalize hnb:nDigits b=nb at *;have HNA:=hid hna;clear hna;have HNB:=hid hnb;clear hnb;go_enter Tryz.func140,Tryz.ntmps140
 go_wp2_with fail
 refine (zaP a (by omega) w).mono ?_;rintro e w1 ⟨rfl,hx1⟩;have Hx1:=hid hx1;clear hx1;go_wp2_with fail
 refine (zaP b (by omega) w1).mono ?_;rintro e w2 ⟨rfl,hx2⟩;have Hx2:=hid hx2;clear hx2;go_wp2
 go_ret3
 exact ⟨rfl,Hx1.out.trans Hx2.out⟩
theorem zbB (a b:Nat)(w:World)(ha:nDigits a≤1000000)(hb:nDigits b≤1000000)(h:18<nDigits a∨18<nDigits b) :
  Calls Tryz.prog 140 #[.string (D a),.string (D b)] w fun e w'=>e=.returned (.tuple #[.int .u64 0,.int .u64 0,.bool false])∧w=w':=by
 have hsa:=zaz a;have hsb:=zaz b;generalize hna:nDigits a=na at *;generalize hnb:nDigits b=nb at *;have HNA:=hid hna;clear hna;have HNB:=hid hnb;clear hnb;by_cases g:18<na
 ·clear h;go_enter Tryz.func140,Tryz.ntmps140
  go_wp2
  go_ret3
  exact ⟨rfl,rfl⟩
 ·have g2:18<nb:=by omega
  clear h;go_enter Tryz.func140,Tryz.ntmps140
  go_wp2
  go_ret3
  exact ⟨rfl,rfl⟩
theorem zbC {n:Nat}(h:nDigits n≤800000):(Dec.P n).length≤100000:=by
 by_cases h0:n=0
 ·subst h0;rw [Dec.P_zero];simp
 ·have:=(Dec.nDigits_P h0).1;have:=Dec.P_len_pos h0;omega
theorem zbD (a b:Nat):nDigits (a * b)≤nDigits a+nDigits b:=by
 have h1:=lt_pow_nDigits a;have h2:=lt_pow_nDigits b;have:=nDigits_pos a;refine Dec.nDigits_le (by omega) ?_;rw [Nat.pow_add];exact Nat.mul_lt_mul'' h1 h2
theorem zbE (a b:Nat)(w:World)(he:Env w)(ha:nDigits a≤400000)(hb:nDigits b≤400000) :
  Calls Tryz.prog 101 #[.string (D a),.string (D b)] w fun e w'=>e=.returned (.string (D (a * b)))∧Ext w w':=by
 have hsa:=zaz a;have hsb:=zaz b;have Hmul:=hid (zbD a b);have He:=hid he;clear he;generalize hna:nDigits a=na at *;generalize hnb:nDigits b=nb at *;have HNA:=hid hna;clear hna;have HNB:=hid hnb;clear hnb;by_cases g:na+nb≤18
 ·have hp:a * b<1000000000000000000:=zb9 (n:=a * b) (by have:=Hmul.out;omega);have Hp:=hid hp;clear hp;go_enter Tryz.func101,Tryz.ntmps101
  go_wp2_with fail
  have hp':(a:Int) * b≤999999999999999999:=by have:=Hp.out;rw [← Int.natCast_mul];omega
  have hp0:0≤(a:Int) * b:=by rw [← Int.natCast_mul];omega
  refine (zbA a b w (by rw [HNA.out];omega) (by rw [HNB.out];omega)).mono ?_;rintro e w1 ⟨rfl,hx1⟩;have Hx1:=hid hx1;clear hx1;go_wp2_with fail
  rw [← Int.natCast_mul];refine (zaO (a * b) (by have:=Hp.out;omega) w1 (He.out.ext Hx1.out)).mono ?_;rintro e w2 ⟨rfl,hx2⟩;have Hx2:=hid hx2;clear hx2;go_wp2
  go_ret
  exact ⟨rfl,Hx1.out.trans Hx2.out⟩
 ·go_enter Tryz.func101,Tryz.ntmps101
  go_wp2_with fail
  refine (zaD a w (by rw [HNA.out];omega)).mono ?_;rintro e w1 ⟨⟨va,rfl,hva⟩,hx1⟩;have Hx1:=hid hx1;clear hx1;have Hva:=hid hva;clear hva;go_wp2_with fail
  refine (zaD b w1 (by rw [HNB.out];omega)).mono ?_;rintro e w2 ⟨⟨vb,rfl,hvb⟩,hx2⟩;have Hx2:=hid hx2;clear hx2;have Hvb:=hid hvb;clear hvb;go_wp2_with fail
  refine (zbg va vb a b w2 (Hx2.out.sl Hva.out.sl) Hvb.out.sl (zbC (by rw [HNA.out];omega)) (zbC (by rw [HNB.out];omega))).mono ?_;rintro e w3 ⟨⟨vc,rfl,hvc⟩,hx3⟩;have Hx3:=hid hx3;clear hx3;have Hvc:=hid hvc;clear hvc;go_wp2_with fail
  refine (zaX vc (a * b) w3 Hvc.out.sl (zbC (by have:=Hmul.out;omega))).mono ?_;rintro e w4 ⟨rfl,hx4⟩;have Hx4:=hid hx4;clear hx4;go_wp2
  go_ret
  exact ⟨rfl,((Hx1.out.trans Hx2.out).trans Hx3.out).trans Hx4.out⟩
end Go.Proofs.YtipkdebkdnbieaaGreatDoor
namespace Go.Proofs.YtipkdebkdnbieaaGreatDoor
open Go.RowKit Go.Lib
theorem zbF (s:ByteArray)(w:World)(h0:0<s.size)(_h1:s.size≤1000001)(h:(((s[0]'h0).toNat:Int) == 45)=false) :
  Calls Tryz.prog 159 #[.string s] w fun e w'=>e=.returned (.tuple #[.bool false,.string s])∧Ext w w':=by
 go_enter Tryz.func159,Tryz.ntmps159
 go_wp2
 go_ret2
 exact ⟨rfl,Ext.refl _⟩
theorem zbG (s t:ByteArray)(w:World)(h0:0<s.size)(h1:s.size≤1000001)(h:(((s[0]'h0).toNat:Int) == 45)=true)(ht:s.extract 1 s.size=t) :
  Calls Tryz.prog 159 #[.string s] w fun e w'=>e=.returned (.tuple #[.bool true,.string t])∧Ext w w':=by
 go_enter Tryz.func159,Tryz.ntmps159
 go_wp2
 go_quiet (fail)
 go_wp2
 go_ret2
 exact ⟨rfl,(Ext.refl _).drewN _⟩
def Fit (z:Int):Prop:=nDigits z.natAbs≤400000
theorem Fit.nat {n:Nat}(h:Fit (n:Int)):nDigits n≤400000:=h
theorem Fit.neg {n:Nat}(h:Fit (-(n:Int))):nDigits n≤400000:=by unfold Fit at h;rwa [Int.natAbs_neg,Int.natAbs_natCast] at h
theorem zbH (z:Int):(∃ n:Nat,z=n)∨∃ n:Nat,0<n∧z=-(n:Int):=by
 by_cases h:z<0
 ·exact .inr ⟨z.natAbs,by omega,by omega⟩
 ·exact .inl ⟨z.toNat,by omega⟩
theorem zbI (z:Int)(w:World)(hz:Fit z) :
  Calls Tryz.prog 159 #[.string (I z)] w fun e w'=>e=.returned (.tuple #[.bool (decide (z<0)),.string (D z.natAbs)])∧Ext w w':=by
 rcases zbH z with ⟨n,rfl⟩ | ⟨n,hn,rfl⟩
 ·have h:=hz.nat;rw [za2,decide_eq_false (by omega),Int.natAbs_natCast];refine zbF (D n) w (zbo n) (by rw [zaz];omega) ?_;have:=zb4 n (zbo n);exact beq_eq_false_iff_ne.2 (by omega)
 ·have h:=hz.neg;rw [decide_eq_true (by omega),Int.natAbs_neg,Int.natAbs_natCast];have hs:=zbw n hn;refine zbG (I (-(n:Int))) (D n) w (by omega) (by omega) ?_ (zb6 n hn);have:=zb5 n hn (by omega);exact beq_iff_eq.2 (by omega)
theorem zbJ (s:ByteArray)(w:World)(h1:s.size≤1000001)(h:(s.toList == [48])=false) :
  Calls Tryz.prog 163 #[.bool true,.string s] w fun e w'=>e=.returned (.string (⟨#[45]⟩++s))∧w=w':=by
 go_enter Tryz.func163,Tryz.ntmps163
 go_wp2
 go_ret
 exact ⟨rfl,rfl⟩
theorem zbK (s:ByteArray)(w:World)(b:Bool)(h:b=false∨(s.toList == [48])=true) :
  Calls Tryz.prog 163 #[.bool b,.string s] w fun e w'=>e=.returned (.string s)∧w=w':=by
 rcases h with rfl | h
 ·go_enter Tryz.func163,Tryz.ntmps163
  go_wp2
  go_ret
  exact ⟨rfl,rfl⟩
 ·cases b
  all_goals
   go_enter Tryz.func163,Tryz.ntmps163
   go_wp2
   go_ret
   exact ⟨rfl,rfl⟩
def signed (b:Bool)(n:Nat):Int:=if b then -(n:Int) else n
theorem zbL (b:Bool)(n:Nat)(w:World)(hn:nDigits n≤1000000) :
  Calls Tryz.prog 163 #[.bool b,.string (D n)] w fun e w'=>e=.returned (.string (I (signed b n)))∧w=w':=by
 by_cases h:b=true∧n ≠ 0
 ·obtain ⟨rfl,h0⟩:=h;have:=zbJ (D n) w (by rw [zaz];omega) (by rw [zbt];exact decide_eq_false h0);have e:(⟨#[45]⟩:ByteArray)++D n=I (signed true n):=by
   unfold signed I itoa;rw [if_pos rfl,if_pos (by omega),Int.natAbs_neg,Int.natAbs_natCast];apply ByteArray.ext;rw [ByteArray.data_append];unfold D;simp
  rwa [e] at this
 ·have e:I (signed b n)=D n:=by
   unfold signed
   cases b with
   | false=>rw [if_neg (by simp)];exact za2 n
   | true =>
    have:n=0:=by
     rcases Nat.eq_zero_or_pos n with g | g
     ·exact g
     ·exact absurd ⟨rfl,by omega⟩ h
    subst this
    rw [if_pos rfl]
    exact za2 0
  rw [e];refine zbK (D n) w b ?_
  cases b with
  | false=>exact .inl rfl
  | true =>
   refine .inr ?_
   rw [zbt]
   refine decide_eq_true ?_
   rcases Nat.eq_zero_or_pos n with g | g
   ·exact g
   ·exact absurd ⟨rfl,by omega⟩ h
theorem zbM (s:ByteArray)(k:Int)(w:World)(_h1:s.size≤1000001)(h:k<s.size) :
  Calls Tryz.prog 158 #[.string s,.int .i64 k] w fun e w'=>e=.returned (.tuple #[.int .i64 0,.bool false])∧Ext w w':=by
 go_enter Tryz.func158,Tryz.ntmps158
 go_wp2
 go_ret2
 exact ⟨rfl,Ext.refl _⟩
theorem zbN (z:Int)(k:Int)(w:World)(h0:-1000000000000000000<z)(h1:z<1000000000000000000)(h:((I z).size:Int)≤k) :
  Calls Tryz.prog 158 #[.string (I z),.int .i64 k] w fun e w'=>e=.returned (.tuple #[.int .i64 z,.bool true])∧Ext w w':=by
 have hs:¬ k<((I z).size:Int):=by omega
 have H0:=hid h0;clear h0;have H1:=hid h1;clear h1;go_enter Tryz.func158,Tryz.ntmps158
 go_wp2_with fail
 refine (zaG z (by have:=H0.out;omega) (by have:=H1.out;omega) w).mono ?_;rintro e w1 ⟨rfl,hx1⟩;have Hx1:=hid hx1;clear hx1;go_wp2
 go_quiet (fail)
 go_wp2
 go_ret2
 exact ⟨rfl,Hx1.out.drewN _⟩
theorem zbO (z:Int)(hz:Fit z):(I z).size≤400001:=by
 rcases zbH z with ⟨n,rfl⟩ | ⟨n,hn,rfl⟩
 ·have:=hz.nat;rw [za2,zaz];omega
 ·have:=hz.neg;rw [zbw n hn];omega
theorem zbP (z:Int)(k:Nat)(hk:(I z).size≤k):z.natAbs<10 ^ k:=by
 rcases zbH z with ⟨n,rfl⟩ | ⟨n,hn,rfl⟩
 ·rw [za2,zaz] at hk;have:=lt_pow_nDigits n;have h2:10 ^ nDigits n≤10 ^ k:=Nat.pow_le_pow_right (by omega) hk;omega
 ·rw [zbw n hn] at hk;have:=lt_pow_nDigits n;have h2:10 ^ nDigits n≤10 ^ k:=Nat.pow_le_pow_right (by omega) (by omega);omega
theorem zbQ (s:ByteArray)(w:World)(r:Int)(h0:0<s.size)(_h1:s.size≤1000001)
  (h:((s.toList == [48])=true∧r=0)∨((s.toList == [48])=false∧(((s[0]'h0).toNat:Int) == 45)=true∧r=-1)∨((s.toList == [48])=false∧(((s[0]'h0).toNat:Int) == 45)=false∧r=1)) :
  Calls Tryz.prog 167 #[.string s] w fun e w'=>e=.returned (.int .i64 r)∧w=w':=by
 rcases h with ⟨ha,rfl⟩ | ⟨ha,hb,rfl⟩ | ⟨ha,hb,rfl⟩
 all_goals
  go_enter Tryz.func167,Tryz.ntmps167
  go_wp2
  go_ret
  exact ⟨rfl,rfl⟩
theorem zbR (z:Int)(w:World)(hz:Fit z) :
  Calls Tryz.prog 167 #[.string (I z)] w fun e w'=>e=.returned (.int .i64 (zbj z 0))∧w=w':=by
 have hpos:0<(I z).size:=by
  rcases zbH z with ⟨n,rfl⟩ | ⟨n,hn,rfl⟩
  ·rw [za2];exact zbo n
  ·rw [zbw n hn];omega
 refine zbQ (I z) w (zbj z 0) hpos (by have:=zbO z hz;omega) ?_;rw [zb3];rcases zbH z with ⟨n,rfl⟩ | ⟨n,hn,rfl⟩
 ·by_cases h0:n=0
  ·subst h0;exact .inl ⟨decide_eq_true rfl,zbl rfl⟩
  ·refine .inr (.inr ⟨decide_eq_false (by omega),?_,zbm (by omega)⟩);have key:∀ (s:ByteArray)(hs:0<s.size),s=D n→(((s[0]'hs).toNat:Int) == 45)=false:=by
    intro s hs e;subst e;have:=zb4 n hs;exact beq_eq_false_iff_ne.2 (by omega)
   exact key _ hpos (za2 n)
 ·refine .inr (.inl ⟨decide_eq_false (by omega),?_,zbk (by omega)⟩);have:=zb5 n hn hpos;exact beq_iff_eq.2 (by omega)
theorem zbS (a b:Int):zbj a b=-1∨zbj a b=0∨zbj a b=1:=by
 unfold zbj;split
 ·simp
 ·split <;> simp
theorem zbT (a b:Int)(h:zbj a 0=zbj b 0):zbj a b=if a<0 then zbj b.natAbs a.natAbs else zbj a.natAbs b.natAbs:=by
 have h3:(a<0∧b<0)∨(0≤a∧0≤b):=by
  unfold zbj at h;by_cases g1:a<0 <;> by_cases g2:b<0
  ·exact .inl ⟨g1,g2⟩
  ·rw [if_pos g1,if_neg g2] at h;split at h <;> omega
  ·rw [if_neg g1,if_pos g2] at h;split at h <;> omega
  ·exact .inr ⟨by omega,by omega⟩
 rcases h3 with ⟨g1,g2⟩ | ⟨g1,g2⟩
 ·rw [if_pos g1];rcases Int.lt_trichotomy a b with k | k | k
  ·rw [zbk k,zbk (by omega)]
  ·rw [zbl k,zbl (by omega)]
  ·rw [zbm k,zbm (by omega)]
 ·rw [if_neg (by omega)];rcases Int.lt_trichotomy a b with k | k | k
  ·rw [zbk k,zbk (by omega)]
  ·rw [zbl k,zbl (by omega)]
  ·rw [zbm k,zbm (by omega)]
theorem zbU (a b:Int)(h:¬ zbj a 0=zbj b 0):(zbj a 0<zbj b 0∧zbj a b=-1)∨(¬ zbj a 0<zbj b 0∧zbj a b=1):=by
 rcases Int.lt_trichotomy a 0 with g1 | g1 | g1 <;> rcases Int.lt_trichotomy b 0 with g2 | g2 | g2
 ·rw [zbk g1,zbk g2] at h;exact absurd rfl h
 ·rw [zbk g1,zbl g2,zbk (by omega)];simp
 ·rw [zbk g1,zbm g2,zbk (by omega)];simp
 ·rw [zbl g1,zbk g2,zbm (by omega)];simp
 ·rw [zbl g1,zbl g2] at h;exact absurd rfl h
 ·rw [zbl g1,zbm g2,zbk (by omega)];simp
 ·rw [zbm g1,zbk g2,zbm (by omega)];simp
 ·rw [zbm g1,zbl g2,zbm (by omega)];simp
 ·rw [zbm g1,zbm g2] at h;exact absurd rfl h
theorem zbV (a b:Int)(w:World)(ha:Fit a)(hb:Fit b) :
  Calls Tryz.prog 153 #[.string (I a),.string (I b)] w fun e w'=>e=.returned (.int .i64 (zbj a b))∧Ext w w':=by
 have Ha:=hid ha;have Hb:=hid hb;have hra:=zbS a 0;have hrb:=zbS b 0;have hca:=zbR a w ha;have hcb:=zbR b w hb;by_cases hne:zbj a 0=zbj b 0
 ·have hsame:=zbT a b hne;have Hsame:=hid hsame;clear hsame;rw [← hne] at hcb;have ht:(zbj a 0 != zbj a 0)=false:=by simp
  clear hne hrb;generalize zbj a 0=x at *;have Hca:=hid hca;clear hca;have Hcb:=hid hcb;clear hcb;clear ha hb hra;by_cases hneg:a<0
  ·have hsp:Calls Tryz.prog 159 #[.string (I a)] w _:=zbI a w Ha.out;rw [decide_eq_true hneg] at hsp;have Hsp:=hid hsp;clear hsp;have Hneg:=hid hneg;clear hneg;go_enter Tryz.func153,Tryz.ntmps153
   go_wp2_with fail
   refine Hca.out.mono ?_;rintro e w1 ⟨rfl,rfl⟩;go_wp2_with fail
   refine Hcb.out.mono ?_;rintro e w1 ⟨rfl,rfl⟩;go_wp2_with fail
   refine Hsp.out.mono ?_;rintro e w1 ⟨rfl,hx1⟩;have Hx1:=hid hx1;clear hx1;go_wp2_with fail
   refine (zbI b w1 Hb.out).mono ?_;rintro e w2 ⟨rfl,hx2⟩;have Hx2:=hid hx2;clear hx2;go_wp2_with fail
   refine (zb8 b.natAbs a.natAbs w2 (by have:=Hb.out;unfold Fit at this;omega) (by have:=Ha.out;unfold Fit at this;omega)).mono ?_;rintro e w3 ⟨rfl,rfl⟩;go_wp2
   go_ret
   exact ⟨zbi (by rw [Hsame.out,if_pos (by have:=Hneg.out;omega)]),Hx1.out.trans Hx2.out⟩
  ·have hsp:Calls Tryz.prog 159 #[.string (I a)] w _:=zbI a w Ha.out;rw [decide_eq_false hneg] at hsp;have Hsp:=hid hsp;clear hsp;have Hneg:=hid hneg;clear hneg;go_enter Tryz.func153,Tryz.ntmps153
   go_wp2_with fail
   refine Hca.out.mono ?_;rintro e w1 ⟨rfl,rfl⟩;go_wp2_with fail
   refine Hcb.out.mono ?_;rintro e w1 ⟨rfl,rfl⟩;go_wp2_with fail
   refine Hsp.out.mono ?_;rintro e w1 ⟨rfl,hx1⟩;have Hx1:=hid hx1;clear hx1;go_wp2_with fail
   refine (zbI b w1 Hb.out).mono ?_;rintro e w2 ⟨rfl,hx2⟩;have Hx2:=hid hx2;clear hx2;go_wp2_with fail
   refine (zb8 a.natAbs b.natAbs w2 (by have:=Ha.out;unfold Fit at this;omega) (by have:=Hb.out;unfold Fit at this;omega)).mono ?_;rintro e w3 ⟨rfl,rfl⟩;go_wp2
   go_ret
   exact ⟨zbi (by rw [Hsame.out,if_neg (by have:=Hneg.out;omega)]),Hx1.out.trans Hx2.out⟩
 ·have hlt:=zbU a b hne;have ht:(zbj a 0 != zbj b 0)=true:=by simpa using hne
  clear hne;generalize zbj a 0=x at *;generalize zbj b 0=y at *;have Hca:=hid hca;clear hca;have Hcb:=hid hcb;clear hcb;clear ha hb hra hrb;rcases hlt with ⟨hlt,hr⟩ | ⟨hlt,hr⟩
  all_goals
   have Hr:=hid hr;clear hr;go_enter Tryz.func153,Tryz.ntmps153
   go_wp2_with fail
   refine Hca.out.mono ?_;rintro e w1 ⟨rfl,rfl⟩;go_wp2_with fail
   refine Hcb.out.mono ?_;rintro e w1 ⟨rfl,rfl⟩;go_wp2
   go_ret
   exact ⟨zbi Hr.out.symm,Ext.refl _⟩
theorem zbW (a b:Int):signed (decide (a<0) != decide (b<0)) (a.natAbs * b.natAbs)=a * b:=by
 unfold signed;rcases zbH a with ⟨n,rfl⟩ | ⟨n,hn,rfl⟩ <;> rcases zbH b with ⟨m,rfl⟩ | ⟨m,hm,rfl⟩
 ·rw [decide_eq_false (p:=(n:Int)<0) (by omega),decide_eq_false (p:=(m:Int)<0) (by omega)];simp
 ·rw [decide_eq_false (p:=(n:Int)<0) (by omega),decide_eq_true (p:=-(m:Int)<0) (by omega)];simp [Int.mul_neg]
 ·rw [decide_eq_true (p:=-(n:Int)<0) (by omega),decide_eq_false (p:=(m:Int)<0) (by omega)];simp [Int.neg_mul]
 ·rw [decide_eq_true (p:=-(n:Int)<0) (by omega),decide_eq_true (p:=-(m:Int)<0) (by omega)];simp [Int.neg_mul,Int.mul_neg]
theorem zbX (a b:Int)(w:World)(he:Env w)(ha9:((I a).size:Int)≤9)(hb9:((I b).size:Int)≤9) :
  Calls Tryz.prog 165 #[.string (I a),.string (I b)] w fun e w'=>e=.returned (.string (I (a * b)))∧Ext w w':=by
 have hba:=zbP a 9 (by omega);have hbb:=zbP b 9 (by omega);have hab:a * b≤999999998000000001∧-999999998000000001≤a * b:=by
  have h1:(a * b).natAbs≤999999999 * 999999999:=by rw [Int.natAbs_mul];exact Nat.mul_le_mul (by omega) (by omega)
  omega
 have hab1:=hab.1;have hab2:=hab.2;have hla2:-1000000000000000000<a∧a<1000000000000000000:=by omega
 have hlb2:-1000000000000000000<b∧b<1000000000000000000:=by omega
 have Hla2:=hid hla2;clear hla2;have Hlb2:=hid hlb2;clear hlb2;have He:=hid he;clear he;clear hab hba hbb;go_enter Tryz.func165,Tryz.ntmps165
 go_wp2_with fail
 refine (zbN a 9 w Hla2.out.1 Hla2.out.2 ha9).mono ?_;rintro e w1 ⟨rfl,hx1⟩;have Hx1:=hid hx1;clear hx1;go_wp2_with fail
 refine (zbN b 9 w1 Hlb2.out.1 Hlb2.out.2 hb9).mono ?_;rintro e w2 ⟨rfl,hx2⟩;have Hx2:=hid hx2;clear hx2;go_wp2_with fail
 refine (zaQ (a * b) (by omega) (by omega) w2 ((He.out.ext Hx1.out).ext Hx2.out)).mono ?_;rintro e w3 ⟨rfl,hx3⟩;have Hx3:=hid hx3;clear hx3;go_wp2
 go_ret
 exact ⟨rfl,(Hx1.out.trans Hx2.out).trans Hx3.out⟩
theorem zbY (a b:Int)(ha:Fit a)(hb:Fit b):nDigits (a.natAbs * b.natAbs)≤1000000:=by
 have:=zbD a.natAbs b.natAbs;unfold Fit at ha hb;omega
theorem zbZ (a b:Int)(w:World)(he:Env w)(ha:Fit a)(hb:Fit b)(h:(9:Int)<((I a).size:Int)∨(((I a).size:Int)≤9∧(9:Int)<((I b).size:Int))) :
  Calls Tryz.prog 165 #[.string (I a),.string (I b)] w fun e w'=>e=.returned (.string (I (a * b)))∧Ext w w':=by
 have Ha:=hid ha;have Hb:=hid hb;have hsa:=zbO a ha;have hsb:=zbO b hb;have He:=hid he;clear he ha hb;have Hsg:Hid (signed (!decide (a<0) == decide (b<0)) (a.natAbs * b.natAbs)=a * b):=zbW a b;have h2:(9:Int)<((I a).size:Int)∨(((I a).size:Int)≤9∧(9:Int)<((I b).size:Int)∧Hid (-1000000000000000000<a∧a<1000000000000000000)):=by
  rcases h with h | ⟨h1,h2⟩
  ·exact .inl h
  ·refine .inr ⟨h1,h2,?_⟩;have:=zbP a 9 (by omega);exact hid (by omega)
 clear h;rcases h2 with h | ⟨h1,h2,Hla2⟩
 case' inl =>
  go_enter Tryz.func165,Tryz.ntmps165
  go_wp2_with fail
  refine (zbM (I a) 9 w (by omega) h).mono ?_;rintro e w2 ⟨rfl,hx⟩
 case' inr =>
  go_enter Tryz.func165,Tryz.ntmps165
  go_wp2_with fail
  refine (zbN a 9 w Hla2.out.1 Hla2.out.2 h1).mono ?_;rintro e w1 ⟨rfl,hx1⟩;have Hx1:=hid hx1;clear hx1;go_wp2_with fail
  refine (zbM (I b) 9 w1 (by omega) h2).mono ?_;rintro e w2 ⟨rfl,hx2⟩;have hx:=Hx1.out.trans hx2;clear hx2
 all_goals
  have Hx:=hid hx;clear hx;go_wp2_with fail
  refine (zbI a w2 Ha.out).mono ?_;rintro e w3 ⟨rfl,hx3⟩;have Hx3:=hid hx3;clear hx3;go_wp2_with fail
  refine (zbI b w3 Hb.out).mono ?_;rintro e w4 ⟨rfl,hx4⟩;have Hx4:=hid hx4;clear hx4;go_wp2_with fail
  refine (zbE a.natAbs b.natAbs w4 (((He.out.ext Hx.out).ext Hx3.out).ext Hx4.out) Ha.out Hb.out).mono ?_;rintro e w5 ⟨rfl,hx5⟩;have Hx5:=hid hx5;clear hx5;go_wp2_with fail
  refine (zbL _ (a.natAbs * b.natAbs) w5 (zbY a b Ha.out Hb.out)).mono ?_;rintro e w6 ⟨rfl,rfl⟩;rw [Hsg.out];go_wp2
  go_ret
  exact ⟨rfl,((Hx.out.trans Hx3.out).trans Hx4.out).trans Hx5.out⟩
theorem zca (a b:Int)(w:World)(he:Env w)(ha:Fit a)(hb:Fit b) :
  Calls Tryz.prog 165 #[.string (I a),.string (I b)] w fun e w'=>e=.returned (.string (I (a * b)))∧Ext w w':=by
 by_cases h1:((I a).size:Int)≤9
 ·by_cases h2:((I b).size:Int)≤9
  ·exact zbX a b w he h1 h2
  ·exact zbZ a b w he ha hb (.inr ⟨h1,by omega⟩)
 ·exact zbZ a b w he ha hb (.inl (by omega))
end Go.Proofs.YtipkdebkdnbieaaGreatDoor
namespace Go.Proofs.YtipkdebkdnbieaaGreatDoor
open Go.RowKit Go.Lib
theorem zcb (a:Nat)(w:World)(ha:nDigits a≤18) :
  Calls Tryz.prog 174 #[.string (D a)] w fun e w'=>e=.returned (.int .i64 (Lib.bitLen a))∧Ext w w':=by
 have h18:=zb9 ha;have H18:=hid h18;clear h18 ha;go_enter Tryz.func174,Tryz.ntmps174
 go_wp2_with fail
 refine (zaP a (by have:=H18.out;omega) w).mono ?_;rintro e w1 ⟨rfl,hx1⟩;have Hx1:=hid hx1;clear hx1;go_wp2_with fail
 refine (Any.bits_Len64 Tryz.lLen64 (a:Int) w1 (by omega) (by have:=H18.out;omega)).mono ?_;rintro e w2 ⟨rfl,rfl⟩;rw [Int.toNat_natCast];go_wp2
 go_ret
 exact ⟨rfl,Hx1.out⟩
theorem zcc {a:Nat}(h:2≤a)(h2:a<2 ^ 64):2≤Lib.bitLen a∧2 ^ (Lib.bitLen a - 1)≤a∧Lib.bitLen a≤64:=by
 obtain ⟨h3,h4,h5⟩:=Lib.bitLenAux_bounds 64 a h2 (by omega);unfold Lib.bitLen;refine ⟨?_,h4,Lib.bitLen_le a 64 (Nat.le_refl _) h2⟩;refine Nat.lt_of_not_le fun hh=>?_;have:2 ^ Lib.bitLenAux 64 a≤2 ^ 1:=Nat.pow_le_pow_right (by omega) hh;omega
theorem zcd : 10 ^ 20000<2 ^ 66439:=by decide +kernel
theorem zce {a n K T:Nat}(hKT:10 ^ T<2 ^ K)(h:2≤a)(h2:a<2 ^ 64)(hN:nDigits (a ^ n)≤T):n≤K / (Lib.bitLen a - 1):=by
 obtain ⟨h3,h4,_⟩:=zcc h h2;rw [Nat.le_div_iff_mul_le (by omega)];refine Nat.le_of_not_lt fun hh=>?_;have e1:2 ^ (n * (Lib.bitLen a - 1))≤a ^ n:=by
  rw [Nat.mul_comm,Nat.pow_mul];exact Nat.pow_le_pow_left h4 n
 have e2:2 ^ K≤2 ^ (n * (Lib.bitLen a - 1)):=Nat.pow_le_pow_right (by omega) (by omega);have e3:=lt_pow_nDigits (a ^ n);have e4:10 ^ nDigits (a ^ n)≤10 ^ T:=Nat.pow_le_pow_right (by omega) hN;omega
theorem zcf {a n:Nat}(h:2≤a)(h2:a<2 ^ 64)(hN:nDigits (a ^ n)≤20000):n≤66439 / (Lib.bitLen a - 1):=zce zcd h h2 hN
def zcg (N:Nat)(w0:World)(n out p:Value)(wr:World):Prop :=
 ∃ m acc base:Nat,n=.int .i64 m∧m≤1000000∧1≤acc∧1≤base∧acc * base ^ m=N∧Own wr w0.heap.size out (Dec.P acc)∧Own wr w0.heap.size p (Dec.P base)∧Ext w0 wr
theorem zch (m:Nat)(h:m≤1000000):bits BinOp.and IntKind.i64 (m:Int) 1=((m % 2:Nat):Int):=Go.Proofs.and_one m (by omega)
theorem zci (acc base q:Nat):acc * base * (base * base) ^ q=acc * base ^ (2 * q+1):=by
 rw [Nat.pow_succ,Nat.pow_mul,Nat.pow_two,Nat.mul_assoc,Nat.mul_comm base]
theorem zcj (acc base q:Nat):acc * (base * base) ^ q=acc * base ^ (2 * q):=by
 rw [Nat.pow_mul,Nat.pow_two]
theorem zck (a n:Nat)(w:World)(he:Env w)(ha:nDigits a≤18)(h2:2≤a)(hn:1≤n)(hn2:n≤1000000)(hN:nDigits (a ^ n)≤20000) :
  Calls Tryz.prog 125 #[.string (D a),.int .i64 n] w fun e w'=>e=.returned (.tuple #[.string (D (a ^ n)),.int .i64 0])∧Ext w w':=by
 have h18:=zb9 ha;have hb:=zcc h2 (by omega);have hq:=zcf (n:=n) h2 (by omega) hN;obtain ⟨N,hNN⟩:∃ N,N=a ^ n:=⟨_,rfl⟩;rw [← hNN] at hN ⊢;have HNN:=hid hNN;clear hNN;have Ha:=hid ha;clear ha;have He:=hid he;clear he;have HN:=hid hN;clear hN;have H18:=hid h18;clear h18;have hb1:2≤Lib.bitLen a:=hb.1;have hb2:Lib.bitLen a≤64:=hb.2.2;clear hb;have hs1:((D a).toList == [49])=false:=by rw [zbu];exact decide_eq_false (by omega)
 have hs0:((D a).toList == [48])=false:=by rw [zbt];exact decide_eq_false (by omega)
 have hnz:((n:Int) == 0)=false:=beq_eq_false_iff_ne.2 (by omega);have hbits:=zcb a w Ha.out;generalize hL:Lib.bitLen a=L at *;have HL:=hid hL;clear hL;have hquo:¬ (66439:Int) / ((L:Int) - 1)<n:=by
  have e:(66439:Int) / ((L:Int) - 1)=((66439 / (L - 1):Nat):Int):=by
   rw [Int.natCast_ediv];congr 1;omega
  rw [e];omega
 have Hb:=hid hbits;clear hbits hq;go_enter Tryz.func125,Tryz.ntmps125
 go_wp2_with fail
 refine Hb.out.mono ?_;rintro e w1 ⟨rfl,hx1⟩;have Hx1:=hid hx1;clear hx1;go_wp2_with fail
 have hone:Own (w1.alloc (.cells #[.int .u64 1] 181)) w.heap.size (.slice (some ⟨w1.heap.size,0,none⟩) 1 1) (Dec.P 1):=by
  have e:Dec.P 1=[1]:=by rw [Dec.P_pos (by omega),show 1 / Dec.B=0 from rfl,Dec.P_zero];rfl
  rw [e];exact World.ownsRow_lit w1 #[.int .u64 1] 1 Hx1.out.size (by unfold maxLen;omega) rfl
 have Hone:=hid hone;clear hone;refine (zaD a _ (by have:=Ha.out;omega)).mono ?_;rintro e w2 ⟨⟨v,rfl,hv⟩,hx2⟩;have hx:Ext w w2:=(Hx1.out.alloc _).trans hx2;have ho1:Own w2 w.heap.size (.slice (some ⟨w1.heap.size,0,none⟩) 1 1) (Dec.P 1):=hx2.own' Hone.out;have hv':Own w2 w.heap.size v (Dec.P a):=zam hv (by have:=Hx1.out.size;simp;omega);have Hx:=hid hx;clear hx hx2 Hone Hx1 hv;have Ho1:=hid ho1;clear ho1;have Hv:=hid hv';clear hv';go_wp2_with fail
 go_loopw [1,7,8] (fun n o p wr=>zcg N w n o p wr) (fun n _ _ _=>(zal n).toNat)
 case atStart=>exact ⟨n,1,a,rfl,hn2,Nat.le_refl _,by omega,by rw [Nat.one_mul,HNN.out],Ho1.out,Hv.out,Hx.out⟩
 case round =>
  obtain ⟨m,acc,base,rfl,hm,hacc,hbase,hprod,hoa,hob,hext⟩:=hrel;have Hprod:=hid hprod;clear hprod;have Hoa:=hid hoa;clear hoa;have Hob:=hid hob;clear hob;have Hext:=hid hext;clear hext;by_cases hm0:0<m
  ·have hand:=zch m hm;have hodd:m % 2=1∨m % 2=0:=(by omega);have hA:acc≤N:=(by rw [← Hprod.out];exact Nat.le_mul_of_pos_right _ (Nat.pow_pos hbase));have hB:base≤N:=by
    rw [← Hprod.out];have h1:base ^ 1≤base ^ m:=Nat.pow_le_pow_right hbase hm0;rw [Nat.pow_one] at h1;exact Nat.le_trans h1 (Nat.le_mul_of_pos_left _ hacc)
   have hlA:(Dec.P acc).length≤100000:=zbC (by have:=Dec.nDigits_mono hA;have:=HN.out;omega);have hlB:(Dec.P base).length≤100000:=zbC (by have:=Dec.nDigits_mono hB;have:=HN.out;omega);have HlA:=hid hlA;clear hlA hA;have HlB:=hid hlB;clear hlB hB;have hcase:(m % 2=1∧m=1)∨(m % 2=1∧1<m)∨(m % 2=0∧1<m):=(by omega);rcases hcase with ⟨ho,hm1⟩ | ⟨ho,hm1⟩ | ⟨ho,hm1⟩
   ·subst hm1;rw [ho] at hand;go_wp2_with fail
    refine (zbg u7 u8 acc base wr Hoa.out.sl Hob.out.sl HlA.out HlB.out).mono ?_;rintro e w3 ⟨⟨v3,rfl,hv3⟩,hx3⟩;have Hx3:=hid hx3;clear hx3;have Hv3:=hid hv3;clear hv3;go_wp2
    go_roundw
    case rel=>exact ⟨0,acc * base,base,by go_num,by omega,Nat.mul_pos hacc hbase,hbase,by rw [← Hprod.out];simp,zam Hv3.out Hext.out.size,Hx3.out.own' Hob.out,Hext.out.trans Hx3.out⟩
    case measure=>simp [zal]
   ·rw [ho] at hand;go_wp2_with fail
    refine (zbg u7 u8 acc base wr Hoa.out.sl Hob.out.sl HlA.out HlB.out).mono ?_;rintro e w3 ⟨⟨v3,rfl,hv3⟩,hx3⟩;have Hx3:=hid hx3;clear hx3;have Hv3:=hid hv3;clear hv3;go_wp2_with fail
    refine (zbg u8 u8 base base w3 (Hx3.out.sl Hob.out.sl) (Hx3.out.sl Hob.out.sl) HlB.out HlB.out).mono ?_;rintro e w4 ⟨⟨v4,rfl,hv4⟩,hx4⟩;have Hx4:=hid hx4;clear hx4;have Hv4:=hid hv4;clear hv4;go_wp2
    go_roundw
    case rel=>exact ⟨m / 2,acc * base,base * base,by go_num,by omega,Nat.mul_pos hacc hbase,Nat.mul_pos hbase hbase,by rw [← Hprod.out,zci];congr 2;omega,Hx4.out.own' (zam Hv3.out Hext.out.size),zam Hv4.out (Hext.out.trans Hx3.out).size,(Hext.out.trans Hx3.out).trans Hx4.out⟩
    case measure=>simp [zal];omega
   ·rw [ho] at hand;go_wp2_with fail
    refine (zbg u8 u8 base base wr Hob.out.sl Hob.out.sl HlB.out HlB.out).mono ?_;rintro e w4 ⟨⟨v4,rfl,hv4⟩,hx4⟩;have Hx4:=hid hx4;clear hx4;have Hv4:=hid hv4;clear hv4;go_wp2
    go_roundw
    case rel=>exact ⟨m / 2,acc,base * base,by go_num,by omega,hacc,Nat.mul_pos hbase hbase,by rw [← Hprod.out,zcj];congr 2;omega,Hx4.out.own' Hoa.out,zam Hv4.out Hext.out.size,Hext.out.trans Hx4.out⟩
    case measure=>simp [zal];omega
  ·have hN2:N=acc:=(by rw [← Hprod.out,show m=0 by omega];simp);subst hN2;go_wp2_with fail
   refine (zaX u7 N wr Hoa.out.sl (zbC (by have:=HN.out;omega))).mono ?_;rintro e w3 ⟨rfl,hx3⟩;have Hx3:=hid hx3;clear hx3;have hsz:=zaz N;have hsz2:nDigits N≤20000:=HN.out;go_wp2
   go_ret2
   exact ⟨rfl,Hext.out.trans Hx3.out⟩
theorem zcl (a:Nat)(w:World) :
  Calls Tryz.prog 125 #[.string (D a),.int .i64 0] w fun e w'=>e=.returned (.tuple #[.string (D 1),.int .i64 0])∧Ext w w':=by
 rw [zbs];go_enter Tryz.func125,Tryz.ntmps125
 go_wp2
 go_ret2
 exact ⟨rfl,Ext.refl _⟩
theorem zcm (n:Nat)(w:World)(hn:1≤n) :
  Calls Tryz.prog 125 #[.string (D 1),.int .i64 n] w fun e w'=>e=.returned (.tuple #[.string (D 1),.int .i64 0])∧Ext w w':=by
 have hnz:((n:Int) == 0)=false:=beq_eq_false_iff_ne.2 (by omega);have h1:((D 1).toList == [49])=true:=by rw [zbu];rfl
 have h1e:Value.string ⟨#[49]⟩=Value.string (D 1):=by rw [zbs]
 have H1e:=hid h1e;clear h1e;go_enter Tryz.func125,Tryz.ntmps125
 go_wp2
 go_ret2
 exact ⟨by rw [← H1e.out];rfl,Ext.refl _⟩
theorem zcn (n:Nat)(w:World)(hn:1≤n) :
  Calls Tryz.prog 125 #[.string (D 0),.int .i64 n] w fun e w'=>e=.returned (.tuple #[.string (D 0),.int .i64 0])∧Ext w w':=by
 have hnz:((n:Int) == 0)=false:=beq_eq_false_iff_ne.2 (by omega);have h1:((D 0).toList == [49])=false:=by rw [zbu];rfl
 have h0:((D 0).toList == [48])=true:=by rw [zbt];rfl
 have h1e:Value.string ⟨#[48]⟩=Value.string (D 0):=by rw [zbr]
 have H1e:=hid h1e;clear h1e;go_enter Tryz.func125,Tryz.ntmps125
 go_wp2
 go_ret2
 exact ⟨by rw [← H1e.out];rfl,Ext.refl _⟩
theorem zco (a n:Nat)(w:World)(he:Env w)(ha:nDigits a≤18)(hn2:n≤1000000)(hN:nDigits (a ^ n)≤20000) :
  Calls Tryz.prog 125 #[.string (D a),.int .i64 n] w fun e w'=>e=.returned (.tuple #[.string (D (a ^ n)),.int .i64 0])∧Ext w w':=by
 by_cases h0:n=0
 ·subst h0;exact zcl a w
 ·by_cases h1:a=1
  ·subst h1;rw [Nat.one_pow];exact zcm n w (by omega)
  ·by_cases h2:a=0
   ·subst h2;rw [Nat.zero_pow (by omega)];exact zcn n w (by omega)
   ·exact zck a n w he ha (by omega) (by omega) hn2 hN
theorem zcp (a n:Nat)(h:1≤n):nDigits (a ^ n)≤n * nDigits a:=by
 refine Dec.nDigits_le (Nat.mul_pos h (nDigits_pos a)) ?_;rw [Nat.mul_comm,Nat.pow_mul];exact Nat.pow_lt_pow_left (lt_pow_nDigits a) (by omega)
end Go.Proofs.YtipkdebkdnbieaaGreatDoor
