/- Plain: the major scale is the collection of seven fifths; what reduces there. Walks: slices.Equal at primes, slices.EqualFunc at sizes; law 31's same, scale.same. Walk: law 31's known. An append of a slice, nil or not, to a row that the call owns, as one step of a region that draws. -/
import Derived.Test.YtbkfhacmekbniaaGreatDoorPa37
import Derived.Test.YtbkfhacmekbniaaGreatDoorPa22
import Derived.Test.YtbkfhacmekbniaaGreatDoorPa30
import Derived.Test.YtbkfhacmekbniaaGreatDoorPa24
import Derived.Test.YtbkfhacmekbniaaGreatDoorPa20
import Derived.Test.YtbkfhacmekbniaaGreatDoorPa18
import Derived.Test.YtbkfhacmekbniaaGreatDoorPa05
import Derived.Test.YtbkfhacmekbniaaGreatDoorPa06
import Derived.Laws.OwnMore
import Derived.Deep.RegionLaw
import Derived.Deep.AppendLies
set_option maxRecDepth 100000
set_option maxHeartbeats 1600000
namespace Go.Proofs.YtbkfhacmekbniaaGreatDoor
section
open Go.RowKit Go.Lib
def zqg (k:Int):List Rat:=[((-k:Int):Rat),(k:Rat)]
theorem zqh : zk4 (zk8 [-1,1]) (-1) 7=[zqg (-1),zqg 0,zqg 1,zqg 2,zqg 3,zqg 4,zqg 5]:=by decide +kernel
theorem zqi (k:Int):sF [2,3] (zqg k)=((k * 39256168:Int):Rat):=by
 unfold zqg;simp only [sF,lgs.1,lgs.2.1];rw [Rat.intCast_mul,Rat.intCast_neg];have h1:((106365032:Int):Rat)=((67108864:Int):Rat)+((39256168:Int):Rat):=by rw [← Rat.intCast_add];rfl
 rw [h1];grind
theorem zqj (k l:Int):zeV (zqg k) (zqg l)=zqg (k - l):=by
 unfold zqg zeV;simp only [List.zipWith_cons_cons,List.zipWith_nil_left];rw [← Rat.intCast_sub,← Rat.intCast_sub,show -k - -l=-(k - l) by omega]
theorem zqk {k:Int}(h0:-100≤k)(h1:k≤100):Bx 256 (zqg k) :=
 ⟨-k,2 * k,rfl,by rw [Rat.intCast_mul,show ((2:Int):Rat)=2 from rfl];grind,by omega,by omega⟩
theorem zql (l:List (List Rat))(h:∀ x∈l,∃ k:Int,-10≤k∧k≤10∧x=zqg k):Lw [2,3] 10 l:=by
 have hz:zer [(2:Int),3].length=zqg 0:=by decide +kernel
 have h2:∀ x∈zer [(2:Int),3].length::l,∃ k:Int,-10≤k∧k≤10∧x=zqg k:=fun x hx=>by
  rcases List.mem_cons.1 hx with e | e
  ·exact ⟨0,by omega,by omega,by rw [e,hz]⟩
  ·exact h x e
 refine ⟨.inl ⟨rfl,rfl⟩,fun x hx=>?_,by omega,by omega,fun x hx=>?_,0,fun x hx y hy=>?_⟩
 ·obtain ⟨k,_,_,rfl⟩:=h x hx;rfl
 ·obtain ⟨k,k0,k1,rfl⟩:=h x hx;rw [zqi,← Rat.intCast_neg];exact ⟨Rat.intCast_le_intCast.2 (by omega),Rat.intCast_le_intCast.2 (by omega)⟩
 ·obtain ⟨k,k0,k1,rfl⟩:=h2 x hx;obtain ⟨j,j0,j1,rfl⟩:=h2 y hy;rw [zqj];exact .inl ⟨rfl,zqk (by omega) (by omega)⟩
theorem zqm : Lw [2,3] 10 (zk4 (zk8 [-1,1]) (-1) 7):=by
 rw [zqh];refine zql _ fun x hx=>?_;simp only [List.mem_cons,List.not_mem_nil,or_false] at hx;rcases hx with rfl | rfl | rfl | rfl | rfl | rfl | rfl
 ·exact ⟨-1,by omega,by omega,rfl⟩
 ·exact ⟨0,by omega,by omega,rfl⟩
 ·exact ⟨1,by omega,by omega,rfl⟩
 ·exact ⟨2,by omega,by omega,rfl⟩
 ·exact ⟨3,by omega,by omega,rfl⟩
 ·exact ⟨4,by omega,by omega,rfl⟩
 ·exact ⟨5,by omega,by omega,rfl⟩
theorem zqn : zjK [2,3] [] (zk4 (zk8 [-1,1]) (-1) 7)=[zk8 [2,-1],zk8 [-1,1],zk8 [-3,2],zk8 [-4,3],zk8 [-6,4],zk8 [-7,5]]:=by decide +kernel
theorem zqo : zjT [2,3] (zk4 (zk8 [-1,1]) (-1) 7) zqe:=by
 have h:=zka (N:=[zk8 [-3,2],zk8 [-6,4],zk8 [2,-1],zk8 [-1,1],zk8 [-4,3],zk8 [-7,5]]) zqm (by rw [zqn];decide +kernel) (by decide +kernel);have e:zqe=[zk8 [-3,2],zk8 [-6,4],zk8 [2,-1],zk8 [-1,1],zk8 [-4,3],zk8 [-7,5]]++[ov ([(2:Int),3].length - 1)]:=by decide +kernel
 rw [e];exact h
theorem zqp : Wd [2,3] zqe:=zjY zqm zqo (by rw [zk6];omega)
theorem zqq : flP [2,3] (zk8 [0,-1])=-2:=by decide +kernel
theorem zqr : rst [2,3] (zk8 [0,-1])=zk8 [2,-1]:=by decide +kernel
theorem zqs : zeV (zk8 [2,-1]) (zk8 [-6,4])=zk8 [8,-5]:=by decide +kernel
theorem zqt : Lw [2,3] 10 [zk8 [0,-1]]:=by
 have e:zk8 [0,-1]=[((0:Int):Rat),((-1:Int):Rat)]:=rfl;refine ⟨.inl ⟨rfl,rfl⟩,fun x hx=>?_,by omega,by omega,fun x hx=>?_,0,fun x hx y hy=>?_⟩
 ·rw [List.mem_singleton] at hx;subst hx;rfl
 ·rw [List.mem_singleton] at hx;subst hx;decide +kernel
 ·have hb:∀ z∈zer [(2:Int),3].length::[zk8 [0,-1]],∃ k:Int,-1≤k∧k≤0∧z=[((0:Int):Rat),(k:Rat)]:=fun z hz=>by
   rcases List.mem_cons.1 hz with e | e
   ·exact ⟨0,by omega,by omega,by rw [e];rfl⟩
   ·rw [List.mem_singleton] at e;exact ⟨-1,by omega,by omega,by rw [e];rfl⟩
  obtain ⟨k,k0,k1,rfl⟩:=hb x hx;obtain ⟨j,j0,j1,rfl⟩:=hb y hy;refine .inl ⟨rfl,0,2 * (k - j),?_,?_,by omega,by omega⟩
  ·show ((0:Int):Rat) - ((0:Int):Rat)=_;grind
  ·show ((k:Rat) - (j:Rat)) * 2=_;rw [Rat.intCast_mul,Rat.intCast_sub,show ((2:Int):Rat)=2 from rfl];grind
theorem Wd.step_ft {p:List Int}{rs:List Qw}(h:Wd p (rs.map Qw.x)):∀ k,k<rs.length→∀ q∈stQ p.length rs k,Ft 30 q:=by
 intro k hk;have hl:(rs.map Qw.x).length=rs.length:=List.length_map ..;have hf:=h.few;have e:stQ p.length rs k=zeV (nt p (rs.map Qw.x) ((k+1:Nat):Int)) (nt p (rs.map Qw.x) (k:Int)):=by
  rw [h.nt_low (by omega),h.nt_low (by omega)];unfold stQ zat zjl;rw [List.getElem?_cons_succ,List.getElem?_map]
  cases k with
  | zero=>rfl
  | succ j=>rw [if_neg (by omega),List.getElem?_cons_succ,List.getElem?_map,Nat.add_sub_cancel]
 rw [e];exact (h.nt_sub_quick _ _ (by omega) (by omega) (by omega) (by omega)).1
end
section
open Go.RowKit Go.Lib Go.Shelf
attribute [local go_sem] Oper.semAt_some
theorem zqu {w:World}{v:Value}{p:List Int}{rs:List Qw}(h:ScV w v p rs):∃ a c b d,v=.agg #[.slice a p.length c,.slice b rs.length d]∧ScV w (.agg #[.slice a p.length c,.slice b rs.length d]) p rs:=by
 obtain ⟨vp,vn,rfl,hp,hn⟩:=h;obtain ⟨a,c,rfl,_,_,_⟩:=hp.parts;obtain ⟨b,d,rfl,_,_,_⟩:=hn.1.parts;rw [zam] at *;rw [zf9] at *;exact ⟨a,c,b,d,rfl,_,_,rfl,hp,hn⟩
theorem zqv (va vb:Value)(p q:List Int)(w:World)(ha:Sl w va (zak p))(hb:Sl w vb (zak q))(hp:p.length≤1000)(hq:q.length≤1000) :
  Calls Tryz.prog 31 #[va,vb] w fun e w'=>e=.returned (.bool (decide (p=q)))∧Ext w w':=by
 obtain ⟨aa,ca,rfl,_,_,hca⟩:=ha.parts;obtain ⟨ab,cb,rfl,_,_,hcb⟩:=hb.parts;rw [zam] at *;rw [zam] at *;have h1:∀ k x,p[k]?=some x→∃ b off,aa=some ⟨b,off,none⟩∧w.cell? ⟨b,off+k,none⟩=some (.int .i64 x):=fun k x h=>hca k _ (by unfold zak;rw [List.getElem?_map,h];rfl);have h2:∀ k x,q[k]?=some x→∃ b off,ab=some ⟨b,off,none⟩∧w.cell? ⟨b,off+k,none⟩=some (.int .i64 x):=fun k x h=>hcb k _ (by unfold zak;rw [List.getElem?_map,h];rfl);clear hca hcb ha hb;by_cases hl:p.length=q.length
 ·have Hl:=hid hl;rw [← hl];have hfin:(∀ i,i<p.length→p[i]?=q[i]?)→decide (p=q)=true:=fun h=>by
   rw [decide_eq_true_eq];apply List.ext_getElem?;intro i;rcases Nat.lt_or_ge i p.length with g | g
   ·exact h i g
   ·rw [List.getElem?_eq_none g,List.getElem?_eq_none (by omega)]
  have hbad:∀ (i:Nat)(x y:Int),p[i]?=some x→q[i]?=some y→x ≠ y→decide (p=q)=false:=fun i x y h1 h2 h3=>by
   rw [decide_eq_false_iff_not];rintro rfl;rw [h1] at h2;exact h3 (Option.some.inj h2)
  generalize hn:p.length=n at *;clear hl hq;have H1:=hid h1;have H2:=hid h2;have Hfin:=hid hfin;have Hbad:=hid hbad;have Hn:=hid hn;clear h1 h2 hfin hbad hn;go_enter Tryz.func31,Tryz.ntmps31
  go_wp2_with fail
  go_loopw [5,13] (fun v5 v13 wr=>∃ k:Nat,v13=.int .i64 k∧k≤n∧Hid (∀ i,i<k→p[i]?=q[i]?)∧Hid (Ext w wr)) (fun _ v13 _=>n - (zag v13).toNat)
  case atStart=>exact ⟨0,rfl,Nat.zero_le _,hid (fun i h=>by omega),hid (Ext.refl _)⟩
  case round =>
   obtain ⟨k,rfl,hk,Hall,HE⟩:=hrel;by_cases hkn:k<n
   ·obtain ⟨x,hx⟩:∃ x,p[k]?=some x:=⟨_,List.getElem?_eq_getElem (by rw [Hn.out];exact hkn)⟩;obtain ⟨y,hy⟩:∃ y,q[k]?=some y:=⟨_,List.getElem?_eq_getElem (by rw [← Hl.out];exact hkn)⟩;obtain ⟨ba,oa,rfl,c0⟩:=H1.out k x hx;obtain ⟨bb,ob,rfl,c1⟩:=H2.out k y hy;have c0:=HE.out.cell c0;have c1:=HE.out.cell c1;have hk0:(0:Int)≤(k:Int):=(by omega);have hk1:(k:Int)<(n:Int):=(by omega);by_cases hxy:x=y
    ·subst hxy;have Hnx:Hid (∀ i,i<k+1→p[i]?=q[i]?):=hid (fun i hi=>by
      rcases Nat.lt_or_ge i k with g | g
      ·exact Hall.out i g
      ·rw [show i=k by omega,hx,hy])
     clear hx hy;go_wp2_with fail
     go_quiet (fail)
     go_wp2_with fail
     go_roundw
     case rel=>exact ⟨k+1,by go_num,by omega,Hnx,hid (HE.out.drewN _)⟩
     case measure=>simp [zag];omega
    ·have hb1:=Hbad.out k x y hx hy hxy;have hxb:(x == y)=false:=beq_eq_false_iff_ne.2 hxy;have Hb1:=hid hb1;clear hb1 hx hy;go_wp2_with fail
     go_quiet (fail)
     go_wp2
     go_ret
     exact ⟨by rw [Hb1.out];rfl,HE.out.drewN _⟩
   ·obtain rfl:n=k:=by omega
    have Hf:=hid (Hfin.out Hall.out);go_wp2
    go_ret
    exact ⟨by rw [Hf.out];rfl,HE.out⟩
 ·have hne:decide (p=q)=false:=by
   rw [decide_eq_false_iff_not];rintro rfl;exact hl rfl
  rw [hne];have hl2:¬ (p.length:Int)=(q.length:Int):=by omega
  clear h1 h2 hne;generalize p.length=n at *;generalize q.length=m at *;go_enter Tryz.func31,Tryz.ntmps31
  go_wp2
  go_ret
  exact ⟨rfl,Ext.refl _⟩
theorem zqw (va vb:Value)(rs ts:List Qw)(w:World)(ha:RdM w va rs)(hb:RdM w vb ts)(hr:rs.length≤1000)(_ht:ts.length≤1000)(hr2:∀ r∈rs,r.x.length≤1000)(ht2:∀ r∈ts,r.x.length≤1000) :
  Calls Tryz.prog 49 #[va,vb,.func (.func 23) #[] #[]] w fun e w'=>e=.returned (.bool (decide (rs.map Qw.x=ts.map Qw.x)))∧Ext w w':=by
 have heq:=fun (r s:Qw)(h:r∈rs)(k:s∈ts) W (hE:Ext w W)=>zkk r.u s.u r.x s.x W (hE.rd (ha.2 r h)) (hE.rd (hb.2 s k)) (hr2 r h) (ht2 s k);obtain ⟨aa,ca,rfl,_,_,hca⟩:=ha.1.parts;obtain ⟨ab,cb,rfl,_,_,hcb⟩:=hb.1.parts;rw [zf9] at *;rw [zf9] at *;have h1:∀ k r,rs[k]?=some r→∃ b off,aa=some ⟨b,off,none⟩∧w.cell? ⟨b,off+k,none⟩=some r.u:=fun k x h=>hca k _ (by unfold qwc;rw [List.getElem?_map,h];rfl);have h2:∀ k r,ts[k]?=some r→∃ b off,ab=some ⟨b,off,none⟩∧w.cell? ⟨b,off+k,none⟩=some r.u:=fun k x h=>hcb k _ (by unfold qwc;rw [List.getElem?_map,h];rfl);clear hca hcb ha hb hr2 ht2;by_cases hl:rs.length=ts.length
 ·have Hl:=hid hl;rw [← hl];have hfin:(∀ i,i<rs.length→(rs.map Qw.x)[i]?=(ts.map Qw.x)[i]?)→decide (rs.map Qw.x=ts.map Qw.x)=true:=fun h=>by
   rw [decide_eq_true_eq];apply List.ext_getElem?;intro i;rcases Nat.lt_or_ge i rs.length with g | g
   ·exact h i g
   ·rw [List.getElem?_eq_none (by rw [List.length_map];exact g),List.getElem?_eq_none (by rw [List.length_map];omega)]
  have hbad:∀ (i:Nat)(r s:Qw),rs[i]?=some r→ts[i]?=some s→r.x ≠ s.x→decide (rs.map Qw.x=ts.map Qw.x)=false:=fun i r s h1 h2 h3=>by
   rw [decide_eq_false_iff_not];intro e;have:=congrArg (fun l=>l[i]?) e;simp only [List.getElem?_map,h1,h2,Option.map_some,Option.some.injEq] at this;exact h3 this
  generalize hn:rs.length=n at *;clear hl _ht;have H1:=hid h1;have H2:=hid h2;have Hfin:=hid hfin;have Hbad:=hid hbad;have Hn:=hid hn;have Heq:=hid heq;clear h1 h2 hfin hbad hn heq;go_enter Tryz.func49,Tryz.ntmps49
  go_wp2_with fail
  go_loopw [7,8,9,17] (fun v7 v8 v9 v17 wr=>∃ k:Nat,v17=.int .i64 k∧k≤n∧Hid (∀ i,i<k→(rs.map Qw.x)[i]?=(ts.map Qw.x)[i]?)∧Hid (Ext w wr)) (fun _ _ _ v17 _=>n - (zag v17).toNat)
  case atStart=>exact ⟨0,rfl,Nat.zero_le _,hid (fun i h=>by omega),hid (Ext.refl _)⟩
  case round =>
   obtain ⟨k,rfl,hk,Hall,HE⟩:=hrel;by_cases hkn:k<n
   ·obtain ⟨r,hx⟩:∃ x,rs[k]?=some x:=⟨_,List.getElem?_eq_getElem (by rw [Hn.out];exact hkn)⟩;obtain ⟨s,hy⟩:∃ y,ts[k]?=some y:=⟨_,List.getElem?_eq_getElem (by rw [← Hl.out];exact hkn)⟩;obtain ⟨ba,oa,rfl,c0⟩:=H1.out k r hx;obtain ⟨bb,ob,rfl,c1⟩:=H2.out k s hy;have c0:=HE.out.cell c0;have c1:=HE.out.cell c1;have hk0:(0:Int)≤(k:Int):=(by omega);have hk1:(k:Int)<(n:Int):=(by omega);have hq:=Heq.out r s (List.mem_of_getElem? hx) (List.mem_of_getElem? hy) wr HE.out;by_cases hxy:r.x=s.x
    ·have Hnx:Hid (∀ i,i<k+1→(rs.map Qw.x)[i]?=(ts.map Qw.x)[i]?):=hid (fun i hi=>by
      rcases Nat.lt_or_ge i k with g | g
      ·exact Hall.out i g
      ·rw [show i=k by omega,List.getElem?_map,List.getElem?_map,hx,hy,Option.map_some,Option.map_some,hxy])
     rw [decide_eq_true hxy] at hq;have Hq:=hid hq;clear hx hy hq hxy;generalize r.u=ur at *;generalize s.u=us at *;go_wp2_with fail
     refine Hq.out.mono ?_;rintro e w2 ⟨rfl,hx2⟩;have HE2:=hid (HE.out.trans hx2);clear hx2;go_wp2_with fail
     go_roundw
     case rel=>exact ⟨k+1,by go_num,by omega,Hnx,HE2⟩
     case measure=>simp [zag];omega
    ·have hb1:=Hbad.out k r s hx hy hxy;rw [decide_eq_false hxy] at hq;have Hb1:=hid hb1;have Hq:=hid hq;clear hb1 hx hy hq hxy;generalize r.u=ur at *;generalize s.u=us at *;go_wp2_with fail
     refine Hq.out.mono ?_;rintro e w2 ⟨rfl,hx2⟩;have HE2:=hid (HE.out.trans hx2);clear hx2;go_wp2
     go_ret
     exact ⟨by rw [Hb1.out];rfl,HE2.out⟩
   ·obtain rfl:n=k:=by omega
    have Hf:=hid (Hfin.out Hall.out);go_wp2
    go_ret
    exact ⟨by rw [Hf.out];rfl,HE.out⟩
 ·have hne:decide (rs.map Qw.x=ts.map Qw.x)=false:=by
   rw [decide_eq_false_iff_not];intro e;have:=congrArg List.length e;rw [List.length_map,List.length_map] at this;exact hl this
  rw [hne];have hl2:¬ (rs.length:Int)=(ts.length:Int):=by omega
  clear h1 h2 hne heq;generalize rs.length=n at *;generalize ts.length=m at *;go_enter Tryz.func49,Tryz.ntmps49
  go_wp2
  go_ret
  exact ⟨rfl,Ext.refl _⟩
theorem zqx (v1 v2:Value)(p q:List Int)(rs ts:List Qw)(w:World)(h1:ScV w v1 p rs)(h2:ScV w v2 q ts)(hp:p.length≤1000)(hq:q.length≤1000)(hr:rs.length≤1000)(ht:ts.length≤1000)(hr2:∀ r∈rs,r.x.length≤1000)(ht2:∀ r∈ts,r.x.length≤1000) :
  Calls Tryz.prog 14 #[v1,v2] w fun e w'=>e=.returned (.bool (decide (p=q) && decide (rs.map Qw.x=ts.map Qw.x)))∧Ext w w':=by
 obtain ⟨vp,vn,rfl,hp1,hn1⟩:=h1;obtain ⟨vq,vm,rfl,hq1,hm1⟩:=h2;have he1:=fun W (hE:Ext w W)=>zqv vp vq p q W (hE.sl hp1) (hE.sl hq1) hp hq;have he2:=fun W (hE:Ext w W)=>zqw vn vm rs ts W (hE.rdM hn1) (hE.rdM hm1) hr ht hr2 ht2;obtain ⟨ap,cp,rfl,_,_,_⟩:=hp1.parts;obtain ⟨aq,cq,rfl,_,_,_⟩:=hq1.parts;obtain ⟨an,cn,rfl,_,_,_⟩:=hn1.1.parts;obtain ⟨am,cm,rfl,_,_,_⟩:=hm1.1.parts;generalize (zak p).length=lp at *;generalize (zak q).length=lq at *;generalize (qwc rs).length=ln at *;generalize (qwc ts).length=lm at *;generalize decide (p=q)=b1 at *;generalize decide (rs.map Qw.x=ts.map Qw.x)=b2 at *;have hE0:Ext w ((w.alloc (.cells #[.slice ap lp cp,.slice an ln cn] 36)).alloc (.cells #[.slice aq lq cq,.slice am lm cm] 36)):=((Ext.refl w).alloc _).alloc _;have k1:=(zdV.new 36 w (.slice ap lp cp) (.slice an ln cn)).ext ((Ext.refl _).alloc (.cells #[.slice aq lq cq,.slice am lm cm] 36));have k2:=zdV.new 36 (w.alloc (.cells #[.slice ap lp cp,.slice an ln cn] 36)) (.slice aq lq cq) (.slice am lm cm);rw [World.size_alloc] at k2;have q0:=k1.c0;have q2:=k2.c0;have He1:=hid he1;have He2:=hid he2;have HE0:=hid hE0;have K1:=hid k1;have K2':=hid k2;clear hp1 hq1 hn1 hm1 he1 he2 hE0 k1 k2 hr2 ht2
 cases b1
 ·go_enter Tryz.func14,Tryz.ntmps14
  go_wp2_with fail
  refine (He1.out _ HE0.out).mono ?_;rintro e w1 ⟨rfl,hx1⟩;have Hx1:=hid (HE0.out.trans hx1);clear hx1;go_wp2
  go_ret
  exact ⟨rfl,Hx1.out⟩
 ·go_enter Tryz.func14,Tryz.ntmps14
  go_wp2_with fail
  refine (He1.out _ HE0.out).mono ?_;rintro e w1 ⟨rfl,hx1⟩;have q1:=(K1.out.ext hx1).c1;have q3:=(K2'.out.ext hx1).c1;have Hx1:=hid (HE0.out.trans hx1);clear hx1 q0 q2;go_wp2_with fail
  refine (He2.out _ Hx1.out).mono ?_;rintro e w2 ⟨rfl,hx2⟩;have Hx2:=hid (Hx1.out.trans hx2);clear hx2 q1 q3;go_wp2
  go_ret
  exact ⟨rfl,Hx2.out⟩
theorem zqy {w:World}{v:Value}{x:List Rat}{n:Nat}(h:Rd w v x)(hn:x.length=n):∃ a c,v=.slice a n c∧Rd w (.slice a n c) x:=by
 obtain ⟨a,c,rfl,_,_,_⟩:=h.parts;rw [hn] at *;exact ⟨a,c,rfl,h⟩
theorem zqz (w:World)(he:Env w) :
  Calls Tryz.prog 6 #[] w fun e w'=>e=.returned (.bool true)∧Ext w w':=by
 have hwh:=fun W v (l:List Int)(hE:Ext w W)(hv:Sl W v (zak l))(h9:l.length≤1000)(hl:∀ z∈l,z.natAbs<1000000000)=>zkB v l W (he.ext hE) hv h9 hl;have hw2:=fun W (a b:Int)(hE:Ext w W)(ha:a.natAbs<1000000000)(hb:b.natAbs<1000000000)=>hwh (W.alloc (.cells #[.int .i64 a,.int .i64 b] 3)) (.slice (some ⟨W.heap.size,0,none⟩) 2 2) [a,b] (hE.alloc _) (zin (us:=[.int .i64 a,.int .i64 b]) (World.alloc_heap_new W _) (by unfold maxLen;simp)) (by simp) (fun z hz=>by
  simp only [List.mem_cons,List.not_mem_nil,or_false] at hz;rcases hz with rfl | rfl <;> assumption)
 have hch:=fun W vp vb vg (hE:Ext w W)(hp:Sl W vp (zak [2,3]))(hb:Rd W vb (zk8 [1,0]))(hg:Rd W vg (zk8 [-1,1]))=>zk7 vp vb vg [2,3] 10 (zk8 [-1,1]) (-1) 6 W (he.ext hE) hp hb hg rfl (fun q hq=>(zqm.quick (zk8 [-1,1]) (by rw [zqh];decide +kernel)).1 q hq) (by omega) (by omega) (by omega) (by omega) zqm;have hst:=fun W v rs (hE:Ext w W)(hv:ScV W v [2,3] rs)(hx:rs.map Qw.x=zqe)=>zn3 v [2,3] rs W (he.ext hE) hv (Wd.right (by rw [hx];exact zqp)) (by decide) (Wd.step_ft (by rw [hx];exact zqp));have hmj:=fun W (hE:Ext w W)=>zqf W (he.ext hE);have hre:=fun W v rs va (hE:Ext w W)(hv:ScV W v [2,3] rs)(hx:rs.map Qw.x=zqe)(ha:Rd W va (zk8 [0,-1]))=>(show Calls Tryz.prog 17 #[v,va] W fun e w'=>∃ g,e=.returned (.tuple #[.slice (some ⟨g,0,none⟩) 2 2,.string ⟨#[45,50]⟩,.int .i64 0])∧Rd w' (.slice (some ⟨g,0,none⟩) 2 2) (zk8 [2,-1])∧Ext W w' from by
  have hlen:rs.length=6+1:=by have:=congrArg List.length hx;rw [List.length_map] at this;exact this
  obtain ⟨r,hr⟩:∃ r,rs[6]?=some r:=⟨_,List.getElem?_eq_getElem (by omega)⟩;have hro:r.x=ov 1:=by
   have:=congrArg (fun l=>l[6]?) hx;simp only [List.getElem?_map,hr,Option.map_some] at this;exact (Option.some.inj this).trans (by decide +kernel)
  have hred:=zqt.red (x:=zk8 [0,-1]) (by simp);obtain ⟨a,tl,e,hk⟩:=hred;have e2:a=((0:Int):Rat)∧tl=[((-1:Int):Rat)]:=by
   have:zk8 [0,-1]=((0:Int):Rat)::[((-1:Int):Rat)]:=rfl;rw [this] at e;injection e with e3 e4;exact ⟨e3.symm,e4.symm⟩
  obtain ⟨rfl,rfl⟩:=e2;have:=zjq v va [2,3] rs 6 r ((0:Int):Rat) [((-1:Int):Rat)] W (he.ext hE) hv (Wd.right (by rw [hx];exact zqp)) hlen hr hro ha hk.pr hk.ft hk.qf hk.fk hk.fit (by rw [hk.eq];exact hk.res);rw [hk.eq,show flP [2,3] (((0:Int):Rat)::[((-1:Int):Rat)])=-2 from zqq,show rst [2,3] (((0:Int):Rat)::[((-1:Int):Rat)])=zk8 [2,-1] from zqr] at this;refine this.mono ?_;rintro e w' ⟨g,rfl,ho,hx⟩;exact ⟨g,by rw [show I (-2)=⟨#[45,50]⟩ from by decide +kernel];rfl,ho.rd,hx⟩)
 have Hw2:=hid hw2;have Hch:=hid hch;have Hst:=hid hst;have Hmj:=hid hmj;have Hre:=hid hre;clear hw2 hch hst hmj hre he;obtain ⟨W0,hW0⟩:∃ W0,W0=w.alloc (.cells #[.int .i64 2,.int .i64 3] 3):=⟨_,rfl⟩;have hpr:Sl W0 (.slice (some ⟨w.heap.size,0,none⟩) 2 2) (zak [2,3]):=by
  rw [hW0];exact zin (us:=[.int .i64 2,.int .i64 3]) (World.alloc_heap_new w _) (by unfold maxLen;simp)
 have hx0:Ext w W0:=by rw [hW0];exact (Ext.refl w).alloc _
 have hsz0:W0.heap.size=w.heap.size+1:=by rw [hW0,World.size_alloc]
 have hc1:=Hw2.out W0 1 0 hx0 (by decide) (by decide);rw [hsz0] at hc1;have Hc1:=hid hc1;have Hpr:=hid hpr;have Hx0:=hid hx0;clear hc1 hpr hx0 hsz0;go_enter Tryz.func6,Tryz.ntmps6
 go_wp2_with fail
 rw [← hW0];clear hW0;refine Hc1.out.mono ?_;rintro e w1 ⟨u1,rfl,ho1,hx1⟩;obtain ⟨a1,c1,rfl,_,_,_⟩:=ho1.rd.parts;rw [show (zk8 [1,0]).length=2 from rfl] at *;have Hx1:=hid (Hx0.out.trans (((Ext.refl W0).alloc _).trans hx1));have Hr1:=hid ho1.rd;have Hpr:=hid ((((Ext.refl W0).alloc (.cells #[.int .i64 1,.int .i64 0] 3)).trans hx1).sl Hpr.out);clear ho1 hx1;go_wp2_with fail
 refine (Hw2.out w1 (-1) 1 Hx1.out (by decide) (by decide)).mono ?_;rintro e w2 ⟨u2,rfl,ho2,hx2⟩;obtain ⟨a2,c2,rfl,_,_,_⟩:=ho2.rd.parts;rw [show (zk8 [-1,1]).length=2 from rfl] at *;have hy2:=((Ext.refl w1).alloc (.cells #[.int .i64 (-1),.int .i64 1] 3)).trans hx2;have hch2:=Hch.out w2 (.slice (some ⟨w.heap.size,0,none⟩) 2 2) (.slice a1 2 c1) (.slice a2 2 c2) (Hx1.out.trans hy2) (hy2.sl Hpr.out) (hy2.rd Hr1.out) ho2.rd;rw [show (-1:Int)+((6:Nat):Int)=5 from rfl] at hch2;have Hx2:=hid (Hx1.out.trans hy2);have Hch2:=hid hch2;clear ho2 hx2 hy2 hch2;go_wp2_with fail
 refine Hch2.out.mono ?_;rintro e w3 ⟨v3,out3,rfl,hs3,hc3,hx3⟩;have hm3:=zjU hc3 zqo;obtain ⟨vp3,vn3,rfl,hop3,hqn3⟩:=hs3;obtain ⟨a3,c3,rfl⟩:=zel hop3;obtain ⟨a4,c4,rfl⟩:=zel hqn3.1;have hl3:out3.length=7:=by have:=congrArg List.length hm3;rw [List.length_map] at this;exact this
 have hsv3:ScV w3 (.agg #[.slice a3 2 c3,.slice a4 7 c4]) [2,3] out3:=by
  refine ⟨_,_,rfl,zai hop3,?_⟩;have:=hqn3.rd;rw [hl3] at this;exact this
 rw [hl3] at hqn3 ⊢;have hb3:=zdV.new 36 w3 (.slice a3 2 c3) (.slice a4 7 c4);have hE3:Ext w3 (w3.alloc (.cells #[.slice a3 2 c3,.slice a4 7 c4] 36)):=(Ext.refl w3).alloc _;have hst3:=Hst.out _ _ out3 ((Hx2.out.trans hx3).trans hE3) (hsv3.ext hE3) hm3;rw [hl3] at hst3;have Hx3:=hid ((Hx2.out.trans hx3).trans hE3);have Hsv3:=hid (hsv3.ext hE3);have Hm3:=hid hm3;have Hb3:=hid hb3;have Hst3:=hid hst3;clear hx3 hsv3 hm3 hb3 hE3 hst3 hc3 hop3 hqn3 hl3;go_wp2_with fail
 refine Hst3.out.mono ?_;rintro e w5 ⟨u5,rfl,⟨out5,hq5,hm5,hl5,hx5⟩⟩;obtain ⟨a5,c5,rfl⟩:=zel hq5.1;have hr5:=hq5.rd;rw [hl5] at hr5 ⊢;have hb5:=Hb3.out.ext hx5;have Hx5:=hid (Hx3.out.trans hx5);have Hsv5:=hid (Hsv3.out.ext hx5);have Hb5:=hid hb5;have Hr5:=hid hr5;have Hm5:=hid hm5;have Hl5:=hid hl5;clear hq5 hm5 hl5 hx5 hr5 hb5;go_wp2_with fail
 refine (Hmj.out w5 Hx5.out).mono ?_;rintro e w6 ⟨v6,rs6,rfl,hs6,hm6,hx6⟩;obtain ⟨vp6,vn6,rfl,hp6,hn6⟩:=hs6;obtain ⟨a6,c6,rfl,_,_,_⟩:=hp6.parts;obtain ⟨a7,c7,rfl,_,_,_⟩:=hn6.1.parts;have hl6:rs6.length=7:=by have:=congrArg List.length hm6;rw [List.length_map] at this;exact this
 have hq6:(qwc rs6).length=7:=by rw [zf9];exact hl6
 rw [hq6] at hn6 ⊢;rw [show (zak [2,3]).length=2 from rfl] at hp6 ⊢;clear hq6;have hsv6:ScV w6 (.agg #[.slice a6 2 c6,.slice a7 7 c7]) [2,3] rs6:=⟨_,_,rfl,hp6,hn6⟩;have Hx6:=hid (Hx5.out.trans hx6);have Hsv6:=hid hsv6;have Hm6:=hid hm6;have Hy6:=hid hx6;clear hp6 hn6 hl6 hsv6 hm6 hx6;go_wp2_with fail
 refine (Hw2.out w6 0 (-1) Hx6.out (by decide) (by decide)).mono ?_;rintro e w7 ⟨u7,rfl,ho7,hx7⟩;obtain ⟨a8,c8,rfl,_,_,_⟩:=ho7.rd.parts;rw [show (zk8 [0,-1]).length=2 from rfl] at *;have hy7:=((Ext.refl w6).alloc (.cells #[.int .i64 0,.int .i64 (-1)] 3)).trans hx7;have hre7:=Hre.out w7 _ rs6 (.slice a8 2 c8) (Hx6.out.trans hy7) (Hsv6.out.ext hy7) Hm6.out ho7.rd;have Hx7:=hid (Hx6.out.trans hy7);have Hre7:=hid hre7;have Hy7:=hid (Hy6.out.trans hy7);clear ho7 hx7 hy7 hre7;go_wp2_with fail
 refine Hre7.out.mono ?_;rintro e w9 ⟨g9,rfl,hr9,hx9⟩;have hy9:=Hy7.out.trans hx9;have hb9:=Hb5.out.ext hy9;have hrm9:=hy9.rdM Hr5.out;obtain ⟨s,hs⟩:∃ s,out5[2]?=some s:=⟨_,List.getElem?_eq_getElem (by rw [Hl5.out];omega)⟩;have hsx:s.x=zk8 [8,-5]:=by
  have h1:=congrArg (fun l=>l[2]?) Hm5.out;simp only [List.getElem?_map,hs,Option.map_some] at h1;have h2:(zn0 2 out3 7)[2]?=some (stQ 2 out3 2):=rfl;have h3:stQ 2 out3 2=zk8 [8,-5]:=by
   have e2:=congrArg (fun l=>l[2]?) Hm3.out;have e1:=congrArg (fun l=>l[1]?) Hm3.out;simp only [List.getElem?_map] at e1 e2;unfold stQ zjl;rw [if_neg (by omega),e2];show zeV _ ((Option.map Qw.x out3[1]?).getD [])=_;rw [e1];exact zqs
  rw [← h3];exact Option.some.inj (h1.trans h2)
 have hrs:=hrm9.2 s (List.mem_of_getElem? hs);rw [hsx] at hrs;obtain ⟨ae,ce,hsu,_,_,_⟩:=hrs.parts;rw [show (zk8 [8,-5]).length=2 from rfl] at hsu;obtain ⟨_,_,e1,_,_,hcl⟩:=hrm9.1.parts;injection e1 with e1 e2 e3;subst e1;clear e2 e3;obtain ⟨be,oe,rfl,hce⟩:=hcl 2 s.u (by unfold qwc;rw [List.getElem?_map,hs];rfl);rw [hsu] at hrs hce;have q0:=hb9.c0;have q1:=hb9.c1;have hsv9:=Hsv5.out.ext hy9;have hsame:=fun W v rs (hE:Ext w9 W)(hv:ScV W v [2,3] rs)(hm:rs.map Qw.x=zqe)=>(show Calls Tryz.prog 14 #[.agg #[.slice a3 2 c3,.slice a4 7 c4],v] W fun e w'=>e=.returned (.bool true)∧Ext W w' from by
  have hlm:∀ ts:List Qw,ts.map Qw.x=zqe→ts.length=7∧∀ r∈ts,r.x.length≤1000:=fun ts h=>by
   refine ⟨by have:=congrArg List.length h;rw [List.length_map] at this;exact this,fun r hr=>?_⟩;have:=List.mem_map_of_mem (f:=Qw.x) hr;rw [h] at this;have:=zqp.len _ this;rw [this];decide
  have h1:=hlm out3 Hm3.out;have h2:=hlm rs hm;have:=zqx (.agg #[.slice a3 2 c3,.slice a4 7 c4]) v [2,3] [2,3] out3 rs W (hsv9.ext hE) hv (by decide) (by decide) (by omega) (by omega) h1.2 h2.2;rw [decide_eq_true rfl,decide_eq_true (Hm3.out.trans hm.symm)] at this;exact this)
 have heq1:=fun W vb (hE:Ext w9 W)(hb:Rd W vb (zk8 [8,-5]))=>(show Calls Tryz.prog 23 #[.slice ae 2 ce,vb] W fun e w'=>e=.returned (.bool true)∧Ext W w' from by
  have:=zkk (.slice ae 2 ce) vb (zk8 [8,-5]) (zk8 [8,-5]) W (hE.rd hrs) hb (by decide) (by decide);rwa [decide_eq_true rfl] at this)
 have heq2:=fun W vb (hE:Ext w9 W)(hb:Rd W vb (zk8 [2,-1]))=>(show Calls Tryz.prog 23 #[.slice (some ⟨g9,0,none⟩) 2 2,vb] W fun e w'=>e=.returned (.bool true)∧Ext W w' from by
  have:=zkk (.slice (some ⟨g9,0,none⟩) 2 2) vb (zk8 [2,-1]) (zk8 [2,-1]) W (hE.rd hr9) hb (by decide) (by decide);rwa [decide_eq_true rfl] at this)
 have hS:=fun W (h:Ext w9 W)=>(⟨h,h.cell q0,h.cell q1,h.cell hce⟩:Ext w9 W∧W.cell? _=_∧W.cell? _=_∧W.cell? _=_);have Hx9:=hid (Hx7.out.trans hx9);have Hsame:=hid hsame;have Heq1:=hid heq1;have Heq2:=hid heq2;have HS:=hid hS;have Hwh:=hid hwh;clear hx9 hy9 hb9 hrm9 hs hsx hrs hsu hcl hsv9 hsame heq1 heq2 hS hr9 hwh;go_wp2_with fail
 have H0:Hid (Ext w9 w9):=hid (Ext.refl w9);go_region_held3 (fun w'=>Ext w9 w'∧w'.cell? ⟨w3.heap.size,0,none⟩=some (.slice a3 2 c3)∧w'.cell? ⟨w3.heap.size,1,none⟩=some (.slice a4 7 c4)∧w'.cell? ⟨be,oe+2,none⟩=some (.slice ae 2 ce))
  (first | with_reducible exact HS.out _ HF.out | with_reducible exact HS.out _ HE'.out | with_reducible exact HS.out _ (HD.out.alloc _) | with_reducible exact HS.out _ HD.out | with_reducible exact HS.out _ HC.out | with_reducible exact HS.out _ (HB.out.alloc _) | with_reducible exact HS.out _ HB.out | with_reducible exact HS.out _ HA.out | with_reducible exact HS.out _ (H0.out.drew))
  (first
   | (have hpv:=HE';clear hpv;go_at_call 23;refine (Heq2.out _ _ HE'.out HrE.out).mono ?_;rintro e9 VF ⟨rfl,hxf⟩;have HF:=hid (HE'.out.trans hxf);clear hxf)
   | (have hpv:=HD;clear hpv;go_at_call 33;refine (Hw2.out VD 2 (-1) (Hx9.out.trans HD.out) (by decide) (by decide)).mono ?_;rintro e9 VE ⟨uE,rfl,hoE,hxe⟩;obtain ⟨aE,cE,rfl,hrE⟩:=zqy hoE.rd rfl;have HE':=hid ((HD.out.alloc _).trans hxe);have HrE:=hid hrE;clear hxe hoE hrE)
   | (have hpv:=HC;clear hpv;go_at_call 23;refine (Heq1.out _ _ HC.out HrC.out).mono ?_;rintro e9 VD ⟨rfl,hxd⟩;have HD:=hid (HC.out.trans hxd);clear hxd)
   | (have hpv:=HB;clear hpv;go_at_call 33;refine (Hw2.out VB 8 (-5) (Hx9.out.trans HB.out) (by decide) (by decide)).mono ?_;rintro e9 VC ⟨uC,rfl,hoC,hxc⟩;obtain ⟨aC,cC,rfl,hrC⟩:=zqy hoC.rd rfl;have HC:=hid ((HB.out.alloc _).trans hxc);have HrC:=hid hrC;clear hxc hoC hrC)
   | (have hpv:=HA;clear hpv;go_at_call 14;refine (Hsame.out _ _ rsA HA.out HsA.out HmA.out).mono ?_;rintro e9 VB ⟨rfl,hxb⟩;have HB:=hid (HA.out.trans hxb);clear hxb)
   | (go_at_call 35;refine (Hmj.out _ Hx9.out.drew).mono ?_;rintro e9 VA ⟨vA,rsA,rfl,hsA,hmA,hxa⟩;obtain ⟨b7,b8,b9,b10,rfl,hsA⟩:=zqu hsA;have HA:=hid (H0.out.drew.trans hxa);have HsA:=hid hsA;have HmA:=hid hmA;clear hxa hsA hmA))
 all_goals
  go_wp2
  go_ret
  exact ⟨rfl,Hx9.out.trans HF.out⟩
end
section
open Go.RowKit Go.Lib
theorem zq0 {P:Program}(w:World){ops:Array Oper}{o:Oper}{a:Act}{K:Act→World→Prop}{Q:Exit→Act→World→Prop}{E:Prop}(hgd:o.guard=none)(s x:Operand)(t:TypeId)
  (ho:o.op=.call { callee:=.builtin .append,args:=#[s,x],argTypes:=#[t,t] })
  (base:Nat) (e:TypeId) (i:TypeInfo) (z:Value) (size bytes:Nat) (ht:P.underlying t=some (.slice e)) (hi:P.info? e=some i) (hz:i.zero=some z)
  (hsize:i.size=size) (hby:i.bytes=bytes) (hzs:z.cells.size=size) (hsz:0<size)
  (v:Value) (n:Nat) (xs:List Value) (hs:a.eval s=v) (hown:w.ownsRow base e size v n xs)
  (ao:Option Addr) (m c:Nat) (news:List Value) (hx:a.eval x=.slice ao m c) (hnone:ao=none→m=0∧c=0) (hl:news.length=m * size) (hnews:∀ ad,ao=some ad→∀ j u,news[j]?=some u→w.cell? (ad.add j)=some u) (h1:∀ u∈news,u.oneCell'=true)
  (h63:n+m≤maxLen) (hbytes:(n+m) * bytes≤140737488355328) (hbase:base≤w.heap.size)
  (h:∀ v' w',w'.ownsRow base e size v' (n+m) (xs++news)→w.grownBy w' v.ownBlock→K (a.put o.dst v') w') :
  if Region.wanted o (yielded ops a.tmps)=true then Oper.wp P o a w K Q else E:=by
 have hw:Region.wanted o (yielded ops a.tmps)=true:=by simp [Region.wanted,hgd]
 rw [if_pos hw]
 cases ao with
 | none =>
  obtain ⟨rfl,rfl⟩:=hnone rfl
  obtain rfl:news=[]:=List.eq_nil_of_length_eq_zero (by simpa using hl)
  have hr:=run_append_owned_none (P:=P) (w:=w) base t o.type e i size ht hi v n xs hown
  unfold Oper.wp
  simp [execOp,ho,resolve,invoke,builtin,hs,hx,hr,Result.andThen]
  exact h v w (by rw [List.append_nil];exact hown) ⟨rfl,rfl,rfl,Nat.le_refl _,fun _ _ _=>rfl⟩
 | some ad =>
  obtain ⟨v',w',hr,h2,h3,_⟩:=run_append_own (P:=P) w base t o.type e i z size bytes ht hi hz hsize hby hzs hsz v n xs hown ad m c news hl (hnews ad rfl) h1 h63 hbytes hbase
  unfold Oper.wp
  simp [execOp,ho,resolve,invoke,builtin,hs,hx,hr,Result.andThen]
  exact h v' w' h2 h3
end
end Go.Proofs.YtbkfhacmekbniaaGreatDoor
