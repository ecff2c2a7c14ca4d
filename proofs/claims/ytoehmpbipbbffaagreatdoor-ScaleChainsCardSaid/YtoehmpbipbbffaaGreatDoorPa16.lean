/- Walks: scale's checkPeriod at the octave. Walks: a scale as a value; its period. Walk: scale.Check of a right scale. Walk: scale.open of a right scale and a right size. Walk: scale.Reduce of a right scale with the octave as its period. Plain: right scales over 2.3 and 2.3.5, told by the differences of their notes; notes, modes, subsets. -/
import Derived.Test.YtoehmpbipbbffaaGreatDoorPa15
import Derived.Test.YtoehmpbipbbffaaGreatDoorPa14
import Derived.Deep.RegionHeld3
import Derived.Deep.DeepCutAuto
set_option maxRecDepth 100000
set_option maxHeartbeats 4000000
namespace Go.Proofs.YtoehmpbipbbffaaGreatDoor
section
open Go.RowKit Go.Lib
attribute [local go_sem] Oper.semAt_some
theorem ziG (vp vb:Value)(p:List Int)(n:Nat)(w:World)(he:Env w)(hp:Sl w vp (zak p))(hb:Rd w vb (ov n))(hpe:zee p=0)(hpr:Pr p (n+1)) :
  Calls Tryz.prog 19 #[vp,vb] w fun e w'=>e=.returned (.int .i64 0)∧Ext w w':=by
 have hpl:=zir hpr;have hov:=ziq hpr;have hpl3:p.length≤3:=by rcases hpr with ⟨rfl,_⟩ | ⟨rfl,_⟩ <;> simp
 have h1:=zic vp vb p (ov n) w he hp hb hpe (by omega) (by rw [zit,hpl]) (fun q h=>(zis q h).mono (by omega)) (by
  rw [hov.1];intro e h;rw [List.mem_singleton] at h;subst h;exact ⟨.inl rfl,by decide,by decide⟩) (by rw [hov.1];right;decide)
 rw [hov.1,show zfc [(2,1)]=1 by decide] at h1;obtain ⟨ap,cp,rfl,_,_,_⟩:=hp.parts;obtain ⟨ab,cb,rfl,_,_,_⟩:=hb.parts;clear hp hb he hpe hpr hov hpl hpl3;have H1:=hid h1;clear h1;go_enter Tryz.func19,Tryz.ntmps19
 go_wp2_with fail
 refine (H1.out).mono ?_;rintro e w1 ⟨rfl,hx1⟩;have Hx1:=hid hx1;clear hx1;go_wp2
 go_ret
 exact ⟨rfl,Hx1.out⟩
def ScV (w:World)(v:Value)(p:List Int)(rs:List Qw):Prop:=∃ vp vn,v=.agg #[vp,vn]∧Sl w vp (zak p)∧RdM w vn rs
theorem ScV.ext {w w':World}{v:Value}{p:List Int}{rs:List Qw}(h:ScV w v p rs)(hx:Ext w w'):ScV w' v p rs:=by
 obtain ⟨vp,vn,e,a,b⟩:=h;exact ⟨vp,vn,e,hx.sl a,hx.rdM b⟩
theorem ziH (v:Value)(p:List Int)(rs:List Qw)(n:Nat)(r:Qw)(w:World)(hv:ScV w v p rs)(hn:rs.length=n+1)(hl:n≤1000)(hr:rs[n]?=some r) :
  Calls Tryz.prog 42 #[v] w fun e w'=>e=.returned r.u∧Ext w w':=by
 obtain ⟨vp,vn,rfl,hp,hs,hm⟩:=hv;obtain ⟨ap,cp,rfl,_,_,_⟩:=hp.parts;obtain ⟨an,cn,rfl,_,_,hc⟩:=hs.parts;obtain ⟨b,off,rfl,hc0⟩:=hc n r.u (by unfold qwc;rw [List.getElem?_map,hr];rfl);obtain ⟨ar,cr,hru,_,_,_⟩:=(hm r (List.mem_of_getElem? hr)).parts;rw [zf7,hn];rw [hru] at hc0 ⊢;generalize r.x.length=k at *;have hE:Ext w (w.alloc (.cells #[.slice ap (zak p).length cp,.slice (some ⟨b,off,none⟩) (n+1) cn] 36)):=(Ext.refl w).alloc _;have hc1:=hE.cell hc0;have hi0:(0:Int)≤(n:Int):=by omega
 have hi1:(n:Int)<((n+1:Nat):Int):=by omega
 have hw:((n+1:Nat):Int) - 1=(n:Int):=by omega
 have HE:=hid hE;clear hp hs hm hc hc0 hE hr hn hru;go_enter Tryz.func42,Tryz.ntmps42
 go_wp2
 go_ret
 exact ⟨rfl,HE.out⟩
def ziI (n:Nat)(rs:List Qw)(k:Nat):List Rat:=if k=0 then List.replicate n 0 else ((rs[k - 1]?).map Qw.x).getD []
structure ziJ (p:List Int)(rs:List Qw):Prop where
 pe:zee p=0
 few:p.length≤100
 ne:rs.length ≠ 0
 most:rs.length≤60
 len:∀ r∈rs,r.x.length=p.length
 ft:∀ r∈rs,∀ q∈r.x,Ft 30 q
 quick:∀ k r,rs[k]?=some r→zid p (zeT (ziI p.length rs k) r.x)
 up:∀ k r,rs[k]?=some r→zfc (tms p (dn (zeT (ziI p.length rs k) r.x)) (zeT (ziI p.length rs k) r.x))=-1
theorem ziK (v:Value)(p:List Int)(rs:List Qw)(w:World)(he:Env w)(hv:ScV w v p rs)(h:ziJ p rs) :
  Calls Tryz.prog 37 #[v] w fun e w'=>e=.returned (.int .i64 0)∧Ext w w':=by
 obtain ⟨vp,vn,rfl,hp,hs,hm⟩:=hv;have hpl:=h.few;have h0:=h.ne;have h60:=h.most;have hpr:=fun W (hE:Ext w W)=>zef vp p W (hE.sl hp) (by omega);rw [h.pe] at hpr;have hz:=fun W (hE:Ext w W)=>zhT vp p W (he.ext hE) (hE.sl hp) h.pe;have hck:=fun (r:Qw)(hr:r∈rs) W (hE:Ext w W)=>zfO vp r.u p r.x W (he.ext hE) (hE.sl hp) (hE.rd (hm r hr)) h.pe (h.len r hr) (h.ft r hr);have hcm:=fun k (r:Qw)(hr:rs[k]?=some r) vb W (hE:Ext w W)(hb:Rd W vb (ziI p.length rs k))(hbl:(ziI p.length rs k).length=p.length)(hbf:∀ q∈ziI p.length rs k,Ft 30 q) =>
  zif vp vb r.u p (ziI p.length rs k) r.x W (he.ext hE) (hE.sl hp) hb (hE.rd (hm r (List.mem_of_getElem? hr))) h.pe hpl hbl (h.len r (List.mem_of_getElem? hr)) hbf (h.ft r (List.mem_of_getElem? hr)) (h.quick k r hr)
 have hpv:∀ k,k≤rs.length→(ziI p.length rs k).length=p.length∧∀ q∈ziI p.length rs k,Ft 30 q:=fun k hk=>by
  unfold ziI;by_cases h1:k=0
  ·rw [if_pos h1];refine ⟨List.length_replicate,fun q hq=>?_⟩;obtain rfl:=List.eq_of_mem_replicate hq;exact zhA.mono (by omega)
  ·rw [if_neg h1,List.getElem?_eq_getElem (by omega)];exact ⟨h.len _ (List.getElem_mem _),h.ft _ (List.getElem_mem _)⟩
 have hup:=h.up;have hln:=h.len;have hone:=fun (r:Qw)(hr:r∈rs)=>(hm r hr).parts;have hm2:=fun (r:Qw)(hr:r∈rs) W (hE:Ext w W)=>hE.rd (hm r hr);obtain ⟨ap,cp,rfl,_,_,_⟩:=hp.parts;obtain ⟨an,cn,rfl,_,_,hc⟩:=hs.parts;rw [zam] at hpr hz hck hcm ⊢;rw [zf7];have bx:(w.alloc (.cells #[.slice ap p.length cp,.slice an rs.length cn] 36)).heap[w.heap.size]?=some (.cells #[.slice ap p.length cp,.slice an rs.length cn] 36 (0,0)):=World.alloc_heap_new w _;have hE0:Ext w (w.alloc (.cells #[.slice ap p.length cp,.slice an rs.length cn] 36)):=(Ext.refl w).alloc _;have hbox:∀ W,Ext (w.alloc (.cells #[.slice ap p.length cp,.slice an rs.length cn] 36)) W→W.cell? ⟨w.heap.size,0,none⟩=some (.slice ap p.length cp)∧W.cell? ⟨w.heap.size,1,none⟩=some (.slice an rs.length cn):=fun W hE=>by
  have hb:=hE.heap bx;unfold World.cell?;dsimp only;rw [hb];exact ⟨rfl,rfl⟩
 clear hp hs hm he h hpl bx;have Hpr:=hid hpr;have Hz:=hid hz;have Hck:=hid hck;have Hcm:=hid hcm;have Hpv:=hid hpv;have Hup:=hid hup;have Hln:=hid hln;have Hone:=hid hone;have Hm2:=hid hm2;have Hc:=hid hc;have HE0:=hid hE0;have Hbox:=hid hbox;clear hpr hz hck hcm hpv hup hln hone hm2 hc hE0 hbox;go_enter Tryz.func37,Tryz.ntmps37
 go_wp2_with fail
 refine (Hpr.out _ HE0.out).mono ?_;rintro e w1 ⟨rfl,rfl⟩;go_wp2_with fail
 refine (Hz.out _ HE0.out).mono ?_;rintro e w1 ⟨rfl,hoz,hx1⟩;obtain ⟨q0,q1⟩:=Hbox.out w1 hx1;have hrz:Rd w1 (.slice (some ⟨w.heap.size+1,0,none⟩) p.length p.length) (ziI p.length rs 0):=by
  have:=hoz.rd;rw [World.size_alloc] at this;exact this
 have Hrz:=hid hrz;have Hx1:=hid hx1;clear hrz hx1;clear hoz;go_wp2_with fail
 have hcs:∀ k,(ziI p.length rs (k+1))=((rs[k]?).map Qw.x).getD []:=fun k=>by unfold ziI;rw [if_neg (by omega)];rfl
 have Hcs:=hid hcs;clear hcs;go_loopw [4,7,8,9,10,36] (fun v4 v7 v8 v9 v10 v36 wr=>∃ (k:Nat)(a:Option Addr)(c:Nat),v36=.int .i64 k∧k≤rs.length∧v4=.slice a p.length c∧Rd wr (.slice a p.length c) (ziI p.length rs k)∧Ext w1 wr) (fun _ _ _ _ _ v36 _=>rs.length - (zag v36).toNat)
 case atStart=>exact ⟨0,_,_,rfl,Nat.zero_le _,rfl,Hrz.out,Ext.refl _⟩
 case round =>
  clear q0 q1;obtain ⟨k,ab,cb,rfl,hk,rfl,hrd,hE⟩:=hrel;by_cases hkn:k<rs.length
  ·obtain ⟨r,hr⟩:∃ r,rs[k]?=some r:=⟨_,List.getElem?_eq_getElem hkn⟩;have hmem:=List.mem_of_getElem? hr;obtain ⟨b,off,rfl,hc0⟩:=Hc.out k r.u (by unfold qwc;rw [List.getElem?_map,hr];rfl);obtain ⟨ar,cr,hru,_,_,_⟩:=Hone.out r hmem;have hEw:=(HE0.out.trans Hx1.out).trans hE;have hcu:=hEw.cell hc0;have hrl:r.x.length=p.length:=Hln.out r hmem;rw [hru,hrl] at hcu;have h1:=Hck.out r hmem wr hEw;have hp1:=Hpv.out k hk;have h2:=fun W (hx:Ext wr W)=>Hcm.out k r hr (.slice ab p.length cb) W (hEw.trans hx) (hx.rd hrd) hp1.1 hp1.2;have hu:=Hup.out k r hr;rw [hu] at h2;have hr2:=fun W (hx:Ext wr W)=>Hm2.out r hmem W (hEw.trans hx);rw [hru,hrl] at h1 h2 hr2;have hnx:ziI p.length rs (k+1)=r.x:=(by rw [Hcs.out k,hr];rfl);rw [← hnx] at hr2;have hk0:(0:Int)≤(k:Int):=(by omega);have hk1:(k:Int)<(rs.length:Int):=(by omega);obtain ⟨q0,q1⟩:=Hbox.out wr (Hx1.out.trans hE);have hbx2:=fun W (hx:Ext wr W)=>Hbox.out W ((Hx1.out.trans hE).trans hx);clear hmem hc0 hEw hrl hp1 hu hnx hrd hru hr;have H1:=hid h1;have H2:=hid h2;have Hr2:=hid hr2;have HE:=hid hE;have Hbx2:=hid hbx2;clear h1 h2 hr2 hE hbx2;go_wp2_with fail
   refine H1.out.mono ?_;rintro e w3 ⟨rfl,hx3⟩;obtain ⟨s0,s1⟩:=Hbx2.out w3 hx3;have Hx3:=hid hx3;clear hx3;clear q0 q1;go_wp2_with fail
   refine (H2.out w3 Hx3.out).mono ?_;rintro e w4 ⟨rfl,hx4⟩;have Hx4:=hid (Hx3.out.trans hx4);clear hx4 s0 s1;go_wp2_with fail
   go_roundw
   case rel=>exact ⟨k+1,_,_,by go_num,by omega,rfl,Hr2.out _ Hx4.out,HE.out.trans Hx4.out⟩
   case measure=>simp [zag];omega
  ·obtain rfl:rs.length=k:=by omega
   have Hrd:=hid hrd;have HE:=hid hE;clear hrd hE;go_wp2
   go_ret
   exact ⟨rfl,(HE0.out.trans Hx1.out).trans HE.out⟩
theorem ziL (v vx:Value)(p:List Int)(rs:List Qw)(x:List Rat)(w:World)(he:Env w)(hv:ScV w v p rs)(h:ziJ p rs)(hx:Rd w vx x)(hlen:x.length=p.length)(hf:∀ q∈x,Ft 30 q) :
  Calls Tryz.prog 40 #[v,vx] w fun e w'=>e=.returned (.int .i64 0)∧Ext w w':=by
 have h1:=fun W (hE:Ext w W)=>ziK v p rs W (he.ext hE) (hv.ext hE) h;obtain ⟨vp,vn,rfl,hp,hs,hm⟩:=hv;have h2:=fun W (hE:Ext w W)=>zfO vp vx p x W (he.ext hE) (hE.sl hp) (hE.rd hx) h.pe hlen hf;obtain ⟨ap,cp,rfl,_,_,_⟩:=hp.parts;obtain ⟨an,cn,rfl,_,_,_⟩:=hs.parts;obtain ⟨ax,cx,rfl,_,_,_⟩:=hx.parts;generalize (zak p).length=n1 at *;generalize (qwc rs).length=n2 at *;generalize x.length=n3 at *;have bx:(w.alloc (.cells #[.slice ap n1 cp,.slice an n2 cn] 36)).heap[w.heap.size]?=some (.cells #[.slice ap n1 cp,.slice an n2 cn] 36 (0,0)):=World.alloc_heap_new w _;have hE0:Ext w (w.alloc (.cells #[.slice ap n1 cp,.slice an n2 cn] 36)):=(Ext.refl w).alloc _;have hbox:∀ W,Ext (w.alloc (.cells #[.slice ap n1 cp,.slice an n2 cn] 36)) W→W.cell? ⟨w.heap.size,0,none⟩=some (.slice ap n1 cp)∧W.cell? ⟨w.heap.size,1,none⟩=some (.slice an n2 cn):=fun W hE=>by
  have hb:=hE.heap bx;unfold World.cell?;dsimp only;rw [hb];exact ⟨rfl,rfl⟩
 clear hp hs hm he h hx hlen hf bx;have H1:=hid h1;have H2:=hid h2;have HE0:=hid hE0;have Hbox:=hid hbox;clear h1 h2 hE0 hbox;go_enter Tryz.func40,Tryz.ntmps40
 go_wp2_with fail
 refine (H1.out _ HE0.out).mono ?_;rintro e w1 ⟨rfl,hx1⟩;obtain ⟨q0,q1⟩:=Hbox.out w1 hx1;have Hx1:=hid (HE0.out.trans hx1);clear hx1;go_wp2_with fail
 refine (H2.out w1 Hx1.out).mono ?_;rintro e w2 ⟨rfl,hx2⟩;have Hx2:=hid (Hx1.out.trans hx2);clear hx2;go_wp2
 go_ret
 exact ⟨rfl,Hx2.out⟩
theorem ziM (v va:Value)(p:List Int)(rs:List Qw)(n:Nat)(r:Qw)(a0:Rat)(tl:List Rat)(w:World)(he:Env w)(hv:ScV w v p rs)(h:ziJ p rs)(hn:rs.length=n+1)(hr:rs[n]?=some r)(hro:r.x=ov tl.length)
  (ha:Rd w va (a0::tl)) (hpr:Pr p (tl.length+1)) (hf:∀ q∈a0::tl,Ft 30 q) (hq:QF p (a0::tl)) (hk:Ft 400 ((-flP p (a0::tl):Int):Rat)) (hfl:Fit (flP p (a0::tl)))
  (hres:∀ q∈zeS (a0::tl) (zeU (ov tl.length) ((-flP p (a0::tl):Int):Rat)),Ft 30 q) :
  Calls Tryz.prog 15 #[v,va] w fun e w'=>∃ g,e=.returned (.tuple #[.slice (some ⟨g,0,none⟩) p.length p.length,.string (I (flP p (a0::tl))),.int .i64 0])∧zf4 w' w.heap.size (.slice (some ⟨g,0,none⟩) p.length p.length) (zeS (a0::tl) (zeU (ov tl.length) ((-flP p (a0::tl):Int):Rat)))∧Ext w w':=by
 have hpl:=zir hpr;have h60:=h.most;have h1:=fun W (hE:Ext w W)=>ziL v va p rs (a0::tl) W (he.ext hE) (hv.ext hE) h (hE.rd ha) (by rw [hpl];rfl) hf;have h2:=fun W (hE:Ext w W)=>ziH v p rs n r W (hv.ext hE) hn (by omega) hr;obtain ⟨vp,vn,rfl,hp,hs,hm⟩:=hv;have hmr:=hm r (List.mem_of_getElem? hr);rw [hro] at hmr;have h3:=fun W (hE:Ext w W)=>ziF vp va r.u p a0 tl W (he.ext hE) (hE.sl hp) (hE.rd ha) (hE.rd hmr) h.pe hpr hf hq hk hfl hres;generalize zeS (a0::tl) (zeU (ov tl.length) ((-flP p (a0::tl):Int):Rat))=z at *;generalize I (flP p (a0::tl))=sf at *;obtain ⟨ap,cp,rfl,_,_,_⟩:=hp.parts;obtain ⟨an,cn,rfl,_,_,_⟩:=hs.parts;obtain ⟨aa,ca,rfl,_,_,_⟩:=ha.parts;obtain ⟨ar,cr,hru,_,_,_⟩:=hmr.parts;rw [hru] at h2 h3;generalize (zak p).length=n1 at *;generalize (qwc rs).length=n2 at *;generalize (a0::tl).length=n3 at *;generalize (ov tl.length).length=n4 at *;have bx:(w.alloc (.cells #[.slice ap n1 cp,.slice an n2 cn] 36)).heap[w.heap.size]?=some (.cells #[.slice ap n1 cp,.slice an n2 cn] 36 (0,0)):=World.alloc_heap_new w _;have hE0:Ext w (w.alloc (.cells #[.slice ap n1 cp,.slice an n2 cn] 36)):=(Ext.refl w).alloc _;have hbox:∀ W,Ext (w.alloc (.cells #[.slice ap n1 cp,.slice an n2 cn] 36)) W→W.cell? ⟨w.heap.size,0,none⟩=some (.slice ap n1 cp)∧W.cell? ⟨w.heap.size,1,none⟩=some (.slice an n2 cn):=fun W hE=>by
  have hb:=hE.heap bx;unfold World.cell?;dsimp only;rw [hb];exact ⟨rfl,rfl⟩
 clear hp hs hm he h ha hpr hf hq hk hfl hres hmr hru hr hro hn bx hpl h60;have H1:=hid h1;have H2:=hid h2;have H3:=hid h3;have HE0:=hid hE0;have Hbox:=hid hbox;clear h1 h2 h3 hE0 hbox;go_enter Tryz.func15,Tryz.ntmps15
 go_wp2_with fail
 refine (H1.out _ HE0.out).mono ?_;rintro e w1 ⟨rfl,hx1⟩;obtain ⟨q0,q1⟩:=Hbox.out w1 hx1;have Hx1:=hid (HE0.out.trans hx1);clear hx1;go_wp2_with fail
 go_region_held3 (fun w'=>Ext w1 w'∧w'.cell? ⟨w.heap.size,0,none⟩=some (.slice ap n1 cp)∧w'.cell? ⟨w.heap.size,1,none⟩=some (.slice an n2 cn))
  (first | (with_reducible assumption) | exact ⟨(Ext.refl w1).drew,q0,q1⟩)
  (first
   | (go_at_call 42;refine (H2.out _ (Hx1.out.trans (And.left (by assumption)))).mono ?_;rintro e9 VA ⟨rfl,hxa⟩;have hEA:=((Ext.refl w1).drew).trans hxa;have hS2:Ext w1 VA∧VA.cell? ⟨w.heap.size,0,none⟩=some (.slice ap n1 cp)∧VA.cell? ⟨w.heap.size,1,none⟩=some (.slice an n2 cn):=⟨hEA,hEA.cell q0,hEA.cell q1⟩;have HEA:=hid hEA;clear hxa hEA)
   | (go_at_call 41;refine (H3.out _ (Hx1.out.trans HEA.out)).mono ?_;rintro e9 VB ⟨g,rfl,ho,hxa⟩;have hEB:=HEA.out.trans hxa;have hS3:Ext w1 VB∧VB.cell? ⟨w.heap.size,0,none⟩=some (.slice ap n1 cp)∧VB.cell? ⟨w.heap.size,1,none⟩=some (.slice an n2 cn):=⟨hEB,hEB.cell q0,hEB.cell q1⟩;have HEB:=hid hEB;have HoB:=hid (ho.mono (Hx1.out.trans HEA.out).size);clear hxa hEB ho hS2))
 all_goals
  clear hS3 q0 q1;go_wp2
  exact bodyPost_ret (by simp [results,Tryz.results15,go_sem]) rfl ⟨g,rfl,HoB.out,Hx1.out.trans HEB.out⟩
end
section
def Nic (n:Nat)(x:List Rat):Prop:=(n=0∧Bx 256 x)∨(0<n∧n≤60∧Oc n x)
theorem Nic.nice {n:Nat}{x:List Rat}(h:Nic n x):zft x:=by
 rcases h with ⟨_,h⟩ | ⟨_,_,h⟩
 ·exact .inl h
 ·exact .inr ⟨n,h⟩
theorem ziN (b:Rat):(b.den:Rat) ≠ 0:=by
 intro h;have:=Rat.natCast_inj.1 (show ((b.den:Nat):Rat)=((0:Nat):Rat) from h);have:=b.den_pos;omega
theorem ziO (b:Rat):b * (b.den:Rat)=(b.num:Rat):=by
 have e:b=(b.num:Rat) / (b.den:Rat):=by
  have:=Rat.mkRat_eq_div b.num b.den;rw [Rat.mkRat_self] at this;exact this
 have:=Rat.div_mul_cancel (a:=(b.num:Rat)) (ziN b);rw [← e] at this;exact this
theorem ziP {a:Rat}{n:Nat}{A:Int}(hn:0<n)(h:a * (n:Rat)=A):a.den≤n∧a.num.natAbs≤A.natAbs:=by
 have h1:a.num * (n:Int)=A * a.den:=by
  have:((a.num * (n:Int):Int):Rat)=((A * (a.den:Int):Int):Rat):=by
   rw [Rat.intCast_mul,Rat.intCast_mul,← h,← ziO a,Rat.intCast_natCast,Rat.intCast_natCast];grind
  exact Rat.intCast_inj.1 this
 have hd:a.den ∣ n:=by
  have hc:Nat.Coprime a.den a.num.natAbs:=a.reduced.symm;have:a.den ∣ a.num.natAbs * n:=by
   have h2:=congrArg Int.natAbs h1;rw [Int.natAbs_mul,Int.natAbs_mul,Int.natAbs_natCast,Int.natAbs_natCast] at h2;exact ⟨A.natAbs,by rw [h2,Nat.mul_comm]⟩
  exact hc.dvd_of_dvd_mul_left this
 have hl:=Nat.le_of_dvd hn hd;refine ⟨hl,?_⟩;have h2:=congrArg Int.natAbs h1;rw [Int.natAbs_mul,Int.natAbs_mul,Int.natAbs_natCast,Int.natAbs_natCast] at h2;have h3:a.num.natAbs * n≤A.natAbs * n:=by rw [h2];exact Nat.mul_le_mul_left _ hl
 exact Nat.le_of_mul_le_mul_right h3 hn
theorem ziQ {x:Rat}{A B:Int}(h1:x=A)(h2:x≤(B:Rat)):A≤B:=by rw [h1] at h2;exact Rat.intCast_le_intCast.1 h2
theorem ziR {x:Rat}{A B:Int}(h1:x=A)(h2:(B:Rat)≤x):B≤A:=by rw [h1] at h2;exact Rat.intCast_le_intCast.1 h2
theorem ziS {p:List Int}{a:Rat}{tl:List Rat}{c:Int}(hp:Pr p (a::tl).length)(hb:Bx 256 (a::tl))(h1:-((c * 67108864:Int):Rat)≤sF p (a::tl))(h2:sF p (a::tl)≤((c * 67108864:Int):Rat)):-(2 * c+1100)≤2 * a.num∧2 * a.num≤2 * c+1100:=by
 rcases hp with ⟨rfl,hl⟩ | ⟨rfl,hl⟩
 ·match tl,hl,hb with
  | [b],_,⟨A,B,ha,hb,g1,g2⟩ =>
   have e:sF [2,3] [a,b] * 2=((A * 134217728+B * 106365032:Int):Rat):=by
    rw [Rat.intCast_add,Rat.intCast_mul,Rat.intCast_mul,← ha,← hb];simp only [sF,lgs.1,lgs.2.1];show (a * ((67108864:Int):Rat)+(b * ((106365032:Int):Rat)+0)) * 2=a * ((134217728:Int):Rat)+b * 2 * ((106365032:Int):Rat);rw [show ((134217728:Int):Rat)=((67108864:Int):Rat) * 2 from Rat.intCast_mul 67108864 2];grind
   have k1:A * 134217728+B * 106365032≤2 * (c * 67108864):=ziQ e (by rw [Rat.intCast_mul 2 _];show _≤2 * _;grind)
   have k2:-(2 * (c * 67108864))≤A * 134217728+B * 106365032:=ziR e (by rw [Rat.intCast_neg,Rat.intCast_mul 2 _];show -(2 * _)≤_;grind)
   obtain ⟨ha1,_⟩:=zfg ha
   rw [ha1]
   omega
 ·match tl,hl,hb with
  | [b,d],_,⟨A,B,C,ha,hb,hc,g1,g2,g3,g4⟩ =>
   have e:sF [2,3,5] [a,b,d] * 2=((A * 134217728+B * 106365032+C * 311643912:Int):Rat):=by
    rw [Rat.intCast_add,Rat.intCast_add,Rat.intCast_mul,Rat.intCast_mul,Rat.intCast_mul,← ha,← hb,← hc];simp only [sF,lgs.1,lgs.2.1,lgs.2.2];show (a * ((67108864:Int):Rat)+(b * ((106365032:Int):Rat)+(d * ((155821956:Int):Rat)+0))) * 2=a * ((134217728:Int):Rat)+b * 2 * ((106365032:Int):Rat)+d * ((311643912:Int):Rat);rw [show ((134217728:Int):Rat)=((67108864:Int):Rat) * 2 from Rat.intCast_mul 67108864 2,show ((311643912:Int):Rat)=((155821956:Int):Rat) * 2 from Rat.intCast_mul 155821956 2];grind
   have k1:A * 134217728+B * 106365032+C * 311643912≤2 * (c * 67108864):=ziQ e (by rw [Rat.intCast_mul 2 _];show _≤2 * _;grind)
   have k2:-(2 * (c * 67108864))≤A * 134217728+B * 106365032+C * 311643912:=ziR e (by rw [Rat.intCast_neg,Rat.intCast_mul 2 _];show -(2 * _)≤_;grind)
   obtain ⟨ha1,_⟩:=zfg ha
   rw [ha1]
   omega
theorem ziT {a:Rat}{n:Nat}{A c:Int}{s:Rat}(hn:0<n)(hn9:n≤60)(ha:a * (n:Rat)=A)(hs:s=a * ((67108864:Int):Rat))(h1:-((c * 67108864:Int):Rat)≤s)(h2:s≤((c * 67108864:Int):Rat)):a.num.natAbs≤60 * c.natAbs∧a.den≤60:=by
 have hpd:=ziP hn ha;have e:s * (n:Rat)=((A * 67108864:Int):Rat):=by rw [hs,Rat.intCast_mul,← ha];grind
 have hnp:(0:Rat)≤(n:Rat):=Rat.le_of_lt (Rat.natCast_pos.2 hn);have k1:A * 67108864≤c * 67108864 * n:=ziQ e (by
  rw [Rat.intCast_mul,Rat.intCast_natCast];exact Rat.mul_le_mul_of_nonneg_right h2 hnp)
 have k2:-(c * 67108864) * n≤A * 67108864:=ziR e (by
  rw [Rat.intCast_mul,Rat.intCast_natCast,Rat.intCast_neg];exact Rat.mul_le_mul_of_nonneg_right h1 hnp)
 have k3:A.natAbs≤c.natAbs * n:=by
  have e1:c * 67108864 * (n:Int)=(c * n) * 67108864:=by grind
  have e2:-(c * 67108864) * (n:Int)=-((c * n) * 67108864):=by grind
  rw [e1] at k1;rw [e2] at k2;have e3:(c * (n:Int)).natAbs=c.natAbs * n:=by rw [Int.natAbs_mul,Int.natAbs_natCast]
  generalize c * (n:Int)=t at *;omega
 have k4:c.natAbs * n≤c.natAbs * 60:=Nat.mul_le_mul_left _ hn9;omega
theorem ziU {n:Nat}{p:List Int}{x:List Rat}{c:Int}(hp:Pr p x.length)(h:Nic n x)(hc:0≤c)(hc2:c≤100000)(h1:-((c * 67108864:Int):Rat)≤sF p x)(h2:sF p x≤((c * 67108864:Int):Rat)):zid p x:=by
 rcases h with ⟨_,hb⟩ | ⟨hn,hn9,ho⟩
 ·obtain ⟨a,tl,rfl⟩:∃ a tl,x=a::tl:=by
   rcases hp with ⟨_,hl⟩ | ⟨_,hl⟩ <;> (cases x with | nil=>cases hl | cons a tl=>exact ⟨a,tl,rfl⟩)
  have hA:=ziS hp hb h1 h2;exact (zi5 (m:=1000000) hp hb (by omega) (by omega) (fun a' ha'=>by cases ha';omega)).quick hp (by omega) hb
 ·have hf:=zfq hp ho;rcases hp with ⟨rfl,hl⟩ | ⟨rfl,hl⟩
  ·match x,hl,ho with
   | [a,b],_,⟨hb,A,ha⟩ =>
    subst hb
    have hbd:=ziT (s:=sF [2,3] [a,0]) hn hn9 ha (by simp only [sF,lgs.1];grind) h1 h2
    refine ⟨?_,?_,hf⟩
    ·intro r hr
     simp only [List.mem_cons,List.not_mem_nil,or_false] at hr
     rcases hr with rfl | rfl
     ·exact zi3 (by omega) (by omega)
     ·exact zhA.mono (by omega)
    ·intro e he
     have e1:[(2:Int),3].zip (fcd (dn [a,0]) [a,0])=[(2,a.num),(3,0)]:=by
      have hd:(a.den:Int) / (a.den:Int)=1:=Int.ediv_self (by have:=a.den_pos;omega);simp [dn,fcd,Nat.lcm,hd]
     have:=zi4 he
     rw [e1] at this
     simp only [List.mem_cons,List.not_mem_nil,or_false] at this
     rcases this with rfl | rfl
     ·exact ⟨.inl rfl,by dsimp only;omega,by dsimp only;omega⟩
     ·exact ⟨.inr (.inl rfl),by dsimp only;omega,by dsimp only;omega⟩
  ·match x,hl,ho with
   | [a,b,d],_,⟨hb,hd,A,ha⟩ =>
    subst hb
    subst hd
    have hbd:=ziT (s:=sF [2,3,5] [a,0,0]) hn hn9 ha (by simp only [sF,lgs.1];grind) h1 h2
    refine ⟨?_,?_,hf⟩
    ·intro r hr
     simp only [List.mem_cons,List.not_mem_nil,or_false] at hr
     rcases hr with rfl | rfl | rfl
     ·exact zi3 (by omega) (by omega)
     ·exact zhA.mono (by omega)
     ·exact zhA.mono (by omega)
    ·intro e he
     have e1:[(2:Int),3,5].zip (fcd (dn [a,0,0]) [a,0,0])=[(2,a.num),(3,0),(5,0)]:=by
      have hd:(a.den:Int) / (a.den:Int)=1:=Int.ediv_self (by have:=a.den_pos;omega);simp [dn,fcd,Nat.lcm,hd]
     have:=zi4 he
     rw [e1] at this
     simp only [List.mem_cons,List.not_mem_nil,or_false] at this
     rcases this with rfl | rfl | rfl
     ·exact ⟨.inl rfl,by dsimp only;omega,by dsimp only;omega⟩
     ·exact ⟨.inr (.inl rfl),by dsimp only;omega,by dsimp only;omega⟩
     ·exact ⟨.inr (.inr rfl),by dsimp only;omega,by dsimp only;omega⟩
end
end Go.Proofs.YtoehmpbipbbffaaGreatDoor
