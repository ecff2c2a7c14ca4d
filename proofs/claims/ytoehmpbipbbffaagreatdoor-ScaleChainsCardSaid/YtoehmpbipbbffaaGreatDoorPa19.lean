/- Plain: binary logarithms of 3 and 5 to 2048 bits, as the program finds them; no whole sum of them with factors of few digits comes near zero. (Printed in part by wip/mkdigp.py.) Plain: between which whole numbers a size lies at many bits; its sign and its floor. -/
import Derived.Test.YtoehmpbipbbffaaGreatDoorPa07
namespace Go.Proofs.YtoehmpbipbbffaaGreatDoor
def dgS (unit:Nat)(s:Nat × Nat × Nat):Option (Nat × Nat × Nat) :=
 if 8 * unit<s.1 * s.1 / unit∨8 * unit<s.2.1 * s.2.1 / unit+1∨8 * unit<s.2.2 then none
 else if unit+unit≤s.1 * s.1 / unit then some (s.1 * s.1 / unit / 2,(s.2.1 * s.2.1 / unit+1) / 2+1,s.2.2+s.2.2+1)
 else if unit+unit≤s.2.1 * s.2.1 / unit+1 then none
 else some (s.1 * s.1 / unit,s.2.1 * s.2.1 / unit+1,s.2.2+s.2.2)
theorem zks {u:Nat}{s t:Nat × Nat × Nat}(h:dgS u s=some t):∃ l k:Nat,l=s.1 * s.1 / u∧k=s.2.1 * s.2.1 / u∧l≤8 * u∧k+1≤8 * u∧s.2.2≤8 * u ∧
  ((u+u≤l∧t=(l / 2,(k+1) / 2+1,s.2.2+s.2.2+1))∨(l<u+u∧k+1<u+u∧t=(l,k+1,s.2.2+s.2.2))):=by
 unfold dgS at h;refine ⟨_,_,rfl,rfl,?_⟩;generalize s.1 * s.1 / u=l at *;generalize s.2.1 * s.2.1 / u=k at *;split at h
 ·cases h
 ·rename_i hg;refine ⟨by omega,by omega,by omega,?_⟩;split at h
  ·rename_i h1;injection h with h;exact .inl ⟨h1,h.symm⟩
  ·rename_i h1;split at h
   ·cases h
   ·rename_i h2;injection h with h;exact .inr ⟨by omega,by omega,h.symm⟩
def dgN (unit:Nat)(s:Nat × Nat × Nat):Nat→Option (Nat × Nat × Nat)
 | 0=>some s
 | k+1=>(dgN unit s k).bind (dgS unit)
theorem zkt {u:Nat}{s f:Nat × Nat × Nat}:∀ {n:Nat},dgN u s n=some f→∀ k,k≤n→∃ t,dgN u s k=some t
 | 0,h,k,hk=>⟨f,by rw [show k=0 by omega];exact h⟩
 | n+1,h,k,hk=>by
  by_cases e:k=n+1
  ·exact ⟨f,by rw [e];exact h⟩
  ·have h2:(dgN u s n).bind (dgS u)=some f:=h
   cases hs:dgN u s n with
   | none=>rw [hs] at h2;cases h2
   | some t=>exact zkt hs k (by omega)
theorem zku {u:Nat}{s f:Nat × Nat × Nat}{n k:Nat}{st:Nat × Nat × Nat}(h:dgN u s n=some f)(hk:k<n)(hs:dgN u s k=some st):∃ t,dgS u st=some t∧dgN u s (k+1)=some t:=by
 obtain ⟨t,ht⟩:=zkt h (k+1) (by omega);have h2:(dgN u s k).bind (dgS u)=some t:=ht;rw [hs] at h2;exact ⟨t,h2,ht⟩
def lb (p:Int):Nat:=if p=3 then 1 else 2
def dg0 (p more:Nat):Nat × Nat × Nat:=(p * 2 ^ (more - lb p),p * 2 ^ (more - lb p),lb p)
def L3 : Nat:=0x195c01a39fbd6879fa00b120a068badd124f3e6a3a259b0407be5904d25fa41f714fbcdffb0c56e98678bf970fbd764a2d949b66123dbf818876529e402522bad57f7b376d0c93d05186cd6e57ddafcb1beaa24c8bcae04bebf65faa6daa5df0126857b648bc732d25cc19087e2b35fb3fe91ce58ed7ee01b86f065b98e2fb4b20f208da0c30d4baa08dd88e5615ddd714fe521e2bb6e2a172d9ebab3b8ac33604e366b0a770f2443028c42250671607681d974cfab67db35ec3b87d439a86c5cad3ec45aed2d5d1f05f4c1845f3114f3e033e5b45597805a6e6f4f0354cade6d52c0e9adeb7e0c11ddcb71a5f3313c6c99ced5339e0abdc95cb70ef79cae0e43
def L5 : Nat:=0x25269e12f346e2bf924afdbfd36bf6d3365b157f8deceb53a46dab2020b9e167419943f7a77547ce8f892faad8eb42f5850d7b920159729533fc58b353d80ce07d93e5b05f66d7537fb9b09ae3e326f40e1797e40730b46b23a3dd5dd44254c2e19631b7fa8fbb5c4c13e22d0facae1beaa4d8f3e706623135a712f0822787d85aeedcb0fa6953f746978fc464846c577be8fea5e31087e198c7f04169234c3b2c46ed153cabf1a480c5b5fb3ba8bc6764c0a945689afbb3ca3410dc05d4ac6f9169cba6972f4d4e14403853d32cf1bc5c6b7ebe5e3259a23c5c87e3de379b81d5c2ce01aa3e549645f83b088d27f8a1471c310e001b75b24d249f15002c13b6f
def LG (p:Int)(n:Nat):Nat:=if p=2 then 2 ^ n else (if p=3 then L3 else L5) / 2 ^ (2048 - n)
def Lad (n:Nat):Prop:=n=64∨n=128∨n=256∨n=512∨n=1024∨n=2048
def zkv (p n v:Nat):Bool:=match dgN (2 ^ (n+64)) (dg0 p (n+64)) n with | some s=>Nat.beq s.2.2 v | none=>false
theorem zkw : zkv 3 64 (LG 3 64)=true:=by decide +kernel
theorem zkx : zkv 3 128 (LG 3 128)=true:=by decide +kernel
theorem zky : zkv 3 256 (LG 3 256)=true:=by decide +kernel
theorem zkz : zkv 3 512 (LG 3 512)=true:=by decide +kernel
theorem zk0 : zkv 3 1024 (LG 3 1024)=true:=by decide +kernel
theorem zk1 : zkv 3 2048 (LG 3 2048)=true:=by decide +kernel
theorem zk2 : zkv 5 64 (LG 5 64)=true:=by decide +kernel
theorem zk3 : zkv 5 128 (LG 5 128)=true:=by decide +kernel
theorem zk4 : zkv 5 256 (LG 5 256)=true:=by decide +kernel
theorem zk5 : zkv 5 512 (LG 5 512)=true:=by decide +kernel
theorem zk6 : zkv 5 1024 (LG 5 1024)=true:=by decide +kernel
theorem zk7 : zkv 5 2048 (LG 5 2048)=true:=by decide +kernel
theorem zk8 {p:Int}(hp:p=3∨p=5){n:Nat}(hn:Lad n):∃ s,dgN (2 ^ (n+64)) (dg0 p.toNat (n+64)) n=some s∧s.2.2=LG p n:=by
 have key:zkv p.toNat n (LG p n)=true:=by
  rcases hp with rfl | rfl <;> rcases hn with rfl | rfl | rfl | rfl | rfl | rfl
  ·exact zkw
  ·exact zkx
  ·exact zky
  ·exact zkz
  ·exact zk0
  ·exact zk1
  ·exact zk2
  ·exact zk3
  ·exact zk4
  ·exact zk5
  ·exact zk6
  ·exact zk7
 unfold zkv at key;generalize LG p n=v at *;split at key
 ·exact ⟨_,by assumption,Nat.eq_of_beq_eq_true key⟩
 ·cases key
theorem zk9 {K a b u1 u2 u3 A B C:Int}{H E:Nat}(hB:B.natAbs≤H)(hC:C.natAbs≤H)(hT:(A * K+B * a+C * b).natAbs≤E)
  (h:(K * u1 - u3 * a).natAbs * H+(K * u2 - u3 * b).natAbs * H+u3.natAbs * E<K.natAbs):u1 * B+u2 * C+u3 * A=0:=by
 have e:K * (u1 * B+u2 * C+u3 * A)=(K * u1 - u3 * a) * B+(K * u2 - u3 * b) * C+u3 * (A * K+B * a+C * b):=by grind
 generalize u1 * B+u2 * C+u3 * A=z at *;generalize A * K+B * a+C * b=T at *;generalize K * u1 - u3 * a=x at *;generalize K * u2 - u3 * b=y at *;have h1:(x * B).natAbs≤x.natAbs * H:=by rw [Int.natAbs_mul];exact Nat.mul_le_mul_left _ hB
 have h2:(y * C).natAbs≤y.natAbs * H:=by rw [Int.natAbs_mul];exact Nat.mul_le_mul_left _ hC
 have h3:(u3 * T).natAbs≤u3.natAbs * E:=by rw [Int.natAbs_mul];exact Nat.mul_le_mul_left _ hT
 have h4:(K * z).natAbs<K.natAbs:=by rw [e];omega
 rw [Int.natAbs_mul] at h4;have h5:z.natAbs=0:=by
  rcases Nat.eq_zero_or_pos z.natAbs with g | g
  ·exact g
  ·have:=Nat.mul_le_mul_left K.natAbs g;omega
 omega
theorem bca {u11 u12 u13 u21 u22 u23 u31 u32 u33 v1 v2 v3 B C A:Int}{c1 c2 c3:Int}(h1:u11 * B+u12 * C+u13 * A=0)(h2:u21 * B+u22 * C+u23 * A=0)(h3:u31 * B+u32 * C+u33 * A=0)
  (e1:v1 * u11+v2 * u21+v3 * u31=c1) (e2:v1 * u12+v2 * u22+v3 * u32=c2) (e3:v1 * u13+v2 * u23+v3 * u33=c3):c1 * B+c2 * C+c3 * A=0:=by
 have:v1 * (u11 * B+u12 * C+u13 * A)+v2 * (u21 * B+u22 * C+u23 * A)+v3 * (u31 * B+u32 * C+u33 * A)=0:=by rw [h1,h2,h3];simp
 rw [← e1,← e2,← e3];grind
def u11 : Int:=-0x8f8c3599e8c7dc2e662442c2a6937ac7002a67fa592461338cc516fb61cfe65091811a7baf0412f7f9ee613c07db81e4a2ba8656369b42d54ef6e0a75f87ab8e6a1a0c338bf84c966f6df7d0970b1c2143dcdda734f5f299225bf0414c88157d6f3a08eefa6c556732a67cadb84ec3adcbd76bef5c437af580d2b4992c01dd84cad3fda70409d7118adc12fb393c5ec577aa55e07429c0198e688eb525fd92dc893733f0b630010c790d0
def u12 : Int:=-0xd24b275740221a07df9c52b25b24cb4c0202c954bd61dd2021809bc7e31b82da1cc1636ead5dc42b9707f42e02d818a2ca4b9c9751387bd45649e2ae127a994eb981c45ad5070af9561fc62117c77f5daf949f00804c9083e3bd8fae9b473088e259860d055a96ce7d4322008c02e21a9f5bd73f39743d7de593e42e3a3fe8804e55fb5cf1419be9dfd469d5477923b166b439276787f042ccca3e7dc1de1472580203b37bb958e6b1009
def u13 : Int:=-0x5a9189e77742c12d582c1b250912c45610841ed2ef88df5b0cb8018f6ee0e76f214439b5cbfc8789161123c7e8302062999b3efa52b3e6b2c98610c97ac1c196122f1c3f078c5cbf31f1600ce6ae4c99746c0807fe7f8a98ca9e3982fd7f20f2caba05b1eea5f30252575ca20cd0551e28c6f06ad0c17e7741457383c99aee2542869469186aea3246d27afd0ffe14354965c93b1b412619953b0fa5a4bf32e6b9dbdbd3b026720fddb3d
def u21 : Int:=0x878119b2c0fc44473e89361c25267f36f5183c4107777e5bd25ffe66cff9d9538bd5e1ca86f97b56f4ef879263c5863c92650e2e257b354a360f9973a3a865b02ef0d87a72e36c51a27643373b4501cc660b8fe36360310f510147800d8ed5ac6fd480b1958410734e5e512a7b501516c087818fd5b99d8d0a1681af0f2a2dbe1eaa9d827a41669d1d0d78a709050d8dd1def0f436568b04562bda0a5eeac43d3807c11a7fe8f2877b7d5
def u22 : Int:=0xc6829d0fa28379974d5f0b20aac3d666431133de392c7bf82f553c56828a80553dfafc039030693c6e775ea28b6b407c8fd845c37fc7b9bea3d4e860049b2ec10ec62e44077ed955a5d63af690b25eaca3545b9b1c725a70f677eed589bbfd6a5094fe12ae593e600c2ae4786d9d51a94ca1012fdfc53faaa6a08383b60c01144cdabe19d9336086398ba1dee7f4afb3ac43afa230c7eb01bece6723578982691af999a53e87567423010
def u23 : Int:=0x557e62b3d955a00fff3c15dd6dc284881b1e047b747c374eb4ca6fc41e5b344c8eb94e9d07678e4b2b6debb8410a44bbc6401025f3d7f691c97aae67e9e2fd0486c03cab632751f9a31049f76734b1ebad56ee8e91f7e59890510ce4d4fa5b111a75f3fd4b3e957c8973e29a2daedae25c02091350f5f2ec8256783edad3a87bc345ff677e3f3e741a8680845e2aa8f344034450e798f942d15aae1332529fcb957b45cca77fb3560787c
def u31 : Int:=-0x3be027b6a6201a763235f5f004b4ea9ff23cd6f04e867e1ee0240755b4d84ba5e86344bb73b0be0a51553e31a55ae1a6571f55321c5a2b623feafc54e85a825123f25c9ccbc58def4b3e4716c4ebf18da14deef16d3e9f31c31097370d36298b19aaf207724a2f2136ab7c066582507b22ef73e0f3f00d880bd4f4b1bda489d227e6a692ef370cb453163b83c2fe224724ab35ef30bd1736186082fded6a8f27e3bccd89a417d618becabd
def u32 : Int:=-0x57b75765345789b46a46db7280fb661d4c5830b53b472619c58f0036198a65d4927f143d5e4fca16efefc99381bdcbe9748c49c97bc904f6dc904e64e16664596f282995326921d151d7f7feb75f83bca867c9c0cc2bc2d2a0dbeb3639ef30e4d038cca4627a0a5f12329d3cf424e945a7df2a873460408d96d27fa6c9f55f022b31bf67ff0d271efa38d43e9db01ed394b3f228c7915afddeb6d65db59eda75af4f6ee8681cbef85e60b4
def u33 : Int:=-0x25c6fd383c87cee3d7882aa97f9fa3cdce5dca11e0fc157d329eac92842d5f9551e8d2bbb8f6ec4916be63686c241ea38a7350e66a023ecc99aae782bf3ce4cfb0e3d5285c335c27d88dce99420c3ce90bdac88cc48312d7dae6f07cb91d88e2bf591b5cf385f0dd24f4de71eae27f7ac5a51bafbba1ee8e83da2e2a68ad1b327c83f18f4a1f57e3d5776a6200c965ab12926f184268450c446cc873ef0ad876e8d755e984f3e8cbc7cd7b
def v11 : Int:=0x1e2809037e08b0507b71c3223ccbd19c3983311cbb21a58b145141216473a773dea8559fa6ef67d6529a1601aa4a76a147930fdc891ae1c1aa577bbaefe24a233eab2f3cf3f3dbfcaf9c21853982efe67a968d14f80
def v12 : Int:=-0x473b6a248b634191ddeb242a436555ef8deef2fdf1bb135d0ab0e1b40c2559684f861024c9a68e0afe093607990b08f08c001cacba00f80ac5b0dfb69341216c239fa220c41eab71a9057030df213adc83dc62be26f
def v13 : Int:=-0xe980c508947f357ce4b435509fd16d8af4f172757dea4933f663b98e125b4083bba26397dc844b456959b325f5285f27f83a411d876169b78b5974fb157faed719ed975ffcae4034181be8e2507d89d553520cd88c
def v21 : Int:=-0x7599c1db5a681cbd97f0b16917528bfb9d6a341aa2b7f59983fc0dcdf886a723ea9f80ef665ec40f7cfe14033f6923fe8ca4c7d978e4e0c6010409833efdbc0104235c33bb5e76dc0643629ca2552c033137604e735
def v22 : Int:=-0x2ae94f4d92de2bdbd26cec6836b08b0528bf71a1cea9751332346864bf8747a3d02cfaded92b089ad4ad2ea0e914a7059732d054e4b38126088b93c88e8a9add9e3074fccc56dfb9893d91ec36d29689931b925da19
def v23 : Int:=0xb8d3af522da2038ea0b64d48678a3adb1c6657258d336dadff35f03d8e72675ab7d76186b4a819dff478417bd57c2a9657f01a3bf6c03b293b0970071d65c2abd501b4a6844b49d676d9ea34c6047f8dedae409fff
def v31 : Int:=0xe1436ff11eeeb8748ecfe28746c7932e8a91e718f04d62333d7a99da85eabb84e1157168c515d21751a10f579704d10a4ca5a670454c7e7a291789f7b83d78166b7d9806dee877bb6af73e19704e33e79317056fa0c
def v32 : Int:=0xd4898c3a14ed33e36d2e167d59bdc70dfa01ac02f403ed98404adbe545bd687dbc2897c6aa98f95c9a74885782be935d11f8de4a9235684e3e433dc548b7fafb31b840e61d9822e5e55d95cc955135a19000f601e65
def v33 : Int:=-0x3b0fadfd67a54caa52cff38f9205212cd9f9301eb22515216ac956f95de7ae492c7e756d6bd2b130a33471e948fa76f8f4b39b67ca7afe062d71d9ff961ba791d37782fb583a3943541bc8dbadb619b36299864683
def HH : Nat:=10 ^ 120
def KK : Int:=2 ^ 2048
def uCk (u1 u2 u3:Int):Bool:=Nat.blt ((KK * u1 - u3 * (L3:Int)).natAbs * HH+(KK * u2 - u3 * (L5:Int)).natAbs * HH+u3.natAbs * (2 * HH)) KK.natAbs
theorem zkA {u1 u2 u3:Int}(h:uCk u1 u2 u3=true):(KK * u1 - u3 * (L3:Int)).natAbs * HH+(KK * u2 - u3 * (L5:Int)).natAbs * HH+u3.natAbs * (2 * HH)<KK.natAbs:=by
 unfold uCk at h;generalize (KK * u1 - u3 * (L3:Int)).natAbs * HH+(KK * u2 - u3 * (L5:Int)).natAbs * HH+u3.natAbs * (2 * HH)=x at *;generalize KK.natAbs=y at *;exact Nat.le_of_ble_eq_true h
theorem uc1 : uCk u11 u12 u13=true:=by decide +kernel
theorem uc2 : uCk u21 u22 u23=true:=by decide +kernel
theorem uc3 : uCk u31 u32 u33=true:=by decide +kernel
theorem zkB {A B C:Int}(hB:B.natAbs≤HH)(hC:C.natAbs≤HH)(hT:(A * KK+B * (L3:Int)+C * (L5:Int)).natAbs≤2 * HH):A=0∧B=0∧C=0:=by
 have z1:=zk9 hB hC hT (zkA uc1);have z2:=zk9 hB hC hT (zkA uc2);have z3:=zk9 hB hC hT (zkA uc3);have b1:=bca (v1:=v11) (v2:=v12) (v3:=v13) z1 z2 z3 (c1:=1) (c2:=0) (c3:=0) (by decide +kernel) (by decide +kernel) (by decide +kernel);have b2:=bca (v1:=v21) (v2:=v22) (v3:=v23) z1 z2 z3 (c1:=0) (c2:=1) (c3:=0) (by decide +kernel) (by decide +kernel) (by decide +kernel);have b3:=bca (v1:=v31) (v2:=v32) (v3:=v33) z1 z2 z3 (c1:=0) (c2:=0) (c3:=1) (by decide +kernel) (by decide +kernel) (by decide +kernel);clear z1 z2 z3 hT hB hC;exact ⟨by omega,by omega,by omega⟩
def loN (n:Nat)(p f:Int):Int:=if p=2 then f * ((2 ^ n:Nat):Int) else if f<0 then f * ((LG p n:Int)+1) else f * (LG p n:Int)
def hiN (n:Nat)(p f:Int):Int:=if p=2 then f * ((2 ^ n:Nat):Int) else if f<0 then f * (LG p n:Int) else f * ((LG p n:Int)+1)
def zkC (n:Nat):List (Int × Int)→Int | []=>0 | e::l=>loN n e.1 e.2+zkC n l
def zkD (n:Nat):List (Int × Int)→Int | []=>0 | e::l=>hiN n e.1 e.2+zkD n l
def zkE : List (Int × Int)→Int | []=>0 | e::l=>e.2 * (LG e.1 2048:Int)+zkE l
theorem zkF (n:Nat)(a b:List (Int × Int)):zkC n (a++b)=zkC n a+zkC n b:=by
 induction a with
 | nil=>simp [zkC]
 | cons e a ih=>simp only [List.cons_append,zkC,ih];omega
theorem zkG (n:Nat)(a b:List (Int × Int)):zkD n (a++b)=zkD n a+zkD n b:=by
 induction a with
 | nil=>simp [zkD]
 | cons e a ih=>simp only [List.cons_append,zkD,ih];omega
def zkH (p:Int):Prop:=p=2∨p=3∨p=5
theorem zkI {n:Nat}(h:Lad n):n≤2048:=by rcases h with rfl | rfl | rfl | rfl | rfl | rfl <;> omega
theorem zkJ {n:Nat}(h:n≤2048):2 ^ n * 2 ^ (2048 - n)=2 ^ 2048:=by rw [← Nat.pow_add,show n+(2048 - n)=2048 by omega]
theorem zkK {p:Int}{n:Nat}(h:n≤2048):LG p n * 2 ^ (2048 - n)≤LG p 2048∧LG p 2048≤(LG p n+1) * 2 ^ (2048 - n):=by
 unfold LG;by_cases hp:p=2
 ·rw [if_pos hp,if_pos hp,zkJ h];refine ⟨Nat.le_refl _,?_⟩;rw [Nat.add_mul,zkJ h];omega
 ·rw [if_neg hp,if_neg hp,show 2048 - 2048=0 from rfl,Nat.pow_zero,Nat.div_one];generalize (if p=3 then L3 else L5)=L;have hpos:0<2 ^ (2048 - n):=Nat.pow_pos (by omega);generalize 2 ^ (2048 - n)=d at *;refine ⟨Nat.div_mul_le_self _ _,?_⟩;have:=Nat.lt_div_mul_add hpos (a:=L);rw [Nat.add_mul];omega
theorem zkL {f a b:Int}(h:a≤b):(0≤f→f * a≤f * b)∧(f<0→f * b≤f * a) :=
 ⟨fun hf=>Int.mul_le_mul_of_nonneg_left h hf,fun hf=>Int.mul_le_mul_of_nonpos_left (by omega) h⟩
theorem zkM {f lo hi a s M:Int}(h1:a * s≤M)(h2:M≤(a+1) * s)(e1:lo=if f<0 then f * (a+1) else f * a)(e2:hi=if f<0 then f * a else f * (a+1)):lo * s≤f * M∧f * M≤hi * s:=by
 by_cases hf:f<0
 ·rw [if_pos hf] at e1 e2;subst e1 e2;rw [Int.mul_assoc,Int.mul_assoc];exact ⟨(zkL h2).2 hf,(zkL h1).2 hf⟩
 ·rw [if_neg hf] at e1 e2;subst e1 e2;rw [Int.mul_assoc,Int.mul_assoc];exact ⟨(zkL h1).1 (by omega),(zkL h2).1 (by omega)⟩
theorem zkN {n:Nat}(hn:n≤2048)(l:List (Int × Int)):zkC n l * ((2 ^ (2048 - n):Nat):Int)≤zkE l∧zkE l≤zkD n l * ((2 ^ (2048 - n):Nat):Int):=by
 induction l with
 | nil=>simp [zkC,zkD,zkE]
 | cons e l ih =>
  have key:loN n e.1 e.2 * ((2 ^ (2048 - n):Nat):Int)≤e.2 * (LG e.1 2048:Int)∧e.2 * (LG e.1 2048:Int)≤hiN n e.1 e.2 * ((2 ^ (2048 - n):Nat):Int):=by
   by_cases hp:e.1=2
   ·have e1:(LG e.1 2048:Int)=((2 ^ n:Nat):Int) * ((2 ^ (2048 - n):Nat):Int):=by
     rw [← Int.natCast_mul,zkJ hn];unfold LG;rw [if_pos hp]
    unfold loN hiN;rw [if_pos hp,if_pos hp,e1,← Int.mul_assoc];exact ⟨Int.le_refl _,Int.le_refl _⟩
   ·have hs:=zkK (p:=e.1) hn;refine zkM (a:=(LG e.1 n:Int)) ?_ ?_ ?_ ?_
    ·rw [← Int.natCast_mul];exact Int.ofNat_le.2 hs.1
    ·have:=Int.ofNat_le.2 hs.2;rw [Int.natCast_mul,Int.natCast_add] at this;exact this
    ·unfold loN;rw [if_neg hp]
    ·unfold hiN;rw [if_neg hp]
  simp only [zkC,zkD,zkE,Int.add_mul]
  omega
def S22 : Nat:=2 ^ 2022
theorem zkO : (0:Int)<(S22:Int):=by decide +kernel
theorem zkP {p:Int}(hp:zkH p):(lg p:Int) * (S22:Int)≤(LG p 2048:Int)∧(LG p 2048:Int)≤(lg p+1) * (S22:Int):=by
 rcases hp with rfl | rfl | rfl <;> decide +kernel
theorem zkQ : (LG 2 2048:Int)=lg 2 * (S22:Int):=by decide +kernel
theorem zkR {l:List (Int × Int)}(hl:∀ e∈l,zkH e.1):lowT l * (S22:Int)≤zkE l∧zkE l≤higT l * (S22:Int):=by
 induction l with
 | nil=>simp [lowT,higT,zkE]
 | cons e l ih =>
  have ih:=ih fun x hx=>hl x (List.mem_cons_of_mem _ hx)
  have key:loP e.1 e.2 * (S22:Int)≤e.2 * (LG e.1 2048:Int)∧e.2 * (LG e.1 2048:Int)≤hiP e.1 e.2 * (S22:Int):=by
   by_cases hp:e.1=2
   ·unfold loP hiP;rw [if_pos hp,if_pos hp,hp,zkQ,← Int.mul_assoc];exact ⟨Int.le_refl _,Int.le_refl _⟩
   ·have hs:=zkP (hl e (List.mem_cons_self ..));have e0:e.2 * (lg e.1+1)=e.2 * lg e.1+e.2:=(by rw [Int.mul_add,Int.mul_one]);refine zkM (a:=lg e.1) hs.1 hs.2 ?_ ?_
    ·unfold loP;rw [if_neg hp];split <;> omega
    ·unfold hiP;rw [if_neg hp];split <;> omega
  simp only [lowT,higT,zkE,Int.add_mul]
  generalize (S22:Int)=s at *
  omega
theorem zkS {lo hi s M K D q:Int}(hs:0<s)(hD:0<D)(h1:lo * s≤M)(h2:M≤hi * s)(hK:K=D * s)(g1:lo / D=q)(g2:hi / D=q):M / K=q:=by
 have e1:=Int.mul_ediv_add_emod lo D;have e2:=Int.emod_nonneg lo (show D ≠ 0 by omega);have e3:=Int.mul_ediv_add_emod hi D;have e4:=Int.emod_lt_of_pos hi hD;rw [g1] at e1;rw [g2] at e3;have hKp:0<K:=by rw [hK];exact Int.mul_pos hD hs
 have a1:D * q≤lo:=by omega
 have a2:hi+1≤D * q+D:=by omega
 have b1:=Int.mul_le_mul_of_nonneg_right a1 (show 0≤s by omega);have b2:=Int.mul_le_mul_of_nonneg_right a2 (show 0≤s by omega);have c1:D * q * s=K * q:=by rw [hK];grind
 have c2:(D * q+D) * s=K * q+K:=by rw [hK];grind
 rw [c1] at b1;rw [c2,Int.add_mul] at b2;have e5:M=(M - K * q)+K * q:=by omega
 rw [e5,Int.add_mul_ediv_left _ _ (by omega),Int.ediv_eq_zero_of_lt (by omega) (by omega)];omega
theorem zkT {n:Nat}(l:List (Int × Int)):zkD n l - zkC n l≤zeI l∧zkC n l≤zkD n l:=by
 induction l with
 | nil=>simp [zkC,zkD,zeI]
 | cons e l ih =>
  have e0:e.2 * ((LG e.1 n:Int)+1)=e.2 * (LG e.1 n:Int)+e.2:=by rw [Int.mul_add,Int.mul_one]
  have key:hiN n e.1 e.2 - loN n e.1 e.2≤(if e.1=2 then 0 else (e.2.natAbs:Int))∧loN n e.1 e.2≤hiN n e.1 e.2:=by
   unfold loN hiN;rw [e0];generalize e.2 * (LG e.1 n:Int)=q;generalize e.2 * ((2 ^ n:Nat):Int)=r;split
   ·omega
   ·split <;> omega
  simp only [zkC,zkD,zeI]
  omega
theorem zkU {p:List Int}{a:Rat}{tl:List Rat}(hp:Pr p (a::tl).length)(d:Nat):∃ B C:Int,zkE (p.zip (fcd d (a::tl)))=a.num * ((d / a.den:Nat):Int) * KK+B * (L3:Int)+C * (L5:Int)∧zeI (p.zip (fcd d (a::tl)))=(B.natAbs:Int)+(C.natAbs:Int) ∧
  (∀ h:Nat,(∀ r∈tl,(r.num * ((d / r.den:Nat):Int)).natAbs≤h)→B.natAbs≤h∧C.natAbs≤h)∧(0<d→(∀ r∈tl,r.den ∣ d)→B=0→C=0→∀ r∈tl,r=0):=by
 have l2:(LG 2 2048:Int)=KK:=by decide +kernel
 have l3:LG 3 2048=L3:=by decide +kernel
 have l5:LG 5 2048=L5:=by decide +kernel
 have hz:∀ r:Rat,0<d→r.den ∣ d→r.num * ((d / r.den:Nat):Int)=0→r=0:=fun r h0 hd h=>by
  have h3:0<d / r.den:=Nat.div_pos (Nat.le_of_dvd h0 hd) r.den_pos;rcases Int.mul_eq_zero.1 h with g | g
  ·exact Rat.num_eq_zero.1 g
  ·omega
 rcases hp with ⟨rfl,h⟩ | ⟨rfl,h⟩
 ·match tl,h with
  | [b],_ =>
   refine ⟨b.num * ((d / b.den:Nat):Int),0,?_,?_,fun m h=>⟨h b (List.mem_singleton.2 rfl),by simp⟩,fun h0 hd hB _ r hr=>?_⟩
   ·simp only [fcd,List.map_cons,List.map_nil,List.zip_cons_cons,List.zip_nil_left,zkE,l2,l3]
    omega
   ·simp only [fcd,List.map_cons,List.map_nil,List.zip_cons_cons,List.zip_nil_left,zeI]
    simp
   ·rw [List.mem_singleton] at hr;subst hr
    exact hz _ h0 (hd _ (List.mem_singleton.2 rfl)) hB
 ·match tl,h with
  | [b,c],_ =>
   refine ⟨b.num * ((d / b.den:Nat):Int),c.num * ((d / c.den:Nat):Int),?_,?_,fun m h=>⟨h b (by simp),h c (by simp)⟩,fun h0 hd hB hC r hr=>?_⟩
   ·simp only [fcd,List.map_cons,List.map_nil,List.zip_cons_cons,List.zip_nil_left,zkE,l2,l3,l5]
    omega
   ·simp only [fcd,List.map_cons,List.map_nil,List.zip_cons_cons,List.zip_nil_left,zeI]
    simp
   ·simp only [List.mem_cons,List.not_mem_nil,or_false] at hr
    rcases hr with rfl | rfl
    ·exact hz _ h0 (hd _ (by simp)) hB
    ·exact hz _ h0 (hd _ (by simp)) hC
theorem zkV (n:Nat)(l:List (Int × Int)):zkC n (l.filter fun e=>e.2 != 0)=zkC n l∧zkD n (l.filter fun e=>e.2 != 0)=zkD n l∧zkE (l.filter fun e=>e.2 != 0)=zkE l:=by
 induction l with
 | nil=>simp
 | cons e l ih =>
  rw [List.filter_cons]
  by_cases h:e.2=0
  ·rw [if_neg (by simp [h])]
   simp only [zkC,zkD,zkE,h,ih,loN,hiN]
   simp
  ·rw [if_pos (by simp [h])]
   simp only [zkC,zkD,zkE,ih,and_self]
def flN (p:List Int)(x:List Rat):Int:=zkE (tms p (dn x) x) / (KK * ((dn x:Nat):Int))
theorem zkW {M E D lo hi:Int}(hD:0<D)(h1:M - E≤lo)(h2:lo≤M)(h3:M≤hi)(h4:hi≤M+E)(_:0≤E)(hf:∀ m:Int,E<(M - m * D).natAbs) :
  lo / D=M / D∧hi / D=M / D:=by
 have e1:=Int.mul_ediv_add_emod M D;have e2:=Int.emod_nonneg M (show D ≠ 0 by omega);have e3:=Int.emod_lt_of_pos M hD;have f1:=hf (M / D);have f2:=hf (M / D+1);generalize hq:M / D=q at *;generalize M % D=r at *;have g1:M - q * D=r:=by rw [Int.mul_comm q D];omega
 have g2:M - (q+1) * D=r - D:=by rw [Int.add_mul,Int.one_mul,Int.mul_comm q D];omega
 rw [g1] at f1;rw [g2] at f2;constructor
 ·have:lo=(r - (M - lo))+D * q:=by omega
  rw [this,Int.add_mul_ediv_left _ _ (by omega),Int.ediv_eq_zero_of_lt (by omega) (by omega)];omega
 ·have:hi=(r+(hi - M))+D * q:=by omega
  rw [this,Int.add_mul_ediv_left _ _ (by omega),Int.ediv_eq_zero_of_lt (by omega) (by omega)];omega
def FwN (x:List Rat):Prop:=∀ r∈x,(r.num * ((dn x / r.den:Nat):Int)).natAbs≤HH
theorem zkX {p:List Int}{a:Rat}{tl:List Rat}(hp:Pr p (a::tl).length)(hw:FwN (a::tl))(hne:¬ ∀ r∈tl,r=0) :
  zkC 2048 (tms p (dn (a::tl)) (a::tl)) / (KK * ((dn (a::tl):Nat):Int))=zkD 2048 (tms p (dn (a::tl)) (a::tl)) / (KK * ((dn (a::tl):Nat):Int)):=by
 obtain ⟨B,C,hM,hE,hbd,hz⟩:=zkU hp (dn (a::tl));have hBC:=hbd HH fun r hr=>hw r (List.mem_cons_of_mem _ hr);have hd:=zeR (a::tl);have hK:0<KK:=by decide +kernel
 have hend:=zkN (n:=2048) (Nat.le_refl _) (tms p (dn (a::tl)) (a::tl));have herr:=zkT (n:=2048) (tms p (dn (a::tl)) (a::tl));rw [show ((2 ^ (2048 - 2048):Nat):Int)=1 by decide,Int.mul_one,Int.mul_one] at hend;have e1:zkE (tms p (dn (a::tl)) (a::tl))=zkE (p.zip (fcd (dn (a::tl)) (a::tl))):=(zkV 0 _).2.2;have e2:zeI (tms p (dn (a::tl)) (a::tl))=zeI (p.zip (fcd (dn (a::tl)) (a::tl))):=(zeN _).2.2.2;rw [e1,hM] at hend;rw [e2,hE] at herr;have hDp:0<KK * ((dn (a::tl):Nat):Int):=Int.mul_pos hK (by omega);have hfar:∀ m:Int,(2 * HH:Nat)<(a.num * ((dn (a::tl) / a.den:Nat):Int) * KK+B * (L3:Int)+C * (L5:Int) - m * (KK * ((dn (a::tl):Nat):Int))).natAbs:=fun m=>by
  rcases Nat.lt_or_ge (2 * HH) (a.num * ((dn (a::tl) / a.den:Nat):Int) * KK+B * (L3:Int)+C * (L5:Int) - m * (KK * ((dn (a::tl):Nat):Int))).natAbs with g | g
  ·exact g
  ·exfalso;have e:a.num * ((dn (a::tl) / a.den:Nat):Int) * KK+B * (L3:Int)+C * (L5:Int) - m * (KK * ((dn (a::tl):Nat):Int))=(a.num * ((dn (a::tl) / a.den:Nat):Int) - m * ((dn (a::tl):Nat):Int)) * KK+B * (L3:Int)+C * (L5:Int):=(by grind);rw [e] at g;have:=zkB hBC.1 hBC.2 g;exact hne (hz hd (fun r hr=>zeQ _ r (List.mem_cons_of_mem _ hr)) this.2.1 this.2.2)
 generalize a.num * ((dn (a::tl) / a.den:Nat):Int) * KK+B * (L3:Int)+C * (L5:Int)=M at *;generalize zkC 2048 (tms p (dn (a::tl)) (a::tl))=lo at *;generalize zkD 2048 (tms p (dn (a::tl)) (a::tl))=hi at *;have h1:B.natAbs≤HH:=hBC.1;have h2:C.natAbs≤HH:=hBC.2;have:=zkW (M:=M) (lo:=lo) (hi:=hi) (E:=((2 * HH:Nat):Int)) hDp (by omega) (by omega) (by omega) (by omega) (by omega) (fun m=>Int.ofNat_lt.2 (hfar m));rw [this.1,this.2]
theorem zkY : KK=((2 ^ 2048:Nat):Int):=by decide +kernel
theorem zkZ {n:Nat}(hn:n≤2048)(d:Int):KK * d=((2 ^ n:Nat):Int) * d * ((2 ^ (2048 - n):Nat):Int):=by
 have:KK=((2 ^ n:Nat):Int) * ((2 ^ (2048 - n):Nat):Int):=by
  rw [← Int.natCast_mul,zkJ hn];exact zkY
 rw [this];grind
theorem zla : KK=67108864 * (S22:Int):=by decide +kernel
theorem zlb {p:List Int}{x:List Rat}{n:Nat}(hn:n≤2048){q:Int}(h1:zkC n (tms p (dn x) x) / (((2 ^ n:Nat):Int) * ((dn x:Nat):Int))=q)(h2:zkD n (tms p (dn x) x) / (((2 ^ n:Nat):Int) * ((dn x:Nat):Int))=q):flN p x=q:=by
 have hd:=zeR x;have h:=zkN hn (tms p (dn x) x);exact zkS (Int.natCast_pos.2 (Nat.pow_pos (by omega))) (Int.mul_pos (Int.natCast_pos.2 (Nat.pow_pos (by omega))) (by omega)) h.1 h.2 (zkZ hn _) h1 h2
theorem zlc {p:List Int}{x:List Rat}(hl:∀ e∈tms p (dn x) x,zkH e.1){q:Int}(h1:lowT (tms p (dn x) x) / (67108864 * ((dn x:Nat):Int))=q)(h2:higT (tms p (dn x) x) / (67108864 * ((dn x:Nat):Int))=q):flN p x=q:=by
 have hd:=zeR x;have h:=zkR hl;have e:KK * ((dn x:Nat):Int)=67108864 * ((dn x:Nat):Int) * (S22:Int):=by rw [zla];grind
 exact zkS zkO (by omega) h.1 h.2 e h1 h2
theorem zld {p:List Int}{x:List Rat}{n:Nat}(hp:Pr p n)(d:Nat):∀ e∈tms p d x,zkH e.1:=by
 intro e he;have:=(List.mem_filter.1 he).1;have h1:e.1∈p:=(List.of_mem_zip (show (e.1,e.2)∈p.zip (fcd d x) from this)).1;rcases hp with ⟨rfl,_⟩ | ⟨rfl,_⟩ <;> simp only [List.mem_cons,List.not_mem_nil,or_false] at h1
 ·rcases h1 with h | h
  ·exact .inl h
  ·exact .inr (.inl h)
 ·exact h1
theorem zle {p:List Int}{a:Rat}{tl:List Rat}(hp:Pr p (a::tl).length)(h:∀ r∈tl,r=0):flN p (a::tl)=a.floor:=by
 obtain ⟨B,C,hM,-,hbd,-⟩:=zkU hp (dn (a::tl));have hBC:=hbd 0 fun r hr=>by rw [h r hr];simp
 have e1:zkE (tms p (dn (a::tl)) (a::tl))=zkE (p.zip (fcd (dn (a::tl)) (a::tl))):=(zkV 0 _).2.2;have hK:0<KK:=by decide +kernel
 have hd:=zeR (a::tl);have hdv:=zeQ (a::tl) a (List.mem_cons_self ..);unfold flN;rw [e1,hM,show B=0 by omega,show C=0 by omega,Int.zero_mul,Int.zero_mul,Int.add_zero,Int.add_zero,Int.mul_comm _ KK,Int.mul_ediv_mul_of_pos _ _ hK,Rat.floor_def];obtain ⟨k,hk⟩:=hdv;have hk0:0<k:=Nat.pos_of_ne_zero fun e=>by rw [e] at hk;omega
 rw [hk,Nat.mul_div_cancel_left _ a.den_pos,Int.natCast_mul,Int.mul_ediv_mul_of_pos_left _ _ (by omega)]
end Go.Proofs.YtoehmpbipbbffaaGreatDoor
