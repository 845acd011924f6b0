/- -/
import Derived.Deep.DeepMust
import Derived.Deep.CutRange
import Derived.Test.YtdojafpjipcbjaaGreatK12
import Derived.Test.YtdojafpjipcbjaaGreatK21
import Derived.Test.YtdojafpjipcbjaaGreatK31
import Derived.Test.YtdojafpjipcbjaaGreatK32
open Go.Proofs.Tryz
open Go.Lib (hid)
set_option maxHeartbeats 1000000
set_option maxRecDepth 100000
namespace Go.Proofs.YtdojafpjipcbjaaGreat
open Go.RowKit
set_option linter.unusedVariables false
set_option linter.unusedSimpArgs false
theorem O0(w:World)(cs ds:List Value)(t:TypeId)(h0:0<cs.length):CellsAt ((w.alloc (.cells cs.toArray t)).alloc (.cells ds.toArray t)) w.heap.size cs∧CellsAt ((w.alloc (.cells cs.toArray t)).alloc (.cells ds.toArray t)) (w.heap.size+1) ds∧Below w.heap.size w ((w.alloc (.cells cs.toArray t)).alloc (.cells ds.toArray t))∧((w.alloc (.cells cs.toArray t)).alloc (.cells ds.toArray t)).heap.size=w.heap.size+2:=by
 obtain⟨h1,h2⟩:=M9 w cs t;obtain⟨h3,h4⟩:=M9 (w.alloc (.cells cs.toArray t)) ds t;have hs:(w.alloc (.cells cs.toArray t)).heap.size=w.heap.size+1:=by simp
 refine⟨h2.below h0 h3,by rw[←hs];exact h4,h1.alloc (by omega) _,by simp⟩
theorem c9:(#[.int .u32 0,.int .u32 0,.int .u32 0,.int .u32 0,.int .u32 0,.int .u32 0,.int .u32 0,.int .u32 0,.int .u32 0,.int .u32 0,.int .u32 0,.int .u32 0,.int .u32 0,.int .u32 0,.int .u32 0,.int .u32 0,.int .u32 0,.int .u32 0,.int .u32 0,.int .u32 0,.int .u32 0,.int .u32 0,.int .u32 0,.int .u32 0,.int .u32 0,.int .u32 0,.int .u32 0,.int .u32 0,.int .u32 0,.int .u32 0,.int .u32 0,.int .u32 0,.int .i64 0,.int .u32 0,.slice none 0 0,.int .i64 0]:Array Value)=(A4 G3 (.slice none 0 0)).toArray:=rfl
theorem g9:MOk G3:=⟨rfl,fun k=>by
 have:(List.replicate 32 (0:Int)).getD k 0=0:=by
  rw[List.getD_eq_getElem?_getD,List.getElem?_replicate]
  split<;>rfl
 show 0≤(List.replicate 32 (0:Int)).getD k 0∧(List.replicate 32 (0:Int)).getD k 0<4294967296
 omega,⟨by decide,by decide⟩,fun i=>by show 0≤([]:List Int).getD i 0∧([]:List Int).getD i 0<256;simp⟩
theorem d7(c:Mac)(mv:Value)(w:World)(hr:c.r.length=32)(hm:Ints .u8 w mv c.m):Calls prog 25 #[.agg (A4 c mv).toArray] w fun e w'=>e= .returned (.int .i64 (N8 c))∧Below w.heap.size w w':=by
 obtain⟨va,vc,hmv,hl1,hl2⟩:=hm.shape;obtain⟨hb,hk⟩:=M9 w (A4 c mv) 26;have HB:=hid hb;obtain⟨⟨c32,-⟩,-,⟨c34,-⟩,-⟩:=hk.tails hr;unfold N8;generalize A4 c mv=cs at*
 rw[hmv]at c34;generalize c.m.length=len at*
 generalize c.f=f at*
 clear hmv hk hb hm hr;by_cases h1:32768<len
 ·rw[if_pos (Or.inl h1)];have d1:decide ((32768:Int)<(len:Int))=true:=decide_eq_true (by omega);clear h1 hl1 hl2;go_enter func25,ntmps25;go_wp2_with fail
  go_ret;exact⟨rfl,HB.out⟩
 ·have d1:decide ((32768:Int)<(len:Int))=false:=decide_eq_false (by omega);by_cases h2:f<0
  ·rw[if_pos (Or.inr (Or.inl h2))];have d2:decide (f<0)=true:=decide_eq_true h2;clear h1 h2 hl1 hl2;go_enter func25,ntmps25;go_wp2_with fail
   go_ret;exact⟨rfl,HB.out⟩
  ·have d2:decide (f<0)=false:=decide_eq_false h2;by_cases h3:15<f
   ·rw[if_pos (Or.inr (Or.inr h3))];have d3:decide (15<f)=true:=decide_eq_true h3;clear h1 h2 h3 hl1 hl2;go_enter func25,ntmps25;go_wp2_with fail
    go_ret;exact⟨rfl,HB.out⟩
   ·rw[if_neg (by omega)];have d3:decide (15<f)=false:=decide_eq_false h3;clear h1 h2 h3 hl1 hl2;go_enter func25,ntmps25;go_wp2_with fail
    go_ret;exact⟨rfl,HB.out⟩
theorem l8(c:Mac)(mv:Value)(w:World)(ho:MOk c)(hm:Ints .u8 w mv c.m)(hl:c.m.length≤100000):Calls prog 7 #[.agg (A4 c mv).toArray] w fun e w'=>∃mv',e= .returned (.agg (A4 c mv').toArray)∧MemO w.heap.size w' mv' c.m∧Below w.heap.size w w':=by
 have hsz:∀v,(prog.info? 26).map (·.size)=some (A4 c v).length:=fun v=>by rw[B1 ho.rl];kernel_rfl
 have hlen:=B1 ho.rl mv;have hl36:=fun v=>B1 ho.rl v
 obtain⟨k0,k1,hb1,hs1⟩:=O0 w (A4 c mv) (A4 G3 (.slice none 0 0)) 26 (by omega);obtain⟨-,-,c34,-⟩:=k0.tails ho.rl;have h9:=ho.rl;rw[←c9]at k0 k1 hb1 hs1 c34;have hv1:=hm.stays hb1;obtain⟨W1,hW1⟩:∃W,((w.alloc (.cells (A4 c mv).toArray 26)).alloc (.cells #[.int .u32 0,.int .u32 0,.int .u32 0,.int .u32 0,.int .u32 0,.int .u32 0,.int .u32 0,.int .u32 0,.int .u32 0,.int .u32 0,.int .u32 0,.int .u32 0,.int .u32 0,.int .u32 0,.int .u32 0,.int .u32 0,.int .u32 0,.int .u32 0,.int .u32 0,.int .u32 0,.int .u32 0,.int .u32 0,.int .u32 0,.int .u32 0,.int .u32 0,.int .u32 0,.int .u32 0,.int .u32 0,.int .u32 0,.int .u32 0,.int .u32 0,.int .u32 0,.int .i64 0,.int .u32 0,.slice none 0 0,.int .i64 0] 26))=W:=⟨_,rfl⟩
 rw[hW1]at k0 k1 hb1 hs1 c34 hv1;have hset:=fun v=>k7 ho.rl mv v
 have HLEN:=hid hl;have HVW:=hid ((hv1.stays ((Below.refl W1.heap.size W1).alloc (Nat.le_refl _) (.cells #[] 5))));have HROW:=hid (RowI.lit W1 #[] [] .u8 5 W1.heap.size 0 (Nat.le_refl _) rfl rfl (by unfold maxLen;simp));have HK0:=hid k0;have HK1:=hid k1;have HB1:=hid hb1;have HSZ:=hid hsz;have HSET:=hid hset;have HL36:=hid hl36;have HRL:=hid ho.rl;generalize hcs:A4 c mv=cs at*
 obtain⟨c34,f34⟩:=c34;have hlt:w.heap.size<W1.heap.size:=by omega
 have hlt1:w.heap.size+1<W1.heap.size:=by omega
 have HLN:=hid hlen;clear hcs;obtain⟨va,vc,rfl,hl1,hl2⟩:=hm.shape;clear k0 k1 hb1 hsz hset hl36 hlen hs1 hv1 hl ho hm h9 hl1 hl2;go_enter func7,ntmps7;go_upto_region 1 with fail
 clear hW1;go_upto_region 2 with(at_builtin;go_must (refine A0R rfl _ _ rfl W1.heap.size _ [] rfl HROW.out _ c.m rfl HVW.out (by simpa using HLEN.out) (by simp) ?_;intro v5 w5 hr5 hb5;have hr6:RowI w5 W1.heap.size 5 .u8 v5 c.m:=hr5;clear hr5;obtain⟨a5,k5,e5⟩:=hr6.shape;subst e5;have HR5:=hid hr6;clear hr6;have hb5':Below W1.heap.size W1 w5:=((Below.refl W1.heap.size W1).alloc (Nat.le_refl _) _).trans hb5;have y34:w5.cell? ⟨w.heap.size,34,none⟩=some (.slice va c.m.length vc):=(hb5'.cell (p:=⟨w.heap.size,34,none⟩) hlt).trans c34;have z34:w5.frozen? ⟨w.heap.size,34,none⟩=false:=(hb5'.frozen (p:=⟨w.heap.size,34,none⟩) hlt).trans f34))
 have HB5:=hid hb5';have hcs0:0<cs.length:=by rw[HLN.out];decide
 have K0:=(HK0.out.below hcs0 hb5').set (k:=34) (by rw[HLN.out];decide) (.slice a5 c.m.length k5);have K1:=(HK1.out.below (by rw[B1 rfl];decide) hb5').other (b':=w.heap.size) (k:=34) (by omega) (.slice a5 c.m.length k5);have hb6:=(HB1.out.trans (hb5'.mono (by omega))).setCell (p:=⟨w.heap.size,34,none⟩) (Nat.le_refl _) (.slice a5 c.m.length k5);have hmo:=HR5.out.memO.set (b:=w.heap.size) (j:=34) (by omega) (.slice a5 c.m.length k5);rw[HSET.out]at K0;have hsz1:=HSZ.out (.slice a5 c.m.length k5);have hone:=G5 (c:=c) (mv:=.slice a5 c.m.length k5) ⟨_,_,_,rfl⟩;have hlen1:=HL36.out (.slice a5 c.m.length k5);obtain⟨zs,hzs⟩:∃zs,A4 G3 (.slice none 0 0)=zs:=⟨_,rfl⟩
 have hzl:zs.length=36:=by rw[←hzs];exact B1 rfl _
 rw[hzs]at K1;generalize w5.setCell ⟨w.heap.size,34,none⟩ (.slice a5 c.m.length k5)=W6 at*
 have K2:=K1.setCells (ds:=A4 c (.slice a5 c.m.length k5)) (by omega);have HMO:=hid (((hmo.setCells (b:=w.heap.size+1) (by omega) (A4 c (.slice a5 c.m.length k5))).low (base':=w.heap.size) (by omega)));have HB6:=hid (E0 (b:=w.heap.size+1) (by omega) (A4 c (.slice a5 c.m.length k5)) 0 _ hb6);have hth:=K1.there (ds:=A4 c (.slice a5 c.m.length k5)) (by omega);have hsz2:(prog.info? 26).map (·.size)=some (A4 c (.slice a5 c.m.length k5)).toArray.size:=by simpa using hsz1
 have HK2:=hid K2;have HSZ1:=hid hsz1;have hrg:=K0.range;obtain⟨cs5,hcs5⟩:∃cs5,A4 c (.slice a5 c.m.length k5)=cs5:=⟨_,rfl⟩
 have HCS5:=hid hcs5;rw[hcs5]at hrg HK2 hsz1 hsz2 hone hth HB6 HMO HSZ1;clear hcs5 K0 K1 K2 hb6 hmo hlen1 hb5' HSET HSZ HL36 y34 z34 c34 f34 hcs0 hzl;go_wp2_with(first|(refine wpList_load_mid rfl _ _ rfl w.heap.size 0 rfl cs5 _ hrg underlying26 rfl hsz1 ?_)|(refine wpList_store_mid rfl _ _ _ rfl (w.heap.size+1) 0 cs5.toArray rfl rfl hth hsz2 hone ?_))
 refine bodyPost_ret (v:=.agg cs5.toArray) (A1W rfl rfl HK2.out underlying26 rfl HSZ1.out) rfl ⟨.slice a5 c.m.length k5,by rw[HCS5.out],HMO.out,HB6.out⟩
theorem B1m{x:Ins}(hk:okI x=true):(x.o≤31∨34≤x.o→x.z=16∨x.z=32)∧(4≤x.o∧x.o≤6→x.z=32):=by
 have h2:(szI x.o).contains x.z=true:=by unfold okI at hk;simp only[Bool.and_eq_true]at hk;exact hk.1
 have h3:=(X9 (B2 hk)).1;unfold szI at h2
 repeat' split at h2
 all_goals(simp at h2;try omega)
theorem A6X{x:Ins}(hk:okI x=true)(ho:x.o=1∨(14≤x.o∧x.o≤19)):0≤x.i∧x.i<pwZ x.z:=by
 have h:=B2 hk;unfold D2 at h;rw[if_neg (by omega),if_pos ho]at h;simp only[inZ,Bool.and_eq_true,decide_eq_true_eq]at h;omega
theorem A6Z{x:Ins}(hk:okI x=true)(ho:2≤x.o∧x.o≤6): -2147483648≤x.i∧x.i≤4294967295:=by
 have h:=B2 hk;unfold D2 at h;rw[if_neg (by omega),if_neg (by omega)]at h;by_cases c1:x.o=2∨x.o=4∨x.o=5
 ·rw[if_pos c1]at h;simp only[C9,Bool.and_eq_true,decide_eq_true_eq]at h;omega
 rw[if_neg c1]at h;by_cases c1:x.o=3
 ·rw[if_pos c1]at h;simp only[C9,Bool.and_eq_true,decide_eq_true_eq]at h;omega
 rw[if_neg c1,if_pos (by omega)]at h;simp only[C9,Bool.and_eq_true,decide_eq_true_eq]at h;omega
theorem A7E{o i z:Int}{d s:Nat}{c:Mac}(ho:14≤o∧o≤18)(i0:0≤i)(i1:i<4294967296):exO o d s i z c=some {c with r:=c.r.set d (wrR (c.r.getD d 0) (M8 o (c.r.getD d 0%pwZ z) i z).1 z),f:=(M8 o (c.r.getD d 0%pwZ z) i z).2}:=by
 have e:i%4294967296=i:=Int.emod_eq_of_lt i0 i1;have:o=14∨o=15∨o=16∨o=17∨o=18:=by omega
 rcases this with rfl|rfl|rfl|rfl|rfl
 ·show some (A2i d s i z c)=_;unfold A2i;rw[e];rfl
 ·show some (A2h d s i z c)=_;unfold A2h;rw[e];rfl
 ·show some (A2g d s i z c)=_;unfold A2g;rw[e];rfl
 ·show some (A2f d s i z c)=_;unfold A2f;rw[e];rfl
 ·show some (A2e d s i z c)=_;unfold A2e;rw[e];rfl
theorem A9e{i z:Int}{d s:Nat}{c:Mac}(i0:0≤i)(i1:i<4294967296):exO 19 d s i z c=some {c with f:=(M8 19 (c.r.getD d 0%pwZ z) i z).2}:=by
 have e:i%4294967296=i:=Int.emod_eq_of_lt i0 i1;show some (A2d d s i z c)=_;unfold A2d;rw[e];rfl
section
variable {base M : Nat} {mv : Value} {c : Mac}
theorem A9g(x:Ins)(w:World)(h:MM base M mv c w)(hok:okI x=true)(hn:x.o≠34∧x.o≠35):Calls prog 48 #[.pointer (some ⟨M,0,none⟩),D5 x] w fun e w'=>RdP base M mv c (exM x (max x.z 16) c) w e w':=by
 obtain⟨h1,h2,h3,h4,h5⟩:=X9 (B2 hok);obtain⟨hz1,hz2⟩:=B1m hok;have hp:=A6X hok;have hm:=A6Z hok;obtain⟨o,d,s,z,i⟩:=x;dsimp only at h1 h2 h3 h4 h5 hz1 hz2 hp hm hn;obtain⟨d,rfl⟩:=Int.eq_ofNat_of_zero_le h2.1;obtain⟨s,rfl⟩:=Int.eq_ofNat_of_zero_le h3.1;have hd:d<32:=by omega
 have hs:s<32:=by omega
 unfold exM D5;simp only[Int.toNat_natCast];have ho:o=0∨o=1∨o=2∨o=3∨o=4∨o=5∨o=6∨(7≤o∧o≤11)∨(12≤o∧o≤13)∨(14≤o∧o≤18)∨o=19∨o=20∨o=21∨o=22∨o=23∨o=24∨o=25∨o=26∨o=27∨o=28∨o=29∨o=30∨o=31∨o=32∨o=33∨o=36:=by omega
 by_cases hj:o=32∨o=33
 ·rcases hj with rfl|rfl
  ·exact N9 32 (some c) (by decide) d s z i w h fun wk hk=>A9m d s hd hs z i wk hk
  ·exact N9 33 (some c) (by decide) d s z i w h fun wk hk=>A9l d s hd hs z i wk hk
 have hz:z=16∨z=32:=hz1 (by omega);have hmx:max z 16=z:=by omega
 have hpw:=N0 hz;rw[hmx];rcases ho with rfl|rfl|rfl|rfl|rfl|rfl|rfl|ho|ho|ho|rfl|rfl|rfl|rfl|rfl|rfl|rfl|rfl|rfl|rfl|rfl|rfl|rfl|rfl|rfl|rfl
 ·exact B3g d s hd hs z i w h hz
 ·exact B3f d s hd hs z i w h hz (hp (by omega)).1 (hp (by omega)).2
 ·rcases hz with rfl|rfl
  ·exact A2C d s hd hs 16 i w h rfl (hm (by omega))
  ·exact A2B d s hd hs 32 i w h rfl (hm (by omega))
 ·rcases hz with rfl|rfl
  ·exact A1y d s hd hs 16 i w h rfl (hm (by omega))
  ·exact A1x d s hd hs 32 i w h rfl (hm (by omega))
 ·obtain rfl:=hz2 (by omega);exact A2A d s hd hs 32 i w h rfl (hm (by omega))
 ·obtain rfl:=hz2 (by omega);exact A1z d s hd hs 32 i w h rfl (hm (by omega))
 ·obtain rfl:=hz2 (by omega);exact A1w d s hd hs 32 i w h rfl (hm (by omega))
 ·have:o=7∨o=8∨o=9∨o=10∨o=11:=by omega
  have h9:=B2p (c:=c) o d s hd hs z i w h hz this;rcases this with rfl|rfl|rfl|rfl|rfl<;>exact h9
 ·have:o=12∨o=13:=by omega
  have h9:=B2o (c:=c) o d s hd hs z i w h hz this;rcases this with rfl|rfl<;>exact h9
 ·have h8:=hp (by omega);rw[A7E ho h8.1 (by omega)];exact B2n o d s hd hs z i w h hz (by omega) h8.1 h8.2
 ·have h8:=hp (by omega);rw[A9e h8.1 (by omega)];exact B2m 19 d s hd hs z i w h hz rfl h8.1 h8.2
 ·exact N9 20 (some (A4x d s i z c)) (by decide) d s z i w h fun wk hk=>A9x d s hd hs z i wk hk
 ·exact N9 21 (some (A2c d s i z c)) (by decide) d s z i w h fun wk hk=>A9w d s hd hs z i wk hk hz
 ·exact N9 22 (some (A2b d s i z c)) (by decide) d s z i w h fun wk hk=>A9v d s hd hs z i wk hk hz
 ·exact N9 23 (some (A2a d s i z c)) (by decide) d s z i w h fun wk hk=>A9u d s hd hs z i wk hk hz
 ·rcases hz with rfl|rfl
  ·exact N9 24 (some (U7 d s i 16 c)) (by decide) d s 16 i w h fun wk hk=>A3u d s hd hs 16 i wk hk rfl
  ·exact N9 24 (some (U7 d s i 32 c)) (by decide) d s 32 i w h fun wk hk=>A3t d s hd hs 32 i wk hk rfl
 ·exact N9 25 (some (A1O d s i z c)) (by decide) d s z i w h fun wk hk=>A9t d s hd hs z i wk hk hz
 ·exact N9 26 (N6 d c) (by decide) d s z i w h fun wk hk=>A9s d s hd hs z i wk hk
 ·exact N9 27 (R4 d c) (by decide) d s z i w h fun wk hk=>A9r d s hd hs z i wk hk
 ·exact N9 28 (some (A1N d s i z c)) (by decide) d s z i w h fun wk hk=>A9q d s hd hs z i wk hk
 ·exact N9 29 (some (r8 d s i z c)) (by decide) d s z i w h fun wk hk=>A9p d s hd hs z i wk hk (h4 rfl)
 ·exact N9 30 (some (A1M d s i z c)) (by decide) d s z i w h fun wk hk=>A9o d s hd hs z i wk hk
 ·exact N9 31 (some (A1L d s i z c)) (by decide) d s z i w h fun wk hk=>A9n d s hd hs z i wk hk (h5 rfl)
 ·exact absurd (Or.inl rfl) hj
 ·exact absurd (Or.inr rfl) hj
 ·exact N9 36 (some c) (by decide) d s z i w h fun wk hk=>A9k d s hd hs z i wk hk
end
theorem r7(c:Mac)(mv:Value)(w:World)(ho:MOk c)(hm:∃a l k,mv= .slice a l k):Calls prog 46 #[.agg (A4 c mv).toArray] w fun e w'=>e= .returned (.agg (A4 {c with e:=3} mv).toArray)∧Below w.heap.size w w':=by
 obtain⟨k0,k1,hb1,hs1⟩:=O0 w (A4 c mv) (A4 G3 (.slice none 0 0)) 26 (by rw[B1 ho.rl];decide);obtain⟨-,-,-,⟨c35,f35⟩⟩:=k0.tails ho.rl;rw[←c9]at k0 k1 hb1 hs1 c35 f35;obtain⟨W1,hW1⟩:∃W,((w.alloc (.cells (A4 c mv).toArray 26)).alloc (.cells #[.int .u32 0,.int .u32 0,.int .u32 0,.int .u32 0,.int .u32 0,.int .u32 0,.int .u32 0,.int .u32 0,.int .u32 0,.int .u32 0,.int .u32 0,.int .u32 0,.int .u32 0,.int .u32 0,.int .u32 0,.int .u32 0,.int .u32 0,.int .u32 0,.int .u32 0,.int .u32 0,.int .u32 0,.int .u32 0,.int .u32 0,.int .u32 0,.int .u32 0,.int .u32 0,.int .u32 0,.int .u32 0,.int .u32 0,.int .u32 0,.int .u32 0,.int .u32 0,.int .i64 0,.int .u32 0,.slice none 0 0,.int .i64 0] 26))=W:=⟨_,rfl⟩
 rw[hW1]at k0 k1 hb1 hs1 c35 f35;have hlen:=B1 ho.rl mv;have hlt1:w.heap.size+1<W1.heap.size:=by omega
 have hlt0:w.heap.size<W1.heap.size:=by omega
 have K0:=k0.set (k:=35) (by omega) (.int .i64 3);rw[p6 ho.rl]at K0;have K1:=k1.other (b':=w.heap.size) (k:=35) (by omega) (.int .i64 3);have hb6:=hb1.setCell (p:=⟨w.heap.size,35,none⟩) (Nat.le_refl _) (.int .i64 3);have hl5:(A4 {c with e:=3} mv).length=36:=B1 (c:={c with e:=3}) ho.rl mv;have K2:=K1.setCells (ds:=A4 {c with e:=3} mv) (by rw[hl5,B1 rfl]);have HB6:=hid (E0 (b:=w.heap.size+1) (by omega) (A4 {c with e:=3} mv) 0 _ hb6);have hth:=K1.there (ds:=A4 {c with e:=3} mv) (by rw[hl5,B1 rfl]);have hsz1:=I3 (c:={c with e:=3}) ho.rl mv;have hsz2:(prog.info? 26).map (·.size)=some (A4 {c with e:=3} mv).toArray.size:=by simpa using hsz1
 have hone:=G5 (c:={c with e:=3}) hm;have hrg:=K0.range;have HK2:=hid K2;have HSZ1:=hid hsz1;obtain⟨cs,hcs⟩:∃cs,A4 c mv=cs:=⟨_,rfl⟩
 obtain⟨ds,hds⟩:∃ds,A4 {c with e:=3} mv=ds:=⟨_,rfl⟩
 rw[hcs]at hW1⊢;rw[hds]at hrg hsz1 hsz2 hone hth HB6 HK2 HSZ1⊢;clear K0 K1 K2 k0 k1 hb1 hb6 hl5 hcs hds hlen hs1 ho hm;go_enter func46,ntmps46;go_upto_region 1 with fail
 clear hW1;go_upto_region 2 with fail
 generalize W1.setCell ⟨w.heap.size,35,none⟩ (.int .i64 3)=W6 at*
 go_wp2_with(first|(refine wpList_load_mid rfl _ _ rfl w.heap.size 0 rfl ds _ hrg underlying26 rfl hsz1 ?_)|(refine wpList_store_mid rfl _ _ _ rfl (w.heap.size+1) 0 ds.toArray rfl rfl hth hsz2 hone ?_))
 exact bodyPost_ret (v:=.agg ds.toArray) (A1W rfl rfl HK2.out underlying26 rfl HSZ1.out) rfl ⟨rfl,HB6.out⟩
def K4(c:Mac)(k:Int):Int:=if 32768<c.m.length∨c.f<0∨15<c.f∨k<0∨200000<k then 1 else if c.e=0 then 0 else 9
theorem c8(c:Mac)(mv:Value)(k:Int)(w:World)(hr:c.r.length=32)(hm:Ints .u8 w mv c.m):Calls prog 27 #[.agg (A4 c mv).toArray,.int .i64 k] w fun e w'=>e= .returned (.int .i64 (K4 c k))∧Below w.heap.size w w':=by
 obtain⟨va,vc,hmv,hl1,hl2⟩:=hm.shape;obtain⟨hb,hk⟩:=M9 w (A4 c mv) 26;have HB:=hid hb;obtain⟨⟨c32,-⟩,-,⟨c34,-⟩,⟨c35,-⟩⟩:=hk.tails hr;unfold K4;generalize A4 c mv=cs at*
 rw[hmv]at c34;generalize c.m.length=len at*
 generalize c.f=f at*
 generalize c.e=ee at*
 clear hmv hk hb hm hr;by_cases h1:32768<len
 ·rw[if_pos (by omega)];have dh1:decide ((32768:Int)<(len:Int))=true:=decide_eq_true (by omega);clear hl1 hl2;go_enter func27,ntmps27;go_wp2_with fail
  go_ret;exact⟨rfl,HB.out⟩
 have dh1:decide ((32768:Int)<(len:Int))=false:=decide_eq_false (by omega);by_cases h2:f<0
 ·rw[if_pos (by omega)];have dh2:decide (f<0)=true:=decide_eq_true (by omega);clear hl1 hl2;go_enter func27,ntmps27;go_wp2_with fail
  go_ret;exact⟨rfl,HB.out⟩
 have dh2:decide (f<0)=false:=decide_eq_false (by omega);by_cases h3:15<f
 ·rw[if_pos (by omega)];have dh3:decide (15<f)=true:=decide_eq_true (by omega);clear hl1 hl2;go_enter func27,ntmps27;go_wp2_with fail
  go_ret;exact⟨rfl,HB.out⟩
 have dh3:decide (15<f)=false:=decide_eq_false (by omega);by_cases h4:k<0
 ·rw[if_pos (by omega)];have dh4:decide (k<0)=true:=decide_eq_true (by omega);clear hl1 hl2;go_enter func27,ntmps27;go_wp2_with fail
  go_ret;exact⟨rfl,HB.out⟩
 have dh4:decide (k<0)=false:=decide_eq_false (by omega);by_cases h5:200000<k
 ·rw[if_pos (by omega)];have dh5:decide (200000<k)=true:=decide_eq_true (by omega);clear hl1 hl2;go_enter func27,ntmps27;go_wp2_with fail
  go_ret;exact⟨rfl,HB.out⟩
 have dh5:decide (200000<k)=false:=decide_eq_false (by omega);rw[if_neg (by omega)];clear h1 h2 h3 h4 h5 hl1 hl2;by_cases h6:ee=0
 ·subst h6;rw[if_pos rfl];go_enter func27,ntmps27;go_wp2_with fail
  go_ret;exact⟨rfl,HB.out⟩
 ·rw[if_neg h6];have d6:(ee==0)=false:=by simpa using h6
  go_enter func27,ntmps27;go_wp2_with fail
  go_ret;exact⟨rfl,HB.out⟩
end Go.Proofs.YtdojafpjipcbjaaGreat
namespace Go.Proofs.YtdojafpjipcbjaaGreat
open Go.RowKit
set_option linter.unusedVariables false
set_option linter.unusedSimpArgs false
theorem A8y{p:Prop}(h:p:=by
 go_wp2_with((with_reducible first|refine(C1.out).mono ?_|refine(C2.out).mono ?_|refine(C3.out).mono ?_|refine(C4.out).mono ?_|refine(S1.out).mono ?_|refine(S2.out).mono ?_);rintro e w' ⟨rfl,rfl⟩)
 refine bodyPost_ret (v:=D5 ⟨-1,0,0,0,0⟩) (by simp[results,results106,go_sem,D5,rF,mF,q0,q1,q2,q3,q4]) rfl ⟨by rw[HX.out],?_⟩;exact B6 HB0.out (Nat.le_refl _) _ _ _ _ _
 ):p:=h
theorem Z7{l:List Int}(h:Byt l)(n k:Nat)(hk:k≤4):0≤nmR l n k∧nmR l n k<4294967296:=by
 unfold nmR;split
 ·exact Q9 h n k hk
 ·decide
theorem P2{l:List Int}(h:Byt l)(n:Nat):0≤nmR l n 1∧nmR l n 1<256:=by
 unfold nmR;split
 ·have:=h n;rw[show(1:Nat)=0+1 from rfl,A4O,A7L];omega
 ·decide
theorem A2L(n:Int):sgB n 32=D8 n:=rfl
theorem A7r(n:Int):sgB n 8=sg8 n:=rfl
theorem eqT{a b:Int}(h:a=b):(a==b)=true:=by subst h;exact beq_self_eq_true a
set_option maxHeartbeats 4000000 in
theorem A0e(l:List Int)(v:Value)(a:Nat)(w:World)(hv:Ints .u8 w v l)(hby:Byt l)(ha:a≤1)(hal:a≤l.length):Calls prog 106 #[v,.int .i64 a] w fun e w'=>e= .returned (D5 (O2 (l.drop a)))∧Below w.heap.size w w':=by
 obtain⟨W0,hW0⟩:∃W,w.alloc (.cells #[.int .i64 0,.int .i64 0,.int .i64 0,.int .i64 0,.int .i64 0] 61)=W:=⟨_,rfl⟩
 have hb0:Below w.heap.size w W0:=by rw[←hW0];exact(Below.refl _ _).alloc (Nat.le_refl _) _
 have hbx:Box5 W0 w.heap.size 0 0 0 0 0:=by rw[←hW0];exact Box5.new w 0 0 0 0 0
 have hv0:=hv.stays hb0;have C1:Hid (Calls prog 104 #[v,.int .i64 ((a:Int)+1),.int .i64 1] W0 fun e w'=>e= .returned (.tuple #[.int .i64 (nmR l ((a+1)) 1),.bool (nuB l ((a+1)) 1)])∧W0=w'):=hid (L5 l v ((a+1)) 1 W0 hv0 hby (by decide) (by omega));have C2:Hid (Calls prog 104 #[v,.int .i64 ((a:Int)+2),.int .i64 1] W0 fun e w'=>e= .returned (.tuple #[.int .i64 (nmR l ((a+2)) 1),.bool (nuB l ((a+2)) 1)])∧W0=w'):=hid (L5 l v ((a+2)) 1 W0 hv0 hby (by decide) (by omega));have C3:Hid (Calls prog 104 #[v,.int .i64 ((a:Int)+3),.int .i64 4] W0 fun e w'=>e= .returned (.tuple #[.int .i64 (nmR l ((a+3)) 4),.bool (nuB l ((a+3)) 4)])∧W0=w'):=hid (L5 l v ((a+3)) 4 W0 hv0 hby (by decide) (by omega));have C4:Hid (Calls prog 104 #[v,.int .i64 ((a:Int)+2),.int .i64 4] W0 fun e w'=>e= .returned (.tuple #[.int .i64 (nmR l ((a+2)) 4),.bool (nuB l ((a+2)) 4)])∧W0=w'):=hid (L5 l v ((a+2)) 4 W0 hv0 hby (by decide) (by omega));have k1:=P2 hby (a+1);have k2:=P2 hby (a+2);have k3:=Z7 hby (a+3) 4 (by decide);have k4:=Z7 hby (a+2) 4 (by decide);have S1:=hid (E3 (nmR l (a+3) 4) 32 W0 (by unfold I64;omega) (by omega) (by decide));have S2:=hid (E3 (nmR l (a+2) 4) 32 W0 (by unfold I64;omega) (by omega) (by decide));obtain⟨X,hX⟩:∃X,O2 (l.drop a)=X:=⟨_,rfl⟩
 rw[hX];have hE:=hX.symm;unfold O2 at hE;simp only[A1f _ _ _ _ hal,←A2L]at hE;generalize nmR l (a+1) 1=c at*
 generalize nmR l (a+2) 1=m at*
 generalize nmR l (a+3) 4=f at*
 generalize nmR l (a+2) 4=g at*
 generalize nuB l (a+1) 1=b1 at*
 generalize nuB l (a+2) 1=b2 at*
 generalize nuB l (a+3) 4=b3 at*
 generalize nuB l (a+2) 4=b4 at*
 generalize sgB f 32=f2 at*
 generalize sgB g 32=g2 at*
 have HE:=hid hE;have HB0:=hid hb0;have HBX:=hid hbx;have hw1:wrap64 ((a:Int)+1)=(a:Int)+1:=IntWalk.wrap64_in _ (by omega);have hw2:wrap64 ((a:Int)+2)=(a:Int)+2:=IntWalk.wrap64_in _ (by omega);have hw3:wrap64 ((a:Int)+3)=(a:Int)+3:=IntWalk.wrap64_in _ (by omega);obtain⟨⟨q0,q1,q2,q3,q4⟩,qf⟩:=hbx.cells;have g0:=qf 0;have g1:=qf 1;have g2':=qf 2;have g3:=qf 3;have g4:=qf 4;clear hX hE hb0 hbx hv0 hv hby qf;go_enter func106,ntmps106;go_upto_region 7 with((with_reducible first|refine(C1.out).mono ?_|refine(C2.out).mono ?_|refine(C3.out).mono ?_|refine(C4.out).mono ?_|refine(S1.out).mono ?_|refine(S2.out).mono ?_);rintro e w' ⟨rfl,rfl⟩)
 by_cases h0:c=11
 ·have e11:(c==11)=true:=eqT (by omega);have e175:(c==175)=false:=A8 (by omega);have e182:(c==182)=false:=A8 (by omega);have e183:(c==183)=false:=A8 (by omega);have HX:Hid (X=⟨35,0,0,32,0⟩):=hid (by rw[HE.out,if_pos (by omega)]);go_wp2_with((with_reducible first|refine(C1.out).mono ?_|refine(C2.out).mono ?_|refine(C3.out).mono ?_|refine(C4.out).mono ?_|refine(S1.out).mono ?_|refine(S2.out).mono ?_);rintro e w' ⟨rfl,rfl⟩)
  refine bodyPost_ret (v:=D5 ⟨35,0,0,32,0⟩) (by simp[results,results106,go_sem,D5,rF,mF,q0,q1,q2,q3,q4]) rfl ⟨by rw[HX.out],?_⟩;exact B6 HB0.out (Nat.le_refl _) _ _ _ _ _
 by_cases h1:c=175
 ·have e11:(c==11)=false:=A8 (by omega);have e175:(c==175)=true:=eqT (by omega);have e182:(c==182)=false:=A8 (by omega);have e183:(c==183)=false:=A8 (by omega);have HX:Hid (X=⟨20,rF m,mF m,32,0⟩):=hid (by rw[HE.out,if_neg (by omega),if_pos (by omega)]);go_wp2_with((with_reducible first|refine(C1.out).mono ?_|refine(C2.out).mono ?_|refine(C3.out).mono ?_|refine(C4.out).mono ?_|refine(S1.out).mono ?_|refine(S2.out).mono ?_);rintro e w' ⟨rfl,rfl⟩)
  refine bodyPost_ret (v:=D5 ⟨20,rF m,mF m,32,0⟩) (by simp[results,results106,go_sem,D5,rF,mF,q0,q1,q2,q3,q4]) rfl ⟨by rw[HX.out],?_⟩;exact B6 HB0.out (Nat.le_refl _) _ _ _ _ _
 by_cases h2:c=182∧192≤m
 ·have e11:(c==11)=false:=A8 (by omega);have e175:(c==175)=false:=A8 (by omega);have e182:(c==182)=true:=eqT (by omega);have e183:(c==183)=false:=A8 (by omega);have d0:decide (192≤m)=true:=decide_eq_true (by omega);have HX:Hid (X=⟨30,rF m,mF m,32,0⟩):=hid (by rw[HE.out,if_neg (by omega),if_neg (by omega),if_pos (by omega)]);go_wp2_with((with_reducible first|refine(C1.out).mono ?_|refine(C2.out).mono ?_|refine(C3.out).mono ?_|refine(C4.out).mono ?_|refine(S1.out).mono ?_|refine(S2.out).mono ?_);rintro e w' ⟨rfl,rfl⟩)
  refine bodyPost_ret (v:=D5 ⟨30,rF m,mF m,32,0⟩) (by simp[results,results106,go_sem,D5,rF,mF,q0,q1,q2,q3,q4]) rfl ⟨by rw[HX.out],?_⟩;exact B6 HB0.out (Nat.le_refl _) _ _ _ _ _
 by_cases h3:c=182
 ·have e11:(c==11)=false:=A8 (by omega);have e175:(c==175)=false:=A8 (by omega);have e182:(c==182)=true:=eqT (by omega);have e183:(c==183)=false:=A8 (by omega);have d0:decide (192≤m)=false:=decide_eq_false (by omega);have HX:Hid (X=⟨4,rF m,mF m,32,f2⟩):=hid (by rw[HE.out,if_neg (by omega),if_neg (by omega),if_neg (by omega),if_pos (by omega)]);go_wp2_with((with_reducible first|refine(C1.out).mono ?_|refine(C2.out).mono ?_|refine(C3.out).mono ?_|refine(C4.out).mono ?_|refine(S1.out).mono ?_|refine(S2.out).mono ?_);rintro e w' ⟨rfl,rfl⟩)
  refine bodyPost_ret (v:=D5 ⟨4,rF m,mF m,32,f2⟩) (by simp[results,results106,go_sem,D5,rF,mF,q0,q1,q2,q3,q4]) rfl ⟨by rw[HX.out],?_⟩;exact B6 HB0.out (Nat.le_refl _) _ _ _ _ _
 by_cases h4:c=183
 ·have e11:(c==11)=false:=A8 (by omega);have e175:(c==175)=false:=A8 (by omega);have e182:(c==182)=false:=A8 (by omega);have e183:(c==183)=true:=eqT (by omega);have HX:Hid (X=⟨5,rF m,mF m,32,f2⟩):=hid (by rw[HE.out,if_neg (by omega),if_neg (by omega),if_neg (by omega),if_neg (by omega),if_pos (by omega)]);go_wp2_with((with_reducible first|refine(C1.out).mono ?_|refine(C2.out).mono ?_|refine(C3.out).mono ?_|refine(C4.out).mono ?_|refine(S1.out).mono ?_|refine(S2.out).mono ?_);rintro e w' ⟨rfl,rfl⟩)
  refine bodyPost_ret (v:=D5 ⟨5,rF m,mF m,32,f2⟩) (by simp[results,results106,go_sem,D5,rF,mF,q0,q1,q2,q3,q4]) rfl ⟨by rw[HX.out],?_⟩;exact B6 HB0.out (Nat.le_refl _) _ _ _ _ _
 by_cases h5:144≤c∧c≤159
 ·have e11:(c==11)=false:=A8 (by omega);have e175:(c==175)=false:=A8 (by omega);have e182:(c==182)=false:=A8 (by omega);have e183:(c==183)=false:=A8 (by omega);have d0:decide (144≤c)=true:=decide_eq_true (by omega);have d1:decide (c≤159)=true:=decide_eq_true (by omega);have HX:Hid (X=⟨29,mF m,c-144,32,0⟩):=hid (by rw[HE.out,if_neg (by omega),if_neg (by omega),if_neg (by omega),if_neg (by omega),if_neg (by omega),if_pos (by omega)]);go_wp2_with((with_reducible first|refine(C1.out).mono ?_|refine(C2.out).mono ?_|refine(C3.out).mono ?_|refine(C4.out).mono ?_|refine(S1.out).mono ?_|refine(S2.out).mono ?_);rintro e w' ⟨rfl,rfl⟩)
  refine bodyPost_ret (v:=D5 ⟨29,mF m,c-144,32,0⟩) (by simp[results,results106,go_sem,D5,rF,mF,q0,q1,q2,q3,q4]) rfl ⟨by rw[HX.out],?_⟩;exact B6 HB0.out (Nat.le_refl _) _ _ _ _ _
 by_cases h6:64≤c∧c≤79
 ·have e11:(c==11)=false:=A8 (by omega);have e175:(c==175)=false:=A8 (by omega);have e182:(c==182)=false:=A8 (by omega);have e183:(c==183)=false:=A8 (by omega);have d0:decide (144≤c)=false:=decide_eq_false (by omega);have d1:decide (64≤c)=true:=decide_eq_true (by omega);have d2:decide (c≤79)=true:=decide_eq_true (by omega);have HX:Hid (X=⟨31,rF m,mF m,32,c-64⟩):=hid (by rw[HE.out,if_neg (by omega),if_neg (by omega),if_neg (by omega),if_neg (by omega),if_neg (by omega),if_neg (by omega),if_pos (by omega)]);go_wp2_with((with_reducible first|refine(C1.out).mono ?_|refine(C2.out).mono ?_|refine(C3.out).mono ?_|refine(C4.out).mono ?_|refine(S1.out).mono ?_|refine(S2.out).mono ?_);rintro e w' ⟨rfl,rfl⟩)
  refine bodyPost_ret (v:=D5 ⟨31,rF m,mF m,32,c-64⟩) (by simp[results,results106,go_sem,D5,rF,mF,q0,q1,q2,q3,q4]) rfl ⟨by rw[HX.out],?_⟩;exact B6 HB0.out (Nat.le_refl _) _ _ _ _ _
 by_cases h7:128≤c∧c≤143
 ·have e11:(c==11)=false:=A8 (by omega);have e175:(c==175)=false:=A8 (by omega);have e182:(c==182)=false:=A8 (by omega);have e183:(c==183)=false:=A8 (by omega);have d0:decide (144≤c)=false:=decide_eq_false (by omega);have d1:decide (64≤c)=true:=decide_eq_true (by omega);have d2:decide (c≤79)=false:=decide_eq_false (by omega);have d3:decide (128≤c)=true:=decide_eq_true (by omega);have d4:decide (c≤143)=true:=decide_eq_true (by omega);have HX:Hid (X=⟨32,0,c-128,32,g2⟩):=hid (by rw[HE.out,if_neg (by omega),if_neg (by omega),if_neg (by omega),if_neg (by omega),if_neg (by omega),if_neg (by omega),if_neg (by omega),if_pos (by omega)]);go_wp2_with((with_reducible first|refine(C1.out).mono ?_|refine(C2.out).mono ?_|refine(C3.out).mono ?_|refine(C4.out).mono ?_|refine(S1.out).mono ?_|refine(S2.out).mono ?_);rintro e w' ⟨rfl,rfl⟩)
  refine bodyPost_ret (v:=D5 ⟨32,0,c-128,32,g2⟩) (by simp[results,results106,go_sem,D5,rF,mF,q0,q1,q2,q3,q4]) rfl ⟨by rw[HX.out],?_⟩;exact B6 HB0.out (Nat.le_refl _) _ _ _ _ _
 by_cases y0:c<64
 ·have e11:(c==11)=false:=A8 (by omega);have e175:(c==175)=false:=A8 (by omega);have e182:(c==182)=false:=A8 (by omega);have e183:(c==183)=false:=A8 (by omega);have d0:decide (144≤c)=false:=decide_eq_false (by omega);have d1:decide (64≤c)=false:=decide_eq_false (by omega);have d2:decide (128≤c)=false:=decide_eq_false (by omega);have HX:Hid (X=⟨-1,0,0,0,0⟩):=hid (by rw[HE.out,if_neg (by omega),if_neg (by omega),if_neg (by omega),if_neg (by omega),if_neg (by omega),if_neg (by omega),if_neg (by omega),if_neg (by omega)]);exact A8y
 by_cases y1:c<128
 ·have e11:(c==11)=false:=A8 (by omega);have e175:(c==175)=false:=A8 (by omega);have e182:(c==182)=false:=A8 (by omega);have e183:(c==183)=false:=A8 (by omega);have d0:decide (144≤c)=false:=decide_eq_false (by omega);have d1:decide (64≤c)=true:=decide_eq_true (by omega);have d2:decide (c≤79)=false:=decide_eq_false (by omega);have d3:decide (128≤c)=false:=decide_eq_false (by omega);have HX:Hid (X=⟨-1,0,0,0,0⟩):=hid (by rw[HE.out,if_neg (by omega),if_neg (by omega),if_neg (by omega),if_neg (by omega),if_neg (by omega),if_neg (by omega),if_neg (by omega),if_neg (by omega)]);exact A8y
 have e11:(c==11)=false:=A8 (by omega);have e175:(c==175)=false:=A8 (by omega);have e182:(c==182)=false:=A8 (by omega);have e183:(c==183)=false:=A8 (by omega);have d0:decide (144≤c)=true:=decide_eq_true (by omega);have d1:decide (c≤159)=false:=decide_eq_false (by omega);have d2:decide (64≤c)=true:=decide_eq_true (by omega);have d3:decide (c≤79)=false:=decide_eq_false (by omega);have d4:decide (128≤c)=true:=decide_eq_true (by omega);have d5:decide (c≤143)=false:=decide_eq_false (by omega);have HX:Hid (X=⟨-1,0,0,0,0⟩):=hid (by rw[HE.out,if_neg (by omega),if_neg (by omega),if_neg (by omega),if_neg (by omega),if_neg (by omega),if_neg (by omega),if_neg (by omega),if_neg (by omega)]);exact A8y
end Go.Proofs.YtdojafpjipcbjaaGreat
