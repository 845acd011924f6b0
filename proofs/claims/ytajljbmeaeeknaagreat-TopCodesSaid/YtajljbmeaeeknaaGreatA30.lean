/- -/
import Derived.Deep.MidRow
import Derived.Laws.ResultCell
import Derived.Deep.DeepMust
import Derived.Laws.StructEq
import Derived.ChangeKeysEq
import Derived.Test.YtajljbmeaeeknaaGreatA2
import Derived.Test.YtajljbmeaeeknaaGreatA4
import Derived.Test.YtajljbmeaeeknaaGreatA6
import Derived.Test.YtajljbmeaeeknaaGreatA20
import Derived.Test.YtajljbmeaeeknaaGreatA29
open Go.Proofs.Tryz
open Go.Lib (hid)
set_option maxHeartbeats 1000000
set_option maxRecDepth 100000
namespace Go.Proofs.YtajljbmeaeeknaaGreat
open Go.RowKit
set_option linter.unusedVariables false
set_option linter.unusedSimpArgs false
theorem x6{p:Prop}(h:p:=by
 rw[if_pos c1]at h;simp only[isR,isM,isL,isC,isB,I5,inZ,Bool.and_eq_true,Bool.or_eq_true,decide_eq_true_eq,beq_iff_eq,bne_iff_ne]at h;omega
 ):p:=h
theorem Ch.setCells{T M:Nat}{mv:Value}{w:World}:∀(vs:List Value) (o:Nat) (W:World),Ch T M mv w W→Ch T M mv w (W.setCells M o vs)
 |[],_,_,h=>h
 |v::r,o,W,h=>Ch.setCells r (o+1) _ (h.setM o v)
theorem MM.restore{base M:Nat}{mv:Value}{c c':Mac}{W:World}(h:MM base M mv c' W)(hm:c'.m=c.m)(hr:c.r.length=32)(hb:∀k,0≤c.r.getD k 0∧c.r.getD k 0<4294967296)(hf:0≤c.f∧c.f≤15)(ha:0≤c.a∧c.a<4294967296):MM base M mv c (W.setCells M 0 (B4 c mv)):=by
 refine⟨h.m.setCells (by simp[B4,hr,h.rl]),?_,h.bm,hr,hb,by rw[←hm];exact h.ml,by rw[←hm];exact h.mb,hf,ha⟩;rw[←hm];refine h.v.imp id (fun⟨D,cap,e,h1,h2,h3,h5,h6⟩=>⟨D,cap,e,h1,h2,h3,h5,h6.cellsO h3 _⟩)
theorem A3v{x:Ins}(h:okI x=true):x.z=8∨x.z=16∨x.z=32:=by
 have h2:(szI x.o).contains x.z=true:=by unfold okI at h;simp only[Bool.and_eq_true]at h;exact h.1
 unfold szI at h2
 repeat' split at h2
 all_goals(simp at h2;try omega)
theorem A9B{x:Ins}(hk:okI x=true):I64 x.i:=by
 have h:=D4 hk;have hp:pwZ x.z≤4294967296:=by rcases A3v hk with e|e|e<;>rw[e]<;>decide
 unfold G7 J0 at h;unfold I64;by_cases c1:x.o=0∨(7≤x.o∧x.o≤13)∨x.o=20
 ·exact x6
 rw[if_neg c1]at h;clear c1;by_cases c1:x.o=1∨(14≤x.o∧x.o≤19)
 ·exact x6
 rw[if_neg c1]at h;clear c1;by_cases c1:x.o=2∨x.o=4∨x.o=5
 ·exact x6
 rw[if_neg c1]at h;clear c1;by_cases c1:x.o=3
 ·exact x6
 rw[if_neg c1]at h;clear c1;by_cases c1:x.o=6
 ·exact x6
 rw[if_neg c1]at h;clear c1;by_cases c1:21≤x.o∧x.o≤27
 ·exact x6
 rw[if_neg c1]at h;clear c1;by_cases c1:x.o=28∨x.o=34∨x.o=35∨x.o=36
 ·exact x6
 rw[if_neg c1]at h;clear c1;by_cases c1:x.o=29
 ·exact x6
 rw[if_neg c1]at h;clear c1;by_cases c1:x.o=30
 ·exact x6
 rw[if_neg c1]at h;clear c1;by_cases c1:x.o=31
 ·exact x6
 rw[if_neg c1]at h;clear c1;by_cases c1:x.o=32
 ·exact x6
 rw[if_neg c1]at h;clear c1;by_cases c1:x.o=33
 ·exact x6
 rw[if_neg c1]at h;clear c1;cases h
theorem A5U{l:List Int}(h:m5 l=true):okI (V5 l)=true∧r8 l≤l.length:=by
 unfold m5 at h;unfold V5 r8;cases e:S8 l with
 |none=>rw[e]at h;cases h
 |some p=>
  obtain⟨x,n⟩:=p;obtain⟨h1,h2,_,_⟩:=A4D e;exact⟨h1,h2⟩
theorem MM.ok{base M:Nat}{mv:Value}{c:Mac}{w:World}(h:MM base M mv c w):MOk c:=⟨h.rl,h.rb,h.ab,h.mb⟩
theorem MM.of{base M:Nat}{mv:Value}{c:Mac}{w:World}(h:CellsAt w M (B4 c mv))(hm:MemO base w mv c.m)(hM:mv.ownBlock≠some M)(hb:base≤M)(ho:MOk c)(hl:c.m.length≤32768)(hf:0≤c.f∧c.f≤15):MM base M mv c w:=
 ⟨h,hm.imp id fun⟨D,cap,e,h1,h2,h5,h6⟩=>⟨D,cap,e,h1,h2,(fun e'=>hM (by rw[e,e'];rfl)),h5,h6⟩,hb,ho.rl,ho.rb,hl,ho.mb,hf,ho.ab⟩
theorem MM.memO{base M:Nat}{mv:Value}{c:Mac}{w:World}(h:MM base M mv c w):MemO base w mv c.m:=
 h.v.imp id fun⟨D,cap,e,h1,h2,h3,h5,h6⟩=>⟨D,cap,e,h1,h2,h5,h6⟩
theorem A2e(c:Mac)(mv:Value)(w:World)(hr:c.r.length=32)(hm:Ints .u8 w mv c.m):Calls prog 82 #[.agg (B4 c mv).toArray] w fun e w'=>e= .returned (.int .i64 (t9 c))∧Below w.heap.size w w':=by
 obtain⟨va,vc,hmv,hl1,hl2⟩:=hm.shape;obtain⟨hb,hk⟩:=G9 w (B4 c mv) 48;have HB:=hid hb;obtain⟨⟨c32,-⟩,-,⟨c34,-⟩,-⟩:=hk.tails hr;unfold t9;generalize B4 c mv=cs at*
 rw[hmv]at c34;generalize c.m.length=len at*
 generalize c.f=f at*
 clear hmv hk hb hm hr;by_cases h1:32768<len
 ·rw[if_pos (Or.inl h1)];have d1:decide ((32768:Int)<(len:Int))=true:=decide_eq_true (by omega);clear h1 hl1 hl2;go_enter func82,ntmps82;go_wp2_with fail
  go_ret;exact⟨rfl,HB.out⟩
 ·have d1:decide ((32768:Int)<(len:Int))=false:=decide_eq_false (by omega);by_cases h2:f<0
  ·rw[if_pos (Or.inr (Or.inl h2))];have d2:decide (f<0)=true:=decide_eq_true h2;clear h1 h2 hl1 hl2;go_enter func82,ntmps82;go_wp2_with fail
   go_ret;exact⟨rfl,HB.out⟩
  ·have d2:decide (f<0)=false:=decide_eq_false h2;by_cases h3:15<f
   ·rw[if_pos (Or.inr (Or.inr h3))];have d3:decide (15<f)=true:=decide_eq_true h3;clear h1 h2 h3 hl1 hl2;go_enter func82,ntmps82;go_wp2_with fail
    go_ret;exact⟨rfl,HB.out⟩
   ·rw[if_neg (by omega)];have d3:decide (15<f)=false:=decide_eq_false h3;clear h1 h2 h3 hl1 hl2;go_enter func82,ntmps82;go_wp2_with fail
    go_ret;exact⟨rfl,HB.out⟩
theorem A7b(c:Mac)(mv:Value)(w:World)(ho:MOk c)(hm:Ints .u8 w mv c.m)(hl:c.m.length≤100000):Calls prog 68 #[.agg (B4 c mv).toArray] w fun e w'=>∃mv',e= .returned (.agg (B4 c mv').toArray)∧MemO w.heap.size w' mv' c.m∧Below w.heap.size w w':=by
 have hsz:∀v,(prog.info? 48).map (·.size)=some (B4 c v).length:=fun v=>by rw[B8 ho.rl];kernel_rfl
 have hlen:=B8 ho.rl mv;have hl36:=fun v=>B8 ho.rl v
 obtain⟨k0,k1,hb1,hs1⟩:=X5 w (B4 c mv) (B4 K3 (.slice none 0 0)) 48 (by omega);obtain⟨-,-,c34,-⟩:=k0.tails ho.rl;have h9:=ho.rl;rw[←V4]at k0 k1 hb1 hs1 c34;have hv1:=hm.stays hb1;obtain⟨W1,hW1⟩:∃W,((w.alloc (.cells (B4 c mv).toArray 48)).alloc (.cells #[.int .u32 0,.int .u32 0,.int .u32 0,.int .u32 0,.int .u32 0,.int .u32 0,.int .u32 0,.int .u32 0,.int .u32 0,.int .u32 0,.int .u32 0,.int .u32 0,.int .u32 0,.int .u32 0,.int .u32 0,.int .u32 0,.int .u32 0,.int .u32 0,.int .u32 0,.int .u32 0,.int .u32 0,.int .u32 0,.int .u32 0,.int .u32 0,.int .u32 0,.int .u32 0,.int .u32 0,.int .u32 0,.int .u32 0,.int .u32 0,.int .u32 0,.int .u32 0,.int .i64 0,.int .u32 0,.slice none 0 0,.int .i64 0] 48))=W:=⟨_,rfl⟩
 rw[hW1]at k0 k1 hb1 hs1 c34 hv1;have hset:=fun v=>A0B ho.rl mv v
 have HLEN:=hid hl;have HVW:=hid ((hv1.stays ((Below.refl W1.heap.size W1).alloc (Nat.le_refl _) (.cells #[] 5))));have HROW:=hid (RowI.lit W1 #[] [] .u8 5 W1.heap.size 0 (Nat.le_refl _) rfl rfl (by unfold maxLen;simp));have HK0:=hid k0;have HK1:=hid k1;have HB1:=hid hb1;have HSZ:=hid hsz;have HSET:=hid hset;have HL36:=hid hl36;have HRL:=hid ho.rl;generalize hcs:B4 c mv=cs at*
 obtain⟨c34,f34⟩:=c34;have hlt:w.heap.size<W1.heap.size:=by omega
 have hlt1:w.heap.size+1<W1.heap.size:=by omega
 have HLN:=hid hlen;clear hcs;obtain⟨va,vc,rfl,hl1,hl2⟩:=hm.shape;clear k0 k1 hb1 hsz hset hl36 hlen hs1 hv1 hl ho hm h9 hl1 hl2;go_enter func68,ntmps68;go_upto_region 1 with fail
 clear hW1;go_upto_region 2 with(at_builtin;go_must (refine A1U rfl _ _ rfl W1.heap.size _ [] rfl HROW.out _ c.m rfl HVW.out (by simpa using HLEN.out) (by simp) ?_;intro v5 w5 hr5 hb5;have hr6:RowI w5 W1.heap.size 5 .u8 v5 c.m:=hr5;clear hr5;obtain⟨a5,k5,e5⟩:=hr6.shape;subst e5;have HR5:=hid hr6;clear hr6;have hb5':Below W1.heap.size W1 w5:=((Below.refl W1.heap.size W1).alloc (Nat.le_refl _) _).trans hb5;have y34:w5.cell? ⟨w.heap.size,34,none⟩=some (.slice va c.m.length vc):=(hb5'.cell (p:=⟨w.heap.size,34,none⟩) hlt).trans c34;have z34:w5.frozen? ⟨w.heap.size,34,none⟩=false:=(hb5'.frozen (p:=⟨w.heap.size,34,none⟩) hlt).trans f34))
 have HB5:=hid hb5';have hcs0:0<cs.length:=by rw[HLN.out];decide
 have K0:=(HK0.out.below hcs0 hb5').set (k:=34) (by rw[HLN.out];decide) (.slice a5 c.m.length k5);have K1:=(HK1.out.below (by rw[B8 rfl];decide) hb5').other (b':=w.heap.size) (k:=34) (by omega) (.slice a5 c.m.length k5);have hb6:=(HB1.out.trans (hb5'.mono (by omega))).setCell (p:=⟨w.heap.size,34,none⟩) (Nat.le_refl _) (.slice a5 c.m.length k5);have hmo:=HR5.out.memO.set (b:=w.heap.size) (j:=34) (by omega) (.slice a5 c.m.length k5);rw[HSET.out]at K0;have hsz1:=HSZ.out (.slice a5 c.m.length k5);have hone:=T2 (c:=c) (mv:=.slice a5 c.m.length k5) ⟨_,_,_,rfl⟩;have hlen1:=HL36.out (.slice a5 c.m.length k5);obtain⟨zs,hzs⟩:∃zs,B4 K3 (.slice none 0 0)=zs:=⟨_,rfl⟩
 have hzl:zs.length=36:=by rw[←hzs];exact B8 rfl _
 rw[hzs]at K1;generalize w5.setCell ⟨w.heap.size,34,none⟩ (.slice a5 c.m.length k5)=W6 at*
 have K2:=K1.setCells (ds:=B4 c (.slice a5 c.m.length k5)) (by omega);have HMO:=hid (((hmo.setCells (b:=w.heap.size+1) (by omega) (B4 c (.slice a5 c.m.length k5))).low (base':=w.heap.size) (by omega)));have HB6:=hid (F8 (b:=w.heap.size+1) (by omega) (B4 c (.slice a5 c.m.length k5)) 0 _ hb6);have hth:=K1.there (ds:=B4 c (.slice a5 c.m.length k5)) (by omega);have hsz2:(prog.info? 48).map (·.size)=some (B4 c (.slice a5 c.m.length k5)).toArray.size:=by simpa using hsz1
 have HK2:=hid K2;have HSZ1:=hid hsz1;have hrg:=K0.range;obtain⟨cs5,hcs5⟩:∃cs5,B4 c (.slice a5 c.m.length k5)=cs5:=⟨_,rfl⟩
 have HCS5:=hid hcs5;rw[hcs5]at hrg HK2 hsz1 hsz2 hone hth HB6 HMO HSZ1;clear hcs5 K0 K1 K2 hb6 hmo hlen1 hb5' HSET HSZ HL36 y34 z34 c34 f34 hcs0 hzl;go_wp2_with(first|(refine wpList_load_mid rfl _ _ rfl w.heap.size 0 rfl cs5 _ hrg underlying48 rfl hsz1 ?_)|(refine wpList_store_mid rfl _ _ _ rfl (w.heap.size+1) 0 cs5.toArray rfl rfl hth hsz2 hone ?_))
 refine bodyPost_ret (v:=.agg cs5.toArray) (res1 rfl rfl HK2.out underlying48 rfl HSZ1.out) rfl ⟨.slice a5 c.m.length k5,by rw[HCS5.out],HMO.out,HB6.out⟩
theorem A3s(c:Mac)(mv mv2:Value)(w:World)(hr:c.r.length=32)(hm:Ints .u8 w mv c.m)(hm2:Ints .u8 w mv2 c.m):Calls prog 69 #[.agg (B4 c mv).toArray,.agg (B4 c mv2).toArray] w fun e w'=>e= .returned (.bool true)∧Below w.heap.size w w':=by
 obtain⟨k0,k1,hb1,hs1⟩:=X5 w (B4 c mv) (B4 c mv2) 48 (by rw[B8 hr];decide);obtain⟨W1,hW1⟩:∃W,(w.alloc (.cells (B4 c mv).toArray 48)).alloc (.cells (B4 c mv2).toArray 48)=W:=⟨_,rfl⟩
 rw[hW1]at k0 k1 hb1 hs1;have r0:=k0.regs;have r1:=k1.regs;obtain⟨i,hi⟩:∃i,prog.info? 45=some i:=⟨_,rfl⟩
 have hneq:=fun w'=>A6U (P:=prog) w' (t:=46) (e:=45) underlying46 hi (by kernel_rfl) underlying45 (by kernel_rfl) c.r hr
 have hgd:prog.eqGuardType prog.depth 46=false:=by kernel_rfl
 have hsz:(prog.info? 46).map (·.size)=some (c.r.map (Value.int .u32)).length:=by rw[List.length_map,hr];kernel_rfl
 obtain⟨⟨x1,-⟩,⟨x2,-⟩,⟨x3,-⟩,⟨x4,-⟩⟩:=k0.tails hr;obtain⟨⟨y1,-⟩,⟨y2,-⟩,⟨y3,-⟩,⟨y4,-⟩⟩:=k1.tails hr;have HV:=hid (hm.stays hb1);have HU:=hid (hm2.stays hb1);have HB:=hid hb1;obtain⟨va,vc,rfl,hl1,hl2⟩:=hm.shape;obtain⟨va2,vc2,rfl,hl3,hl4⟩:=hm2.shape;have HLEN:=hid hl1;have hlt:w.heap.size+1<W1.heap.size:=by omega
 clear k0 k1 hb1 hs1 hm hm2 hi;generalize hcs:B4 c (.slice va c.m.length vc)=cs at*
 generalize hds:B4 c (.slice va2 c.m.length vc2)=ds at*
 generalize c.r.map (Value.int .u32)=rs at*
 clear hcs hds;go_enter func69,ntmps69;go_upto_region 4 with(first|(refine wpList_load_mid rfl _ _ rfl w.heap.size 0 rfl rs _ r0 underlying46 rfl hsz ?_)|(refine wpList_load_mid rfl _ _ rfl (w.heap.size+1) 0 rfl rs _ r1 underlying46 rfl hsz ?_))
 clear hW1 r0 r1 hneq hgd hsz
 go_loopw[5] (fun i wr=>∃j:Nat,j≤c.m.length∧i= .int .i64 j∧Below W1.heap.size W1 wr) (fun i _=>c.m.length-(intOf i).toNat)
 case atStart=>exact⟨0,Nat.zero_le _,rfl,Below.refl _ _⟩
 case round=>
  obtain⟨j,hj,rfl,hb⟩:=hrel;have HBJ:=hid hb;have z3:=(hb.cell (p:=⟨w.heap.size,34,none⟩) (by show w.heap.size<_;omega)).trans x3;have z4:=(hb.cell (p:=⟨w.heap.size+1,34,none⟩) hlt).trans y3;have hwr:w.heap.size+1<wr.heap.size:=Nat.lt_of_lt_of_le hlt hb.size;by_cases hlt2:j<c.m.length
  ·obtain⟨b,q,c2,e',hc2,hbl,hcl⟩:=((HV.out.stays hb).at (j:=j) hlt2)
   cases e';obtain⟨b',q',c2',e',hc2',hbl',hcl'⟩:=((HU.out.stays hb).at (j:=j) hlt2)
   cases e';have i0:(0:Int)≤(j:Int):=by omega
   have i1:(j:Int)<c.m.length:=by omega
   have hwr0:w.heap.size<wr.heap.size:=by omega
   generalize c.m.getD j 0=x at*
   clear hb hlt2 HV HU;go_wp2_with fail
   go_quiet(fail)
   go_wp2_with fail
   go_roundw
   case rel=>exact⟨j+1,by omega,by go_num,E1 HBJ.out _⟩
   case measure=>simp[intOf];omega
  ·obtain rfl:j=c.m.length:=by omega
   go_wp2_with fail
   go_ret;exact⟨rfl,HB.out.trans (HBJ.out.mono (by omega))⟩
end Go.Proofs.YtajljbmeaeeknaaGreat
namespace Go.Proofs.YtajljbmeaeeknaaGreat
open Go.RowKit Go.Maps
set_option linter.unusedVariables false
set_option linter.unusedSimpArgs false
def PtP(B:Nat)(c:Mac)(w:World):Prop:=∃mv,CellsAt w B (B4 c mv)∧MemO 0 w mv c.m∧MOk c∧c.m.length≤32768∧mv.ownBlock≠some B
theorem PtP.lt{B:Nat}{c:Mac}{w:World}(h:PtP B c w):B<w.heap.size:=by
 obtain⟨mv,h1,h2,h3,h4,h5⟩:=h;exact h1.lt (by rw[B8 h3.rl];decide)
theorem PtP.below{B:Nat}{c:Mac}{w w':World}(h:PtP B c w)(hb:Below w.heap.size w w'):PtP B c w':=by
 obtain⟨mv,h1,h2,h3,h4,h5⟩:=h;exact⟨mv,h1.below (by rw[B8 h3.rl];decide) hb,h2.below hb,h3,h4,h5⟩
theorem PtP.setE{B:Nat}{c:Mac}{w:World}(h:PtP B c w)(n:Int):PtP B {c with e:=n} (w.setCell ⟨B,35,none⟩ (.int .i64 n)):=by
 obtain⟨mv,h1,h2,h3,h4,h5⟩:=h;have hs:=h1.set (k:=35) (by rw[B8 h3.rl];decide) (.int .i64 n);rw[A0Y h3.rl]at hs;refine⟨mv,hs,?_,⟨h3.rl,h3.rb,h3.ab,h3.mb⟩,h4,h5⟩;exact h2.imp id fun⟨D,cap,e,k1,k2,k5,k6⟩=>⟨D,cap,e,k1,k2,k5,k6.setO (fun hh=>h5 (by rw[e,hh];rfl)) _⟩
theorem o5{base B:Nat}{zs:List Value}{c:Mac}{mv:Value}{w:World}(K:CellsAt w B zs)(hz:zs.length=36)(hv:MemO base w mv c.m)(hn:mv.ownBlock≠some B)(ho:MOk c)(hl:c.m.length≤32768):PtP B c (w.setCells B 0 (B4 c mv)):=
 ⟨mv,K.setCells (by rw[B8 ho.rl,hz]),(hv.setCellsO hn _).low (Nat.zero_le _),ho,hl,hn⟩
set_option maxHeartbeats 2000000 in
theorem z9{F:Mac→Int→Mac×Int}{E:Mac→Int→Int}(HL:PieceLaw F E)(set:Int)
  (HX:∀(c:Mac) (mv:Value) (k:Int) (w:World),MOk c→Ints .u8 w mv c.m→Calls prog 67 #[.int .i64 set,.agg (B4 c mv).toArray,.int .i64 k] w (A5d F E c k w))
  (c:Mac) (mv:Value) (n m:Int) (w:World) (ho:MOk c) (hm:Ints .u8 w mv c.m) (hl:c.m.length≤70000):Calls prog 31 #[.int .i64 set,.agg (B4 c mv).toArray,.agg #[.int .i64 n,.int .i64 m]] w fun e w'=>e= .returned (.bool true)∧Below w.heap.size w w':=by
 have hlen:=B8 ho.rl mv;obtain⟨hb1,k0⟩:=G9 w (B4 c mv) 48;obtain⟨W0,hW0⟩:∃W,w.alloc (.cells (B4 c mv).toArray 48)=W:=⟨_,rfl⟩
 have hs0:W0.heap.size=w.heap.size+1:=by rw[←hW0];simp
 rw[hW0]at hb1 k0;obtain⟨hb2,p0⟩:=G9 W0 [.int .i64 n,.int .i64 m] 71;obtain⟨W1,hW1⟩:∃W,W0.alloc (.cells #[.int .i64 n,.int .i64 m] 71)=W:=⟨_,rfl⟩
 have hs1:W1.heap.size=w.heap.size+2:=by rw[←hW1];simp[hs0]
 have hb2:Below W0.heap.size W0 W1:=by rw[←hW1];exact hb2
 have p0:CellsAt W1 W0.heap.size [.int .i64 n,.int .i64 m]:=by rw[←hW1];exact p0
 have k1:=k0.below (by rw[hlen];decide) hb2;have HB1:Hid (Below w.heap.size w W1):=hid (A7 hb1 hb2);have hv1:=hm.stays HB1.out;have q0:=(p0 0 _ rfl).1;have q1:=(p0 1 _ rfl).1;by_cases hg:n<0∨m<0∨500<n∨500<m
 ·clear k0 k1 hb1 hb2 hv1 hlen hm ho hs0 hs1 p0;obtain⟨cs,hcs⟩:∃cs,B4 c mv=cs:=⟨_,rfl⟩
  rw[hcs]at hW0⊢;have key:decide (n<0)=true∨(decide (n<0)=false∧(decide (m<0)=true∨(decide (m<0)=false∧(decide (500<n)=true∨(decide (500<n)=false∧decide (500<m)=true))))):=by
   simp only[decide_eq_true_eq,decide_eq_false_iff_not];omega
  clear hg hcs;rcases key with t1|⟨t1,t2|⟨t2,t3|⟨t3,t4⟩⟩⟩
  all_goals
   go_enter func31,ntmps31;go_wp2_with fail
   go_ret;exact⟨rfl,HB1.out⟩
 have g1:decide (n<0)=false:=decide_eq_false (by omega);have g2:decide (m<0)=false:=decide_eq_false (by omega);have g3:decide (500<n)=false:=decide_eq_false (by omega);have g4:decide (500<m)=false:=decide_eq_false (by omega);obtain⟨N,rfl⟩:=Int.eq_ofNat_of_zero_le (show 0≤n by omega);obtain⟨M,rfl⟩:=Int.eq_ofNat_of_zero_le (show 0≤m by omega);have hN:N≤500:=by omega
 have hM:M≤500:=by omega
 have hszc:=O6 ho.rl mv;have hu:=underlying48;have HCP:Hid (∀wk:World,Below W1.heap.size W1 wk→Calls prog 68 #[.agg (B4 c mv).toArray] wk fun e w'=>∃mv',e= .returned (.agg (B4 c mv').toArray)∧MemO wk.heap.size w' mv' c.m∧Below wk.heap.size wk w'):=hid (fun wk hb=>A7b c mv wk ho (hv1.stays hb) (by omega));have hSr:∀wk:World,Below W1.heap.size W1 wk→wk.rangeAt w.heap.size 0 (B4 c mv):=fun wk hb=>(k1.below (by rw[hlen];decide) hb).range
 have hlt:W0.heap.size<W1.heap.size:=by omega
 have hSp:∀wk:World,Below W1.heap.size W1 wk→wk.cell? ⟨W0.heap.size,0,none⟩=some (.int .i64 N):=fun wk hb=>A0 hb hlt q0
 have hSq:∀wk:World,Below W1.heap.size W1 wk→wk.cell? ⟨W0.heap.size,1,none⟩=some (.int .i64 M):=fun wk hb=>A0 hb hlt q1
 have HX2:Hid (∀(mv':Value) (wk:World) (k:Int),Ints .u8 wk mv' c.m→Calls prog 67 #[.int .i64 set,.agg (B4 c mv').toArray,.int .i64 k] wk (A5d F E c k wk)):=hid (fun mv' wk k h=>HX c mv' k wk ho h);have KA:∀wk wk':World,Below W1.heap.size W1 wk→Below wk.heap.size wk wk'→Below W1.heap.size W1 wk':=fun wk wk' h hb=>h.trans (hb.mono h.size)
 have HO:=hid ho;have hwr:IntKind.i64.wrap ((N:Int)+M)=(N:Int)+M:=by rw[IntWalk.i64_left];exact IntWalk.wrap64_in _ ⟨by omega,by omega⟩
 obtain⟨cs,hcs⟩:∃cs,B4 c mv=cs:=⟨_,rfl⟩
 rw[hcs]at hszc;simp only[hcs]at HCP hSr hW0;rw[hcs];have HS1:=hid hs1;clear k0 k1 p0 hb1 hb2 hv1 hg hcs hlen hm ho hs0 hs1;go_enter func31,ntmps31;go_upto_region 3 with fail
 clear hW1 hW0 q0 q1
 go_cut[7,8,9]from 34 to 46 (fun p a b wx=>∃B,p= .pointer (some ⟨B,0,none⟩)∧a= .int .i64 (F c ((N:Int)+M)).2∧b= .int .i64 (E c ((N:Int)+M))∧PtP B (F c ((N:Int)+M)).1 wx∧Below W1.heap.size W1 wx)
 case first=>
  refine wp_region_held_drew (S:=fun wk=>Below W1.heap.size W1 wk) (by kernel_rfl) ?_ (fun hHeld=>?_)
  ·exact(Below.refl _ _).drew
  refine tk 0 ?_;refine O1 1 (v:=.agg cs.toArray) rfl (by kernel_rfl) (by kernel_rfl) (by kernel_rfl) (fun _ _ _ h=>h) (yieldsIf_load_mid (by rfl) _ _ rfl w.heap.size 0 rfl cs _ hSr hu rfl hszc) (by assumption) ?_;go_frame;refine tk 3 ?_;refine tk 4 ?_;refine tk 5 ?_;refine tk 6 ?_;refine tk 7 ?_;refine wpAnyH_ready (rs:=[2,13]) (by kernel_rfl) (by simp) ?_;refine I3 2 rfl (fun K hK=>?_) ?_
  ·go_simp
   (go_at_call 68;(with_reducible refine(HCP.out _ (by assumption)).mono ?_);rintro e wc ⟨mvc,rfl,hmc,hbc⟩)
   refine hK.out _ _ ?_ (fun hHeld=>?_)
   ·exact KA _ _ (by assumption) (by assumption)
   clear hK K
   try go_frame
   refine wpAnyH_ready (rs:=[8,13]) (by kernel_rfl) (by simp) ?_;refine I3 8 rfl (fun K hK=>?_) ?_
   ·go_simp
    (go_at_call 67;(with_reducible refine(HX2.out _ _ _ (hmc.ints (by omega))).mono ?_);rintro e wx ⟨⟨mvx,rfl,hmx,hox,hlx⟩,hbx⟩)
    refine hK.out _ _ ?_ (fun hHeld=>?_)
    ·exact KA _ _ (by assumption) (by assumption)
    clear hK K
    try go_frame
    refine tk 9 ?_;refine tk 10 ?_;refine tk 11 ?_;refine tk 12 ?_;have hz:=(G9 wx (B4 K3 (.slice none 0 0)) 48).2;rw[←V4]at hz;refine rd1 13 (fun K hK=>?_);go_simp;refine hK.out _ _ ?_ (fun hHeld=>?_)
    ·exact KA _ _ (by assumption) ((Below.refl _ _).alloc (Nat.le_refl _) _)
    clear hK K
    try go_frame
    obtain⟨⟨z1,z2⟩,z3,hth,hk2⟩:=J7 hox.rl hmx.isSlice hz (B8 rfl _);refine rd1 14 (fun K hK=>?_);rw[if_pos (by rfl)];refine wp_store_mid _ _ _ rfl _ 0 _ rfl rfl hth z2 z3 ?_;refine hK.out _ _ ?_ (fun hHeld=>?_)
    ·exact F8 (by have h1:=(show Below W1.heap.size W1 wx by assumption).size;omega) _ 0 _ (by assumption)
    clear hK K
    try go_frame
    refine tk 15 ?_;refine tk 16 ?_;refine wpAnyH_done (by kernel_rfl) ?_ _;go_wp2_with fail
    go_meet
    case rel=>exact⟨_,rfl,rfl,rfl,(o5 hz (B8 rfl _) (hmx.below ((Below.refl _ _).alloc (Nat.le_refl _) _)) (fun h=>by have:=(hmx.own _ h).2;omega) hox hlx),by assumption⟩
   refine I3 13 rfl (fun K hK=>?_) ?_
   ·have hz:=(G9 wc (B4 K3 (.slice none 0 0)) 48).2;rw[←V4]at hz;go_simp;refine hK.out _ _ ?_ (fun hHeld=>?_)
    ·exact KA _ _ (by assumption) ((Below.refl _ _).alloc (Nat.le_refl _) _)
    clear hK K
    try go_frame
    refine rd1 8 (fun K hK=>?_);go_simp
    (go_at_call 67;(with_reducible refine(HX2.out _ _ _ ((hmc.below ((Below.refl _ _).alloc (Nat.le_refl _) _)).ints (by omega))).mono ?_);rintro e wx ⟨⟨mvx,rfl,hmx,hox,hlx⟩,hbx⟩)
    refine hK.out _ _ ?_ (fun hHeld=>?_)
    ·exact KA _ _ (by assumption) (by assumption)
    clear hK K
    try go_frame
    replace hz:=hz.below (by rw[B8 rfl];decide) hbx
    refine tk 9 ?_;refine tk 10 ?_;refine tk 11 ?_;refine tk 12 ?_;obtain⟨⟨z1,z2⟩,z3,hth,hk2⟩:=J7 hox.rl hmx.isSlice hz (B8 rfl _);refine rd1 14 (fun K hK=>?_);rw[if_pos (by rfl)];refine wp_store_mid _ _ _ rfl _ 0 _ rfl rfl hth z2 z3 ?_;refine hK.out _ _ ?_ (fun hHeld=>?_)
    ·exact F8 (by have h1:=(show Below W1.heap.size W1 wc by assumption).size;omega) _ 0 _ (by assumption)
    clear hK K
    try go_frame
    refine tk 15 ?_;refine tk 16 ?_;refine wpAnyH_done (by kernel_rfl) ?_ _;go_wp2_with fail
    go_meet
    case rel=>exact⟨_,rfl,rfl,rfl,(o5 hz (B8 rfl _) hmx (fun h=>by have:=(hmx.own _ h).1;simp at this;omega) hox hlx),by assumption⟩
   exact AllReadyH.nil
  refine I3 13 rfl (fun K hK=>?_) ?_
  ·have hz:=(G9 W1.drew (B4 K3 (.slice none 0 0)) 48).2;rw[←V4]at hz;go_simp;refine hK.out _ _ ?_ (fun hHeld=>?_)
   ·exact KA _ _ (by assumption) ((Below.refl _ _).alloc (Nat.le_refl _) _)
   clear hK K
   try go_frame
   refine rd1 2 (fun K hK=>?_);go_simp
   (go_at_call 68;(with_reducible refine(HCP.out _ (by assumption)).mono ?_);rintro e wc ⟨mvc,rfl,hmc,hbc⟩)
   refine hK.out _ _ ?_ (fun hHeld=>?_)
   ·exact KA _ _ (by assumption) (by assumption)
   clear hK K
   try go_frame
   replace hz:=hz.below (by rw[B8 rfl];decide) hbc
   refine rd1 8 (fun K hK=>?_);go_simp
   (go_at_call 67;(with_reducible refine(HX2.out _ _ _ (hmc.ints (by omega))).mono ?_);rintro e wx ⟨⟨mvx,rfl,hmx,hox,hlx⟩,hbx⟩)
   refine hK.out _ _ ?_ (fun hHeld=>?_)
   ·exact KA _ _ (by assumption) (by assumption)
   clear hK K
   try go_frame
   replace hz:=hz.below (by rw[B8 rfl];decide) hbx
   refine tk 9 ?_;refine tk 10 ?_;refine tk 11 ?_;refine tk 12 ?_;obtain⟨⟨z1,z2⟩,z3,hth,hk2⟩:=J7 hox.rl hmx.isSlice hz (B8 rfl _);refine rd1 14 (fun K hK=>?_);rw[if_pos (by rfl)];refine wp_store_mid _ _ _ rfl _ 0 _ rfl rfl hth z2 z3 ?_;refine hK.out _ _ ?_ (fun hHeld=>?_)
   ·exact F8 (by exact Nat.le_refl _) _ 0 _ (by assumption)
   clear hK K
   try go_frame
   refine tk 15 ?_;refine tk 16 ?_;refine wpAnyH_done (by kernel_rfl) ?_ _;go_wp2_with fail
   go_meet
   case rel=>exact⟨_,rfl,rfl,rfl,(o5 hz (B8 rfl _) hmx (fun h=>by have:=(hmx.own _ h).1;have h9:=hbc.size;simp at h9;have h8:W1.drew.heap.size=W1.heap.size:=rfl;omega) hox hlx),by assumption⟩
  exact AllReadyH.nil
 case rest=>
  obtain⟨B1,rfl,rfl,rfl,hP1,hW4⟩:=hcut;have HB4:=hid (HB1.out.trans (hW4.mono (by have:=HB1.out.size;omega)));obtain⟨W4,rfl⟩:∃W,W=wc:=⟨_,rfl⟩
  have hS14:∀wk:World,Below W4.heap.size W4 wk→Below W1.heap.size W1 wk:=fun wk hb=>hW4.trans (hb.mono hW4.size)
  replace hSr:∀wk:World,Below W4.heap.size W4 wk→wk.rangeAt w.heap.size 0 cs:=fun wk hb=>hSr wk (hS14 wk hb)
  replace hSp:∀wk:World,Below W4.heap.size W4 wk→wk.cell? ⟨W0.heap.size,0,none⟩=some (.int .i64 N):=fun wk hb=>hSp wk (hS14 wk hb)
  replace hSq:∀wk:World,Below W4.heap.size W4 wk→wk.cell? ⟨W0.heap.size,1,none⟩=some (.int .i64 M):=fun wk hb=>hSq wk (hS14 wk hb)
  replace HCP:=hid (fun(wk:World) (hb:Below W4.heap.size W4 wk)=>HCP.out wk (hS14 wk hb))
  replace KA:∀wk wk':World,Below W4.heap.size W4 wk→Below wk.heap.size wk wk'→Below W4.heap.size W4 wk':=fun wk wk' h hb=>h.trans (hb.mono h.size)
  have HP1:=hid hP1;have HLT4:=hid (show W0.heap.size<W4.heap.size by have:=hW4.size;omega);clear hP1 hW4 hS14 HB1 HS1;have e1:E c ((N:Int)+M)=E c N:=by have:=HL.err c N M hN hM;rwa[Int.natCast_add]at this
  rw[e1];go_upto_region 4 with fail
  go_cut[10,11,12]from 47 to 56 (fun p a b wx=>∃B,p= .pointer (some ⟨B,0,none⟩)∧a= .int .i64 (F c N).2∧b= .int .i64 (E c N)∧PtP B (F c N).1 wx∧W4.heap.size≤B∧Below W4.heap.size W4 wx)
  case first=>
   refine wp_region_held_drew (S:=fun wk=>Below W4.heap.size W4 wk) (by kernel_rfl) ?_ (fun hHeld=>?_)
   ·exact(Below.refl _ _).drew
   refine tk 0 ?_;refine O1 1 (v:=.agg cs.toArray) rfl (by kernel_rfl) (by kernel_rfl) (by kernel_rfl) (fun _ _ _ h=>h) (yieldsIf_load_mid (by rfl) _ _ rfl w.heap.size 0 rfl cs _ hSr hu rfl hszc) (by assumption) ?_;go_frame;refine tk 3 ?_;refine tk 4 ?_;refine wpAnyH_ready (rs:=[2,10]) (by kernel_rfl) (by simp) ?_;refine I3 2 rfl (fun K hK=>?_) ?_
   ·go_simp
    (go_at_call 68;(with_reducible refine(HCP.out _ (by assumption)).mono ?_);rintro e wc ⟨mvc,rfl,hmc,hbc⟩)
    refine hK.out _ _ ?_ (fun hHeld=>?_)
    ·exact KA _ _ (by assumption) (by assumption)
    clear hK K
    try go_frame
    refine wpAnyH_ready (rs:=[5,10]) (by kernel_rfl) (by simp) ?_;refine I3 5 rfl (fun K hK=>?_) ?_
    ·go_simp
     (go_at_call 67;(with_reducible refine(HX2.out _ _ _ (hmc.ints (by omega))).mono ?_);rintro e wx ⟨⟨mvx,rfl,hmx,hox,hlx⟩,hbx⟩)
     refine hK.out _ _ ?_ (fun hHeld=>?_)
     ·exact KA _ _ (by assumption) (by assumption)
     clear hK K
     try go_frame
     refine tk 6 ?_;refine tk 7 ?_;refine tk 8 ?_;refine tk 9 ?_;have hz:=(G9 wx (B4 K3 (.slice none 0 0)) 48).2;rw[←V4]at hz;refine rd1 10 (fun K hK=>?_);go_simp;refine hK.out _ _ ?_ (fun hHeld=>?_)
     ·exact KA _ _ (by assumption) ((Below.refl _ _).alloc (Nat.le_refl _) _)
     clear hK K
     try go_frame
     obtain⟨⟨z1,z2⟩,z3,hth,hk2⟩:=J7 hox.rl hmx.isSlice hz (B8 rfl _);refine rd1 11 (fun K hK=>?_);rw[if_pos (by rfl)];refine wp_store_mid _ _ _ rfl _ 0 _ rfl rfl hth z2 z3 ?_;refine hK.out _ _ ?_ (fun hHeld=>?_)
     ·exact F8 (by have h1:=(show Below W4.heap.size W4 wx by assumption).size;omega) _ 0 _ (by assumption)
     clear hK K
     try go_frame
     refine tk 12 ?_;refine tk 13 ?_;refine wpAnyH_done (by kernel_rfl) ?_ _;go_wp2_with fail
     go_meet
     case rel=>exact⟨_,rfl,rfl,rfl,(o5 hz (B8 rfl _) (hmx.below ((Below.refl _ _).alloc (Nat.le_refl _) _)) (fun h=>by have:=(hmx.own _ h).2;omega) hox hlx),by first|exact Nat.le_refl _|(have h1:=(show Below W4.heap.size W4 wc by assumption).size;have h2:=hbx.size;(try simp at h2);omega),by assumption⟩
    refine I3 10 rfl (fun K hK=>?_) ?_
    ·have hz:=(G9 wc (B4 K3 (.slice none 0 0)) 48).2;rw[←V4]at hz;go_simp;refine hK.out _ _ ?_ (fun hHeld=>?_)
     ·exact KA _ _ (by assumption) ((Below.refl _ _).alloc (Nat.le_refl _) _)
     clear hK K
     try go_frame
     refine rd1 5 (fun K hK=>?_);go_simp
     (go_at_call 67;(with_reducible refine(HX2.out _ _ _ ((hmc.below ((Below.refl _ _).alloc (Nat.le_refl _) _)).ints (by omega))).mono ?_);rintro e wx ⟨⟨mvx,rfl,hmx,hox,hlx⟩,hbx⟩)
     refine hK.out _ _ ?_ (fun hHeld=>?_)
     ·exact KA _ _ (by assumption) (by assumption)
     clear hK K
     try go_frame
     replace hz:=hz.below (by rw[B8 rfl];decide) hbx
     refine tk 6 ?_;refine tk 7 ?_;refine tk 8 ?_;refine tk 9 ?_;obtain⟨⟨z1,z2⟩,z3,hth,hk2⟩:=J7 hox.rl hmx.isSlice hz (B8 rfl _);refine rd1 11 (fun K hK=>?_);rw[if_pos (by rfl)];refine wp_store_mid _ _ _ rfl _ 0 _ rfl rfl hth z2 z3 ?_;refine hK.out _ _ ?_ (fun hHeld=>?_)
     ·exact F8 (by have h1:=(show Below W4.heap.size W4 wc by assumption).size;omega) _ 0 _ (by assumption)
     clear hK K
     try go_frame
     refine tk 12 ?_;refine tk 13 ?_;refine wpAnyH_done (by kernel_rfl) ?_ _;go_wp2_with fail
     go_meet
     case rel=>exact⟨_,rfl,rfl,rfl,(o5 hz (B8 rfl _) hmx (fun h=>by have:=(hmx.own _ h).1;simp at this;omega) hox hlx),by first|exact Nat.le_refl _|(have h1:=(show Below W4.heap.size W4 wc by assumption).size;have h2:=hbx.size;(try simp at h2);omega),by assumption⟩
    exact AllReadyH.nil
   refine I3 10 rfl (fun K hK=>?_) ?_
   ·have hz:=(G9 W4.drew (B4 K3 (.slice none 0 0)) 48).2;rw[←V4]at hz;go_simp;refine hK.out _ _ ?_ (fun hHeld=>?_)
    ·exact KA _ _ (by assumption) ((Below.refl _ _).alloc (Nat.le_refl _) _)
    clear hK K
    try go_frame
    refine rd1 2 (fun K hK=>?_);go_simp
    (go_at_call 68;(with_reducible refine(HCP.out _ (by assumption)).mono ?_);rintro e wc ⟨mvc,rfl,hmc,hbc⟩)
    refine hK.out _ _ ?_ (fun hHeld=>?_)
    ·exact KA _ _ (by assumption) (by assumption)
    clear hK K
    try go_frame
    replace hz:=hz.below (by rw[B8 rfl];decide) hbc
    refine rd1 5 (fun K hK=>?_);go_simp
    (go_at_call 67;(with_reducible refine(HX2.out _ _ _ (hmc.ints (by omega))).mono ?_);rintro e wx ⟨⟨mvx,rfl,hmx,hox,hlx⟩,hbx⟩)
    refine hK.out _ _ ?_ (fun hHeld=>?_)
    ·exact KA _ _ (by assumption) (by assumption)
    clear hK K
    try go_frame
    replace hz:=hz.below (by rw[B8 rfl];decide) hbx
    refine tk 6 ?_;refine tk 7 ?_;refine tk 8 ?_;refine tk 9 ?_;obtain⟨⟨z1,z2⟩,z3,hth,hk2⟩:=J7 hox.rl hmx.isSlice hz (B8 rfl _);refine rd1 11 (fun K hK=>?_);rw[if_pos (by rfl)];refine wp_store_mid _ _ _ rfl _ 0 _ rfl rfl hth z2 z3 ?_;refine hK.out _ _ ?_ (fun hHeld=>?_)
    ·exact F8 (by exact Nat.le_refl _) _ 0 _ (by assumption)
    clear hK K
    try go_frame
    refine tk 12 ?_;refine tk 13 ?_;refine wpAnyH_done (by kernel_rfl) ?_ _;go_wp2_with fail
    go_meet
    case rel=>exact⟨_,rfl,rfl,rfl,(o5 hz (B8 rfl _) hmx (fun h=>by have:=(hmx.own _ h).1;have h9:=hbc.size;simp at h9;have h8:W4.drew.heap.size=W4.heap.size:=rfl;omega) hox hlx),by first|exact Nat.le_refl _|(have h1:=(show Below W4.heap.size W4 wc by assumption).size;have h2:=hbx.size;(try simp at h2);omega),by assumption⟩
   exact AllReadyH.nil
  case rest=>
   obtain⟨B2,rfl,rfl,rfl,hP2,hB24,hW5⟩:=hcut;obtain⟨W5,rfl⟩:∃W,W=wc:=⟨_,rfl⟩
   by_cases he:E c N=0
   ·have q1:decide (0<1)=true:=rfl;have P1:=HP1.out.below hW5;have e0:(E c N==0)=true:=by simpa using he
    by_cases h4:(F c N).1.e=4
    ·have HP2:=hid hP2;have HW5:=hid hW5;obtain⟨mv2,k2,v2,o2,l2,n2⟩:=hP2;obtain⟨-,-,-,⟨c35,f35⟩⟩:=k2.tails o2.rl;rw[h4]at c35;have h2M:=HL.go c N M hN hM he h4 l2;have hcn:=HL.cnt {(F c N).1 with e:=0} M;have hcn1:=HL.cnt c N;rw[Int.natCast_add]at h2M;have HG:=hid h2M;have hB2:=HP2.out.lt;have e4:((4:Int) !=4)=false:=rfl;have HP26:=hid (HP2.out.setE 0);have hb46:=A6 HW5.out hB24 35 (.int .i64 0);have HP16:=hid (HP1.out.below hb46);have HB46:=hid hb46;have y1:=A0 hb46 HLT4.out (hSq _ (Below.refl _ _));have hB26:=HP26.out.lt;clear k2 v2 o2 l2 n2 P1 HP2 HW5 hW5 hb46 h2M HCP HX2 KA hSr hSp hszc;go_upto_region 12 with fail
     clear c35 f35;generalize W5.setCell ⟨B2,35,none⟩ (.int .i64 0)=W6 at*
     obtain⟨mv6,k6,v6,o6,l6,n6⟩:=HP26.out;have hrg6:=k6.range;have hsz6:=O6 o6.rl mv6;have HX6:=hid (HX _ mv6 M W6 o6 (v6.ints (by omega)));have HLT6:=hid hB26;have hW06:W0.heap.size<W6.heap.size:=by have:=HB46.out.size;have:=HLT4.out;omega
     clear k6 v6 o6 l6 n6 hB26;obtain⟨c6,hc6⟩:∃c6,({(F c N).1 with e:=0}:Mac)=c6:=⟨_,rfl⟩
     rw[hc6]at hrg6 hsz6 HX6 HG hcn;obtain⟨cs6,hcs6⟩:∃cs6,B4 c6 mv6=cs6:=⟨_,rfl⟩
     rw[hcs6]at hrg6 hsz6 HX6;clear hc6 hcs6 HP26;go_upto_region 13 with(first|(refine wpList_load_mid rfl _ _ rfl B2 0 rfl cs6 _ hrg6 underlying48 rfl hsz6 ?_)|((with_reducible refine(HX6.out).mono ?_);rintro e w7 ⟨⟨mv7,rfl,v7,o7,l7⟩,hb7⟩)|(refine wpList_store_row rfl _ _ _ rfl w7.heap.size (B4 (F c6 M).1 mv7).toArray rfl rfl 48 _ (b8 _ _ _) (A6e o7.rl _) (A6f o7.rl _) (T2 v7.isSlice) ?_))
     obtain⟨hE6,hM6,hK6⟩:=HG.out;obtain⟨hr1,hr2,-⟩:=A4R w7 #[.int .u32 0,.int .u32 0,.int .u32 0,.int .u32 0,.int .u32 0,.int .u32 0,.int .u32 0,.int .u32 0,.int .u32 0,.int .u32 0,.int .u32 0,.int .u32 0,.int .u32 0,.int .u32 0,.int .u32 0,.int .u32 0,.int .u32 0,.int .u32 0,.int .u32 0,.int .u32 0,.int .u32 0,.int .u32 0,.int .u32 0,.int .u32 0,.int .u32 0,.int .u32 0,.int .u32 0,.int .u32 0,.int .u32 0,.int .u32 0,.int .u32 0,.int .u32 0,.int .i64 0,.int .u32 0,.slice none 0 0,.int .i64 0] (B4 (F c6 M).1 mv7) 48;have hb8:=hb7.trans (hr1.mono hb7.size);have P1:=HP16.out.below hb8;rw[←hM6]at P1;obtain⟨mv1,k1,v1,o1,l1,-⟩:=P1;have HSM:=hid (A3s (F c6 M).1 mv7 mv1 _ o7.rl ((v7.below hr1).ints (by omega)) (v1.ints (by omega)));have HB8:=hid ((HB4.out.trans (HB46.out.mono (by have:=HB4.out.size;omega))).trans (hb8.mono (by have:=HB46.out.size;have:=HB4.out.size;omega)));have hrga:=hr2.range;have hrgb:=k1.range;have hsa:=O6 o7.rl mv7;have hsb:=O6 o1.rl mv1;rw[hE6,←hK6];have hwr2:IntKind.i64.wrap ((F c N).2+(F c6 M).2)=(F c N).2+(F c6 M).2:=by rw[IntWalk.i64_left];exact IntWalk.wrap64_in _ ⟨by omega,by omega⟩
     have hB1l:=k1.lt (by rw[B8 o1.rl];decide);have hB7l:=hr2.lt (by rw[B8 o1.rl];decide);clear HG hE6 hM6 hK6 hr1 hr2 hb8 HP16 k1 v1 o1 l1 v7 o7 l7 hrg6 hsz6 HX6 hcn hcn1 HB46 hb7 y1 hB2 h4 he e4 HL HX HP1;generalize(w7.alloc (Obj.cells #[.int .u32 0,.int .u32 0,.int .u32 0,.int .u32 0,.int .u32 0,.int .u32 0,.int .u32 0,.int .u32 0,.int .u32 0,.int .u32 0,.int .u32 0,.int .u32 0,.int .u32 0,.int .u32 0,.int .u32 0,.int .u32 0,.int .u32 0,.int .u32 0,.int .u32 0,.int .u32 0,.int .u32 0,.int .u32 0,.int .u32 0,.int .u32 0,.int .u32 0,.int .u32 0,.int .u32 0,.int .u32 0,.int .u32 0,.int .u32 0,.int .u32 0,.int .u32 0,.int .i64 0,.int .u32 0,.slice none 0 0,.int .i64 0] 48)).setRow w7.heap.size (B4 (F c6 M).1 mv7).toArray=W8 at*
     generalize w7.heap.size=B7 at*
     generalize(F c6 M).1=fm at*
     generalize(F c6 M).2=f2 at*
     generalize(F c N).2=f1 at*
     obtain⟨csa,hcsa⟩:∃l,B4 fm mv7=l:=⟨_,rfl⟩
     obtain⟨csb,hcsb⟩:∃l,B4 fm mv1=l:=⟨_,rfl⟩
     rw[hcsa]at hrga hsa HSM;rw[hcsb]at hrgb hsb HSM;have hcsa':=congrArg List.toArray hcsa;simp only[hcsa];clear hcsa hcsb hcsa';go_upto_region 60 with(first|(refine wp_load_mid _ _ rfl B7 0 rfl csa _ hrga underlying48 rfl hsa ?_;go_frame)|(refine wp_load_mid _ _ rfl B1 0 rfl csb _ hrgb underlying48 rfl hsb ?_;go_frame)|((with_reducible refine(HSM.out).mono ?_);rintro e w9 ⟨rfl,hb9⟩))
     go_ret;exact⟨rfl,HB8.out.trans (hb9.mono (by have:=HB8.out.size;omega))⟩
    ·have hF:=HL.fin c N M hN hM he h4;rw[Int.natCast_add]at hF;rw[hF]at P1⊢;obtain⟨mv1,k1,v1,o1,l1,-⟩:=P1;obtain⟨mv2,k2,v2,o2,l2,-⟩:=hP2;obtain⟨-,-,-,⟨c35,-⟩⟩:=k2.tails o2.rl;have HSM:=hid (A3s (F c N).1 mv2 mv1 W5 o2.rl (v2.ints (by omega)) (v1.ints (by omega)));have d4:((F c N).1.e !=4)=true:=by simpa using h4
     have hrga:=k2.range;have hrgb:=k1.range;have hsa:=O6 o2.rl mv2;have hsb:=O6 o1.rl mv1;have HB5:=hid (HB4.out.trans (hW5.mono (by have:=HB4.out.size;omega)));have hB1l:=k1.lt (by rw[B8 o1.rl];decide);have hB2l:=k2.lt (by rw[B8 o1.rl];decide);clear hF h4 v1 v2 k1 k2 o1 o2 l1 l2 hW5 HP1 HCP HX2 KA hSr hSp hSq hszc;generalize E c N=ee at*
     generalize(F c N).2=ff at*
     generalize(F c N).1=fm at*
     obtain⟨csa,hcsa⟩:∃l,B4 fm mv2=l:=⟨_,rfl⟩
     obtain⟨csb,hcsb⟩:∃l,B4 fm mv1=l:=⟨_,rfl⟩
     rw[hcsa]at hrga hsa HSM;rw[hcsb]at hrgb hsb HSM;clear hcsa hcsb;subst he;go_upto_region 60 with(first|(refine wp_load_mid _ _ rfl B2 0 rfl csa _ hrga underlying48 rfl hsa ?_;go_frame)|(refine wp_load_mid _ _ rfl B1 0 rfl csb _ hrgb underlying48 rfl hsb ?_;go_frame)|((with_reducible refine(HSM.out).mono ?_);rintro e w9 ⟨rfl,hb9⟩))
     go_ret;exact⟨rfl,HB5.out.trans (hb9.mono (by have:=HB5.out.size;omega))⟩
   ·have he2:(E c N !=0)=true:=by simpa using he
    clear hP2;generalize E c N=ee at*
    go_wp2_with fail
    go_ret;exact⟨rfl,HB4.out.trans (hW5.mono (by have:=HB4.out.size;omega))⟩
theorem A1O{x:Rv}(h:okR x=true):0≤C7 x∧C7 x<4294967296:=A7W h
theorem B0i(a l:List Int)(j:Nat):w4 (a++l) (a.length+j)=w4 l j:=by
 unfold w4;have e:∀k,(a++l).getD (a.length+k) 0=l.getD k 0:=fun k=>by
  rw[List.getD_eq_getElem?_getD,List.getD_eq_getElem?_getD,List.getElem?_append_right (by omega),Nat.add_sub_cancel_left]
 simp only[Nat.add_assoc,e]
theorem B0h{e:Int}(h:0≤e∧e<4294967296)(l:List Int):w4 (by4 e++l) 0=e:=by
 unfold w4 by4;simp[List.getD];omega
theorem A2x:∀(xs:List Rv),A3o xs→∀j,j<xs.length→w4 (Q4 xs) (4*j)=C7 (xs.getD j default)
 |[],_,j,hj=>absurd hj (Nat.not_lt_zero _)
 |x::r,ha,0,_=>by
  show w4 (by4 (C7 x)++Q4 r) 0=C7 x
  exact B0h (A1O (ha x (by simp))) _
 |x::r,ha,j+1,hj=>by
  show w4 (by4 (C7 x)++Q4 r) (4*(j+1))=C7 (r.getD j default)
  rw[←A2x r (fun y hy=>ha y (by simp[hy])) j (by simpa using hj)];have:=B0i (by4 (C7 x)) (Q4 r) (4*j);rw[←this];show w4 _ _=w4 _ (4+4*j)
  rw[show 4*(j+1)=4+4*j by omega]
theorem Q2{l:List Rv}{j:Nat}(h:j<l.length):l.getD j default=l[j]:=by
 rw[List.getD_eq_getElem?_getD,List.getElem?_eq_getElem h];rfl
theorem B1w{xs done:List Rv}(ha:A3o xs)(h:LiH (Q4 xs) done)(hs:(Q4 xs).length<4*done.length+4∨P8 (w4 (Q4 xs) (4*done.length))=none):done=xs:=by
 obtain⟨h1,h2⟩:=h;have hl:=A0H xs;have he:done.length=xs.length:=by
  rcases Nat.lt_or_ge done.length xs.length with h3|h3
  ·rcases hs with h4|h4
   ·omega
   ·rw[A2x xs ha _ h3,Q2 h3,A1Q (ha _ (List.getElem_mem h3))]at h4;cases h4
  ·omega
 refine List.ext_getElem he fun j h3 h4=>?_
 have h5:=h2 j h3;rw[A2x xs ha j h4,Q2 h4,A1Q (ha _ (List.getElem_mem h4)),Q2 h3]at h5;exact(Option.some.inj h5).symm
theorem B2y{l:List Int}(hb:Byt l){k:Nat}(hk:k+4≤l.length):by4 (w4 l k)=(l.drop k).take 4:=by
 have b0:=hb k;have b1:=hb (k+1);have b2:=hb (k+2);have b3:=hb (k+3);have e:(l.drop k).take 4=[l.getD k 0,l.getD (k+1) 0,l.getD (k+2) 0,l.getD (k+3) 0]:=by
  refine List.ext_getElem? fun i=>?_
  rcases Nat.lt_or_ge i 4 with hi|hi
  ·rw[List.getElem?_take,if_pos hi,List.getElem?_drop];have:i=0∨i=1∨i=2∨i=3:=by omega
   rcases this with rfl|rfl|rfl|rfl<;>(rw[List.getElem?_eq_getElem (by omega)];simp[List.getD_eq_getElem?_getD,List.getElem?_eq_getElem,show k<l.length by omega,show k+1<l.length by omega,show k+2<l.length by omega,show k+3<l.length by omega])
  ·rw[List.getElem?_eq_none (by simp;omega),List.getElem?_eq_none (by simpa using hi)]
 rw[e];unfold by4 w4;generalize l.getD k 0=x0 at*
 generalize l.getD (k+1) 0=x1 at*
 generalize l.getD (k+2) 0=x2 at*
 generalize l.getD (k+3) 0=x3 at*
 simp only[List.cons.injEq,and_true];omega
theorem B3C{l:List Int}(hb:Byt l)(k:Nat):0≤w4 l k∧w4 l k<4294967296:=Q9 hb k
theorem B1x{l:List Int}{done:List Rv}(hb:Byt l)(h:LiH l done):A3o done∧Q4 done=l.take (4*done.length):=by
 obtain⟨h1,h2⟩:=h;have hj:∀j (hj:j<done.length),okR done[j]=true∧C7 done[j]=w4 l (4*j):=fun j hj=>by
  obtain⟨v0,v1⟩:=B3C hb (4*j);have:=h2 j hj;rw[Q2 hj]at this;exact A7Z v0 v1 this
 refine⟨fun x hx=>by obtain⟨j,hj1,rfl⟩:=List.getElem_of_mem hx;exact(hj j hj1).1,?_⟩;have key:∀n,n≤done.length→Q4 (done.take n)=l.take (4*n):=by
  intro n
  induction n with
  |zero=>intro _;rfl
  |succ n ih=>
   intro hn;rw[A9x (by omega),A0g,ih (by omega),Q2 (by omega),(hj n (by omega)).2,B2y hb (by omega),show 4*(n+1)=4*n+4 by omega,List.take_add]
 have:=key done.length (Nat.le_refl _);rw[List.take_length]at this;exact this
theorem A1k(xs:List Rv)(v u:Value)(w:World)(hv:Rvs w v xs)(hu:Rvs w u xs):Calls prog 26 #[v,u] w fun e w'=>e= .returned (.bool true)∧Below w.heap.size w w':=by
 have HV:=hid hv;have HU:=hid hu;obtain⟨va,vc,rfl,hl1,hl2⟩:=hv.shape;obtain⟨ua,uc,rfl,hm1,-⟩:=hu.shape;clear hv hu;go_enter func26,ntmps26;go_wp2_with fail
 go_loopw[5] (fun i wr=>∃j:Nat,j≤xs.length∧i= .int .i64 j∧Since w wr) (fun i _=>xs.length-(intOf i).toNat)
 case atStart=>exact⟨0,Nat.zero_le _,rfl,Since.refl _⟩
 case round=>
  obtain⟨j,hj,rfl,hs⟩:=hrel;by_cases hlt:j<xs.length
  ·obtain⟨b,q,c,e',hc,hb,x0,x1,x2,x3,x4⟩:=(HV.out.stays hs).at hlt;cases e';obtain⟨b',q',c',e',hc',hb',y0,y1,y2,y3,y4⟩:=(HU.out.stays hs).at hlt;cases e';have HSj:=hid hs;clear hs;generalize xs.getD j default=x at*
   obtain⟨o,d,s,z,i⟩:=x;have hlt':(j:Int)<xs.length:=Int.ofNat_lt.2 hlt;have hj1:IntKind.i64.wrap ((j:Int)+1)=((j+1:Nat):Int):=by rw[IntWalk.i64_left];exact IntWalk.wrap64_in _ (by omega)
   go_wp2_with fail
   go_quiet(fail)
   go_wp2_with fail
   go_roundw
   case rel=>exact⟨j+1,by omega,by go_num,HSj.out.drewN _⟩
   case measure=>simp[intOf];omega
  ·obtain rfl:j=xs.length:=by omega
   have hd:decide ((xs.length:Int)<xs.length)=false:=decide_eq_false (by omega);go_wp2_with fail
   go_ret;exact⟨rfl,hs⟩
theorem op_runs {P : Program} {ops : Array Oper} {rest : List Oper} {o : Oper} {a : Act} {w : World} {Q : Exit → Act → World → Prop} (hg : o.guard = none) (d : Option Tmp) (hd : o.dst = d) (v : Value) (w' : World)
    (hr : (execOp a.eval o).run P w = .ok (.value v) w') (h : wpList P ops Q rest (a.put d v) w') : wpList P ops Q (o :: rest) a w := by
  subst hd
  exact wpList_plain hg fun K hK => by unfold Oper.wp; rw [hr]; exact hK _ _ h
def fmsL:List Int:=[0,51,0,0,0,51,0,32,0,51,1,0,0,51,2,0,0,51,3,0,0,51,4,0,0,51,5,0,0,51,5,32,0,51,6,0,0,51,7,0,0,51,0,1,0,51,4,1,0,51,5,1,0,51,6,1,0,51,7,1,1,19,0,0,1,19,2,0,1,19,3,0,1,19,4,0,1,19,6,0,1,19,7,0,2,19,1,0,2,19,5,0,2,19,5,32,3,55,0,0,4,3,4,0,4,3,5,0,4,3,2,0,5,35,0,0,5,35,1,0,5,35,2,0,6,99,0,0,6,99,1,0,6,99,4,0,6,99,5,0,6,99,6,0,6,99,7,0,7,111,0,0,8,103,0,0,9,115,0,0,9,115,0,0]
def FmsAt(w:World)(B:Nat):Prop:=B<w.heap.size∧∀k,k<164→w.cell? ⟨B,k,none⟩=some (.int .i64 (fmsL.getD k 0))
theorem FmsAt.below{w w':World}{B:Nat}(h:FmsAt w B)(hb:Below w.heap.size w w'):FmsAt w' B:=⟨Nat.lt_of_lt_of_le h.1 hb.size,fun k hk=>A0 hb h.1 (h.2 k hk)⟩
def B0K(k:Nat):Bool:=(fmsL.getD (4*k) 0==fmR k)&&(decide (38<k)||((fmsL.getD (4*k+1) 0==cdR (fmR k))&&((fmsL.getD (4*k+2) 0==(if k=24∨k=37 then 0 else thR k))&&(fmsL.getD (4*k+3) 0==svR k))))
theorem A8y:∀k:Fin 41,B0K k.1=true:=by decide
theorem A4w(w:World):Calls prog 59 #[] w fun e w'=>e= .returned (.slice (some ⟨w.heap.size,0,none⟩) 41 41)∧FmsAt w' w.heap.size∧Below w.heap.size w w':=by
 obtain⟨HB,K⟩:=G9 w (fmsL.map (Value.int .i64)) 129;have hl:fmsL.length=164:=by decide
 have KK:Hid (FmsAt (w.alloc (.cells (fmsL.map (Value.int .i64)).toArray 129)) w.heap.size):=
  hid ⟨by simp,fun k hk=>(K k _ (by rw[List.getElem?_map,List.getElem?_eq_getElem (by omega),List.getD_eq_getElem?_getD,List.getElem?_eq_getElem (by omega)];rfl)).1⟩
 have HB:=hid HB;clear K hl;go_enter func59,ntmps59;go_wp2_with(refine op_runs rfl (some 42) rfl (.slice (some ⟨w.heap.size,0,none⟩) 41 41) (w.alloc (.cells (fmsL.map (Value.int .i64)).toArray 129)) (by kernel_rfl) ?_)
 go_ret;exact⟨rfl,KK.out,HB.out⟩
theorem z5(n lo hi:Int)(w:World):Calls prog 58 #[.int .i64 n,.int .i64 lo,.int .i64 hi] w fun e w'=>e= .returned (.bool (decide (lo≤n)&&decide (n≤hi)))∧w=w':=by
 cases h1:decide (lo≤n)<;>cases h2:decide (n≤hi)<;>(
  go_enter func58,ntmps58;go_wp2_with fail
  go_ret;exact⟨rfl,rfl⟩)
def hiR(f:Int):Bool:=f !=0&&f !=9
theorem B4s(f:Int)(hf:0≤f∧f≤9)(w:World):Calls prog 60 #[.int .i64 f] w fun e w'=>e= .returned (.tuple #[.bool (hdR f),.bool (haR f),.bool (hbR f),.bool (hiR f)])∧w=w':=by
 have hc:f=0∨f=1∨f=2∨f=3∨f=4∨f=5∨f=6∨f=7∨f=8∨f=9:=by omega
 rcases hc with rfl|rfl|rfl|rfl|rfl|rfl|rfl|rfl|rfl|rfl
 all_goals
  go_enter func60,ntmps60;go_wp2_with fail
  exact bodyPost_ret (v:=.tuple #[.bool _,.bool _,.bool _,.bool _]) (by simp[results,results60,go_sem];decide) rfl ⟨rfl,rfl⟩
theorem A0x(b:Bool)(n:Int)(w:World):Calls prog 61 #[.bool b,.int .i64 n] w fun e w'=>e= .returned (.bool (rgR b n))∧w=w':=by
 have C:=hid (z5 n 0 31);rcases j5 b n with⟨t1,e⟩|⟨t1,t2,e⟩|⟨t1,t2,rfl,e⟩|⟨t1,t2,rfl,t3,e⟩|⟨t1,t2,rfl,t3,e⟩
 ·rw[e];have h1:decide (0≤n)=false:=by simp at t1⊢;omega
  have h2:(n==0)=false:=by simp at t1⊢;omega
  rw[h1]at C;simp only[Bool.false_and]at C;clear e h1 t1;cases b<;>(
   go_enter func61,ntmps61;go_upto_region 60 with(go_at_call 58;(with_reducible refine(C.out _).mono ?_);rintro e w' ⟨rfl,rfl⟩)
   go_ret;exact⟨rfl,rfl⟩)
 ·rw[e];have h1:decide (n≤31)=false:=by simp at t2⊢;omega
  have h2:(n==0)=false:=by simp at t2⊢;omega
  rw[h1]at C;simp only[Bool.and_false]at C;clear e h1 t1 t2;cases b<;>(
   go_enter func61,ntmps61;go_upto_region 60 with(go_at_call 58;(with_reducible refine(C.out _).mono ?_);rintro e w' ⟨rfl,rfl⟩)
   go_ret;exact⟨rfl,rfl⟩)
 ·rw[e];have h1:(decide (0≤n)&&decide (n≤31))=true:=by simp at t1 t2⊢;omega
  rw[h1]at C;clear e h1 t1 t2;go_enter func61,ntmps61;go_upto_region 60 with(go_at_call 58;(with_reducible refine(C.out _).mono ?_);rintro e w' ⟨rfl,rfl⟩)
  go_ret;exact⟨rfl,rfl⟩
 ·rw[e];clear e t1 t2 C;go_enter func61,ntmps61;go_upto_region 60 with fail
  go_ret;exact⟨rfl,rfl⟩
 ·rw[e];clear e t1 t2 C;go_enter func61,ntmps61;go_upto_region 60 with fail
  go_ret;exact⟨rfl,rfl⟩
end Go.Proofs.YtajljbmeaeeknaaGreat
