/- -/
import Derived.Test.YtajljbmeaeeknaaGreatA20
import Derived.Test.YtajljbmeaeeknaaGreatA29
import Derived.Test.YtajljbmeaeeknaaGreatA30
import Derived.Test.YtajljbmeaeeknaaGreatA31
open Go.Proofs.Tryz
open Go.Lib (hid)
set_option maxRecDepth 100000
namespace Go.Proofs.YtajljbmeaeeknaaGreat
open Go.RowKit
set_option linter.unusedVariables false
set_option linter.unusedSimpArgs false
def RSP(base:Nat)(mv:Value)(c:Mac)(w:World)(e:Ending)(w':World):Prop:=
 e= .returned (.agg (B4 c mv).toArray)∧(MemO base w' mv c.m∧MOk c∧c.m.length≤32768∧(0≤c.f∧c.f≤15))∧Below base w w'
def PE(c:Mac)(o:Option Mac):Prop:=∀c',o=some c'→c'.e=c.e
theorem PE.mk{c c':Mac}(h:c'.e=c.e):PE c (some c'):=fun _ e=>by cases e;exact h
theorem PE.none{c:Mac}:PE c none:=fun _ e=>by cases e
structure DS(base B:Nat)(mv:Value)(zs:List Value)(w:World)(c:Mac)(wk:World):Prop where
 mm:MM base B mv c wk
 k:CellsAt wk (B+1) zs
 b:Below base w wk
 no:mv.ownBlock≠some (B+1)
 bb:base≤B
 zl:zs.length=36
section
variable {base B : Nat} {mv : Value} {zs : List Value} {w : World} {c c' : Mac} {wk wk' : World}
theorem DS.below(h:DS base B mv zs w c wk)(hb:Below wk.heap.size wk wk'):DS base B mv zs w c wk':=
 ⟨h.mm.same hb,h.k.below (by rw[h.zl];decide) hb,h.b.trans (hb.mono (by have:=h.mm.ltM;have:=h.bb;omega)),h.no,h.bb,h.zl⟩
theorem DS.ch(h:DS base B mv zs w c wk)(hm:MM base B mv c' wk')(hc:Ch B B mv wk wk'):DS base B mv zs w c' wk':=
 ⟨hm,h.k.block (hc.block (B+1) (h.k.lt (by rw[h.zl];decide)) (by omega) (by omega) h.no),h.b.trans (hc.below (by have:=h.mm.ltM;have:=h.bb;omega) h.bb h.bb (fun k e=>(h.mm.own k e).1)),h.no,h.bb,h.zl⟩
theorem DS.slc(h:DS base B mv zs w c wk):∃a l k,mv= .slice a l k:=h.mm.memO.isSlice
theorem DS.fin(h:DS base B mv zs w c wk):RSP base mv c w (.returned (.agg (B4 c mv).toArray)) (wk.setCells (B+1) 0 (B4 c mv)):=
 ⟨rfl,⟨h.mm.memO.setCellsO h.no _,h.mm.ok,h.mm.ml,h.mm.fb⟩,F8 (by have:=h.bb;omega) _ 0 _ h.b⟩
end
end Go.Proofs.YtajljbmeaeeknaaGreat
namespace Go.Proofs.YtajljbmeaeeknaaGreat
open Go.RowKit
set_option linter.unusedVariables false
set_option linter.unusedSimpArgs false
theorem A5w{base M:Nat}{mv:Value}{c:Mac}{w:World}(h:MM base M mv c w):Calls prog 83 #[.pointer (some ⟨M,0,none⟩)] w fun e w'=>e= .returned (.tuple #[])∧MM base M mv (L3 c) w'∧Ch M M mv w w':=by
 have hab:=h.ab;by_cases ha:c.a.toNat<c.m.length
 ·have:=A5u base M mv c w h c.a.toNat (by omega) ha;unfold L3;by_cases hd:m5 (c.m.drop c.a.toNat)=true
  ·rw[if_pos hd]at this;rw[if_pos ⟨ha,hd⟩];exact this
  ·rw[if_neg hd]at this;rw[if_neg (fun h=>hd h.2)];exact this
 ·unfold L3;rw[if_neg (fun h=>ha h.1)];exact A5r base M mv c w h (by omega)
theorem B1X{p:Prop}(h:p:=by
 go_wp2_with(refine wpList_store_mid rfl _ _ _ rfl (w.heap.size+1) 0 (B4 K3 (.slice none 0 0)).toArray rfl rfl hthz hszz honez ?_)
 refine bodyPost_ret (v:=.tuple #[.agg (B4 K3 (.slice none 0 0)).toArray,.int .i64 0,.int .i64 1]) (A3C rfl rfl rfl rfl KZ.out underlying48 rfl HSZ0.out) rfl ?_;rw[HR.out,HRE.out];exact⟨⟨.slice none 0 0,rfl,Or.inl ⟨rfl,rfl⟩,A0t,by decide⟩,BZ.out⟩
 ):p:=h
theorem A8l(c:Mac)(k:Int):(t9 c=1∧P0 c k=1)∨(t9 c=0∧(k<0∨200000<k)∧P0 c k=1)∨(t9 c=0∧0≤k∧k≤200000∧c.e≠0∧P0 c k=9)∨(t9 c=0∧0≤k∧k≤200000∧c.e=0∧P0 c k=0∧c.m.length≤32768∧0≤c.f∧c.f≤15):=by
 unfold P0 t9;by_cases h:32768<c.m.length∨c.f<0∨15<c.f
 ·left;rw[if_pos h,if_pos (by omega)];exact⟨rfl,rfl⟩
 rw[if_neg h];by_cases h2:k<0∨200000<k
 ·right;left;rw[if_pos (by omega)];exact⟨rfl,h2,rfl⟩
 rw[if_neg (by omega)];by_cases he:c.e=0
 ·right;right;right;rw[if_pos he];exact⟨rfl,by omega,by omega,he,rfl,by omega,by omega,by omega⟩
 ·right;right;left;rw[if_neg he];exact⟨rfl,by omega,by omega,he,rfl⟩
set_option maxHeartbeats 1000000 in
theorem A9w(c:Mac)(mv:Value)(k:Int)(w:World)(ho:MOk c)(hm:Ints .u8 w mv c.m):Calls prog 53 #[.agg (B4 c mv).toArray,.int .i64 k] w fun e w'=>(∃mv',e= .returned (.tuple #[.agg (B4 (V8 c k).1 mv').toArray,.int .i64 (V8 c k).2,.int .i64 (P0 c k)])∧MemO w.heap.size w' mv' (V8 c k).1.m∧MOk (V8 c k).1∧(V8 c k).1.m.length≤32768)∧Below w.heap.size w w':=by
 have hsz:∀v,(prog.info? 48).map (·.size)=some (B4 c v).length:=fun v=>by rw[B8 ho.rl];kernel_rfl
 have hsz0:(prog.info? 48).map (·.size)=some (B4 K3 (.slice none 0 0)).length:=by rw[B8 rfl];kernel_rfl
 have hlen:=B8 ho.rl mv;obtain⟨k0,k1,hb1,hs1⟩:=X5 w (B4 c mv) (B4 K3 (.slice none 0 0)) 48 (by omega);rw[←V4]at k0 k1 hb1 hs1;have hv1:=hm.stays hb1;obtain⟨W1,hW1⟩:∃W,((w.alloc (.cells (B4 c mv).toArray 48)).alloc (.cells #[.int .u32 0,.int .u32 0,.int .u32 0,.int .u32 0,.int .u32 0,.int .u32 0,.int .u32 0,.int .u32 0,.int .u32 0,.int .u32 0,.int .u32 0,.int .u32 0,.int .u32 0,.int .u32 0,.int .u32 0,.int .u32 0,.int .u32 0,.int .u32 0,.int .u32 0,.int .u32 0,.int .u32 0,.int .u32 0,.int .u32 0,.int .u32 0,.int .u32 0,.int .u32 0,.int .u32 0,.int .u32 0,.int .u32 0,.int .u32 0,.int .u32 0,.int .u32 0,.int .i64 0,.int .u32 0,.slice none 0 0,.int .i64 0] 48))=W:=⟨_,rfl⟩
 rw[hW1]at k0 k1 hb1 hs1 hv1;have HCH:=hid (A2e c mv W1 ho.rl hv1);have HV1:=hid hv1;have HB1:=hid hb1;have HK0:=hid k0;have HK1:=hid k1;have HSZ0:=hid hsz0;have HO:=hid ho;have HSET:=hid (fun v=>A0B ho.rl mv v);have HM:=hid hm;have hszm:=hsz mv;have hrg:=k0.range;have hlt1:w.heap.size+1<W1.heap.size:=by omega
 have HMA:=hid (A8l c k);generalize hE:t9 c=E at*
 have HE:=hid hE;obtain⟨cs,hcs⟩:∃cs,B4 c mv=cs:=⟨_,rfl⟩
 have HCS:=hid hcs;have HLN:=hid hlen;rw[hcs]at hrg hszm HCH⊢;simp only[hcs]at hW1;clear k0 k1 hb1 hsz hsz0 hs1 hv1 ho hm hE hlen;go_enter func53,ntmps53;go_upto_region 2 with(first|(refine wpList_load_mid rfl _ _ rfl w.heap.size 0 rfl cs _ hrg underlying48 rfl hszm ?_)|((with_reducible refine(HCH.out).mono ?_);rintro e w2 ⟨rfl,hb2⟩))
 have K0:=HK0.out.below (by rw[HLN.out];decide) hb2;have K1:=HK1.out.below (by rw[B8 rfl];decide) hb2;have hb02:=HB1.out.trans (hb2.mono (by omega));have hv2:=HV1.out.stays hb2;have hlt2:w.heap.size+1<w2.heap.size:=Nat.lt_of_lt_of_le hlt1 hb2.size;obtain⟨-,-,⟨c34,f34⟩,⟨c35,f35⟩⟩:=K0.tails HO.out.rl;have hthz:=K1.there (ds:=B4 K3 (.slice none 0 0)) rfl;have hszz:(prog.info? 48).map (·.size)=some (B4 K3 (.slice none 0 0)).toArray.size:=by simpa using HSZ0.out
 have honez:=T2 (c:=K3) (mv:=.slice none 0 0) ⟨_,_,_,rfl⟩;have KZ:=hid (K1.setCells (ds:=B4 K3 (.slice none 0 0)) rfl);have BZ:=hid (F8 (b:=w.heap.size+1) (by omega) (B4 K3 (.slice none 0 0)) 0 w2 hb02);clear hW1 HCH hrg hszm;rcases HMA.out with⟨e,hR⟩|⟨e,hk,hR⟩|⟨e,hk0,hk1,he,hR⟩|⟨e,hk0,hk1,he,hR,hl,hf0,hf1⟩
 ·subst e;have HRE:=hid hR;have HR:=hid (show V8 c k=(K3,0)by unfold V8;rw[if_neg (by rw[hR];decide)]);clear hR K0 K1 hv2 c34 f34 c35 f35;exact B1X
 ·subst e;have HRE:=hid hR;have HR:=hid (show V8 c k=(K3,0)by unfold V8;rw[if_neg (by rw[hR];decide)]);clear hR K0 K1 hv2 c34 f34 c35 f35;by_cases hk2:k<0
  ·have d1:decide (k<0)=true:=decide_eq_true hk2;clear hk hk2;exact B1X
  have d1:decide (k<0)=false:=decide_eq_false hk2;have d2:decide (200000<k)=true:=decide_eq_true (by omega);clear hk hk2;exact B1X
 ·subst e;have HRE:=hid hR;have HR:=hid (show V8 c k=(K3,0)by unfold V8;rw[if_neg (by rw[hR];decide)]);have d1:decide (k<0)=false:=decide_eq_false (by omega);have d2:decide (200000<k)=false:=decide_eq_false (by omega);have d3:(c.e==0)=false:=by simpa using he
  clear hR he K0 K1 hv2 c34 f34 f35;go_wp2_with(refine wpList_store_mid rfl _ _ _ rfl (w.heap.size+1) 0 (B4 K3 (.slice none 0 0)).toArray rfl rfl hthz hszz honez ?_)
  refine bodyPost_ret (v:=.tuple #[.agg (B4 K3 (.slice none 0 0)).toArray,.int .i64 0,.int .i64 9]) (A3C rfl rfl rfl rfl KZ.out underlying48 rfl HSZ0.out) rfl ?_;rw[HR.out,HRE.out];exact⟨⟨.slice none 0 0,rfl,Or.inl ⟨rfl,rfl⟩,A0t,by decide⟩,BZ.out⟩
 ·subst e;have HRE:=hid hR;obtain⟨K,rfl⟩:=Int.eq_ofNat_of_zero_le hk0;have HR:=hid (show V8 c K=(N6 (L1 K c).1,((L1 K c).2:Int))by unfold V8;rw[if_pos hR];rfl);have d1:decide ((K:Int)<0)=false:=decide_eq_false (by omega);have d2:decide (200000<(K:Int))=false:=decide_eq_false (by omega);rw[he]at c35;have HE0:=hid he;obtain⟨va,vc,hmv,hl1,hl2⟩:=HM.out.shape;rw[hmv]at c34 hv2;have HV2:=hid hv2;have HLE:=hid (show c.m.length≤100000 by omega);have hlt:w.heap.size<w2.heap.size:=by omega
  have HROW:=hid (RowI.nil w2 w2.heap.size 5 .u8);have HK02:=hid K0;have HK12:=hid K1;have HB02:=hid hb02;have hl':=hl;clear he hv2 K0 K1 hb02 hl1 hl2 hthz hszz KZ BZ hR;go_upto_region 9 with(at_builtin;go_must (refine A1U rfl _ _ rfl w2.heap.size _ [] rfl HROW.out _ c.m rfl HV2.out (by simpa using HLE.out) (Nat.le_refl _) ?_;intro v5 w5 hr5 hb5;have hr6:RowI w5 w2.heap.size 5 .u8 v5 c.m:=hr5;clear hr5;obtain⟨a5,k5,e5⟩:=hr6.shape;subst e5;have HR5:=hid hr6;clear hr6;have y34:w5.cell? ⟨w.heap.size,34,none⟩=some (.slice va c.m.length vc):=(hb5.cell (p:=⟨w.heap.size,34,none⟩) hlt).trans c34;have z34:w5.frozen? ⟨w.heap.size,34,none⟩=false:=(hb5.frozen (p:=⟨w.heap.size,34,none⟩) hlt).trans f34))
  have hcs0:0<(B4 c mv).length:=by rw[HLN.out];decide
  have K0:=(HK02.out.below hcs0 hb5).set (k:=34) (by rw[HLN.out];decide) (.slice a5 c.m.length k5);have K1:=(HK12.out.below (by rw[B8 rfl];decide) hb5).other (b':=w.heap.size) (k:=34) (by omega) (.slice a5 c.m.length k5);have hb6:=(HB02.out.trans (hb5.mono (by omega))).setCell (p:=⟨w.heap.size,34,none⟩) (Nat.le_refl _) (.slice a5 c.m.length k5);have hmm:=(HR5.out.memO.set (b:=w.heap.size) (j:=34) (by omega) (.slice a5 c.m.length k5))
  rw[HSET.out]at K0;have hs6:(w5.setCell ⟨w.heap.size,34,none⟩ (.slice a5 c.m.length k5)).heap.size=w5.heap.size:=by simp[World.setCell]
  have hs5:=hb5.size;have HOWN:Hid (∀k,(Value.slice a5 c.m.length k5).ownBlock=some k→w2.heap.size≤k):=hid (fun k hk=>(hmm.own k hk).1);generalize w5.setCell ⟨w.heap.size,34,none⟩ (.slice a5 c.m.length k5)=W6 at*
  have hMM:MM w.heap.size w.heap.size (.slice a5 c.m.length k5) c W6:=MM.of K0 (hmm.low (by omega)) (fun e=>by have:=HOWN.out _ e;omega) (Nat.le_refl _) HO.out hl' ⟨hf0,hf1⟩;have hds:DS w.heap.size w.heap.size (.slice a5 c.m.length k5) (B4 K3 (.slice none 0 0)) w c W6:=⟨hMM,K1,hb6,fun e=>by have:=HOWN.out _ e;omega,Nat.le_refl _,B8 rfl _⟩
  have HD6:=hid hds;clear K0 K1 hb6 hmm hs6 hs5 hMM y34 z34 c34 f34 c35 f35 hb5 HR5 HK02 HK12 hcs0 hds honez;go_wp2_with fail
  have HST:=hid (fun(c':Mac) (wk:World) (hk:MM w.heap.size w.heap.size (.slice a5 c.m.length k5) c' wk)=>A5w hk)
  go_loopw[8] (fun i wr=>∃(j:Nat) (c':Mac),j≤K∧i= .int .i64 j∧DS w.heap.size w.heap.size (.slice a5 c.m.length k5) (B4 K3 (.slice none 0 0)) w c' wr∧Hid (L1 K c=((L1 (K-j) c').1,(L1 (K-j) c').2+j))) (fun i wr=>2*(K-(intOf i).toNat)+e01 (wr.cell? ⟨w.heap.size,35,none⟩))
  case atStart=>exact⟨0,c,Nat.zero_le _,rfl,HD6.out,hid (by rw[Nat.sub_zero];rfl)⟩
  case round=>
   obtain⟨j,c',hj,rfl,hds,HRUN⟩:=hrel;have HDJ:=hid hds;obtain⟨k35,g35⟩:=hds.mm.tailAt 3 _ rfl;have hMr:=hds.mm.ltM;clear hds;by_cases he:c'.e=0
   ·rw[he]at k35;by_cases hlt:j<K
    ·have dj:decide ((j:Int)<(K:Int))=true:=decide_eq_true (by omega);have CST:=hid (HST.out c' wr HDJ.out.mm);have HE9:=hid he;have K35:=hid (show wr.cell? ⟨w.heap.size,35,none⟩=some (.int .i64 0)from k35);go_upto_region 12 with((with_reducible refine(CST.out).mono ?_);rintro e w7 ⟨rfl,hm7,hc7⟩)
     have HD7:=hid (HDJ.out.ch hm7 hc7);obtain⟨q35,-⟩:=hm7.tailAt 3 _ rfl;have hM7:=hm7.ltM;clear hm7 hc7 k35 g35 he dj;by_cases h3:(L3 c').e=3
     ·rw[h3]at q35;have H3:=hid h3;have Q35:=hid (show w7.cell? ⟨w.heap.size,35,none⟩=some (.int .i64 3)from q35);clear h3;go_wp2_with fail
      go_roundw
      case rel=>exact⟨j,L3 c',by omega,by first|rfl|go_num,HD7.out,hid (by
       rw[HRUN.out,show K-j=(K-j-1)+1 by omega,j4 HE9.out H3.out,N8 (by rw[H3.out];decide)])⟩
      case measure=>
       rw[Q35.out,K35.out];simp[intOf,e01]
     ·have d3:((L3 c').e==3)=false:=by simpa using h3
      have H3:=hid h3;clear h3;generalize(L3 c').e=e7 at q35 d3;go_wp2_with fail
      go_roundw
      case rel=>exact⟨j+1,L3 c',by omega,by go_num,HD7.out,hid (by
       rw[HRUN.out,show K-j=(K-(j+1))+1 by omega,y6 HE9.out H3.out];simp only;rw[Nat.add_assoc,Nat.add_comm 1 j])⟩
      case measure=>
       have h01:=B2h (w7.cell? ⟨w.heap.size,35,none⟩);simp only[intOf];omega
    ·obtain rfl:j=K:=by omega
     have dj:decide ((j:Int)<(j:Int))=false:=decide_eq_false (by omega);have HF:Hid (N6 (L1 j c).1={c' with e:=4}∧(L1 j c).2=j):=hid (by rw[HRUN.out,Nat.sub_self];exact⟨by show N6 c'=_;unfold N6;rw[if_pos he],by show 0+j=j;omega⟩);have HDF:=hid (HDJ.out.ch (HDJ.out.mm.setE 4) ((Ch.refl _ _ _ _).setM 35 (.int .i64 4)));clear he hlt;go_upto_region 16 with fail
     generalize wr.setCell ⟨w.heap.size,35,none⟩ (.int .i64 4)=W9 at*
     obtain⟨⟨z1,z2⟩,z3,hth,hk2⟩:=J7 (c:={c' with e:=4}) HDF.out.mm.rl HDF.out.slc HDF.out.k HDF.out.zl;have hrgE:=HDF.out.mm.m.range;have hBE:=HDF.out.mm.ltM;obtain⟨dsE,hdsE⟩:∃dsE,B4 {c' with e:=4} (.slice a5 c.m.length k5)=dsE:=⟨_,rfl⟩
     have HCE:=hid hdsE;rw[hdsE]at z1 z2 z3 hth hk2 hrgE;have HK2:=hid hk2;have HSZ1:=hid z1;clear hdsE hk2;go_wp2_with(first|(refine wpList_load_mid rfl _ _ rfl w.heap.size 0 rfl dsE _ hrgE underlying48 rfl z1 ?_)|(refine wpList_store_mid rfl _ _ _ rfl (w.heap.size+1) 0 dsE.toArray rfl rfl hth z2 z3 ?_))
     refine bodyPost_ret (v:=.tuple #[.agg dsE.toArray,.int .i64 (j:Int),.int .i64 0]) (A3C rfl rfl rfl rfl HK2.out underlying48 rfl HSZ1.out) rfl ?_;have hfin:=HDF.out.fin;have hlen9:=HDF.out.mm.ml;rw[HCE.out]at hfin;rw[HR.out,HRE.out,HF.out.1,HF.out.2];exact⟨⟨.slice a5 c.m.length k5,by rw[HCE.out],hfin.2.1.1,hfin.2.1.2.1,hlen9⟩,hfin.2.2⟩
   ·have de:(c'.e==0)=false:=by simpa using he
    have HF:Hid (N6 (L1 K c).1=c'∧(L1 K c).2=j):=hid (by rw[HRUN.out,N8 he];exact⟨by show N6 c'=_;unfold N6;rw[if_neg he],by show 0+j=j;omega⟩);clear he;generalize c'.e=ee at k35 de;go_upto_region 16 with fail
    obtain⟨⟨z1,z2⟩,z3,hth,hk2⟩:=J7 (c:=c') HDJ.out.mm.rl HDJ.out.slc HDJ.out.k HDJ.out.zl;have hrgE:=HDJ.out.mm.m.range;have hBE:=HDJ.out.mm.ltM;obtain⟨dsE,hdsE⟩:∃dsE,B4 c' (.slice a5 c.m.length k5)=dsE:=⟨_,rfl⟩
    have HCE:=hid hdsE;rw[hdsE]at z1 z2 z3 hth hk2 hrgE;have HK2:=hid hk2;have HSZ1:=hid z1;clear hdsE hk2;go_wp2_with(first|(refine wpList_load_mid rfl _ _ rfl w.heap.size 0 rfl dsE _ hrgE underlying48 rfl z1 ?_)|(refine wpList_store_mid rfl _ _ _ rfl (w.heap.size+1) 0 dsE.toArray rfl rfl hth z2 z3 ?_))
    refine bodyPost_ret (v:=.tuple #[.agg dsE.toArray,.int .i64 (j:Int),.int .i64 0]) (A3C rfl rfl rfl rfl HK2.out underlying48 rfl HSZ1.out) rfl ?_;have hfin:=HDJ.out.fin;have hlen9:=HDJ.out.mm.ml;rw[HCE.out]at hfin;rw[HR.out,HRE.out,HF.out.1,HF.out.2];exact⟨⟨.slice a5 c.m.length k5,by rw[HCE.out],hfin.2.1.1,hfin.2.1.2.1,hlen9⟩,hfin.2.2⟩
end Go.Proofs.YtajljbmeaeeknaaGreat
namespace Go.Proofs.YtajljbmeaeeknaaGreat
open Go.RowKit Go.Maps
set_option linter.unusedVariables false
set_option linter.unusedSimpArgs false
theorem B0C{p:Prop}(h:p:=by
 refine tk 23 ?_;refine tk 24 ?_;refine wpAnyH_done (by kernel_rfl) ?_ _;have hS6:Since W5 w6:=(by assumption)
 go_wp2_with fail
 go_roundw
 case rel=>exact⟨j+1,by omega,by go_num,A7 HS5.out hS6⟩
 case measure=>simp[intOf];omega
 ):p:=h
theorem A7X(x:Rv):0≤ecR x∧ecR x<4294967296:=by
 unfold ecR
 split
 ·exact A1O (by assumption)
 ·omega
theorem B2m(x:Rv):(okR x=true∧erR x=0∧dcV (ecR x)= .tuple #[RvV x,.bool true])∨(okR x=false∧erR x=1∧∃y b,dcV (ecR x)= .tuple #[RvV y,.bool b]):=by
 cases h:okR x
 ·right;refine⟨rfl,by unfold erR;rw[h];rfl,?_⟩;obtain⟨y,b,e,-⟩:=A1R (ecR x);exact⟨y,b,e⟩
 ·left;refine⟨rfl,by unfold erR;rw[h];rfl,?_⟩;unfold dcV ecR;rw[if_pos h,A1Q h]
theorem A7h{xs:List Rv}(h:A3o xs):∀b∈Q4 xs,0≤b∧b<256:=by
 intro b hb;unfold Q4 at hb;obtain⟨x,hx,hb⟩:=List.mem_flatMap.1 hb;have he:=A1O (h x hx);unfold by4 at hb;simp only[List.mem_cons,List.not_mem_nil,or_false]at hb;omega
theorem A9u(ys:List Ins){j:Nat}(hj:j<ys.length):(K6 (ys.take j)).length+(K4 (ys.getD j default)).length≤(K6 ys).length∧((K6 ys).drop (K6 (ys.take j)).length).take (K4 (ys.getD j default)).length=K4 (ys.getD j default)∧(K6 (ys.take (j+1))).length=(K6 (ys.take j)).length+(K4 (ys.getD j default)).length:=by
 have h1:K6 ys=K6 (ys.take j)++(K4 (ys.getD j default)++K6 (ys.drop (j+1))):=by
  have h2:ys=ys.take (j+1)++ys.drop (j+1):=(List.take_append_drop _ _).symm
  conv=>lhs;rw[h2]
  rw[u5,n8 hj,s4,List.append_assoc]
 refine⟨by rw[h1];simp,by rw[h1,List.drop_left,List.take_left],by rw[n8 hj,s4,List.length_append]⟩
theorem B2n(x:Rv)(w:World):Calls prog 22 #[.int .u32 (ecR x)] w fun e w'=>e= .returned (dcV (ecR x))∧Below w.heap.size w w':=A0k _ (A7X x).1 (A7X x).2 w
set_option maxHeartbeats 4000000 in
theorem A4I(xs:List Rv)(ys:List Ins)(c:Mac)(n m:Int)(v u mv:Value)(w:World)(hv:Rvs w v xs)(hu:Ias w u ys)(ho:MOk c)(hm:Ints .u8 w mv c.m):Calls prog 6 #[.agg #[v,u],.agg (B4 c mv).toArray,.agg #[.int .i64 n,.int .i64 m]] w fun e w'=>e= .returned (.bool true)∧Below w.heap.size w w':=by
 have hlen:=B8 ho.rl mv;obtain⟨va,vc,rfl,hl1,hl2⟩:=hv.shape;obtain⟨ua,uc,rfl,hm1,hm2⟩:=hu.shape;obtain⟨sa,sc,hsv,hn1,hn2⟩:=hm.shape;obtain⟨hb1,l0⟩:=G9 w [.slice va xs.length vc,.slice ua ys.length uc] 69;obtain⟨Wa,hWa⟩:∃W,w.alloc (.cells #[.slice va xs.length vc,.slice ua ys.length uc] 69)=W:=⟨_,rfl⟩
 rw[show([.slice va xs.length vc,.slice ua ys.length uc]:List Value).toArray=#[.slice va xs.length vc,.slice ua ys.length uc]from rfl,hWa]at hb1 l0;obtain⟨hb2,k0⟩:=G9 Wa (B4 c mv) 48;obtain⟨Wb,hWb⟩:∃W,Wa.alloc (.cells (B4 c mv).toArray 48)=W:=⟨_,rfl⟩
 rw[hWb]at hb2 k0;obtain⟨hb3,p0⟩:=G9 Wb [.int .i64 n,.int .i64 m] 71;obtain⟨W1,hW1⟩:∃W,Wb.alloc (.cells #[.int .i64 n,.int .i64 m] 71)=W:=⟨_,rfl⟩
 rw[show([.int .i64 n,.int .i64 m]:List Value).toArray=#[.int .i64 n,.int .i64 m]from rfl,hW1]at hb3 p0;have l1:=(l0.below (Nat.succ_pos _) hb2).below (Nat.succ_pos _) hb3;have k1:=k0.below (by rw[hlen];decide) hb3;obtain⟨-,-,⟨c34,-⟩,-⟩:=k1.tails ho.rl;have a0:=(l1 0 _ rfl).1;have a1:=(l1 1 _ rfl).1;have q0:=(p0 0 _ rfl).1;have q1:=(p0 1 _ rfl).1;have z0:=l1.lt (Nat.succ_pos _);have z1:=k1.lt (by rw[hlen];decide);have z2:=p0.lt (Nat.succ_pos _);have hb13:=A7 (A7 hb1 hb2) hb3;have HB1:=hid hb13;have HV:=hid (hv.stays hb13);have HU:=hid (hu.stays hb13);have HM:=hid (hm.stays hb13);have HO:=hid ho;have HSV:=hid hsv;rw[hsv]at c34;have hszm:=O6 ho.rl mv;have HRG:Hid (∀wk,Since W1 wk→wk.rangeAt Wa.heap.size 0 (B4 c mv)):=hid (fun wk hb=>(k1.below (by rw[hlen];decide) hb).range);have F0:Hid (∀wk,Since W1 wk→wk.cell? ⟨w.heap.size,0,none⟩=some (.slice va xs.length vc)):=hid (fun wk hb=>A0 hb z0 a0);have F1:Hid (∀wk,Since W1 wk→wk.cell? ⟨w.heap.size,1,none⟩=some (.slice ua ys.length uc)):=hid (fun wk hb=>A0 hb z0 a1);have F2:Hid (∀wk,Since W1 wk→wk.cell? ⟨Wa.heap.size,34,none⟩=some (.slice sa c.m.length sc)):=hid (fun wk hb=>A0 hb z1 c34);have F3:Hid (∀wk,Since W1 wk→wk.cell? ⟨Wb.heap.size,0,none⟩=some (.int .i64 n)):=hid (fun wk hb=>A0 hb z2 q0);have F4:Hid (∀wk,Since W1 wk→wk.cell? ⟨Wb.heap.size,1,none⟩=some (.int .i64 m)):=hid (fun wk hb=>A0 hb z2 q1);have CE:Hid (∀wk,Calls prog 21 #[.agg #[.int .i64 15,.int .i64 5,.int .i64 0,.int .i64 0,.int .i64 (-1)]] wk fun e w'=>e= .returned (.tuple #[.int .u32 4293919379,.int .i64 0])∧Below wk.heap.size wk w'):=hid (fun wk=>by
  have:=T8 ⟨15,5,0,0,-1⟩ wk;rw[show ecR ⟨15,5,0,0,-1⟩=4293919379 by decide,show erR ⟨15,5,0,0,-1⟩=0 by decide]at this;exact this)
 obtain⟨cs,hcs⟩:∃cs,B4 c mv=cs:=⟨_,rfl⟩
 have HCS:=hid hcs;rw[hcs]at hszm;simp only[hcs]at HRG hWb;rw[hcs];clear hv hu hm ho hsv hlen hb1 hb2 hb3 l0 k0 p0 l1 k1 c34 a0 a1 q0 q1 hb13 hcs;go_enter func6,ntmps6;go_upto_region 1 with fail
 clear hWa hWb hW1;go_upto_region 4 with(go_at_call 21;(with_reducible refine(CE.out _).mono ?_);rintro e w2 ⟨rfl,hb2⟩)
 have HS2:Hid (Since W1 w2):=hid hb2;clear hb2 CE;have f0:=F0.out w2 HS2.out;have f1:=F1.out w2 HS2.out;have f2:=F2.out w2 HS2.out;have key:decide ((300:Int)<(xs.length:Int))=true∨(decide ((300:Int)<(xs.length:Int))=false∧(decide ((300:Int)<(ys.length:Int))=true∨(decide ((300:Int)<(ys.length:Int))=false∧(decide ((70000:Int)<(c.m.length:Int))=true∨decide ((70000:Int)<(c.m.length:Int))=false)))):=by
  simp only[decide_eq_true_eq,decide_eq_false_iff_not];omega
 have HK:=hid key;clear key;rcases HK.out with t1|⟨t1,t2|⟨t2,t3|t3⟩⟩
 iterate 3
  ·go_wp2_with fail
   go_ret;exact⟨rfl,HB1.out.trans (HS2.out.mono HB1.out.size)⟩
 have hx:xs.length≤300:=by have:=of_decide_eq_false t1;omega
 have hy:ys.length≤300:=by have:=of_decide_eq_false t2;omega
 have hz:c.m.length≤70000:=by have:=of_decide_eq_false t3;omega
 clear HK;go_wp2_with fail
 clear t1 t2 t3 f0 f1 f2
 go_loopw[9] (fun i wr=>∃j:Nat,j≤xs.length∧i= .int .i64 j∧Since W1 wr) (fun i _=>xs.length-(intOf i).toNat)
 case atStart=>exact⟨0,Nat.zero_le _,rfl,HS2.out⟩
 case round=>
  obtain⟨j,hj,rfl,hs⟩:=hrel;have f0:=F0.out _ hs;by_cases hlt:j<xs.length
  ·obtain⟨b,q,c',e',hc,hb,x0,x1,x2,x3,x4⟩:=(HV.out.stays hs).at hlt;cases e';have HS:=hid hs;clear hs;have hlt':(j:Int)<xs.length:=Int.ofNat_lt.2 hlt;have hj1:IntKind.i64.wrap ((j:Int)+1)=((j+1:Nat):Int):=by rw[IntWalk.i64_left];exact IntWalk.wrap64_in _ (by omega)
   generalize xs.getD j default=x at*
   have HX0:=hid x0;have HX1:=hid x1;have HX2:=hid x2;have HX3:=hid x3;have HX4:=hid x4;have C1:=hid (T8 x);have C2:=hid (B2n x);have C3:=hid (A1q x);have HD:=hid (B2m x);obtain⟨o,d,s,z,i⟩:=x;have C1:Hid (∀wk,Calls prog 21 #[.agg #[.int .i64 o,.int .i64 d,.int .i64 s,.int .i64 z,.int .i64 i]] wk fun e w'=>e= .returned (.tuple #[.int .u32 (ecR ⟨o,d,s,z,i⟩),.int .i64 (erR ⟨o,d,s,z,i⟩)])∧Below wk.heap.size wk w'):=C1;have C3:Hid (∀wk,Calls prog 23 #[.agg #[.int .i64 o,.int .i64 d,.int .i64 s,.int .i64 z,.int .i64 i]] wk fun e w'=>e= .returned (.int .i64 (erR ⟨o,d,s,z,i⟩))∧Below wk.heap.size wk w'):=C3;generalize ecR ⟨o,d,s,z,i⟩=E at*
   generalize hER:erR ⟨o,d,s,z,i⟩=er at*
   clear hER;rcases HD.out with⟨-,rfl,hd⟩|⟨-,rfl,y,bb,hd⟩
   ·rw[hd]at C2;have C2:Hid (∀wk,Calls prog 22 #[.int .u32 E] wk fun e w'=>e= .returned (.tuple #[.agg #[.int .i64 o,.int .i64 d,.int .i64 s,.int .i64 z,.int .i64 i],.bool true])∧Below wk.heap.size wk w'):=C2;clear hd HD;go_upto_region 11 with(first|(go_at_call 21;(with_reducible refine(C1.out _).mono ?_);rintro e w3 ⟨rfl,hb3⟩)|(go_at_call 22;(with_reducible refine(C2.out _).mono ?_);rintro e w4 ⟨rfl,hb4⟩))
    obtain⟨hr1,hr2⟩:=G9 w4 [.int .i64 o,.int .i64 d,.int .i64 s,.int .i64 z,.int .i64 i] 75;rw[show([.int .i64 o,.int .i64 d,.int .i64 s,.int .i64 z,.int .i64 i]:List Value).toArray=#[.int .i64 o,.int .i64 d,.int .i64 s,.int .i64 z,.int .i64 i]from rfl]at hr1 hr2;have hb34:=A7 hb3 hb4;have hb35:=A7 hb34 hr1;have HS5:=hid (A7 HS.out hb35);have hyl:=hr2.lt (Nat.succ_pos _);have k0:=(hr2 0 _ rfl).1;have k1:=(hr2 1 _ rfl).1;have k2:=(hr2 2 _ rfl).1;have k3:=(hr2 3 _ rfl).1;have k4:=(hr2 4 _ rfl).1;clear hr1 hr2 hb34 x0 x1 x2 x3 x4 f0;generalize w4.alloc (Obj.cells #[.int .i64 o,.int .i64 d,.int .i64 s,.int .i64 z,.int .i64 i] 75)=W5 at*
    generalize w4.heap.size=YB at*
    have G0:∀wk,Since W5 wk→wk.cell? ⟨w.heap.size,0,none⟩=some (.slice (some ⟨b,q,none⟩) xs.length vc):=fun wk h=>F0.out wk (A7 HS5.out h)
    have X0:∀wk,Since W5 wk→wk.cell? ⟨b,q+j*5,none⟩=some (.int .i64 o):=fun wk h=>A0 (A7 hb35 h) hb HX0.out
    have X1:∀wk,Since W5 wk→wk.cell? ⟨b,q+j*5+1,none⟩=some (.int .i64 d):=fun wk h=>A0 (A7 hb35 h) hb HX1.out
    have X2:∀wk,Since W5 wk→wk.cell? ⟨b,q+j*5+2,none⟩=some (.int .i64 s):=fun wk h=>A0 (A7 hb35 h) hb HX2.out
    have X3:∀wk,Since W5 wk→wk.cell? ⟨b,q+j*5+3,none⟩=some (.int .i64 z):=fun wk h=>A0 (A7 hb35 h) hb HX3.out
    have X4:∀wk,Since W5 wk→wk.cell? ⟨b,q+j*5+4,none⟩=some (.int .i64 i):=fun wk h=>A0 (A7 hb35 h) hb HX4.out
    have Y0:∀wk,Since W5 wk→wk.cell? ⟨YB,0,none⟩=some (.int .i64 o):=fun wk h=>A0 h hyl k0
    have Y1:∀wk,Since W5 wk→wk.cell? ⟨YB,1,none⟩=some (.int .i64 d):=fun wk h=>A0 h hyl k1
    have Y2:∀wk,Since W5 wk→wk.cell? ⟨YB,2,none⟩=some (.int .i64 s):=fun wk h=>A0 h hyl k2
    have Y3:∀wk,Since W5 wk→wk.cell? ⟨YB,3,none⟩=some (.int .i64 z):=fun wk h=>A0 h hyl k3
    have Y4:∀wk,Since W5 wk→wk.cell? ⟨YB,4,none⟩=some (.int .i64 i):=fun wk h=>A0 h hyl k4
    have hS0:=Since.refl W5;clear k0 k1 k2 k3 k4 HX0 HX1 HX2 HX3 HX4 hb35 hb3 hb4;refine wp_region_held_drew (S:=(fun wk=>Since W5 wk)) (by kernel_rfl) ?_ (fun hHeld=>?_)
    ·exact Y9
    refine tk 0 ?_;refine tk 1 ?_;refine tk 2 ?_;refine tk 3 ?_;refine tk 4 ?_;refine tk 5 ?_;refine rd1 6 (fun K hK=>?_)
    (go_simp;(go_at_call 23;(with_reducible refine(C3.out _).mono ?_);rintro e w6 ⟨rfl,hb6⟩))
    refine hK.out _ _ ?_ (fun hHeld=>?_)
    ·exact Y9
    clear hK K
    try go_frame
    refine tk 7 ?_;refine tk 8 ?_;refine tk 9 ?_;refine tk 10 ?_;refine tk 11 ?_;refine tk 12 ?_;refine tk 13 ?_;refine tk 14 ?_;refine tk 15 ?_;refine tk 16 ?_;refine tk 17 ?_;refine tk 18 ?_;refine tk 19 ?_;refine tk 20 ?_;refine tk 21 ?_;refine tk 22 ?_;exact B0C
   ·obtain⟨y0,y1,y2,y3,y4⟩:=y;rw[hd]at C2;have C2:Hid (∀wk,Calls prog 22 #[.int .u32 E] wk fun e w'=>e= .returned (.tuple #[.agg #[.int .i64 y0,.int .i64 y1,.int .i64 y2,.int .i64 y3,.int .i64 y4],.bool bb])∧Below wk.heap.size wk w'):=C2;clear hd HD;go_upto_region 11 with(first|(go_at_call 21;(with_reducible refine(C1.out _).mono ?_);rintro e w3 ⟨rfl,hb3⟩)|(go_at_call 22;(with_reducible refine(C2.out _).mono ?_);rintro e w4 ⟨rfl,hb4⟩))
    obtain⟨hr1,hr2⟩:=G9 w4 [.int .i64 y0,.int .i64 y1,.int .i64 y2,.int .i64 y3,.int .i64 y4] 75;rw[show([.int .i64 y0,.int .i64 y1,.int .i64 y2,.int .i64 y3,.int .i64 y4]:List Value).toArray=#[.int .i64 y0,.int .i64 y1,.int .i64 y2,.int .i64 y3,.int .i64 y4]from rfl]at hr1 hr2;have hb34:=A7 hb3 hb4;have hb35:=A7 hb34 hr1;have HS5:=hid (A7 HS.out hb35);have hyl:=hr2.lt (Nat.succ_pos _);have k0:=(hr2 0 _ rfl).1;have k1:=(hr2 1 _ rfl).1;have k2:=(hr2 2 _ rfl).1;have k3:=(hr2 3 _ rfl).1;have k4:=(hr2 4 _ rfl).1;clear hr1 hr2 hb34 x0 x1 x2 x3 x4 f0;generalize w4.alloc (Obj.cells #[.int .i64 y0,.int .i64 y1,.int .i64 y2,.int .i64 y3,.int .i64 y4] 75)=W5 at*
    generalize w4.heap.size=YB at*
    have G0:∀wk,Since W5 wk→wk.cell? ⟨w.heap.size,0,none⟩=some (.slice (some ⟨b,q,none⟩) xs.length vc):=fun wk h=>F0.out wk (A7 HS5.out h)
    have X0:∀wk,Since W5 wk→wk.cell? ⟨b,q+j*5,none⟩=some (.int .i64 o):=fun wk h=>A0 (A7 hb35 h) hb HX0.out
    have X1:∀wk,Since W5 wk→wk.cell? ⟨b,q+j*5+1,none⟩=some (.int .i64 d):=fun wk h=>A0 (A7 hb35 h) hb HX1.out
    have X2:∀wk,Since W5 wk→wk.cell? ⟨b,q+j*5+2,none⟩=some (.int .i64 s):=fun wk h=>A0 (A7 hb35 h) hb HX2.out
    have X3:∀wk,Since W5 wk→wk.cell? ⟨b,q+j*5+3,none⟩=some (.int .i64 z):=fun wk h=>A0 (A7 hb35 h) hb HX3.out
    have X4:∀wk,Since W5 wk→wk.cell? ⟨b,q+j*5+4,none⟩=some (.int .i64 i):=fun wk h=>A0 (A7 hb35 h) hb HX4.out
    have Y0:∀wk,Since W5 wk→wk.cell? ⟨YB,0,none⟩=some (.int .i64 y0):=fun wk h=>A0 h hyl k0
    have Y1:∀wk,Since W5 wk→wk.cell? ⟨YB,1,none⟩=some (.int .i64 y1):=fun wk h=>A0 h hyl k1
    have Y2:∀wk,Since W5 wk→wk.cell? ⟨YB,2,none⟩=some (.int .i64 y2):=fun wk h=>A0 h hyl k2
    have Y3:∀wk,Since W5 wk→wk.cell? ⟨YB,3,none⟩=some (.int .i64 y3):=fun wk h=>A0 h hyl k3
    have Y4:∀wk,Since W5 wk→wk.cell? ⟨YB,4,none⟩=some (.int .i64 y4):=fun wk h=>A0 h hyl k4
    have hS0:=Since.refl W5;clear k0 k1 k2 k3 k4 HX0 HX1 HX2 HX3 HX4 hb35 hb3 hb4;refine wp_region_held_drew (S:=(fun wk=>Since W5 wk)) (by kernel_rfl) ?_ (fun hHeld=>?_)
    ·exact Y9
    refine tk 0 ?_;refine tk 1 ?_;refine tk 2 ?_;refine tk 3 ?_;refine tk 4 ?_;refine tk 5 ?_;refine rd1 6 (fun K hK=>?_)
    (go_simp;(go_at_call 23;(with_reducible refine(C3.out _).mono ?_);rintro e w6 ⟨rfl,hb6⟩))
    refine hK.out _ _ ?_ (fun hHeld=>?_)
    ·exact Y9
    clear hK K
    try go_frame
    refine tk 7 ?_;refine tk 8 ?_;refine tk 9 ?_;refine tk 10 ?_;refine tk 11 ?_;refine sk 12 ?_;refine sk 13 ?_;refine sk 14 ?_;refine sk 15 ?_;refine sk 16 ?_;refine sk 17 ?_;refine sk 18 ?_;refine sk 19 ?_;refine sk 20 ?_;refine sk 21 ?_;refine sk 22 ?_;exact B0C
  ·obtain rfl:j=xs.length:=by omega
   have hd:decide ((xs.length:Int)<xs.length)=false:=decide_eq_false (by omega);obtain⟨wo,rfl⟩:∃wo:World,wo=wr:=⟨_,rfl⟩
   have HSo:=hid hs;have CB:=hid (s9 xs _ wo (HV.out.stays hs) (by omega));clear hs hj
   go_upto_if 116 with((with_reducible refine(CB.out).mono ?_);rintro e w7 ⟨hb7,u7,E7,rfl,h7⟩)
   have HS7:=hid (A7 HSo.out hb7);have H7:=hid h7;clear h7 f0 hb7 CB HSo
   go_cut[16,17]from 117 to 141 (fun a b wx=>Since w7 wx)
   case first=>
    have f0:=F0.out _ HS7.out;rcases H7.out with⟨hall,rfl,hr7⟩|⟨-,rfl⟩
    ·obtain⟨a7,c7,rfl⟩:=hr7.shape;have hbl:=A0H xs;have CL:=hid (z7 (Q4 xs) _ w7 (hr7.ints (by omega)) (A7g (A7h hall)) (by omega));have HA:=hid hall;have hblI:((Q4 xs).length:Int)=4*(xs.length:Int):=by omega
     have hmw:IntKind.i64.wrap (4*(xs.length:Int))=4*(xs.length:Int):=by rw[IntWalk.i64_left];exact IntWalk.wrap64_in _ (by omega)
     clear hr7 hall hbl H7;go_upto_region 16 with((with_reducible refine(CL.out).mono ?_);rintro e w8 ⟨hb8,u8,done,rfl,hr8,hli,hst⟩;have e8:=B1w HA.out hli hst;subst e8;clear hli hst)
     have HS8:=hid (show Since w7 w8 from hb8);have CS:=hid (A1k done u8 _ w8 (hr8.rvs (by omega)) (HV.out.stays (A7 HS7.out hb8)));have f0:=F0.out _ (A7 HS7.out hb8);clear hr8 hb8 CL;go_upto_region 60 with((with_reducible refine(CS.out).mono ?_);rintro e w9 ⟨rfl,hb9⟩)
     go_meet
     case rel=>exact A7 HS8.out hb9
    ·go_wp2_with fail
     go_meet
     case rel=>exact Since.refl _
   case rest=>
    have HS:=hid (A7 HS7.out hcut);clear hcut H7 HS7;obtain⟨wq,rfl⟩:∃wq:World,wq=wc:=⟨_,rfl⟩
    have CB:=hid (A3g ys _ wq (HU.out.stays HS.out) (by omega));obtain⟨e0,he0⟩:∃e0,waI ys=e0:=⟨_,rfl⟩
    rw[he0]at CB;have HE0:=hid he0;have f1:=F1.out _ HS.out;clear he0
    go_upto_if 149 with((with_reducible refine(CB.out).mono ?_);rintro e w10 ⟨u10,rfl,hr10,hb10⟩)
    have HR10:=hid hr10;have HS10:=hid (A7 HS.out hb10);clear hr10 hb10 CB HS f1
    go_cut[20,21,22,23,24,25,26,27]from 150 to 232 (fun a1 a2 a3 a4 a5 a6 a7 a8 wx=>Since w10 wx)
    case first=>
     have f1:=F1.out _ HS10.out;by_cases h0:e0=0
     ·subst h0;have hall:m6 ys:=by
       have:=HE0.out;unfold waI at this;by_cases hh:ys.all okI=true
       ·exact A0L.1 hh
       ·rw[if_neg hh]at this;cases this
      have hr:=HR10.out hall;have hbl:=A2h hall;obtain⟨a10,c10,rfl⟩:=hr.shape;have hlb:=A1y ys ((K6 ys).length+1) hall (by have:=A9t hall;omega);have HBI:=hid (hr.ints (by omega));have CL:=hid (A2A (K6 ys) _ w10 HBI.out (A7g (A7i hall)) (by omega));rw[hlb]at CL;have HALL:=hid hall;clear hr hlb hall HR10 HE0;go_upto_region 21 with((with_reducible refine(CL.out).mono ?_);rintro e w11 ⟨m11,rfl,hr11,hb11⟩;obtain⟨a11,c11,rfl⟩:=hr11.shape;have HM11:=hid (hr11.ias (by omega));have HS11:=hid (show Since w10 w11 from hb11);clear hr11 hb11)
      have f1:=F1.out _ (A7 HS10.out HS11.out);clear CL;go_wp2_with fail
      clear f1
      go_loopw[22,23] (fun a i wr=>∃j:Nat,j≤ys.length∧i= .int .i64 j∧a= .int .i64 ((K6 (ys.take j)).length:Nat)∧Since w11 wr) (fun _ i _=>ys.length-(intOf i).toNat)
      case atStart=>exact⟨0,Nat.zero_le _,rfl,rfl,Since.refl _⟩
      case round=>
       obtain⟨j,hj,rfl,rfl,hs⟩:=hrel;have hs10:=A7 HS11.out hs;have f1:=F1.out _ (A7 HS10.out hs10);by_cases hlt:j<ys.length
       ·have hok:=HALL.out _ (A0D hlt);obtain⟨hsum,hcut9,hnext⟩:=A9u ys hlt;have HN:=hid hnext;obtain⟨b,q,c',e',hc,hb,x0,x1,x2,x3,x4⟩:=(HU.out.stays (A7 HS10.out hs10)).at hlt;cases e';obtain⟨b',q',c2,e',hc',hb',y0,y1,y2,y3,y4⟩:=(HM11.out.stays hs).at hlt;cases e';have HX:=hid (And.intro x0 (And.intro x1 (And.intro x2 (And.intro x3 x4))));have HY:=hid (And.intro y0 (And.intro y1 (And.intro y2 (And.intro y3 y4))));clear x0 x1 x2 x3 x4 y0 y1 y2 y3 y4;have HSj:=hid hs;have hlt':(j:Int)<ys.length:=Int.ofNat_lt.2 hlt;have hj1:IntKind.i64.wrap ((j:Int)+1)=((j+1:Nat):Int):=by rw[IntWalk.i64_left];exact IntWalk.wrap64_in _ (by omega)
        generalize ys.getD j default=x at*
        have CZ:=hid (fun wk=>A8N x wk hok);have CN:=hid (fun wk=>A0d x wk hok);clear hs hok hs10 hnext;obtain⟨o,d,s,z,i⟩:=x;have CZ:Hid (∀wk,Calls prog 29 #[.agg #[.int .i64 o,.int .i64 d,.int .i64 s,.int .i64 z,.int .i64 i]] wk fun e w'=>e= .returned (.tuple #[.int .i64 (K4 ⟨o,d,s,z,i⟩).length,.int .i64 0])∧Below wk.heap.size wk w'):=CZ;have CN:Hid (∀wk,Calls prog 30 #[.agg #[.int .i64 o,.int .i64 d,.int .i64 s,.int .i64 z,.int .i64 i]] wk fun e w'=>∃v,e= .returned (.tuple #[v,.int .i64 0])∧RowI w' wk.heap.size 5 .u8 v (K4 ⟨o,d,s,z,i⟩)∧Below wk.heap.size wk w'):=CN;generalize K4 ⟨o,d,s,z,i⟩=ex at*
        generalize(K6 (ys.take j)).length=A at*
        have hws:IntKind.i64.wrap ((A:Int)+ex.length)=(A:Int)+ex.length:=by rw[IntWalk.i64_left];exact IntWalk.wrap64_in _ (by omega)
        have dgt:decide (((K6 ys).length:Int)<(A:Int)+ex.length)=false:=decide_eq_false (by omega);obtain⟨x0,x1,x2,x3,x4⟩:=HX.out;go_upto_region 28 with((with_reducible refine(CZ.out _).mono ?_);rintro e w12 ⟨rfl,hb12⟩)
        clear x0 x1 x2 x3 x4 CZ f1;have HS12:=hid (show Since w10 w12 from A7 (A7 HS11.out HSj.out) hb12);have f1:=F1.out _ (A7 HS10.out HS12.out);obtain⟨x0,x1,x2,x3,x4⟩:=HX.out;obtain⟨y0,y1,y2,y3,y4⟩:=HY.out
        replace x0:=A0 hb12 hb x0;replace x1:=A0 hb12 hb x1;replace x2:=A0 hb12 hb x2;replace x3:=A0 hb12 hb x3;replace x4:=A0 hb12 hb x4
        replace y0:=A0 hb12 hb' y0;replace y1:=A0 hb12 hb' y1;replace y2:=A0 hb12 hb' y2;replace y3:=A0 hb12 hb' y3;replace y4:=A0 hb12 hb' y4
        have hb2:b<w12.heap.size:=Nat.lt_of_lt_of_le hb hb12.size;have hb2':b'<w12.heap.size:=Nat.lt_of_lt_of_le hb' hb12.size;go_quiet(fail)
        have hbq:Below w12.heap.size w12 (w12.drewN nq):=E1 (Below.refl _ _) nq;have HS13:=hid (A7 HS12.out hbq);clear x0 x1 x2 x3 x4 f1
        replace y0:=A0 hbq hb2' y0;replace y1:=A0 hbq hb2' y1;replace y2:=A0 hbq hb2' y2;replace y3:=A0 hbq hb2' y3;replace y4:=A0 hbq hb2' y4
        have HBQ:=hid (A7 HSj.out (A7 hb12 hbq));clear hbq hb12 HX HY;generalize w12.drewN nq=w13 at*
        go_upto_region 31 with((with_reducible refine(CN.out _).mono ?_);rintro e w14 ⟨v14,rfl,hr14,hb14⟩;obtain⟨a14,c14,rfl⟩:=hr14.shape;have HR14:=hid hr14)
        have HS14:=hid (show Since w13 w14 from hb14);clear y0 y1 y2 y3 y4 hr14 hb14 CN;have HBI14:=hid (HBI.out.stays (A7 HS13.out HS14.out));have t1:∀wk,Since w14 wk→(convert 28 9 (.slice a14 ex.length c14)).run prog wk= .ok (.string (strOfNums ex)) wk:=fun wk h=>((HR14.out.ints (by omega)).stays h).str
        have t2:∀wk,Since w14 wk→(convert 28 9 (.slice (if c10=A then a10 else Option.map (fun x=>x.add A) a10) ex.length (c10-A))).run prog wk= .ok (.string (strOfNums ex)) wk:=fun wk h=>by
         have h1:=Ints.drop (HBI14.out.stays h) (m:=A) (by omega);rw[←List.length_drop]at h1;have h2:=h1.take (m:=ex.length) (by rw[List.length_drop];omega);rw[hcut9]at h2;exact h2.str
        have hc10:(K6 ys).length≤c10:=by
         obtain⟨_,_,e,h,_⟩:=HBI14.out.shape;cases e;exact h
        have i1:(0:Int)≤(A:Int)+ex.length:=by omega
        have i2:(A:Int)+ex.length≤c10:=by omega
        have i3:((A:Int)+ex.length).toNat=A+ex.length:=by omega
        have hS0:=Since.refl w14;refine wp_region_held_drew (S:=(fun wk=>Since w14 wk)) (by kernel_rfl) ?_ (fun hHeld=>?_)
        ·exact Y9
        refine tk 0 ?_;refine tk 1 ?_;refine tk 2 ?_;refine tk 3 ?_;refine tk 4 ?_;refine tk 5 ?_;refine tk 6 ?_;refine tk 7 ?_;refine tk 8 ?_;refine tk 9 ?_;refine tk 10 ?_;refine tk 11 ?_;refine tk 12 ?_;refine tk 13 ?_;refine wpAnyH_done (by kernel_rfl) ?_ _;have hS15:Since w14 w14.drew:=(by assumption)
        go_wp2_with fail
        go_roundw
        case rel=>exact⟨j+1,by omega,by go_num,by rw[HN.out];go_num,A7 HBQ.out (A7 HS14.out hS15)⟩
        case measure=>simp[intOf];omega
       ·obtain rfl:j=ys.length:=by omega
        rw[List.take_length];have hd:decide ((ys.length:Int)<ys.length)=false:=decide_eq_false (by omega);go_wp2_with fail
        go_meet
        case rel=>exact A7 HS11.out hs
     ·have he:(e0==0)=false:=V7 h0;go_wp2_with fail
      go_meet
      case rel=>exact Since.refl _
    case rest=>
     have HS:=hid (A7 HS10.out hcut);clear hcut HR10 HS10 HE0;obtain⟨wq2,rfl⟩:∃wq2:World,wq2=wc:=⟨_,rfl⟩
     have f2:=F2.out _ HS.out
     go_upto_if 236 with fail
     go_cut[28,29,30,31,32,33,34,35,236]from 237 to 304 (fun a1 a2 a3 a4 a5 a6 a7 a8 a9 wx=>Since wq2 wx)
     case first=>
      by_cases h2k:c.m.length≤2000
      ·have d2k:decide ((c.m.length:Int)≤2000)=true:=decide_eq_true (by omega);have HMS:Hid (∀wk,Since W1 wk→Ints .u8 wk (.slice sa c.m.length sc) c.m):=hid (fun wk h=>by have:=HM.out.stays h;rw[HSV.out]at this;exact this);have CL:=hid (z7 c.m _ wq2 (HMS.out _ HS.out) HO.out.mb (by omega));go_upto_region 38 with((with_reducible refine(CL.out).mono ?_);rintro e w20 ⟨hb20,u20,done,rfl,hr20,hli,-⟩;obtain⟨a20,c20,rfl⟩:=hr20.shape)
       obtain⟨hall,hbys⟩:=B1x HO.out.mb hli;have hdl:=hli.1;have CB:=hid (s9 done _ w20 (hr20.rvs (by omega)) (by omega));have HALL:=hid hall;have HS20:=hid (A7 HS.out hb20);have HQ20:=hid (show Since wq2 w20 from hb20);clear hall hli hr20 hb20 CL f2;go_upto_region 39 with((with_reducible refine(CB.out).mono ?_);rintro e w21 ⟨hb21,u21,E21,rfl,h21⟩;obtain⟨-,rfl,hr21⟩:=h21.resolve_right (fun h=>h.1 HALL.out);clear h21)
       rw[hbys]at hr21;obtain⟨a21,c21,rfl⟩:=hr21.shape;have HR21:=hid hr21;have HS21:=hid (A7 HS20.out hb21);have HQ21:=hid (A7 HQ20.out hb21);have g2:∀wk,Since w21 wk→wk.cell? ⟨Wa.heap.size,34,none⟩=some (.slice sa c.m.length sc):=fun wk h=>F2.out wk (A7 HS21.out h)
       have htl:(c.m.take (4*done.length)).length≤2000:=by rw[List.length_take];omega
       have t1:∀wk,Since w21 wk→(convert 28 9 (.slice a21 (c.m.take (4*done.length)).length c21)).run prog wk= .ok (.string (strOfNums (c.m.take (4*done.length)))) wk:=fun wk h=>((HR21.out.ints (by omega)).stays h).str
       have t2:∀wk,Since w21 wk→(convert 28 9 (.slice sa (4*done.length) sc)).run prog wk= .ok (.string (strOfNums (c.m.take (4*done.length)))) wk:=fun wk h=>((HMS.out _ (A7 HS21.out h)).take hdl).str
       have e1:decide (4*(done.length:Int)<0)=false:=decide_eq_false (by omega);have e2:decide ((c.m.length:Int)<4*(done.length:Int))=false:=decide_eq_false (by omega);have i1:(0:Int)≤4*(done.length:Int):=by omega
       have i2:4*(done.length:Int)≤sc:=by omega
       have i3:(4*(done.length:Int)).toNat=4*done.length:=by omega
       have hS0:=Since.refl w21;clear hr21 hb21 CB hbys hdl htl HALL;generalize strOfNums (c.m.take (4*done.length))=S at*
       generalize(c.m.take (4*done.length)).length=tl at*
       refine wp_region_held_drew (S:=(fun wk=>Since w21 wk)) (by kernel_rfl) ?_ (fun hHeld=>?_)
       ·exact Y9
       refine tk 0 ?_;refine tk 1 ?_;refine tk 2 ?_;refine tk 3 ?_;refine tk 4 ?_;refine tk 5 ?_;refine tk 6 ?_;refine tk 7 ?_;refine tk 8 ?_;refine tk 9 ?_;refine rd1 10 (fun K hK=>?_);go_simp;refine hK.out _ _ ?_ (fun hHeld=>?_)
       ·exact Y9
       clear hK K
       try go_frame
       refine tk 11 ?_;refine tk 12 ?_;refine tk 13 ?_;refine tk 14 ?_;refine tk 15 ?_;refine tk 16 ?_;refine tk 17 ?_;refine tk 18 ?_;refine tk 19 ?_;refine tk 20 ?_;refine tk 21 ?_;refine tk 22 ?_;refine wpAnyH_done (by kernel_rfl) ?_ _;have hS22:Since w21 w21.drew:=(by assumption)
       have HS22:=hid (A7 HS21.out hS22);have HQ22:=hid (A7 HQ21.out hS22);clear hS22 hS0 g2 t1 t2 e1 e2 i1 i2 i3 hHeld;generalize w21.drew=w22 at*
       have CL:=hid (A2A c.m _ w22 (HMS.out _ HS22.out) HO.out.mb (by omega));obtain⟨k1,k2,k3,k4,k5⟩:=A1x (c.m.length+1) c.m (by omega);generalize(O7 (c.m.length+1) c.m).1=ms at*
       generalize(O7 (c.m.length+1) c.m).2=nn at*
       have f2:=F2.out _ HS22.out;go_upto_region 42 with((with_reducible refine(CL.out).mono ?_);rintro e w23 ⟨m23,rfl,hr23,hb23⟩;obtain⟨a23,c23,rfl⟩:=hr23.shape)
       have hln:(c.m.take nn).length=nn:=by rw[List.length_take];omega
       have CB:=hid (A0f ms _ w23 (hr23.ias (by omega)) k1 (by omega));rw[k3]at CB;have HS23:=hid (A7 HS22.out hb23);have HQ23:=hid (A7 HQ22.out hb23);clear CL hr23 hb23 f2;go_upto_region 43 with((with_reducible refine(CB.out).mono ?_);rintro e w24 ⟨u24,rfl,hr24,hb24⟩;obtain⟨a24,c24,e24⟩:=hr24.shape;rw[hln]at e24;subst e24)
       have HR24:=hid hr24;have HS24:=hid (A7 HS23.out hb24);have HQ24:=hid (A7 HQ23.out hb24);have g2:∀wk,Since w24 wk→wk.cell? ⟨Wa.heap.size,34,none⟩=some (.slice sa c.m.length sc):=fun wk h=>F2.out wk (A7 HS24.out h)
       have htl:(c.m.take nn).length≤2000:=by rw[List.length_take];omega
       have t1:∀wk,Since w24 wk→(convert 28 9 (.slice a24 nn c24)).run prog wk= .ok (.string (strOfNums (c.m.take nn))) wk:=fun wk h=>((HR24.out.ints (by omega)).stays h).str
       have t2:∀wk,Since w24 wk→(convert 28 9 (.slice sa nn sc)).run prog wk= .ok (.string (strOfNums (c.m.take nn))) wk:=fun wk h=>((HMS.out _ (A7 HS24.out h)).take k2).str
       have e1:decide ((nn:Int)<0)=false:=decide_eq_false (by omega);have e2:decide ((c.m.length:Int)<(nn:Int))=false:=decide_eq_false (by omega);have e3:decide (c.m.length<nn)=false:=decide_eq_false (by omega);have i3:(nn:Int)≤sc:=by omega
       have i1:(0:Int)≤nn:=by omega
       have i2:nn≤sc:=by omega
       have hS0:=Since.refl w24;clear hr24 hb24 CB k1 k2 k3 k4 k5 htl hln;generalize strOfNums (c.m.take nn)=S2 at*
       refine wp_region_held_drew (S:=(fun wk=>Since w24 wk)) (by kernel_rfl) ?_ (fun hHeld=>?_)
       ·exact Y9
       refine tk 0 ?_;refine tk 1 ?_;refine tk 2 ?_;refine tk 3 ?_;refine tk 4 ?_;refine tk 5 ?_;refine tk 6 ?_;refine tk 7 ?_;refine tk 8 ?_;refine tk 9 ?_;refine rd1 10 (fun K hK=>?_);go_simp;refine hK.out _ _ ?_ (fun hHeld=>?_)
       ·exact Y9
       clear hK K
       try go_frame
       refine tk 11 ?_;refine tk 12 ?_;refine tk 13 ?_;refine tk 14 ?_;refine tk 15 ?_;refine tk 16 ?_;refine tk 17 ?_;refine tk 18 ?_;refine tk 19 ?_;refine tk 20 ?_;refine tk 21 ?_;refine tk 22 ?_;refine wpAnyH_done (by kernel_rfl) ?_ _;have hS25:Since w24 w24.drew:=(by assumption)
       go_wp2_with fail
       go_meet
       case rel=>exact A7 HQ24.out hS25
      ·have d2k:decide ((c.m.length:Int)≤2000)=false:=decide_eq_false (by omega);go_wp2_with fail
       go_meet
       case rel=>exact Since.refl _
     case rest=>
      have HS5:=hid (A7 HS.out hcut);clear hcut HS f2;obtain⟨wq3,rfl⟩:∃wq3:World,wq3=wc:=⟨_,rfl⟩
      have C0:=hid (fun(wk:World) (h:Since W1 wk)=>z9 B1g 0 (fun c mv k w ho hm=>A5B (fun c mv k w ho hm=>A5f c mv k w ho hm) c mv k w ho hm) c mv n m wk HO.out (HM.out.stays h) (by omega));have C1:=hid (fun(wk:World) (h:Since W1 wk)=>z9 B1h 1 (fun c mv k w ho hm=>A5A (fun c mv k w ho hm=>A9w c mv k w ho hm) c mv k w ho hm) c mv n m wk HO.out (HM.out.stays h) (by omega));rw[HCS.out]at C0 C1;have f3:=F3.out _ HS5.out;have f4:=F4.out _ HS5.out;have hu:=underlying48;have hw5:Since W1 wq3:=HS5.out;go_upto_region 60 with(first|(refine wp_load_mid _ _ rfl Wa.heap.size 0 rfl cs _ (HRG.out _ (by assumption)) hu rfl hszm ?_;go_frame)|((with_reducible refine(C0.out _ (by assumption)).mono ?_);rintro e w30 ⟨rfl,hb30⟩;have hw6:Since W1 w30:=A7 HS5.out hb30;have f3:=F3.out _ hw6;have f4:=F4.out _ hw6)|((with_reducible refine(C1.out _ (by assumption)).mono ?_);rintro e w31 ⟨rfl,hb31⟩))
      go_ret;exact⟨rfl,HB1.out.trans ((A7 hw6 hb31).mono HB1.out.size)⟩
end Go.Proofs.YtajljbmeaeeknaaGreat
