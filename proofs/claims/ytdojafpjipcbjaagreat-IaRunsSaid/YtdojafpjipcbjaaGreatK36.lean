/- -/
import Derived.Laws.StructEq
import Derived.ChangeKeysEq
import Derived.Test.YtdojafpjipcbjaaGreatK33
import Derived.Test.YtdojafpjipcbjaaGreatK34
import Derived.Test.YtdojafpjipcbjaaGreatK35
open Go.Proofs.Tryz
open Go.Lib (hid)
set_option maxHeartbeats 1000000
set_option maxRecDepth 100000
namespace Go.Proofs.YtdojafpjipcbjaaGreat
open Go.RowKit
set_option linter.unusedVariables false
set_option linter.unusedSimpArgs false
theorem A5z{p:Prop}(h:p:=by
 go_wp2_with(first|(refine wpList_load_mid rfl _ _ rfl w.heap.size 0 rfl ds6 _ hrg6 underlying26 rfl z1 ?_)|(refine wpList_store_mid rfl _ _ _ rfl (w.heap.size+1) 0 ds6.toArray rfl rfl hth z2 z3 ?_))
 exact bodyPost_ret (v:=.agg ds6.toArray) (A1W rfl rfl HK2.out underlying26 rfl HSZ1.out) rfl (by have h9:=HS6.out.fin;rw[HD6.out]at h9;rw[HR.out];exact h9)
 ):p:=h
theorem B1C{p:Prop}(h:p:=by
 go_wp2_with(first|(refine wpList_load_mid rfl _ _ rfl w.heap.size 0 rfl ds5 _ hrg5 underlying26 rfl z1 ?_)|(refine wpList_store_mid rfl _ _ _ rfl (w.heap.size+1) 0 ds5.toArray rfl rfl hth z2 z3 ?_))
 exact bodyPost_ret (v:=.agg ds5.toArray) (A1W rfl rfl HK2.out underlying26 rfl HSZ1.out) rfl (by have h9:=HS5.out.fin;rw[HD5.out]at h9;rw[HR.out];exact h9)
 ):p:=h
def RSP(base:Nat)(mv:Value)(c:Mac)(w:World)(e:Ending)(w':World):Prop:=
 e= .returned (.agg (A4 c mv).toArray)∧(MemO base w' mv c.m∧MOk c∧c.m.length≤32768∧(0≤c.f∧c.f≤15))∧Below base w w'
theorem G9{c:Mac}{mv:Value}{W:World}{B:Nat}{zs:List Value}(hr:c.r.length=32)(hmv:∃a l k,mv= .slice a l k)(K:CellsAt W B zs)(hz:zs.length=36):
  ((prog.info? 26).map (·.size)=some (A4 c mv).length∧(prog.info? 26).map (·.size)=some (A4 c mv).toArray.size)∧(A4 c mv).toArray.all (·.oneCell')=true∧W.there B 0 (A4 c mv).toArray.size∧CellsAt (W.setCells B 0 (A4 c mv)) B (A4 c mv):=
 ⟨⟨I3 hr mv,by rw[List.size_toArray];exact I3 hr mv⟩,G5 hmv,K.there (by rw[B1 hr,hz]),K.setCells (by rw[B1 hr,hz])⟩
theorem r6{x:Ins}(hk:okI x=true)(ho:x.o=32∨x.o=33): -2147483648≤x.i∧x.i≤2147483647:=by
 have h:=B2 hk;unfold D2 D9 at h;rcases ho with e|e
 ·simp only[e]at h;simp[isB,C9]at h;omega
 ·simp only[e]at h;simp[isB,C9]at h;omega
def PE(c:Mac)(o:Option Mac):Prop:=∀c',o=some c'→c'.e=c.e
theorem PE.ite{c:Mac}{p:Prop}[Decidable p]{a b:Option Mac}(h1:p→PE c a)(h2:¬p→PE c b):PE c (if p then a else b):=by
 by_cases h:p
 ·rw[if_pos h];exact h1 h
 ·rw[if_neg h];exact h2 h
theorem PE.mk{c c':Mac}(h:c'.e=c.e):PE c (some c'):=fun _ e=>by cases e;exact h
theorem PE.none{c:Mac}:PE c none:=fun _ e=>by cases e
theorem B2l(o:Int)(d s:Nat)(i z:Int)(c:Mac)(h4:o≠34)(h5:o≠35):PE c (exO o d s i z c):=by
 have hl:∀k,PE c (ldM d s k i z c):=fun k=>PE.ite (fun _=>PE.mk rfl) (fun _=>PE.none)
 have hs:∀k,PE c (stM d s k i z c):=fun k=>PE.ite (fun _=>PE.mk rfl) (fun _=>PE.none)
 have hsh:∀o,PE c (some (shM o z d c)):=fun o=>PE.mk (by unfold shM;split<;>rfl)
 have hd1:PE c (N6 d c):=PE.ite (fun _=>PE.none) (fun _=>PE.mk rfl);have hd2:PE c (R4 d c):=PE.ite (fun _=>PE.none) (fun _=>PE.mk rfl);have hcm:PE c (some (A1L d s i z c)):=PE.mk (by unfold A1L;split<;>rfl);unfold exO
 repeat' (with_reducible refine PE.ite (fun _=>?_) (fun _=>?_))
 all_goals first|exact hl _|exact hs _|exact hsh _|exact hd1|exact hd2|exact hcm|exact PE.mk rfl|(exfalso;omega)
theorem A2q(base:Nat)(mv:Value)(c:Mac)(w:World)(hb:base≤w.heap.size)(ho:MOk c)(hm:MemO base w mv c.m)(hl:c.m.length≤32768)(hf:0≤c.f∧c.f≤15)(ha:(c.m.length:Int)≤c.a):Calls prog 28 #[.agg (A4 c mv).toArray] w fun e w'=>RSP base mv {c with e:=3} w e w':=by
 have hlen:=B1 ho.rl mv;obtain⟨k0,k1,hb1,hs1⟩:=O0 w (A4 c mv) (A4 G3 (.slice none 0 0)) 26 (by omega);rw[←c9]at k0 k1 hb1 hs1;obtain⟨W1,hW1⟩:∃W,((w.alloc (.cells (A4 c mv).toArray 26)).alloc (.cells #[.int .u32 0,.int .u32 0,.int .u32 0,.int .u32 0,.int .u32 0,.int .u32 0,.int .u32 0,.int .u32 0,.int .u32 0,.int .u32 0,.int .u32 0,.int .u32 0,.int .u32 0,.int .u32 0,.int .u32 0,.int .u32 0,.int .u32 0,.int .u32 0,.int .u32 0,.int .u32 0,.int .u32 0,.int .u32 0,.int .u32 0,.int .u32 0,.int .u32 0,.int .u32 0,.int .u32 0,.int .u32 0,.int .u32 0,.int .u32 0,.int .u32 0,.int .u32 0,.int .i64 0,.int .u32 0,.slice none 0 0,.int .i64 0] 26))=W:=⟨_,rfl⟩
 rw[hW1]at k0 k1 hb1 hs1;have hown:∀k,mv.ownBlock=some k→k<w.heap.size:=fun k e=>(hm.own k e).2
 have hmm:MM base w.heap.size mv c W1:=MM.of k0 (hm.below hb1) (fun e=>by have:=hown _ e;omega) hb ho hl hf;obtain⟨-,⟨c33,f33⟩,⟨c34,f34⟩,⟨c35,f35⟩⟩:=k0.tails ho.rl;obtain⟨va,vc,hmv,hl1,hl2⟩:=hmm.ints.shape;have hlt1:w.heap.size+1<W1.heap.size:=by omega
 have hlt0:w.heap.size<W1.heap.size:=by omega
 have HMM:=hid hmm;have HK1:=hid k1;have HB1:=hid hb1;have HO:=hid ho;have HM:=hid hm;have HBS:=hid hb;have HSL:=hid hm.isSlice;have HOW:=hid hown;have HL:=hid hl;have HF:=hid hf;have HMV:=hid hmv;have hab:=ho.ab;have CF:=hid (fun wk=>r7 c mv wk ho hm.isSlice);have hrg:=k0.range;have hszm:=I3 ho.rl mv;rw[hmv]at c34;obtain⟨a0,a1⟩:=hab;have da:decide ((c.m.length:Int)≤c.a)=true:=decide_eq_true ha;obtain⟨⟨z1,z2⟩,z3,-,-⟩:=G9 (c:={c with e:=3}) ho.rl hm.isSlice k1 (B1 rfl _);have HFT:=hid (fun wk (hb:Below W1.heap.size W1 wk)=>(G9 (c:={c with e:=3}) ho.rl hm.isSlice (k1.below (by rw[B1 rfl];decide) hb) (B1 rfl _)).2.2);have HPO:Hid (∀wk,Below W1.heap.size W1 wk→RSP base mv {c with e:=3} w (.returned (.agg (A4 {c with e:=3} mv).toArray)) (wk.setCells (w.heap.size+1) 0 (A4 {c with e:=3} mv))):=hid (fun wk hbk=>⟨rfl,⟨((hm.below hb1).below hbk).setCellsO (fun e=>by have:=hown _ e;omega) _,⟨ho.rl,ho.rb,ho.ab,ho.mb⟩,hl,hf⟩,E0 (by omega) _ 0 _ ((hb1.mono hb).trans (hbk.mono (by omega)))⟩);obtain⟨cs,hcs⟩:∃cs,A4 c mv=cs:=⟨_,rfl⟩
 obtain⟨ds,hds⟩:∃ds,A4 {c with e:=3} mv=ds:=⟨_,rfl⟩
 rw[hcs]at hW1 hrg hszm CF⊢;simp only[hds]at z1 z2 z3 CF HFT HPO;clear k0 k1 hb1 hs1 hmm hm ho hl hf hb hown hmv hlen hcs hds;have HSZ1:=hid z1;go_enter func28,ntmps28;go_upto_region 2 with fail
 clear hW1;go_wp2_with(first|(refine wpList_load_mid rfl _ _ rfl w.heap.size 0 rfl cs _ hrg underlying26 rfl hszm ?_)|((with_reducible refine(CF.out _).mono ?_);rintro e w2 ⟨rfl,hb2⟩;have HB2:=hid hb2;(obtain⟨hth,hk2⟩:=HFT.out _ hb2);have HK2:=hid hk2;clear hb2 hk2)|(refine wpList_store_mid rfl _ _ _ rfl (w.heap.size+1) 0 ds.toArray rfl rfl hth z2 z3 ?_))
 exact bodyPost_ret (v:=.agg ds.toArray) (A1W rfl rfl HK2.out underlying26 rfl HSZ1.out) rfl (HPO.out _ HB2.out)
theorem P9{c:Mac}(h:c.r.length=32)(v:Value):(prog.info? 26).map (·.size)=some (A4 c v).toArray.size:=by rw[List.size_toArray];exact I3 h v
theorem Q2{c:Mac}(h:c.r.length=32)(v:Value):36=(A4 c v).toArray.size:=by rw[List.size_toArray,B1 h]
structure DS(base B:Nat)(mv:Value)(zs:List Value)(w:World)(c:Mac)(wk:World):Prop where
 mm:MM base B mv c wk
 k:CellsAt wk (B+1) zs
 b:Below base w wk
 no:mv.ownBlock≠some (B+1)
 bb:base≤B
 zl:zs.length=36
section
variable {base B : Nat} {mv : Value} {zs : List Value} {w : World} {c c' : Mac} {wk wk' : World}
theorem DS.below(h:DS base B mv zs w c wk)(hb:Below wk.heap.size wk wk'):DS base B mv zs w c wk':=
 ⟨h.mm.same hb,h.k.below (by rw[h.zl];decide) hb,h.b.trans (hb.mono (by have:=h.mm.ltM;have:=h.bb;omega)),h.no,h.bb,h.zl⟩
theorem DS.ch(h:DS base B mv zs w c wk)(hm:MM base B mv c' wk')(hc:Ch B B mv wk wk'):DS base B mv zs w c' wk':=
 ⟨hm,h.k.block (hc.block (B+1) (h.k.lt (by rw[h.zl];decide)) (by omega) (by omega) h.no),h.b.trans (hc.below (by have:=h.mm.ltM;have:=h.bb;omega) h.bb h.bb (fun k e=>(h.mm.own k e).1)),h.no,h.bb,h.zl⟩
theorem DS.slc(h:DS base B mv zs w c wk):∃a l k,mv= .slice a l k:=h.mm.memO.isSlice
theorem DS.fin(h:DS base B mv zs w c wk):RSP base mv c w (.returned (.agg (A4 c mv).toArray)) (wk.setCells (B+1) 0 (A4 c mv)):=
 ⟨rfl,⟨h.mm.memO.setCellsO h.no _,h.mm.ok,h.mm.ml,h.mm.fb⟩,E0 (by have:=h.bb;omega) _ 0 _ h.b⟩
theorem DS.finE{c0:Mac}(h:DS base B mv zs w c wk)(ho:MOk c0)(hm:c.m=c0.m)(hf:0≤c0.f∧c0.f≤15):RSP base mv {c0 with e:=3} w (.returned (.agg (A4 {c0 with e:=3} mv).toArray)) (wk.setCells (B+1) 0 (A4 {c0 with e:=3} mv)):=
 ⟨rfl,⟨by have:=h.mm.memO.setCellsO h.no (A4 {c0 with e:=3} mv);rw[hm]at this;exact this,⟨ho.rl,ho.rb,ho.ab,ho.mb⟩,by show c0.m.length≤_;rw[←hm];exact h.mm.ml,hf⟩,E0 (by have:=h.bb;omega) _ 0 _ h.b⟩
theorem A3y{q:Nat}(hq:c.a=(q:Int))(hql:q<c.m.length):F3 c=if Q3 (c.m.drop q)=true then u5 (N2 (c.m.drop q)) (R9 (c.m.drop q)) c else{c with e:=3}:=by
 have hqn:c.a.toNat=q:=by omega
 unfold F3;rw[hqn];by_cases hd:Q3 (c.m.drop q)=true
 ·rw[if_pos ⟨hql,hd⟩,if_pos hd]
 ·rw[if_neg (fun h=>hd h.2),if_neg hd]
end
theorem A4K(base:Nat)(mv:Value)(c:Mac)(w:World)(hb:base≤w.heap.size)(ho:MOk c)(hm:MemO base w mv c.m)(hl:c.m.length≤32768)(hf:0≤c.f∧c.f≤15)(he:c.e=0)(q:Nat)(hq:c.a=(q:Int))(hal:q<c.m.length):Calls prog 28 #[.agg (A4 c mv).toArray] w fun e w'=>RSP base mv (F3 c) w e w':=by
 have hlen:=B1 ho.rl mv;obtain⟨k0,k1,hb1,hs1⟩:=O0 w (A4 c mv) (A4 G3 (.slice none 0 0)) 26 (by omega);rw[←c9]at k0 k1 hb1 hs1;obtain⟨W1,hW1⟩:∃W,((w.alloc (.cells (A4 c mv).toArray 26)).alloc (.cells #[.int .u32 0,.int .u32 0,.int .u32 0,.int .u32 0,.int .u32 0,.int .u32 0,.int .u32 0,.int .u32 0,.int .u32 0,.int .u32 0,.int .u32 0,.int .u32 0,.int .u32 0,.int .u32 0,.int .u32 0,.int .u32 0,.int .u32 0,.int .u32 0,.int .u32 0,.int .u32 0,.int .u32 0,.int .u32 0,.int .u32 0,.int .u32 0,.int .u32 0,.int .u32 0,.int .u32 0,.int .u32 0,.int .u32 0,.int .u32 0,.int .u32 0,.int .u32 0,.int .i64 0,.int .u32 0,.slice none 0 0,.int .i64 0] 26))=W:=⟨_,rfl⟩
 rw[hW1]at k0 k1 hb1 hs1;have hown:∀k,mv.ownBlock=some k→k<w.heap.size:=fun k e=>(hm.own k e).2
 have hmm:MM base w.heap.size mv c W1:=MM.of k0 (hm.below hb1) (fun e=>by have:=hown _ e;omega) hb ho hl hf;obtain⟨-,⟨c33,f33⟩,⟨c34,f34⟩,⟨c35,f35⟩⟩:=k0.tails ho.rl;obtain⟨va,vc,hmv,hl1,hl2⟩:=hmm.ints.shape;have hlt1:w.heap.size+1<W1.heap.size:=by omega
 have hlt0:w.heap.size<W1.heap.size:=by omega
 have HMM:=hid hmm;have HK1:=hid k1;have HB1:=hid hb1;have HO:=hid ho;have HM:=hid hm;have HBS:=hid hb;have HSL:=hid hm.isSlice;have HOW:=hid hown;have HL:=hid hl;have HF:=hid hf;have HMV:=hid hmv;have hab:=ho.ab;have CF:=hid (fun wk=>r7 c mv wk ho hm.isSlice);have hds0:DS base w.heap.size mv (A4 G3 (.slice none 0 0)) w c W1:=⟨hmm,k1,hb1.mono hb,fun e=>by have:=hown _ e;omega,hb,B1 rfl _⟩
 have HD1:=hid hds0;have hql:q≤c.m.length:=by omega
 have hqv:c.m.length≤vc:=by omega
 have d2:decide ((c.m.length:Int)≤(q:Int))=false:=decide_eq_false (by omega);have d2n:decide (c.m.length≤q)=false:=decide_eq_false (by omega);have HBY:Hid (Byt (c.m.drop q)):=hid (fun i=>by rw[List.getD_eq_getElem?_getD,List.getElem?_drop,←List.getD_eq_getElem?_getD];exact ho.mb _);have HCD:=hid (fun W' v (hv:Ints .u8 W' v (c.m.drop q)) (hby:Byt (c.m.drop q))=>show Calls _ _ #[v] W' (fun e w'=>e= .returned (.tuple #[.agg #[.int .i64 (N2 (c.m.drop q)).o,.int .i64 (N2 (c.m.drop q)).d,.int .i64 (N2 (c.m.drop q)).s,.int .i64 (N2 (c.m.drop q)).z,.int .i64 (N2 (c.m.drop q)).i],.int .i64 (R9 (c.m.drop q)),.bool (Q3 (c.m.drop q))])∧Below W'.heap.size W' w')from A0l (c.m.drop q) v W' hv hby);have hv1:=hmm.ints;rw[hmv]at hv1;have hid0:=Ints.drop hv1 (m:=q) (by omega);rw[if_neg (by omega)]at hid0;have HID:=hid hid0;have HY:Hid (Q3 (c.m.drop q)=true→okI (N2 (c.m.drop q))=true∧R9 (c.m.drop q)≤32768):=hid (fun hd=>by
  obtain⟨h1,h2⟩:=s5 hd;rw[List.length_drop]at h2;exact⟨h1,by omega⟩)
 have HSM:=hid (A3y hq hal);generalize N2 (c.m.drop q)=y at*
 generalize R9 (c.m.drop q)=n at*
 generalize Q3 (c.m.drop q)=db at*
 rw[hmv]at c34;rw[hq]at c33;have HQ:=hid hq;have HE0:=hid he;obtain⟨cs,hcs⟩:∃cs,A4 c mv=cs:=⟨_,rfl⟩
 obtain⟨ds,hds⟩:∃ds,A4 {c with e:=3} mv=ds:=⟨_,rfl⟩
 have HDS:=hid hds;have HCS:=hid hcs;rw[hcs]at hW1⊢;simp only[hcs,hds]at CF;clear k0 k1 hb1 hs1 hmm hm ho hl hf hb hown hmv hlen hcs hds hds0 hv1 hq he hid0;go_enter func28,ntmps28;go_upto_region 3 with fail
 clear hW1;go_upto_region 4 with((go_at_call 47;refine(HCD.out _ _ HID.out HBY.out).mono ?_);rintro e w2 ⟨rfl,hb2⟩)
 have hS3:=HD1.out.below (wk':=w2.alloc (.cells #[.int .i64 y.o,.int .i64 y.d,.int .i64 y.s,.int .i64 y.z,.int .i64 y.i] 61)) (hb2.alloc hb2.size _);have hbx:=Box5.new w2 y.o y.d y.s y.z y.i;have hXl:w.heap.size+1<w2.heap.size:=by have:=hb2.size;omega
 have HSX:=hid hS3;have HXO:Hid (mv.ownBlock≠some w2.heap.size):=hid (fun e=>by have:=HOW.out _ e;omega);have HBX:=hid hbx;clear hb2 c33 f33 c34 f34 c35 f35 HID HMM HK1 HB1 HD1 hS3 hbx d2 d2n;generalize w2.alloc (.cells #[.int .i64 y.o,.int .i64 y.d,.int .i64 y.s,.int .i64 y.z,.int .i64 y.i] 61)=W3 at*
 generalize w2.heap.size=X at*
 generalize Option.map (fun x=>Addr.add x q) va=sa at*
 have hrg:=HSX.out.mm.m.range;have hszm:=I3 HO.out.rl mv;have hM3:=HSX.out.mm.ltM;have hX3:=HBX.out.lt;rw[HCS.out]at hrg hszm;cases db
 ·have HR:Hid (F3 c={c with e:=3}):=hid (by rw[HSM.out,if_neg (by decide)]);go_wp2_with(first|(refine wpList_load_mid rfl _ _ rfl w.heap.size 0 rfl cs _ hrg underlying26 rfl hszm ?_)|((with_reducible refine(CF.out _).mono ?_);rintro e w5 ⟨rfl,hb5⟩;have HS5:=hid (HSX.out.below hb5);(obtain⟨⟨z1,z2⟩,z3,hth,hk2⟩:=G9 (c:={c with e:=3}) HO.out.rl HSL.out HS5.out.k HS5.out.zl);rw[HDS.out]at z1 z2 z3 hth hk2;have HK2:=hid hk2;have HSZ1:=hid z1;clear hb5 hk2)|(refine wpList_store_mid rfl _ _ _ rfl (w.heap.size+1) 0 ds.toArray rfl rfl hth z2 z3 ?_))
  exact bodyPost_ret (v:=.agg ds.toArray) (A1W rfl rfl HK2.out underlying26 rfl HSZ1.out) rfl (by have h9:=HS5.out.finE HO.out rfl HF.out;rw[HDS.out]at h9;rw[HR.out];exact h9)
 ·have HR0:Hid (F3 c=u5 y n c):=hid (by rw[HSM.out,if_pos rfl]);obtain⟨hok,hn⟩:=HY.out rfl;have HOKY:=hid hok;obtain⟨⟨x0,x1,x2,x3,x4⟩,xf⟩:=HBX.out.cells;by_cases h34:y.o=34
  ·rw[h34]at x0;have hR:F3 c={c with e:=1}:=by
    rw[HR0.out];have hX:exM y (max y.z 16) c=some {c with e:=1}:=by unfold exM;rw[h34];rfl
    rw[T4 rfl hX];rfl
   have HR:=hid hR;have k35:=(HSX.out.mm.tailAt 3 _ rfl).1;have g35:=(HSX.out.mm.tailAt 3 _ rfl).2;have HS5:=hid (HSX.out.ch (HSX.out.mm.setE 1) ((Ch.refl _ _ _ _).setM 35 (.int .i64 1)));clear hR hrg hszm x1 x2 x3 x4 xf;go_upto_region 9 with fail
   generalize W3.setCell ⟨w.heap.size,35,none⟩ (.int .i64 1)=W5 at*
   obtain⟨⟨z1,z2⟩,z3,hth,hk2⟩:=G9 (c:={c with e:=1}) HO.out.rl HSL.out HS5.out.k HS5.out.zl;have hrg5:=HS5.out.mm.m.range;obtain⟨ds5,hds5⟩:∃ds5,A4 {c with e:=1} mv=ds5:=⟨_,rfl⟩
   have HD5:=hid hds5;rw[hds5]at z1 z2 z3 hth hk2 hrg5;have HK2:=hid hk2;have HSZ1:=hid z1;clear hds5 hk2;have hB5:w.heap.size<W5.heap.size:=HS5.out.mm.ltM;exact B1C
  by_cases h35:y.o=35
  ·rw[h35]at x0;have hR:F3 c={c with e:=2}:=by
    rw[HR0.out];have hX:exM y (max y.z 16) c=some {c with e:=2}:=by unfold exM;rw[h35];rfl
    rw[T4 rfl hX];rfl
   have HR:=hid hR;have k35:=(HSX.out.mm.tailAt 3 _ rfl).1;have g35:=(HSX.out.mm.tailAt 3 _ rfl).2;have HS5:=hid (HSX.out.ch (HSX.out.mm.setE 2) ((Ch.refl _ _ _ _).setM 35 (.int .i64 2)));clear hR hrg hszm x1 x2 x3 x4 xf;go_upto_region 12 with fail
   generalize W3.setCell ⟨w.heap.size,35,none⟩ (.int .i64 2)=W5 at*
   obtain⟨⟨z1,z2⟩,z3,hth,hk2⟩:=G9 (c:={c with e:=2}) HO.out.rl HSL.out HS5.out.k HS5.out.zl;have hrg5:=HS5.out.mm.m.range;obtain⟨ds5,hds5⟩:∃ds5,A4 {c with e:=2} mv=ds5:=⟨_,rfl⟩
   have HD5:=hid hds5;rw[hds5]at z1 z2 z3 hth hk2 hrg5;have HK2:=hid hk2;have HSZ1:=hid z1;clear hds5 hk2;have hB5:w.heap.size<W5.heap.size:=HS5.out.mm.ltM;exact B1C
  have n34:(y.o==34)=false:=by simpa using h34
  have n35:(y.o==35)=false:=by simpa using h35
  have hsz2:=P9 HO.out.rl mv;have hold:=Q2 HO.out.rl mv;have hone:=G5 (c:=c) HSL.out;rw[HCS.out]at hsz2 hold hone;have HSZ2:=hid hsz2;have HOLD:=hid hold;have HONE:=hid hone;clear hsz2 hold hone;go_upto_region 14 with(first|(refine wpList_load_mid rfl _ _ rfl w.heap.size 0 rfl cs _ hrg underlying26 rfl hszm ?_)|(refine wpList_store_row rfl _ _ _ rfl W3.heap.size cs.toArray rfl rfl 26 _ (N5 _ _ _) HSZ2.out HOLD.out HONE.out ?_))
  obtain⟨hr1,hr2,hr3⟩:=O5 W3 #[.int .u32 0,.int .u32 0,.int .u32 0,.int .u32 0,.int .u32 0,.int .u32 0,.int .u32 0,.int .u32 0,.int .u32 0,.int .u32 0,.int .u32 0,.int .u32 0,.int .u32 0,.int .u32 0,.int .u32 0,.int .u32 0,.int .u32 0,.int .u32 0,.int .u32 0,.int .u32 0,.int .u32 0,.int .u32 0,.int .u32 0,.int .u32 0,.int .u32 0,.int .u32 0,.int .u32 0,.int .u32 0,.int .u32 0,.int .u32 0,.int .u32 0,.int .u32 0,.int .i64 0,.int .u32 0,.slice none 0 0,.int .i64 0] cs 26;have hS4:=HSX.out.below hr1;have hb4:=HBX.out.block (hr1.block X hX3);have hWO:w.heap.size+1<W3.heap.size:=by omega
  have hOWO:∀k,mv.ownBlock=some k→k<W3.heap.size:=fun k e=>(HSX.out.mm.own k e).2
  generalize(W3.alloc (.cells #[.int .u32 0,.int .u32 0,.int .u32 0,.int .u32 0,.int .u32 0,.int .u32 0,.int .u32 0,.int .u32 0,.int .u32 0,.int .u32 0,.int .u32 0,.int .u32 0,.int .u32 0,.int .u32 0,.int .u32 0,.int .u32 0,.int .u32 0,.int .u32 0,.int .u32 0,.int .u32 0,.int .u32 0,.int .u32 0,.int .u32 0,.int .u32 0,.int .u32 0,.int .u32 0,.int .u32 0,.int .u32 0,.int .u32 0,.int .u32 0,.int .u32 0,.int .u32 0,.int .i64 0,.int .u32 0,.slice none 0 0,.int .i64 0] 26)).setRow W3.heap.size cs.toArray=W4 at*
  have hX4:X<W3.heap.size:=hX3;generalize W3.heap.size=O at*
  have HS4:=hid hS4;have HB4:=hid hb4;have HKO:=hid hr2;have CDO:=hid (show Calls prog 48 #[.pointer (some ⟨w.heap.size,0,none⟩),.agg #[.int .i64 y.o,.int .i64 y.d,.int .i64 y.s,.int .i64 y.z,.int .i64 y.i]] W4 (fun e w'=>RdP base w.heap.size mv c (exM y (max y.z 16) c) W4 e w')from A9g y W4 hS4.mm hok ⟨h34,h35⟩);obtain⟨⟨x0,x1,x2,x3,x4⟩,xf⟩:=HB4.out.cells;have hX4l:=HB4.out.lt;have hM4:=HS4.out.mm.ltM;have hO4:O<W4.heap.size:=by omega
  clear hr1 hr2 hS4 hb4 hrg hM3 hX3;cases hX:exM y (max y.z 16) c with
  |none=>
   rw[hX]at CDO;have hR:F3 c={c with e:=3}:=by rw[HR0.out,n9 rfl hX]
   have HR:=hid hR;clear hR hX;go_upto_region 15 with((with_reducible refine(CDO.out).mono ?_);rintro e w5 ⟨⟨rfl,hx5⟩,hc5⟩)
   obtain⟨c',hm5,hmc⟩:=hx5;have HMC:=hid hmc;have HSD:=hid (HS4.out.ch hm5 hc5);have hko:=HKO.out.block (hc5.block O hO4 (by omega) (by omega) (fun e=>by have:=hOWO _ e;omega));have hrgO:=hko.range;have hO5:=hko.lt (by rw[←HCS.out,B1 HO.out.rl];decide);clear hmc hm5 hc5 hko;go_wp2_with(first|(refine wpList_load_mid rfl _ _ rfl O 0 rfl cs _ hrgO underlying26 rfl hszm ?_)|((with_reducible refine(CF.out _).mono ?_);rintro e w5 ⟨rfl,hb5⟩;have HS5:=hid (HSD.out.below hb5);(obtain⟨⟨z1,z2⟩,z3,hth,hk2⟩:=G9 (c:={c with e:=3}) HO.out.rl HSL.out HS5.out.k HS5.out.zl);rw[HDS.out]at z1 z2 z3 hth hk2;have HK2:=hid hk2;have HSZ1:=hid z1;clear hb5 hk2)|(refine wpList_store_mid rfl _ _ _ rfl (w.heap.size+1) 0 ds.toArray rfl rfl hth z2 z3 ?_))
   exact bodyPost_ret (v:=.agg ds.toArray) (A1W rfl rfl HK2.out underlying26 rfl HSZ1.out) rfl (by have h9:=HS5.out.finE HO.out HMC.out HF.out;rw[HDS.out]at h9;rw[HR.out];exact h9)
  |some c'=>
   rw[hX]at CDO;have he5:c'.e=0:=(B2l y.o _ _ y.i _ c h34 h35 c' hX).trans HE0.out;have hR:F3 c={c' with a:=(c'.a+n+(if a9 y c.f=true then y.i else 0))%4294967296}:=by rw[HR0.out,T4 rfl hX,if_pos he5]
   have HR:=hid hR;have HX:=hid hX;clear hR hX he5;go_upto_region 16 with((with_reducible refine(CDO.out).mono ?_);rintro e w5 ⟨⟨rfl,hm5⟩,hc5⟩)
   have HSD:=hid (HS4.out.ch hm5 hc5);have HBD:=hid (HB4.out.block (hc5.block X (by omega) (by omega) (by omega) HXO.out));obtain⟨⟨x0,x1,x2,x3,x4⟩,xf⟩:=HBD.out.cells;have hX5:=HBD.out.lt;have hM5:=HSD.out.mm.ltM;obtain⟨k33,g33⟩:=HSD.out.mm.tailAt 1 _ rfl;have k32:=(HSD.out.mm.tailAt 0 _ rfl).1;obtain⟨a0,a1⟩:=HSD.out.mm.ab;clear hm5 hc5 hM4 hX4l hO4 hX4 hWO HS4 HB4 HKO;by_cases h33:y.o=33
   ·have hj:=r6 hok (Or.inr h33);have e1:a9 y c.f=true:=by unfold a9;rw[if_pos h33]
    rw[e1]at HR;simp only[if_true]at HR;rw[h33]at x0;have CW:=hid (fun wk=>J9 (c'.a+n+y.i) wk (by unfold I64;omega));have hvb:0≤(c'.a+n+y.i)%4294967296∧(c'.a+n+y.i)%4294967296<4294967296:=⟨Int.emod_nonneg _ (by decide),Int.emod_lt_of_pos _ (by decide)⟩
    have HS6:=hid (HSD.out.ch (HSD.out.mm.setA hvb.1 hvb.2) ((Ch.refl _ _ _ _).setM 33 (.int .u32 ((c'.a+n+y.i)%4294967296))));clear hvb;go_upto_region 20 with((with_reducible refine(CW.out _).mono ?_);rintro e wk ⟨rfl,rfl⟩)
    generalize w5.setCell ⟨w.heap.size,33,none⟩ (.int .u32 ((c'.a+n+y.i)%4294967296))=W6 at*
    obtain⟨⟨z1,z2⟩,z3,hth,hk2⟩:=G9 (c:={c' with a:=(c'.a+n+y.i)%4294967296}) HS6.out.mm.rl HSL.out HS6.out.k HS6.out.zl;have hrg6:=HS6.out.mm.m.range;have hB6:=HS6.out.mm.ltM;obtain⟨ds6,hds6⟩:∃ds6,A4 {c' with a:=(c'.a+n+y.i)%4294967296} mv=ds6:=⟨_,rfl⟩
    have HD6:=hid hds6;rw[hds6]at z1 z2 z3 hth hk2 hrg6;have HK2:=hid hk2;have HSZ1:=hid z1;clear hds6 hk2;exact A5z
   ·have q33:(y.o==33)=false:=by simpa using h33
    by_cases h32:y.o=32
    ·have hj:=r6 hok (Or.inl h32);have hcc:c'=c:=by have h9:=HX.out;unfold exM at h9;rw[h32]at h9;cases h9;rfl
     subst hcc;have hfb:=HSD.out.mm.fb;have CH:=hid (U9 y.s c'.f w5 (A0x hok h32) hfb.1 hfb.2);have e1:a9 y c'.f=hoB y.s c'.f:=by unfold a9;rw[if_neg h33,if_pos h32]
     rw[e1]at HR;obtain⟨b,hb⟩:∃b,hoB y.s c'.f=b:=⟨_,rfl⟩
     rw[hb]at CH HR;rw[h32]at x0;clear e1 hb;cases b
     ·simp only[Bool.false_eq_true,if_false,Int.add_zero]at HR;go_upto_region 19 with((with_reducible refine(CH.out).mono ?_);rintro e w6 ⟨rfl,hb6⟩;have HS7:=hid (HSD.out.below hb6);have HB7:=hid (HBD.out.block (hb6.block X hX5));clear hb6)
      obtain⟨⟨x0,x1,x2,x3,x4⟩,xf⟩:=HB7.out.cells;have hX7:=HB7.out.lt;have hM7:=HS7.out.mm.ltM;obtain⟨k33,g33⟩:=HS7.out.mm.tailAt 1 _ rfl;have CW:=hid (fun wk=>J9 (c'.a+n) wk (by unfold I64;omega));have hvb:0≤(c'.a+n)%4294967296∧(c'.a+n)%4294967296<4294967296:=⟨Int.emod_nonneg _ (by decide),Int.emod_lt_of_pos _ (by decide)⟩
      have HS6:=hid (HS7.out.ch (HS7.out.mm.setA hvb.1 hvb.2) ((Ch.refl _ _ _ _).setM 33 (.int .u32 ((c'.a+n)%4294967296))));clear hvb;go_upto_region 20 with((with_reducible refine(CW.out _).mono ?_);rintro e wk ⟨rfl,rfl⟩)
      generalize w6.setCell ⟨w.heap.size,33,none⟩ (.int .u32 ((c'.a+n)%4294967296))=W6 at*
      obtain⟨⟨z1,z2⟩,z3,hth,hk2⟩:=G9 (c:={c' with a:=(c'.a+n)%4294967296}) HS6.out.mm.rl HSL.out HS6.out.k HS6.out.zl;have hrg6:=HS6.out.mm.m.range;have hB6:=HS6.out.mm.ltM;obtain⟨ds6,hds6⟩:∃ds6,A4 {c' with a:=(c'.a+n)%4294967296} mv=ds6:=⟨_,rfl⟩
      have HD6:=hid hds6;rw[hds6]at z1 z2 z3 hth hk2 hrg6;have HK2:=hid hk2;have HSZ1:=hid z1;clear hds6 hk2;exact A5z
     ·simp only[if_true]at HR;go_upto_region 18 with((with_reducible refine(CH.out).mono ?_);rintro e w6 ⟨rfl,hb6⟩;have HS7:=hid (HSD.out.below hb6);have HB7:=hid (HBD.out.block (hb6.block X hX5));clear hb6)
      obtain⟨⟨x0,x1,x2,x3,x4⟩,xf⟩:=HB7.out.cells;have hX7:=HB7.out.lt;have hM7:=HS7.out.mm.ltM;obtain⟨k33,g33⟩:=HS7.out.mm.tailAt 1 _ rfl;have CW:=hid (fun wk=>J9 (c'.a+n+y.i) wk (by unfold I64;omega));have hvb:0≤(c'.a+n+y.i)%4294967296∧(c'.a+n+y.i)%4294967296<4294967296:=⟨Int.emod_nonneg _ (by decide),Int.emod_lt_of_pos _ (by decide)⟩
      have HS6:=hid (HS7.out.ch (HS7.out.mm.setA hvb.1 hvb.2) ((Ch.refl _ _ _ _).setM 33 (.int .u32 ((c'.a+n+y.i)%4294967296))));clear hvb;go_upto_region 20 with((with_reducible refine(CW.out _).mono ?_);rintro e wk ⟨rfl,rfl⟩)
      generalize w6.setCell ⟨w.heap.size,33,none⟩ (.int .u32 ((c'.a+n+y.i)%4294967296))=W6 at*
      obtain⟨⟨z1,z2⟩,z3,hth,hk2⟩:=G9 (c:={c' with a:=(c'.a+n+y.i)%4294967296}) HS6.out.mm.rl HSL.out HS6.out.k HS6.out.zl;have hrg6:=HS6.out.mm.m.range;have hB6:=HS6.out.mm.ltM;obtain⟨ds6,hds6⟩:∃ds6,A4 {c' with a:=(c'.a+n+y.i)%4294967296} mv=ds6:=⟨_,rfl⟩
      have HD6:=hid hds6;rw[hds6]at z1 z2 z3 hth hk2 hrg6;have HK2:=hid hk2;have HSZ1:=hid z1;clear hds6 hk2;exact A5z
    ·have q32:(y.o==32)=false:=by simpa using h32
     have e1:a9 y c.f=false:=by unfold a9;rw[if_neg h33,if_neg h32]
     rw[e1]at HR;simp only[Bool.false_eq_true,if_false,Int.add_zero]at HR;have CW:=hid (fun wk=>J9 (c'.a+n) wk (by unfold I64;omega));have hvb:0≤(c'.a+n)%4294967296∧(c'.a+n)%4294967296<4294967296:=⟨Int.emod_nonneg _ (by decide),Int.emod_lt_of_pos _ (by decide)⟩
     have HS6:=hid (HSD.out.ch (HSD.out.mm.setA hvb.1 hvb.2) ((Ch.refl _ _ _ _).setM 33 (.int .u32 ((c'.a+n)%4294967296))));clear hvb;go_upto_region 20 with((with_reducible refine(CW.out _).mono ?_);rintro e wk ⟨rfl,rfl⟩)
     generalize w5.setCell ⟨w.heap.size,33,none⟩ (.int .u32 ((c'.a+n)%4294967296))=W6 at*
     obtain⟨⟨z1,z2⟩,z3,hth,hk2⟩:=G9 (c:={c' with a:=(c'.a+n)%4294967296}) HS6.out.mm.rl HSL.out HS6.out.k HS6.out.zl;have hrg6:=HS6.out.mm.m.range;have hB6:=HS6.out.mm.ltM;obtain⟨ds6,hds6⟩:∃ds6,A4 {c' with a:=(c'.a+n)%4294967296} mv=ds6:=⟨_,rfl⟩
     have HD6:=hid hds6;rw[hds6]at z1 z2 z3 hth hk2 hrg6;have HK2:=hid hk2;have HSZ1:=hid z1;clear hds6 hk2;exact A5z
end Go.Proofs.YtdojafpjipcbjaaGreat
namespace Go.Proofs.YtdojafpjipcbjaaGreat
open Go.RowKit
set_option linter.unusedVariables false
set_option linter.unusedSimpArgs false
theorem B1G{p:Prop}(h:p:=by
 go_wp2_with(refine wpList_store_mid rfl _ _ _ rfl (w.heap.size+1) 0 (A4 G3 (.slice none 0 0)).toArray rfl rfl hthz hszz honez ?_)
 refine bodyPost_ret (v:=.tuple #[.agg (A4 G3 (.slice none 0 0)).toArray,.int .i64 9]) (A5i rfl rfl rfl KZ.out underlying26 rfl HSZ0.out) rfl ?_;rw[HR.out];exact⟨⟨.slice none 0 0,rfl,Or.inl ⟨rfl,rfl⟩,g9,by decide⟩,BZ.out⟩
 ):p:=h
theorem B1F{p:Prop}(h:p:=by
 go_wp2_with(refine wpList_store_mid rfl _ _ _ rfl (w.heap.size+1) 0 (A4 G3 (.slice none 0 0)).toArray rfl rfl hthz hszz honez ?_)
 refine bodyPost_ret (v:=.tuple #[.agg (A4 G3 (.slice none 0 0)).toArray,.int .i64 1]) (A5i rfl rfl rfl KZ.out underlying26 rfl HSZ0.out) rfl ?_;rw[HR.out];exact⟨⟨.slice none 0 0,rfl,Or.inl ⟨rfl,rfl⟩,g9,by decide⟩,BZ.out⟩
 ):p:=h
theorem A0c{base M:Nat}{mv:Value}{c:Mac}{w:World}(h:MM base M mv c w):Calls prog 26 #[.pointer (some ⟨M,0,none⟩)] w fun e w'=>e= .returned (.tuple #[])∧MM base M mv (F3 c) w'∧Ch M M mv w w':=by
 have hab:=h.ab;by_cases ha:c.a.toNat<c.m.length
 ·have:=A3x base M mv c w h c.a.toNat (by omega) ha;unfold F3;by_cases hd:Q3 (c.m.drop c.a.toNat)=true
  ·rw[if_pos hd]at this;rw[if_pos ⟨ha,hd⟩];exact this
  ·rw[if_neg hd]at this;rw[if_neg (fun h=>hd h.2)];exact this
 ·unfold F3;rw[if_neg (fun h=>ha h.1)];exact A3w base M mv c w h (by omega)
def I9(c:Mac):Mac×Int:=if N8 c=0 then(if c.e=0 then(F3 c,0)else(G3,9))else(G3,1)
theorem A4n(c:Mac):N8 c=0∨N8 c=1:=by unfold N8;split<;>simp
theorem A4m{c:Mac}(h:N8 c=0):c.m.length≤32768∧0≤c.f∧c.f≤15:=by
 unfold N8 at h
 split at h
 ·cases h
 ·omega
theorem A5O(c:Mac)(mv:Value)(w:World)(ho:MOk c)(hm:Ints .u8 w mv c.m):Calls prog 8 #[.agg (A4 c mv).toArray] w fun e w'=>(∃mv',e= .returned (.tuple #[.agg (A4 (I9 c).1 mv').toArray,.int .i64 (I9 c).2])∧MemO w.heap.size w' mv' (I9 c).1.m∧MOk (I9 c).1∧(I9 c).1.m.length≤32768)∧Below w.heap.size w w':=by
 have hsz:∀v,(prog.info? 26).map (·.size)=some (A4 c v).length:=fun v=>by rw[B1 ho.rl];kernel_rfl
 have hsz0:(prog.info? 26).map (·.size)=some (A4 G3 (.slice none 0 0)).length:=by rw[B1 rfl];kernel_rfl
 have hlen:=B1 ho.rl mv;have hl36:=fun v=>B1 ho.rl v
 obtain⟨k0,k1,hb1,hs1⟩:=O0 w (A4 c mv) (A4 G3 (.slice none 0 0)) 26 (by omega);rw[←c9]at k0 k1 hb1 hs1;have hv1:=hm.stays hb1;obtain⟨W1,hW1⟩:∃W,((w.alloc (.cells (A4 c mv).toArray 26)).alloc (.cells #[.int .u32 0,.int .u32 0,.int .u32 0,.int .u32 0,.int .u32 0,.int .u32 0,.int .u32 0,.int .u32 0,.int .u32 0,.int .u32 0,.int .u32 0,.int .u32 0,.int .u32 0,.int .u32 0,.int .u32 0,.int .u32 0,.int .u32 0,.int .u32 0,.int .u32 0,.int .u32 0,.int .u32 0,.int .u32 0,.int .u32 0,.int .u32 0,.int .u32 0,.int .u32 0,.int .u32 0,.int .u32 0,.int .u32 0,.int .u32 0,.int .u32 0,.int .u32 0,.int .i64 0,.int .u32 0,.slice none 0 0,.int .i64 0] 26))=W:=⟨_,rfl⟩
 rw[hW1]at k0 k1 hb1 hs1 hv1;have HCH:=hid (d7 c mv W1 ho.rl hv1);have HV1:=hid hv1;have HB1:=hid hb1;have HK0:=hid k0;have HK1:=hid k1;have HSZ:=hid hsz;have HSZ0:=hid hsz0;have HO:=hid ho;have HSET:=hid (fun v=>k7 ho.rl mv v);have HM:=hid hm;have hszm:=hsz mv;have hrg:=k0.range;have hlt1:w.heap.size+1<W1.heap.size:=by omega
 have HMA:=hid (A4n c);generalize hE:N8 c=E at*
 have HE:=hid hE;obtain⟨cs,hcs⟩:∃cs,A4 c mv=cs:=⟨_,rfl⟩
 have HCS:=hid hcs;have HLN:=hid hlen;rw[hcs]at hrg hszm HCH⊢;simp only[hcs]at hW1;clear k0 k1 hb1 hsz hsz0 hl36 hs1 hv1 ho hm hE hlen;go_enter func8,ntmps8;go_upto_region 2 with(first|(refine wpList_load_mid rfl _ _ rfl w.heap.size 0 rfl cs _ hrg underlying26 rfl hszm ?_)|((with_reducible refine(HCH.out).mono ?_);rintro e w2 ⟨rfl,hb2⟩))
 have K0:=HK0.out.below (by rw[HLN.out];decide) hb2;have K1:=HK1.out.below (by rw[B1 rfl];decide) hb2;have hb02:=HB1.out.trans (hb2.mono (by omega));have hv2:=HV1.out.stays hb2;have hlt2:w.heap.size+1<w2.heap.size:=Nat.lt_of_lt_of_le hlt1 hb2.size;obtain⟨-,-,⟨c34,f34⟩,⟨c35,f35⟩⟩:=K0.tails HO.out.rl;have hthz:=K1.there (ds:=A4 G3 (.slice none 0 0)) rfl;have hszz:(prog.info? 26).map (·.size)=some (A4 G3 (.slice none 0 0)).toArray.size:=by simpa using HSZ0.out
 have honez:=G5 (c:=G3) (mv:=.slice none 0 0) ⟨_,_,_,rfl⟩;have KZ:=hid (K1.setCells (ds:=A4 G3 (.slice none 0 0)) rfl);have BZ:=hid (E0 (b:=w.heap.size+1) (by omega) (A4 G3 (.slice none 0 0)) 0 w2 hb02);clear hW1 HCH hrg hszm;rcases HMA.out with e|e
 ·subst e;by_cases he:c.e=0
  ·rw[he]at c35;have HR:=hid (show I9 c=(F3 c,0)by unfold I9;rw[if_pos HE.out,if_pos he]);have hmo:=A4m HE.out;have HLE:=hid (show c.m.length≤100000 by omega);obtain⟨va,vc,hmv,hl1,hl2⟩:=HM.out.shape;rw[hmv]at c34 hv2;have HV2:=hid hv2;have hlt:w.heap.size<w2.heap.size:=by omega
   have HROW:=hid (RowI.nil w2 w2.heap.size 5 .u8);have HK02:=hid K0;have HK12:=hid K1;have HB02:=hid hb02;clear he hv2 K0 K1 hb02 hl1 hl2 hthz hszz KZ BZ;go_upto_region 7 with(at_builtin;go_must (refine A0R rfl _ _ rfl w2.heap.size _ [] rfl HROW.out _ c.m rfl HV2.out (by simpa using HLE.out) (Nat.le_refl _) ?_;intro v5 w5 hr5 hb5;have hr6:RowI w5 w2.heap.size 5 .u8 v5 c.m:=hr5;clear hr5;obtain⟨a5,k5,e5⟩:=hr6.shape;subst e5;have HR5:=hid hr6;clear hr6;have y34:w5.cell? ⟨w.heap.size,34,none⟩=some (.slice va c.m.length vc):=(hb5.cell (p:=⟨w.heap.size,34,none⟩) hlt).trans c34;have z34:w5.frozen? ⟨w.heap.size,34,none⟩=false:=(hb5.frozen (p:=⟨w.heap.size,34,none⟩) hlt).trans f34))
   have hcs0:0<(A4 c mv).length:=by rw[HLN.out];decide
   have K0:=(HK02.out.below hcs0 hb5).set (k:=34) (by rw[HLN.out];decide) (.slice a5 c.m.length k5);have K1:=(HK12.out.below (by rw[B1 rfl];decide) hb5).other (b':=w.heap.size) (k:=34) (by omega) (.slice a5 c.m.length k5);have hb6:=(HB02.out.trans (hb5.mono (by omega))).setCell (p:=⟨w.heap.size,34,none⟩) (Nat.le_refl _) (.slice a5 c.m.length k5);have hmm:=(HR5.out.memO.set (b:=w.heap.size) (j:=34) (by omega) (.slice a5 c.m.length k5))
   rw[HSET.out]at K0;have hs6:(w5.setCell ⟨w.heap.size,34,none⟩ (.slice a5 c.m.length k5)).heap.size=w5.heap.size:=by simp[World.setCell]
   have hs5:=hb5.size;have HOWN:Hid (∀k,(Value.slice a5 c.m.length k5).ownBlock=some k→w2.heap.size≤k):=hid (fun k hk=>(hmm.own k hk).1);generalize w5.setCell ⟨w.heap.size,34,none⟩ (.slice a5 c.m.length k5)=W6 at*
   have hMM:MM w.heap.size w.heap.size (.slice a5 c.m.length k5) c W6:=MM.of K0 (hmm.low (by omega)) (fun e=>by have:=HOWN.out _ e;omega) (Nat.le_refl _) HO.out hmo.1 hmo.2;have HST:=hid (A0c hMM);have HK1:=hid K1;have HB6:=hid hb6;have h6l:w.heap.size+1<W6.heap.size:=by omega
   clear K0 K1 hb6 hmm hs6 hs5 hMM hmo y34 z34 c34 f34 c35 f35 hb5 HR5 HK02 HK12 hcs0;go_upto_region 8 with((with_reducible refine(HST.out).mono ?_);rintro e w7 ⟨rfl,hm7,hc7⟩;have HM7:=hid hm7;have HC7:=hid hc7;clear hm7 hc7)
   have K17:=HK1.out.block (HC7.out.block (w.heap.size+1) h6l (by omega) (by omega) (fun e=>by have:=HOWN.out _ e;omega));have hb7:=HB6.out.trans (HC7.out.below (base:=w.heap.size) (by omega) (Nat.le_refl _) (Nat.le_refl _) (fun k e=>by have:=HOWN.out _ e;omega));have hl7:=B1 HM7.out.rl (.slice a5 c.m.length k5);have hrg:=HM7.out.m.range;have hsz1:(prog.info? 26).map (·.size)=some (A4 (F3 c) (.slice a5 c.m.length k5)).length:=by rw[hl7];kernel_rfl
   have hsz2:(prog.info? 26).map (·.size)=some (A4 (F3 c) (.slice a5 c.m.length k5)).toArray.size:=by simpa using hsz1
   have hone:=G5 (c:=F3 c) (mv:=.slice a5 c.m.length k5) ⟨_,_,_,rfl⟩;have hth:=K17.there (ds:=A4 (F3 c) (.slice a5 c.m.length k5)) (by rw[hl7,B1 rfl]);have HK2:=hid (K17.setCells (ds:=A4 (F3 c) (.slice a5 c.m.length k5)) (by rw[hl7,B1 rfl]));have HBE:=hid (E0 (b:=w.heap.size+1) (by omega) (A4 (F3 c) (.slice a5 c.m.length k5)) 0 _ hb7);have HME:=hid (HM7.out.memO.setCellsO (b:=w.heap.size+1) (fun e=>by have:=HOWN.out _ e;omega) (A4 (F3 c) (.slice a5 c.m.length k5)));have HOK:=hid HM7.out.ok;have HML:=hid HM7.out.ml;have HSZ1:=hid hsz1;clear K17 hb7 hl7 HM7 HC7 HST HK1 HB6;obtain⟨cs7,hcs7⟩:∃cs7,A4 (F3 c) (.slice a5 c.m.length k5)=cs7:=⟨_,rfl⟩
   have HCS7:=hid hcs7;rw[hcs7]at hrg hsz1 hsz2 hone hth HK2 HBE HME HSZ1;clear hcs7;have h7l:w.heap.size+1<w7.heap.size:=by have:=hth 0 (by have h9:=HSZ1.out;simp only[List.size_toArray];rw[show cs7.length=36 by rw[←HCS7.out];exact B1 HOK.out.rl _];decide);obtain⟨u,hu⟩:=Option.isSome_iff_exists.1 this.1;exact F0 hu
   go_wp2_with(first|(refine wpList_load_mid rfl _ _ rfl w.heap.size 0 rfl cs7 _ hrg underlying26 rfl hsz1 ?_)|(refine wpList_store_mid rfl _ _ _ rfl (w.heap.size+1) 0 cs7.toArray rfl rfl hth hsz2 hone ?_))
   refine bodyPost_ret (v:=.tuple #[.agg cs7.toArray,.int .i64 0]) (A5i rfl rfl rfl HK2.out underlying26 rfl HSZ1.out) rfl ?_;rw[HR.out];exact⟨⟨.slice a5 c.m.length k5,by rw[HCS7.out],HME.out,HOK.out,HML.out⟩,HBE.out⟩
  ·have d1:(c.e==0)=false:=by simpa using he
   have hR:I9 c=(G3,9):=by unfold I9;rw[if_pos HE.out,if_neg he]
   have HR:=hid hR;clear hR he K0 K1 hv2 c34 f34 f35;exact B1G
 ·subst e;have hR:I9 c=(G3,1):=by unfold I9;rw[if_neg (by rw[HE.out];decide)]
  have HR:=hid hR;clear hR K0 K1 hv2 c34 f34 c35 f35;exact B1F
theorem o8{base:Nat}{mv:Value}{c:Mac}{w:World}(hb:base≤w.heap.size)(ho:MOk c)(hm:MemO base w mv c.m)(hl:c.m.length≤32768)(hf:0≤c.f∧c.f≤15)(he:c.e=0):Calls prog 28 #[.agg (A4 c mv).toArray] w fun e w'=>RSP base mv (F3 c) w e w':=by
 have hab:=ho.ab;by_cases ha:c.a.toNat<c.m.length
 ·exact A4K base mv c w hb ho hm hl hf he c.a.toNat (by omega) ha
 ·have e1:F3 c={c with e:=3}:=by unfold F3;rw[if_neg (fun h=>ha h.1)]
  rw[e1];exact A2q base mv c w hb ho hm hl hf (by omega)
theorem A6I(c:Mac):(K4 c 0=0∧I9 c=(F3 c,0)∧c.e=0∧c.m.length≤32768∧0≤c.f∧c.f≤15)∨(K4 c 0=1∧I9 c=(G3,1))∨(K4 c 0=9∧I9 c=(G3,9)):=by
 unfold K4 I9 N8;by_cases h:32768<c.m.length∨c.f<0∨15<c.f
 ·right;left;rw[if_pos (by omega),if_pos h];exact⟨rfl,rfl⟩
 ·rw[if_neg (by omega),if_neg h];by_cases he:c.e=0
  ·left;rw[if_pos he];exact⟨rfl,by simp[he],he,by omega,by omega,by omega⟩
  ·right;right;rw[if_neg he];exact⟨rfl,by simp[he]⟩
theorem A2t(c:Mac)(mv:Value)(w:World)(ho:MOk c)(hm:Ints .u8 w mv c.m):Calls prog 9 #[.agg (A4 c mv).toArray] w fun e w'=>(∃mv',e= .returned (.tuple #[.agg (A4 (I9 c).1 mv').toArray,.int .i64 (I9 c).2])∧MemO w.heap.size w' mv' (I9 c).1.m∧MOk (I9 c).1∧(I9 c).1.m.length≤32768)∧Below w.heap.size w w':=by
 have hsz0:(prog.info? 26).map (·.size)=some (A4 G3 (.slice none 0 0)).length:=I3 rfl _;have hlen:=B1 ho.rl mv;obtain⟨k0,k1,hb1,hs1⟩:=O0 w (A4 c mv) (A4 G3 (.slice none 0 0)) 26 (by omega);rw[←c9]at k0 k1 hb1 hs1;have hv1:=hm.stays hb1;obtain⟨W1,hW1⟩:∃W,((w.alloc (.cells (A4 c mv).toArray 26)).alloc (.cells #[.int .u32 0,.int .u32 0,.int .u32 0,.int .u32 0,.int .u32 0,.int .u32 0,.int .u32 0,.int .u32 0,.int .u32 0,.int .u32 0,.int .u32 0,.int .u32 0,.int .u32 0,.int .u32 0,.int .u32 0,.int .u32 0,.int .u32 0,.int .u32 0,.int .u32 0,.int .u32 0,.int .u32 0,.int .u32 0,.int .u32 0,.int .u32 0,.int .u32 0,.int .u32 0,.int .u32 0,.int .u32 0,.int .u32 0,.int .u32 0,.int .u32 0,.int .u32 0,.int .i64 0,.int .u32 0,.slice none 0 0,.int .i64 0] 26))=W:=⟨_,rfl⟩
 rw[hW1]at k0 k1 hb1 hs1 hv1;have HCH:=hid (c8 c mv 0 W1 ho.rl hv1);have HV1:=hid hv1;have HB1:=hid hb1;have HK0:=hid k0;have HK1:=hid k1;have HSZ0:=hid hsz0;have HO:=hid ho;have HM:=hid hm;have hszm:=I3 ho.rl mv;have hrg:=k0.range;have hlt1:w.heap.size+1<W1.heap.size:=by omega
 have HMR:=hid (A6I c);generalize hE:K4 c 0=E at*
 obtain⟨cs,hcs⟩:∃cs,A4 c mv=cs:=⟨_,rfl⟩
 have HCS:=hid hcs;have HLN:=hid hlen;rw[hcs]at hrg hszm HCH⊢;simp only[hcs]at hW1;clear k0 k1 hb1 hsz0 hs1 hv1 ho hm hE hlen;go_enter func9,ntmps9;go_upto_region 2 with(first|(refine wpList_load_mid rfl _ _ rfl w.heap.size 0 rfl cs _ hrg underlying26 rfl hszm ?_)|((with_reducible refine(HCH.out).mono ?_);rintro e w2 ⟨rfl,hb2⟩))
 have K0:=HK0.out.below (by rw[HLN.out];decide) hb2;have K1:=HK1.out.below (by rw[B1 rfl];decide) hb2;have hb02:=HB1.out.trans (hb2.mono (by omega));have hv2:=HV1.out.stays hb2;have hlt2:w.heap.size+1<w2.heap.size:=Nat.lt_of_lt_of_le hlt1 hb2.size;have hthz:=K1.there (ds:=A4 G3 (.slice none 0 0)) rfl;have hszz:(prog.info? 26).map (·.size)=some (A4 G3 (.slice none 0 0)).toArray.size:=by simpa using HSZ0.out
 have honez:=G5 (c:=G3) (mv:=.slice none 0 0) ⟨_,_,_,rfl⟩;have KZ:=hid (K1.setCells (ds:=A4 G3 (.slice none 0 0)) rfl);have BZ:=hid (E0 (b:=w.heap.size+1) (by omega) (A4 G3 (.slice none 0 0)) 0 w2 hb02);clear hW1 HCH hrg;rcases HMR.out with⟨e,hR,he,hl,hf⟩|⟨e,hR⟩|⟨e,hR⟩
 ·subst e;have HR:=hid hR;have hrg:=K0.range;rw[HCS.out]at hrg;have HK1:=hid K1;have HB02:=hid hb02;have CCP:=hid (l8 c mv w2 HO.out hv2 (by omega));rw[HCS.out]at CCP;have HHE:=hid (And.intro he (And.intro hl hf));clear hthz hszz honez KZ BZ K0 K1 hb02 hb2 hv2 hR he hl hf;go_wp2_with(first|(refine wpList_load_mid rfl _ _ rfl w.heap.size 0 rfl cs _ hrg underlying26 rfl hszm ?_)|((with_reducible refine(CCP.out).mono ?_);rintro e w3 ⟨mvo,rfl,hmo,hb3⟩;have HMO:=hid hmo;have HB3:=hid hb3;clear hmo hb3)|((with_reducible refine(o8 (base:=w2.heap.size) HB3.out.size HO.out HMO.out HHE.out.2.1 HHE.out.2.2 HHE.out.1).mono ?_);rintro e w4 ⟨rfl,⟨hm4,ho4,hl4,hf4⟩,hb4⟩;have HM4:=hid hm4;have HO4:=hid ho4;have HL4:=hid hl4;have HB4:=hid (HB3.out.trans hb4);clear hm4 ho4 hl4 hf4 hb4;(obtain⟨⟨z1,z2⟩,z3,hth,hk2⟩:=G9 HO4.out.rl HM4.out.isSlice (HK1.out.below (by rw[B1 rfl];decide) HB4.out) (B1 rfl _));have HK2:=hid hk2;have HSZ1:=hid z1;clear hk2)|(refine wpList_store_mid rfl _ _ _ rfl (w.heap.size+1) 0 (A4 (F3 c) mvo).toArray rfl rfl hth z2 z3 ?_))
  refine bodyPost_ret (v:=.tuple #[.agg (A4 (F3 c) mvo).toArray,.int .i64 0]) (A5i rfl rfl rfl HK2.out underlying26 rfl HSZ1.out) rfl ?_;rw[HR.out];exact⟨⟨mvo,rfl,(HM4.out.low (by omega)).setCellsO (fun e=>by have:=(HM4.out.own _ e).1;omega) _,HO4.out,HL4.out⟩,E0 (by omega) _ 0 _ (HB02.out.trans (HB4.out.mono (by omega)))⟩
 ·subst e;have HR:=hid hR;clear hR K0 K1 hv2;exact B1F
 ·subst e;have HR:=hid hR;clear hR K0 K1 hv2;exact B1G
theorem CellsAt.regs{w:World}{b:Nat}{c:Mac}{mv:Value}(h:CellsAt w b (A4 c mv)):w.rangeAt b 0 (c.r.map (Value.int .u32)):=fun j v hj=>by
 rw[Nat.zero_add];refine(h j v ?_).1;unfold A4;rw[List.getElem?_append_left ((List.getElem?_eq_some_iff.1 hj).1)];exact hj
theorem Y7{P:Program}(w:World)(d:Nat){e:TypeId}{k:IntKind}(hp:P.plainKey e=true)(hu:P.underlying e=some (.int k))(hc:P.cellsOf e=1)(l:List Int):∀is:List Nat,(∀i∈is,i<l.length)→(Op.eqItems (d+1) e (P.cellsOf e) (l.map (Value.int k)).toArray (l.map (Value.int k)).toArray is).run P w= .ok true w
 |[],_=>by simp[Op.eqItems]
 |i::is,h=>by
  have hi:=h i (List.mem_cons_self ..);have hx:(l.map (Value.int k)).toArray[i*P.cellsOf e]? =some (.int k l[i]):=by rw[hc];simp[hi]
  simp only[Op.eqItems,Sem.run_bind,run_part_plain w hp hx,Result.andThen_ok,run_equalIn_int w d e k k _ _ hu];simpa using Y7 w d hp hu hc l is fun j hj=>h j (List.mem_cons_of_mem _ hj)
theorem A4e{P:Program}(w:World){t e:TypeId}{n:Nat}{i:TypeInfo}{k:IntKind}(ht:P.underlying t=some (.array n e))(hi:P.info? e=some i)(hp:P.plainKey e=true)(hu:P.underlying e=some (.int k))(hc:P.cellsOf e=1)(l:List Int)(hl:l.length=n):
  (binOp .neq t (.agg (l.map (Value.int k)).toArray) (.agg (l.map (Value.int k)).toArray)).run P w= .ok (.bool false) w:=by
 rw[run_neq_struct,run_equalIn_array w 9999 _ _ ht hi,Y7 w 9998 hp hu hc l _ (fun j hj=>by rw[hl];exact List.mem_range.1 hj)];rfl
theorem u6(c:Mac)(mv mv2:Value)(w:World)(hr:c.r.length=32)(hm:Ints .u8 w mv c.m)(hm2:Ints .u8 w mv2 c.m):Calls prog 10 #[.agg (A4 c mv).toArray,.agg (A4 c mv2).toArray] w fun e w'=>e= .returned (.bool true)∧Below w.heap.size w w':=by
 obtain⟨k0,k1,hb1,hs1⟩:=O0 w (A4 c mv) (A4 c mv2) 26 (by rw[B1 hr];decide);obtain⟨W1,hW1⟩:∃W,(w.alloc (.cells (A4 c mv).toArray 26)).alloc (.cells (A4 c mv2).toArray 26)=W:=⟨_,rfl⟩
 rw[hW1]at k0 k1 hb1 hs1;have r0:=k0.regs;have r1:=k1.regs;obtain⟨i,hi⟩:∃i,prog.info? 22=some i:=⟨_,rfl⟩
 have hneq:=fun w'=>A4e (P:=prog) w' (t:=23) (e:=22) underlying23 hi (by kernel_rfl) underlying22 (by kernel_rfl) c.r hr
 have hgd:prog.eqGuardType prog.depth 23=false:=by kernel_rfl
 have hsz:(prog.info? 23).map (·.size)=some (c.r.map (Value.int .u32)).length:=by rw[List.length_map,hr];kernel_rfl
 obtain⟨⟨x1,-⟩,⟨x2,-⟩,⟨x3,-⟩,⟨x4,-⟩⟩:=k0.tails hr;obtain⟨⟨y1,-⟩,⟨y2,-⟩,⟨y3,-⟩,⟨y4,-⟩⟩:=k1.tails hr;have HV:=hid (hm.stays hb1);have HU:=hid (hm2.stays hb1);have HB:=hid hb1;obtain⟨va,vc,rfl,hl1,hl2⟩:=hm.shape;obtain⟨va2,vc2,rfl,hl3,hl4⟩:=hm2.shape;have HLEN:=hid hl1;have hlt:w.heap.size+1<W1.heap.size:=by omega
 clear k0 k1 hb1 hs1 hm hm2 hi;generalize hcs:A4 c (.slice va c.m.length vc)=cs at*
 generalize hds:A4 c (.slice va2 c.m.length vc2)=ds at*
 generalize c.r.map (Value.int .u32)=rs at*
 clear hcs hds;go_enter func10,ntmps10;go_upto_region 4 with(first|(refine wpList_load_mid rfl _ _ rfl w.heap.size 0 rfl rs _ r0 underlying23 rfl hsz ?_)|(refine wpList_load_mid rfl _ _ rfl (w.heap.size+1) 0 rfl rs _ r1 underlying23 rfl hsz ?_))
 clear hW1 r0 r1 hneq hgd hsz
 go_loopw[5] (fun i wr=>∃j:Nat,j≤c.m.length∧i= .int .i64 j∧Below W1.heap.size W1 wr) (fun i _=>c.m.length-(intOf i).toNat)
 case atStart=>exact⟨0,Nat.zero_le _,rfl,Below.refl _ _⟩
 case round=>
  obtain⟨j,hj,rfl,hb⟩:=hrel;have HBJ:=hid hb;have z3:=(hb.cell (p:=⟨w.heap.size,34,none⟩) (by show w.heap.size<_;omega)).trans x3;have z4:=(hb.cell (p:=⟨w.heap.size+1,34,none⟩) hlt).trans y3;have hwr:w.heap.size+1<wr.heap.size:=Nat.lt_of_lt_of_le hlt hb.size;by_cases hlt2:j<c.m.length
  ·obtain⟨b,q,c2,e',hc2,hbl,hcl⟩:=((HV.out.stays hb).at (j:=j) hlt2)
   cases e';obtain⟨b',q',c2',e',hc2',hbl',hcl'⟩:=((HU.out.stays hb).at (j:=j) hlt2)
   cases e';have i0:(0:Int)≤(j:Int):=by omega
   have i1:(j:Int)<c.m.length:=by omega
   have hwr0:w.heap.size<wr.heap.size:=by omega
   generalize c.m.getD j 0=x at*
   clear hb hlt2 HV HU;go_wp2_with fail
   go_quiet(fail)
   go_wp2_with fail
   go_roundw
   case rel=>exact⟨j+1,by omega,by go_num,A9 HBJ.out _⟩
   case measure=>simp[intOf];omega
  ·obtain rfl:j=c.m.length:=by omega
   go_wp2_with fail
   go_ret;exact⟨rfl,HB.out.trans (HBJ.out.mono (by omega))⟩
end Go.Proofs.YtdojafpjipcbjaaGreat
