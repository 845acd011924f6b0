/- -/
import Derived.Deep.MidRow
import Derived.Laws.Tables
import Derived.Test.YtdojafpjipcbjaaGreatK9
import Derived.Test.YtdojafpjipcbjaaGreatK12
import Derived.Test.YtdojafpjipcbjaaGreatK18
import Derived.Test.YtdojafpjipcbjaaGreatK21
open Go.Proofs.Tryz
open Go.Lib (hid)
set_option maxHeartbeats 1000000
set_option maxRecDepth 100000
namespace Go.Proofs.YtdojafpjipcbjaaGreat
open Go.RowKit
set_option linter.unusedVariables false
set_option linter.unusedSimpArgs false
theorem A3w(base M:Nat)(mv:Value)(c:Mac)(w:World)(h:MM base M mv c w)(hal:(c.m.length:Int)≤c.a):Calls prog 26 #[.pointer (some ⟨M,0,none⟩)] w fun e w'=>e= .returned (.tuple #[])∧MM base M mv {c with e:=3} w'∧Ch M M mv w w':=by
 have hc:w.rangeAt M 0 (A4 c mv):=fun j v hj=>by rw[Nat.zero_add];exact(h.m j v hj).1
 have hl:(A4 c mv).length=36:=by simp[A4,h.rl]
 have hsz:(prog.info? 26).map (·.size)=some (A4 c mv).length:=by rw[hl];kernel_rfl
 have hM:=h.ltM;have ab:=h.ab;have ml:=h.ml;obtain⟨v0,q0⟩:∃v,w.cell? ⟨M,0,none⟩=some v:=⟨_,(h.reg0).1⟩
 have hone:=all_oneCell_toArray (A0t h);obtain⟨va,vc,hmv,hl1,hl2⟩:=h.ints.shape;have HW:=hid (fun old=>b9 w old (A4 c mv) 26);have HM:=hid (fun W (hb:Below w.heap.size w W)=>h.same hb);have HC:Hid (∀W,MM base M mv c W→W.cell? ⟨M,33,none⟩=some (.int .u32 c.a)∧W.cell? ⟨M,34,none⟩=some mv∧W.cell? ⟨M,35,none⟩=some (.int .i64 c.e)∧W.frozen? ⟨M,35,none⟩=false):=hid (fun W hW=>⟨(hW.tailAt 1 _ rfl).1,(hW.tailAt 2 _ rfl).1,hW.tailAt 3 _ rfl⟩);have HE:Hid (∀W,MM base M mv c W→MM base M mv {c with e:=3} (W.setCell ⟨M,35,none⟩ (.int .i64 3))):=hid (fun W hW=>hW.setE 3);generalize A4 c mv=cs at*
 have hsz2:(prog.info? 26).map (·.size)=some cs.toArray.size:=by simpa using hsz
 have hold:36=cs.toArray.size:=by simpa using hl.symm
 clear h;go_enter func26,ntmps26;go_upto_region 4 with(first|(refine wpList_load_mid rfl _ _ rfl M 0 rfl cs _ hc underlying26 rfl hsz ?_)|(refine wp_store_row _ _ _ rfl w.heap.size cs.toArray rfl rfl 26 _ (N5 _ _ _) hsz2 hold hone ?_))
 obtain⟨hb,hcs,hbx,hws⟩:=HW.out #[.int .u32 0,.int .u32 0,.int .u32 0,.int .u32 0,.int .u32 0,.int .u32 0,.int .u32 0,.int .u32 0,.int .u32 0,.int .u32 0,.int .u32 0,.int .u32 0,.int .u32 0,.int .u32 0,.int .u32 0,.int .u32 0,.int .u32 0,.int .u32 0,.int .u32 0,.int .u32 0,.int .u32 0,.int .u32 0,.int .u32 0,.int .u32 0,.int .u32 0,.int .u32 0,.int .u32 0,.int .u32 0,.int .u32 0,.int .u32 0,.int .u32 0,.int .u32 0,.int .i64 0,.int .u32 0,.slice none 0 0,.int .i64 0];clear HW;generalize(((w.alloc (.cells #[.int .u32 0,.int .u32 0,.int .u32 0,.int .u32 0,.int .u32 0,.int .u32 0,.int .u32 0,.int .u32 0,.int .u32 0,.int .u32 0,.int .u32 0,.int .u32 0,.int .u32 0,.int .u32 0,.int .u32 0,.int .u32 0,.int .u32 0,.int .u32 0,.int .u32 0,.int .u32 0,.int .u32 0,.int .u32 0,.int .u32 0,.int .u32 0,.int .u32 0,.int .u32 0,.int .u32 0,.int .u32 0,.int .u32 0,.int .u32 0,.int .u32 0,.int .u32 0,.int .i64 0,.int .u32 0,.slice none 0 0,.int .i64 0] 26)).setRow w.heap.size cs.toArray).alloc (.cells #[.int .i64 0,.int .i64 0,.int .i64 0,.int .i64 0,.int .i64 0] 61))=W at*
 have hm:=HM.out W hb;obtain⟨c33,c34,c35,f35⟩:=HC.out W hm;have HCH:=hid (Ch.of_below (T:=M) (M:=M) (mv:=mv) hb);have HEE:=hid (fun n=>HE.out _ (hm.drewN n));have hdec:decide (c.a<(c.m.length:Int))=false:=decide_eq_false (by omega);rw[hmv]at c34;have hMW:M<W.heap.size:=by omega
 clear hcs hbx hmv hc hsz hsz2 hold hone q0 hm HC HM HE hb;generalize c.m.length=len at*
 generalize hca:c.a=a at*
 have HCA:=hid hca;clear hca;go_quiet(fail)
 go_wp2_with fail
 have e9:=HCA.out;subst e9;exact bodyPost_ret (v:=.tuple #[]) (by simp[results,results26,go_sem]) rfl ⟨rfl,HEE.out nq,(HCH.out.drewN nq).setM _ _⟩
theorem A4V{p:Prop}(h:p:=by
 (first|exact SC.toE hS2|exact SC.toE (by assumption)|exact SC.toE (SC.drew (by assumption))|exact SC.toE (SC.drewN (by assumption) _))
 ):p:=h
theorem A0x{x:Ins}(h:okI x=true)(e:x.o=32):isC x.s=true:=by
 have h2:=(X9 (B2 h)).2.2.1;rcases A8H h with h1|h1
 ·have:rdC x=x.s:=by simp[rdC,e]
  omega
 ·rwa[show rdC x=x.s by simp[rdC,e]]at h1
theorem Box5.block{W W':World}{b:Nat}{o d s z i:Int}(h:Box5 W b o d s z i)(hb:W'.heap[b]? =W.heap[b]?):Box5 W' b o d s z i:=hb.trans h
theorem n9{y:Ins}{z:Int}{n:Nat}{c:Mac}(hz:max y.z 16=z)(h:exM y z c=none):u5 y n c={c with e:=3}:=by unfold u5;rw[hz,h]
theorem T4{y:Ins}{z:Int}{n:Nat}{c c':Mac}(hz:max y.z 16=z)(h:exM y z c=some c'):u5 y n c=if c'.e=0 then{c' with a:=(c'.a+n+(if a9 y c.f=true then y.i else 0))%4294967296}else c':=by unfold u5;rw[hz,h]
theorem Ch.transT{T M:Nat}{mv:Value}{w W W':World}(h:Ch M M mv w W)(h':Ch T M mv W W')(hT:w.heap.size≤T):Ch M M mv w W':=
 ⟨h'.os.trans h.os,h'.tape.trans h.tape,h'.output.trans h.output,Nat.le_trans h.size h'.size,fun k hk a b cc=>(h'.block k (Nat.lt_of_lt_of_le hk h.size) (by omega) b cc).trans (h.block k hk a b cc)⟩
theorem MM.setMv{base M:Nat}{mv:Value}{c:Mac}{w:World}(h:MM base M mv c w):MM base M mv c (w.setCell ⟨M,34,none⟩ mv):=h.setTail 2 mv c (by decide) rfl rfl rfl h.fb h.ab
theorem MM.setMvE{base M:Nat}{mv:Value}{c:Mac}{w:World}(h:MM base M mv c w):MM base M mv {c with e:=3} ((w.setCell ⟨M,34,none⟩ mv).setCell ⟨M,35,none⟩ (.int .i64 3)):=h.setMv.setE 3
theorem MM.setOther{base M:Nat}{mv:Value}{c:Mac}{W:World}(h:MM base M mv c W){b k:Nat}(h1:M≠b)(h2:mv.ownBlock≠some b)(u:Value):MM base M mv c (W.setCell ⟨b,k,none⟩ u):=by
 refine⟨h.m.other h1 u,?_,h.bm,h.rl,h.rb,h.ml,h.mb,h.fb,h.ab⟩;rcases h.v with he|⟨D,cap,e,a1,a2,a3,a5,a6⟩
 ·exact Or.inl he
 ·have hD:D≠b:=fun e'=>h2 (by rw[e,e'];rfl)
  refine Or.inr ⟨D,cap,e,a1,a2,a3,a5,by simpa[World.setCell]using a6.1,fun i hi=>⟨?_,by rw[World.frozen?_setCell];exact a6.free hi⟩⟩;rw[World.cell?_setCell_other _ _ _ _ (by intro hh;cases hh;exact hD rfl)];exact a6.cell hi
structure SC(base M:Nat)(mv:Value)(c:Mac)(w:World)(B:Nat)(cs:List Value)(x:Ins)(W:World):Prop where
 mm:MM base M mv c W
 k:CellsAt W B cs
 b:Box5 W (B+1) x.o x.d x.s x.z x.i
 ch:Ch M M mv w W
 lt:0<cs.length
 mb:M<B
 ob:∀k,mv.ownBlock=some k→k<B
 wb:w.heap.size≤B
def SE(base M:Nat)(mv:Value)(c:Mac)(w:World)(B:Nat)(cs:List Value)(W:World):Prop:=MM base M mv c W∧CellsAt W B cs∧(∃x:Ins,Box5 W (B+1) x.o x.d x.s x.z x.i)∧Ch M M mv w W
section
variable {base M : Nat} {mv : Value} {c : Mac} {w : World} {B : Nat} {cs : List Value} {x : Ins} {W W' : World}
theorem SC.toE(h:SC base M mv c w B cs x W):SE base M mv c w B cs W:=⟨h.mm,h.k,⟨x,h.b⟩,h.ch⟩
theorem SC.below(h:SC base M mv c w B cs x W)(hb:Below W.heap.size W W'):SC base M mv c w B cs x W':=
 ⟨h.mm.same hb,h.k.block (hb.block B (h.k.lt h.lt)),(hb.block (B+1) h.b.lt).trans h.b,h.ch.trans (Ch.of_below hb),h.lt,h.mb,h.ob,h.wb⟩
theorem SC.drew(h:SC base M mv c w B cs x W):SC base M mv c w B cs x W.drew:=h.below (Below.refl _ _).drew
theorem SC.drewN(h:SC base M mv c w B cs x W)(n:Nat):SC base M mv c w B cs x (W.drewN n):=⟨h.mm.drewN n,h.k,h.b,h.ch.drewN n,h.lt,h.mb,h.ob,h.wb⟩
theorem SC.set1(h:SC base M mv c w B cs x W)(y:Ins){j:Nat}{u:Value}(hb:Box5 (W.setCell ⟨B+1,j,none⟩ u) (B+1) y.o y.d y.s y.z y.i):SC base M mv c w B cs y (W.setCell ⟨B+1,j,none⟩ u):=by
 have h1:=h.mb;have h2:=h.wb;refine⟨h.mm.setOther (by omega) (fun e=>by have:=h.ob _ e;omega) u,h.k.other (by omega) u,hb,⟨h.ch.os,h.ch.tape,h.ch.output,Nat.le_trans h.ch.size (by simp[World.setCell]),fun k hk a b cc=>(Below.heap_setCell W ⟨B+1,j,none⟩ u k (by show k≠B+1;omega)).trans (h.ch.block k hk a b cc)⟩,h.lt,h.mb,h.ob,h.wb⟩
theorem SC.put(h:SC base M mv c w B cs x W)(y:Ins):SC base M mv c w B cs y (((((W.setCell ⟨B+1,0,none⟩ (.int .i64 y.o)).setCell ⟨B+1,1,none⟩ (.int .i64 y.d)).setCell ⟨B+1,2,none⟩ (.int .i64 y.s)).setCell ⟨B+1,3,none⟩ (.int .i64 y.z)).setCell ⟨B+1,4,none⟩ (.int .i64 y.i)):=by
 have s0:=h.set1 ⟨y.o,x.d,x.s,x.z,x.i⟩ (h.b.set0 y.o);have s1:=s0.set1 ⟨y.o,y.d,x.s,x.z,x.i⟩ (s0.b.set1 y.d);have s2:=s1.set1 ⟨y.o,y.d,y.s,x.z,x.i⟩ (s1.b.set2 y.s);have s3:=s2.set1 ⟨y.o,y.d,y.s,y.z,x.i⟩ (s2.b.set3 y.z);exact s3.set1 y (s3.b.set4 y.i)
end
theorem A3x(base M:Nat)(mv:Value)(c:Mac)(w:World)(h:MM base M mv c w)(q:Nat)(hq:c.a=(q:Int))(hal:q<c.m.length):Calls prog 26 #[.pointer (some ⟨M,0,none⟩)] w fun e w'=>e= .returned (.tuple #[])∧MM base M mv (if Q3 (c.m.drop q)=true then u5 (N2 (c.m.drop q)) (R9 (c.m.drop q)) c else{c with e:=3}) w'∧Ch M M mv w w':=by
 have hc:w.rangeAt M 0 (A4 c mv):=fun j v hj=>by rw[Nat.zero_add];exact(h.m j v hj).1
 have hl:(A4 c mv).length=36:=by simp[A4,h.rl]
 have hsz:(prog.info? 26).map (·.size)=some (A4 c mv).length:=by rw[hl];kernel_rfl
 have hM:=h.ltM;have ab:=h.ab;have ml:=h.ml;obtain⟨v0,q0⟩:∃v,w.cell? ⟨M,0,none⟩=some v:=⟨_,(h.reg0).1⟩
 have hone:=all_oneCell_toArray (A0t h);obtain⟨va,vc,hmv,hl1,hl2⟩:=h.ints.shape;have HW:=hid (fun old=>b9 w old (A4 c mv) 26);have HM:=hid (fun W (hb:Below w.heap.size w W)=>h.same hb);have HC:Hid (∀W,MM base M mv c W→W.cell? ⟨M,33,none⟩=some (.int .u32 c.a)∧W.cell? ⟨M,34,none⟩=some mv∧W.cell? ⟨M,35,none⟩=some (.int .i64 c.e)∧W.frozen? ⟨M,35,none⟩=false):=hid (fun W hW=>⟨(hW.tailAt 1 _ rfl).1,(hW.tailAt 2 _ rfl).1,hW.tailAt 3 _ rfl⟩);have HE:Hid (∀W,MM base M mv c W→MM base M mv {c with e:=3} (W.setCell ⟨M,35,none⟩ (.int .i64 3))):=hid (fun W hW=>hW.setE 3);have HQ:=hid hq;have HBY:Hid (Byt (c.m.drop q)):=hid (fun i=>by rw[List.getD_eq_getElem?_getD,List.getElem?_drop,←List.getD_eq_getElem?_getD];exact h.mb _);have HCD:=hid (fun W' v (hv:Ints .u8 W' v (c.m.drop q)) (hby:Byt (c.m.drop q))=>show Calls _ _ #[v] W' (fun e w'=>e= .returned (.tuple #[.agg #[.int .i64 (N2 (c.m.drop q)).o,.int .i64 (N2 (c.m.drop q)).d,.int .i64 (N2 (c.m.drop q)).s,.int .i64 (N2 (c.m.drop q)).z,.int .i64 (N2 (c.m.drop q)).i],.int .i64 (R9 (c.m.drop q)),.bool (Q3 (c.m.drop q))])∧Below W'.heap.size W' w')from l7 (c.m.drop q) v W' hv hby);have HY:Hid (Q3 (c.m.drop q)=true→okI (N2 (c.m.drop q))=true∧R9 (c.m.drop q)≤32768):=hid (fun hd=>by
  obtain⟨h1,h2⟩:=s5 hd;have:=h.ml;rw[List.length_drop]at h2;exact⟨h1,by omega⟩)
 obtain⟨R,hR⟩:∃R,(if Q3 (c.m.drop q)=true then u5 (N2 (c.m.drop q)) (R9 (c.m.drop q)) c else{c with e:=3})=R:=⟨_,rfl⟩
 rw[hR];have HR:=hid hR;clear hR;generalize N2 (c.m.drop q)=y at*
 generalize R9 (c.m.drop q)=n at*
 generalize Q3 (c.m.drop q)=db at*
 have HOW:Hid (∀k,mv.ownBlock=some k→k<w.heap.size):=hid (fun k e=>(h.own k e).2);have HMA:=hid (fun(W:World) (c':Mac) (h':MM base M mv c' W) (hm:c'.m=c.m)=>h'.restore (c:=c) hm h.rl h.rb h.fb h.ab);have HPW:Hid (0≤c.f∧c.f≤15):=hid h.fb;have HCS:=hid (show([.int .i64 c.f]:List Value)[0]? =(A4 c mv)[32]? by unfold A4;rw[List.getElem?_append_right (by simp[h.rl])];simp[h.rl]);generalize A4 c mv=cs at*
 have hsz2:(prog.info? 26).map (·.size)=some cs.toArray.size:=by simpa using hsz
 have hold:36=cs.toArray.size:=by simpa using hl.symm
 clear h;go_enter func26,ntmps26;go_upto_region 4 with(first|(refine wpList_load_mid rfl _ _ rfl M 0 rfl cs _ hc underlying26 rfl hsz ?_)|(refine wp_store_row _ _ _ rfl w.heap.size cs.toArray rfl rfl 26 _ (N5 _ _ _) hsz2 hold hone ?_))
 obtain⟨hb,hcs,hbx,hws⟩:=HW.out #[.int .u32 0,.int .u32 0,.int .u32 0,.int .u32 0,.int .u32 0,.int .u32 0,.int .u32 0,.int .u32 0,.int .u32 0,.int .u32 0,.int .u32 0,.int .u32 0,.int .u32 0,.int .u32 0,.int .u32 0,.int .u32 0,.int .u32 0,.int .u32 0,.int .u32 0,.int .u32 0,.int .u32 0,.int .u32 0,.int .u32 0,.int .u32 0,.int .u32 0,.int .u32 0,.int .u32 0,.int .u32 0,.int .u32 0,.int .u32 0,.int .u32 0,.int .u32 0,.int .i64 0,.int .u32 0,.slice none 0 0,.int .i64 0];clear HW;generalize(((w.alloc (.cells #[.int .u32 0,.int .u32 0,.int .u32 0,.int .u32 0,.int .u32 0,.int .u32 0,.int .u32 0,.int .u32 0,.int .u32 0,.int .u32 0,.int .u32 0,.int .u32 0,.int .u32 0,.int .u32 0,.int .u32 0,.int .u32 0,.int .u32 0,.int .u32 0,.int .u32 0,.int .u32 0,.int .u32 0,.int .u32 0,.int .u32 0,.int .u32 0,.int .u32 0,.int .u32 0,.int .u32 0,.int .u32 0,.int .u32 0,.int .u32 0,.int .u32 0,.int .u32 0,.int .i64 0,.int .u32 0,.slice none 0 0,.int .i64 0] 26)).setRow w.heap.size cs.toArray).alloc (.cells #[.int .i64 0,.int .i64 0,.int .i64 0,.int .i64 0,.int .i64 0] 61))=W at*
 have hm:=HM.out W hb;have hS:SC base M mv c w w.heap.size cs ⟨0,0,0,0,0⟩ W:=⟨hm,hcs,hbx,Ch.of_below hb,by omega,hM,HOW.out,Nat.le_refl _⟩
 obtain⟨c33,c34,c35,f35⟩:=HC.out W hm;have HCH:=hid (Ch.of_below (T:=M) (M:=M) (mv:=mv) hb);have HEE:=hid (fun n=>HE.out _ (hm.drewN n));have hdec:decide ((q:Int)<(c.m.length:Int))=true:=decide_eq_true (by omega);have HID:=hid (fun wk (h:SC base M mv c w w.heap.size cs ⟨0,0,0,0,0⟩ wk)=>by have h9:=h.mm.ints;rw[hmv]at h9;exact Ints.drop h9 (m:=q) (by omega));have HMV:Hid (∀wk,SE base M mv c w w.heap.size cs wk→wk.cell? ⟨M,34,none⟩=some (.slice va c.m.length vc)):=hid (fun wk h=>by have:=(h.1.tailAt 2 _ rfl).1;rw[hmv]at this;exact this);rw[hmv]at c34;rw[hq]at c33;have hMW:M<W.heap.size:=by omega
 have HMVE:=hid hmv;have HSZ:=hid hsz;have HSZ2:=hid hsz2;have HONE:=hid hone;have HL:=hid hl;clear hcs hbx hmv hc hsz hsz2 hold hone q0 hm HC HM HE hb hq hl;generalize c.m.length=len at*
 go_quiet(fail)
 go_upto_region 5 with fail
 have e33:∀wk,SE base M mv c w w.heap.size cs wk→wk.cell? ⟨M,33,none⟩=some (.int .u32 (q:Int)):=fun wk h=>by have:=(h.1.tailAt 1 _ rfl).1;rw[HQ.out]at this;exact this
 have e34:∀wk,SE base M mv c w w.heap.size cs wk→wk.cell? ⟨M,34,none⟩=some (.slice va len vc):=HMV.out;have hS0:=hS.drewN nq;have hql:q≤len:=by omega
 have hqv:len≤vc:=by omega
 refine wp_region_held_drew (S:=(SE base M mv c w w.heap.size cs)) (by kernel_rfl) ?_ (fun hHeld=>?_)
 ·exact A4V
 refine tk 0 ?_;refine tk 1 ?_;refine tk 2 ?_;refine tk 3 ?_;refine tk 4 ?_;refine tk 5 ?_;refine tk 6 ?_;refine tk 7 ?_;refine tk 8 ?_;refine rd1 9 (fun K hK=>?_)
 (go_simp;(go_at_call 24;refine(HCD.out _ _ (HID.out _ (hS.drewN _)) HBY.out).mono ?_;rintro e w1 ⟨rfl,hb1⟩;have hS1:=(hS.drewN (nq+1)).below hb1))
 refine hK.out _ _ ?_ (fun hHeld=>?_)
 ·exact A4V
 clear hK K
 try go_frame
 refine tk 10 ?_;refine tk 11 ?_;refine tk 12 ?_;refine tk 13 ?_;refine rd1 14 (fun K hK=>?_)
 ((obtain⟨⟨x0,x1,x2,x3,x4⟩,xf⟩:=hS1.b.cells);go_simp;have hS2:=hS1.put y;clear x0 x1 x2 x3 x4 xf)
 refine hK.out _ _ ?_ (fun hHeld=>?_)
 ·exact A4V
 clear hK K
 try go_frame
 refine tk 15 ?_;refine tk 16 ?_;refine wpAnyH_done (by kernel_rfl) ?_ _;clear e33 e34 hS hS0 hS1 HID HMV;have HS2:=hid hS2;clear hS2;generalize(((((w1.setCell ⟨w.heap.size+1,0,none⟩ (.int .i64 y.o)).setCell ⟨w.heap.size+1,1,none⟩ (.int .i64 y.d)).setCell ⟨w.heap.size+1,2,none⟩ (.int .i64 y.s)).setCell ⟨w.heap.size+1,3,none⟩ (.int .i64 y.z)).setCell ⟨w.heap.size+1,4,none⟩ (.int .i64 y.i))=W3 at*
 cases db
 ·rw[if_neg (by decide)]at HR;have k35:W3.cell? ⟨M,35,none⟩=some (.int .i64 c.e):=(HS2.out.mm.tailAt 3 _ rfl).1;have g35:W3.frozen? ⟨M,35,none⟩=false:=(HS2.out.mm.tailAt 3 _ rfl).2;have hM3:M<W3.heap.size:=HS2.out.mm.ltM;clear c33 c34 c35 f35 hb1 hdec hal ml;go_wp2_with fail
  all_goals(rw[←HR.out];exact bodyPost_ret (v:=.tuple #[]) (by simp[results,results26,go_sem]) rfl ⟨rfl,HS2.out.mm.setE 3,HS2.out.ch.setM _ _⟩)
 ·rw[if_pos rfl]at HR;obtain⟨hfit,hn⟩:=HY.out rfl;obtain⟨⟨x0,x1,x2,x3,x4⟩,xf⟩:=HS2.out.b.cells;go_upto_region 9 with fail
  generalize hz0:(if y.z<16 then 16 else y.z)=z at*
  have hz:z=16∨z=32:=by rcases A2R hfit with e|e|e<;>(rw[e]at hz0;simp at hz0;omega)
  have hzm:max y.z 16=z:=by rw[←hz0];split<;>omega
  generalize(if vc=q then va else Option.map (fun x=>x.add q) va)=sa at*
  have hbA:Below W3.heap.size W3 (W3.alloc (.cells #[.pointer (some ⟨M,0,none⟩),.int .i64 y.o,.int .i64 y.d,.int .i64 y.s,.int .i64 y.z,.int .i64 y.i,.int .i64 z,.bool false] 97)):=(Below.refl _ _).alloc (Nat.le_refl _) _;have hS4:=HS2.out.below hbA;have hB1:=HS2.out.b.lt;have htc:CellsAt (W3.alloc (.cells #[.pointer (some ⟨M,0,none⟩),.int .i64 y.o,.int .i64 y.d,.int .i64 y.s,.int .i64 y.z,.int .i64 y.i,.int .i64 z,.bool false] 97)) W3.heap.size [.pointer (some ⟨M,0,none⟩),.int .i64 y.o,.int .i64 y.d,.int .i64 y.s,.int .i64 y.z,.int .i64 y.i,.int .i64 z,.bool false]:=R6 (t:=97) (N5 _ _ _);have hst:=hS4.mm.toMSt (x:=y) (z:=z) (fl:=false) htc (by omega) (fun e=>by have:=(HS2.out.mm.own _ e).2;omega) (by have:=HS2.out.mm.bm;omega) hz;have HEX:=hid (A1K _ hst (B2 hfit) (A6a hfit));have hT:w.heap.size+1<W3.heap.size:=hB1;have hTM:M<W3.heap.size:=by omega
  have HS4:=hid hS4;have HFI:=hid hfit;have HZM:=hid hzm;have hW4:W3.heap.size<(W3.alloc (.cells #[.pointer (some ⟨M,0,none⟩),.int .i64 y.o,.int .i64 y.d,.int .i64 y.s,.int .i64 y.z,.int .i64 y.i,.int .i64 z,.bool false] 97)).heap.size:=by simp
  clear hS4 hst htc hbA hB1 x0 x1 x2 x3 x4 xf hfit hz0 hz hzm HS2 HCD HY hHeld c33 c34 c35 f35 HCH HEE hdec hb1;generalize W3.alloc (.cells #[.pointer (some ⟨M,0,none⟩),.int .i64 y.o,.int .i64 y.d,.int .i64 y.s,.int .i64 y.z,.int .i64 y.i,.int .i64 z,.bool false] 97)=W4 at*
  generalize W3.heap.size=T at*
  go_upto_region 10 with((with_reducible refine(HEX.out).mono ?_);rintro e w5 ⟨rfl,hex⟩;have HX:=hid hex;clear hex)
  have hch:Ch T M mv W4 w5:=HX.out.2;have hOW4:=HOW.out;have hkB:=HS4.out.k.block (hch.block w.heap.size (by omega) (by omega) (by omega) (fun e=>by have:=hOW4 _ e;omega));have hbB:Box5 w5 (w.heap.size+1) y.o y.d y.s y.z y.i:=(hch.block (w.heap.size+1) (by omega) (by omega) (by omega) (fun e=>by have:=hOW4 _ e;omega)).trans HS4.out.b;have HC5:=hid (HS4.out.ch.transT hch (by omega));have HK:=hid hkB;have HBX:=hid hbB;clear hkB hbB hch hOW4 HEX HS4;cases hX:exM y z c with
  |none=>
   obtain⟨c',hs5,hm5⟩:∃c',MSt base T M mv y z true c' w5∧c'.m=c.m:=by have:=HX.out.1;rw[hX]at this;exact this
   have hRe:=(HR.out.symm.trans (n9 HZM.out hX))
   clear HR;subst hRe;have ft:=hs5.ft.1;have mm5:=hs5.toMM;have c34:=(mm5.tailAt 2 _ rfl).1;rw[HMVE.out]at c34;have hsz:=HSZ.out;have hsz2:=HSZ2.out;have hone:=HONE.out;have hrg:=HK.out.range;have hth:w5.there M 0 cs.toArray.size:=mm5.m.there (by rw[HL.out,B1 mm5.rl]);have HM6:=hid (HMA.out _ _ mm5 hm5);have HC6:=hid (Ch.setCells cs 0 _ HC5.out);have hT5:T<w5.heap.size:=hs5.ltT;clear hs5 mm5 HX hX;go_upto_region 13 with(first|(refine wpList_load_mid rfl _ _ rfl w.heap.size 0 rfl cs _ hrg underlying26 rfl hsz ?_)|(refine wpList_store_mid rfl _ _ _ rfl M 0 cs.toArray rfl rfl hth hsz2 hone ?_))
   have HM7:=hid (HM6.out.setMvE);have k34:=(HM6.out.tailAt 2 _ rfl).1;have g34:=(HM6.out.tailAt 2 _ rfl).2;have k35:=(HM6.out.tailAt 3 _ rfl).1;have g35:=(HM6.out.tailAt 3 _ rfl).2;have hMl:M<(w5.setCells M 0 cs).heap.size:=by rw[J5];omega
   rw[HMVE.out]at k34;rw[HMVE.out]at HM7;clear ft c34 hsz hsz2 hone hrg hth hm5 hT5;generalize w5.setCells M 0 cs=W6 at*
   go_wp2_with fail
   refine bodyPost_end (v:=.tuple #[]) (by simp[results,results26,go_sem]) rfl ⟨rfl,?_,?_⟩
   ·rw[←HMVE.out];exact HM6.out.setMvE
   ·exact(HC6.out.setM _ _).setM _ _
  |some c'=>
   have hs5:MSt base T M mv y z false c' w5:=by have:=HX.out.1;rw[hX]at this;exact this
   have hRe:=(HR.out.symm.trans (T4 HZM.out hX))
   have ft:=hs5.ft.1;have mm5:=hs5.toMM;have HM5:=hid mm5;have hT5:T<w5.heap.size:=hs5.ltT;have hM5:M<w5.heap.size:=hs5.ltM;have c35:=(mm5.tailAt 3 _ rfl).1;clear hs5 mm5 HX hX HR;by_cases he:c'.e=0
   ·rw[he]at c35;rw[if_pos he]at hRe;have c33:=(HM5.out.tailAt 1 _ rfl).1;have f33:=(HM5.out.tailAt 1 _ rfl).2;have ab5:=HM5.out.ab;obtain⟨⟨x0,x1,x2,x3,x4⟩,xf⟩:=HBX.out.cells;have b32:w5.cell? ⟨w.heap.size,32,none⟩=some (.int .i64 c.f):=(HK.out 32 _ HCS.out.symm).1;go_upto_region 16 with fail
    have HM6:=hid (HM5.out.setA (n:=(c'.a+n)%4294967296) (by omega) (by omega));have hbx6:=HBX.out.block (W':=w5.setCell ⟨M,33,none⟩ (.int .u32 ((c'.a+n)%4294967296))) (Below.heap_setCell w5 ⟨M,33,none⟩ _ _ (by show w.heap.size+1≠M;omega));have hk6:=(HK.out.other (b':=M) (k:=33) (by omega) (.int .u32 ((c'.a+n)%4294967296)))
    have HC6:=hid (HC5.out.setM 33 (.int .u32 ((c'.a+n)%4294967296)));have HJ:=hid (fun wk=>show Calls prog 45 #[.agg #[.int .i64 y.o,.int .i64 y.d,.int .i64 y.s,.int .i64 y.z,.int .i64 y.i],.int .i64 c.f] wk (fun e w'=>e= .returned (.bool (a9 y c.f))∧Below wk.heap.size wk w')from A1j y c.f wk (A0x HFI.out) HPW.out.1 HPW.out.2);have hB6:w.heap.size+1<(w5.setCell ⟨M,33,none⟩ (.int .u32 ((c'.a+n)%4294967296))).heap.size:=hbx6.lt;have HRe:=hid hRe;obtain⟨a6,ha6⟩:∃a6,(c'.a+(n:Int))%4294967296=a6:=⟨_,rfl⟩
    have ha60:0≤a6∧a6<4294967296:=by omega
    have HA6:=hid ha6;rw[ha6]at hbx6 hk6 HM6 HC6 hB6⊢;clear ha6 hRe x0 x1 x2 x3 x4 xf b32 c33 f33 c35 ft HBX HK HC5 HM5 ab5;generalize w5.setCell ⟨M,33,none⟩ (.int .u32 a6)=W6 at*
    obtain⟨⟨x0,x1,x2,x3,x4⟩,xf⟩:=hbx6.cells;have b32:W6.cell? ⟨w.heap.size,32,none⟩=some (.int .i64 c.f):=(hk6 32 _ HCS.out.symm).1;have HBX:=hid hbx6;obtain⟨jb,hjb⟩:∃jb,a9 y c.f=jb:=⟨_,rfl⟩
    rw[hjb]at HJ HRe;clear hk6 hbx6 hjb;cases jb
    ·go_wp2_with((with_reducible refine(HJ.out _).mono ?_);rintro e w7 ⟨rfl,hb7⟩)
     have e9:(c'.a+(n:Int)+(if false=true then y.i else 0))%4294967296=a6:=by rw[if_neg (by decide),Int.add_zero];exact HA6.out
     refine bodyPost_end (v:=.tuple #[]) (by simp[results,results26,go_sem]) rfl ⟨rfl,?_,HC6.out.trans (Ch.of_below hb7)⟩;rw[HRe.out,e9];exact HM6.out.same hb7
    ·go_upto_region 17 with((with_reducible refine(HJ.out _).mono ?_);rintro e w7 ⟨rfl,hb7⟩)
     have hM7:=HM6.out.same hb7;have c33:=(hM7.tailAt 1 _ rfl).1;have f33:=(hM7.tailAt 1 _ rfl).2;have hM7l:=hM7.ltM;obtain⟨⟨-,-,-,-,y4⟩,-⟩:=(HBX.out.block (hb7.block _ hB6)).cells;have hB7:w.heap.size+1<w7.heap.size:=Nat.lt_of_lt_of_le hB6 hb7.size;have HM7:=hid hM7;have HC7:=hid (HC6.out.trans (Ch.of_below hb7));have e9:=hid (show(c'.a+(n:Int)+(if true=true then y.i else 0))%4294967296=(a6+y.i)%4294967296 by rw[if_pos rfl,←HA6.out];omega);have hbd:0≤(a6+y.i)%4294967296∧(a6+y.i)%4294967296<4294967296:=by omega
     have HM8:=hid ((hM7.setA hbd.1 hbd.2).same (Below.refl _ _).drew);have HC8:=hid ((HC7.out.setM 33 (.int .u32 ((a6+y.i)%4294967296))).drew);clear hM7 hb7 x0 x1 x2 x3 x4 xf b32 hbd ha60
     go_region
     go_wp2_with fail
     refine bodyPost_end (v:=.tuple #[]) (by simp[results,results26,go_sem]) rfl ⟨rfl,?_,HC8.out⟩;rw[HRe.out,e9.out];exact HM8.out
   ·rw[if_neg he]at hRe;have HRe:=hid hRe;have d0:(c'.e==0)=false:=by simpa using he
    clear hRe he;go_wp2_with fail
    refine bodyPost_end (v:=.tuple #[]) (by simp[results,results26,go_sem]) rfl ⟨rfl,?_,HC5.out⟩;rw[HRe.out];exact HM5.out
end Go.Proofs.YtdojafpjipcbjaaGreat
