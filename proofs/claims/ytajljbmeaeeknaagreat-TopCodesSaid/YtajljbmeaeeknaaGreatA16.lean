/- -/
import Derived.Deep.QuietTactic
import Derived.Deep.CutRange
import Derived.Deep.DeepMust
import Derived.Laws.BitsAllLaws
import Derived.Laws.Entries
import Derived.Test.YtajljbmeaeeknaaGreatA2
import Derived.Test.YtajljbmeaeeknaaGreatA14
import Derived.Test.YtajljbmeaeeknaaGreatA15
open Go.Proofs.Tryz
open Go.Lib (hid)
set_option maxHeartbeats 1000000
set_option maxRecDepth 100000
namespace Go.Proofs.YtajljbmeaeeknaaGreat
open Go.RowKit
set_option linter.unusedVariables false
set_option linter.unusedSimpArgs false
theorem A0I{x:Ins}(h:okI x=true):0<(B5 x).length∧(B5 x).length≤8:=by
 obtain⟨o,d,s,z,i⟩:=x;have hz:=F6 h;have ho:=A1t h;simp only at ho hz;have hz3:z=8∨z=16∨z=32:=by
  unfold szI at hz
  repeat(first|(split at hz;·simp at hz;omega)|(simp at hz;done))
 rcases(show o=0∨o=1∨o=2∨o=3∨o=4∨o=5∨o=6∨o=7∨o=8∨o=9∨o=10∨o=11∨o=12∨o=13∨o=14∨o=15∨o=16∨o=17∨o=18∨o=19∨o=20∨o=21∨o=22∨o=23∨o=24∨o=25∨o=26∨o=27∨o=28∨o=29∨o=30∨o=31∨o=32∨o=33∨o=34∨o=35∨o=36 by omega)with rfl|rfl|rfl|rfl|rfl|rfl|rfl|rfl|rfl|rfl|rfl|rfl|rfl|rfl|rfl|rfl|rfl|rfl|rfl|rfl|rfl|rfl|rfl|rfl|rfl|rfl|rfl|rfl|rfl|rfl|rfl|rfl|rfl|rfl|rfl|rfl|rfl
 all_goals rcases hz3 with rfl|rfl|rfl
 all_goals first|(simp[B5,mmB,A8];done)|(unfold B5;simp[mmB,A8];split<;>simp[A8])
theorem B6K(o d s z i:Int)(w:World)(hok:okI ⟨o,d,s,z,i⟩=true)(hz:(z==16)=false):Calls prog 65 #[.agg #[.int .i64 o,.int .i64 d,.int .i64 s,.int .i64 z,.int .i64 i]] w fun e w'=>∃v,e= .returned v∧RowI w' w.heap.size 5 .u8 v (B5 ⟨o,d,s,z,i⟩)∧Below w.heap.size w w':=by
 obtain⟨i0,hi0,hz0,hz1,hz2⟩:=info_parts J2;obtain⟨o0,o1⟩:=A1t hok;have C0:=hid (fun w=>R5 o w o0 o1);have hlen:=A0I hok;have C2:Hid (∀(w:World) (G:FuncId) (cs:Array Value),(∀x:Ins,x.o=o→okI x=true→Calls prog G (#[L9 x]++cs) w fun e w'=>∃v,e= .returned v∧RowI w' w.heap.size 5 .u8 v (B5 x)∧Below w.heap.size w w')→Calls prog G (#[.agg #[.int .i64 o,.int .i64 d,.int .i64 s,.int .i64 z,.int .i64 i]]++cs) w fun e w'=>∃v,e= .returned v∧RowI w' w.heap.size 5 .u8 v (B5 ⟨o,d,s,z,i⟩)∧Below w.heap.size w w'):=fun w G cs h=>h ⟨o,d,s,z,i⟩ rfl hok
 generalize B5 ⟨o,d,s,z,i⟩=ys at*
 have HPOS:Hid (0<ys.length):=hlen.1;have HLEN:Hid (([(102:Int)]).length+ys.length≤100000):=by show _≤_;simp;omega
 have HY5:Hid (ys.length≤140737488351232):=by show _≤_;omega
 clear o0 o1 hok hlen;go_enter func65,ntmps65;go_wp2_with(first|((go_at_call 93;refine(C0.out _).mono ?_);rintro e w1 ⟨k,rfl,hk,hb⟩;obtain⟨F,W,cF,cW,g,rfl⟩:=hk.shape;obtain⟨eF,eW,hu⟩:=hk.use;clear hk;have HU:=hid (hu _ (show Since w1 (w1.alloc (.cells #[.func (.func F) #[] cF,.slice (some ⟨g,0,none⟩) (szI o).length (szI o).length,.func (.func W) #[] cW] 178))from(Below.refl _ _).alloc (Nat.le_refl _) _));clear hu;have HB:=hid hb;have x0:w1.cell? ⟨w.heap.size,0,none⟩=some (.int .i64 o):=C9 hb 0;have x1:w1.cell? ⟨w.heap.size,1,none⟩=some (.int .i64 d):=C9 hb 1;have x2:w1.cell? ⟨w.heap.size,2,none⟩=some (.int .i64 s):=C9 hb 2;have x3:w1.cell? ⟨w.heap.size,3,none⟩=some (.int .i64 z):=C9 hb 3;have x4:w1.cell? ⟨w.heap.size,4,none⟩=some (.int .i64 i):=C9 hb 4;have hlt:w.heap.size<w1.heap.size:=(by have:=hb.size;simp at this;omega);clear hb)|((with_reducible refine(C2.out _ _ _ HU.out.2.2).mono ?_);rintro e w3 ⟨v3,rfl,hr3,hb3⟩;have HB3:=hid (A7 (A7 HB.out ((Below.refl _ _).alloc (Nat.le_refl _) (.cells #[.func (.func F) #[] cF,.slice (some ⟨g,0,none⟩) (szI o).length (szI o).length,.func (.func W) #[] cW] 178))) hb3);have y3:w3.cell? ⟨w.heap.size,3,none⟩=some (.int .i64 z):=C9 HB3.out 3;have HS3:=hid (C5 HB3.out).size;have HR3:=hid (hr3.mono (show w.heap.size≤_ by simp;omega));clear hr3 hb3;obtain⟨a3,n3,rfl⟩:=HR3.out.shape))
 go_ret;exact⟨_,rfl,HR3.out,C5 HB3.out⟩
theorem B5a(o d s z i:Int)(w:World)(hok:okI ⟨o,d,s,z,i⟩=true)(hz:(z==16)=true):Calls prog 65 #[.agg #[.int .i64 o,.int .i64 d,.int .i64 s,.int .i64 z,.int .i64 i]] w fun e w'=>∃v,e= .returned v∧RowI w' w.heap.size 5 .u8 v (102::B5 ⟨o,d,s,z,i⟩)∧Below w.heap.size w w':=by
 obtain⟨i0,hi0,hz0,hz1,hz2⟩:=info_parts J2;obtain⟨o0,o1⟩:=A1t hok;have C0:=hid (fun w=>R5 o w o0 o1);have hlen:=A0I hok;have C2:Hid (∀(w:World) (G:FuncId) (cs:Array Value),(∀x:Ins,x.o=o→okI x=true→Calls prog G (#[L9 x]++cs) w fun e w'=>∃v,e= .returned v∧RowI w' w.heap.size 5 .u8 v (B5 x)∧Below w.heap.size w w')→Calls prog G (#[.agg #[.int .i64 o,.int .i64 d,.int .i64 s,.int .i64 z,.int .i64 i]]++cs) w fun e w'=>∃v,e= .returned v∧RowI w' w.heap.size 5 .u8 v (B5 ⟨o,d,s,z,i⟩)∧Below w.heap.size w w'):=fun w G cs h=>h ⟨o,d,s,z,i⟩ rfl hok
 generalize B5 ⟨o,d,s,z,i⟩=ys at*
 have HPOS:Hid (0<ys.length):=hlen.1;have HLEN:Hid (([(102:Int)]).length+ys.length≤100000):=by show _≤_;simp;omega
 have HY5:Hid (ys.length≤140737488351232):=by show _≤_;omega
 clear o0 o1 hok hlen;go_enter func65,ntmps65;go_wp2_with(first|((go_at_call 93;refine(C0.out _).mono ?_);rintro e w1 ⟨k,rfl,hk,hb⟩;obtain⟨F,W,cF,cW,g,rfl⟩:=hk.shape;obtain⟨eF,eW,hu⟩:=hk.use;clear hk;have HU:=hid (hu _ (show Since w1 (w1.alloc (.cells #[.func (.func F) #[] cF,.slice (some ⟨g,0,none⟩) (szI o).length (szI o).length,.func (.func W) #[] cW] 178))from(Below.refl _ _).alloc (Nat.le_refl _) _));clear hu;have HB:=hid hb;have x0:w1.cell? ⟨w.heap.size,0,none⟩=some (.int .i64 o):=C9 hb 0;have x1:w1.cell? ⟨w.heap.size,1,none⟩=some (.int .i64 d):=C9 hb 1;have x2:w1.cell? ⟨w.heap.size,2,none⟩=some (.int .i64 s):=C9 hb 2;have x3:w1.cell? ⟨w.heap.size,3,none⟩=some (.int .i64 z):=C9 hb 3;have x4:w1.cell? ⟨w.heap.size,4,none⟩=some (.int .i64 i):=C9 hb 4;have hlt:w.heap.size<w1.heap.size:=(by have:=hb.size;simp at this;omega);clear hb)|((with_reducible refine(C2.out _ _ _ HU.out.2.2).mono ?_);rintro e w3 ⟨v3,rfl,hr3,hb3⟩;have HB3:=hid (A7 (A7 HB.out ((Below.refl _ _).alloc (Nat.le_refl _) (.cells #[.func (.func F) #[] cF,.slice (some ⟨g,0,none⟩) (szI o).length (szI o).length,.func (.func W) #[] cW] 178))) hb3);have y3:w3.cell? ⟨w.heap.size,3,none⟩=some (.int .i64 z):=C9 HB3.out 3;have HS3:=hid (C5 HB3.out).size;have HR3:=hid (hr3.mono (show w.heap.size≤_ by simp;omega));clear hr3 hb3;obtain⟨a3,n3,rfl⟩:=HR3.out.shape)|(at_builtin;refine Q7 rfl _ _ 28 rfl w.heap.size 5 i0 1 underlying28 hi0 hz0 hz1 hz2 (by decide) _ [102] rfl (RowI.lit w3 #[.int .u8 102] [102] .u8 5 w.heap.size 1 HS3.out rfl rfl (by unfold maxLen;simp)) _ ys rfl ((HR3.out.below ((Below.refl _ _).alloc (Nat.le_refl _) _)).ints HY5.out) HPOS.out HLEN.out ?c5 ?_))
 case c5=>have:=HS3.out;simp;omega
 intro v9 w9 hr9 hb9;have HR9:=hid hr9;have HB9:Hid (Below w.heap.size w w9):=((C5 HB3.out).trans (((Below.refl w3.heap.size w3).alloc (Nat.le_refl _) _).mono HS3.out)).trans hb9;clear hr9 hb9;go_wp2_with fail
 go_ret;exact⟨_,rfl,HR9.out,HB9.out⟩
theorem r9(x:Ins)(w:World)(hok:okI x=true):Calls prog 65 #[L9 x] w fun e w'=>∃v,e= .returned v∧RowI w' w.heap.size 5 .u8 v (K4 x)∧Below w.heap.size w w':=by
 obtain⟨o,d,s,z,i⟩:=x;unfold K4;by_cases c:z=16
 ·rw[if_pos c];exact B5a o d s z i w hok (by simpa using c)
 ·rw[if_neg c];exact B6K o d s z i w hok (by simpa using c)
theorem l8{x:Ins}(h:okI x=true):0<(K4 x).length∧(K4 x).length≤9:=by
 have:=A0I h;unfold K4
 split
 ·simp;omega
 ·omega
theorem A0d(x:Ins)(w:World)(hok:okI x=true):Calls prog 30 #[L9 x] w fun e w'=>∃v,e= .returned (.tuple #[v,.int .i64 0])∧RowI w' w.heap.size 5 .u8 v (K4 x)∧Below w.heap.size w w':=by
 have C0:=hid (fun w=>by have h:=O2 x w;rw[show vaI x=0 by unfold vaI;rw[if_pos hok]]at h;exact h);have C1:=hid (fun w=>r9 x w hok);generalize K4 x=ys at*
 clear hok;obtain⟨o,d,s,z,i⟩:=x;unfold L9 at*
 simp only at C0 C1⊢;go_enter func30,ntmps30;go_wp2_with(first|((with_reducible refine(C0.out _).mono ?_);rintro e w1 ⟨rfl,hb⟩;have HB:=hid hb;have x0:w1.cell? ⟨w.heap.size,0,none⟩=some (.int .i64 o):=C9 hb 0;have x1:w1.cell? ⟨w.heap.size,1,none⟩=some (.int .i64 d):=C9 hb 1;have x2:w1.cell? ⟨w.heap.size,2,none⟩=some (.int .i64 s):=C9 hb 2;have x3:w1.cell? ⟨w.heap.size,3,none⟩=some (.int .i64 z):=C9 hb 3;have x4:w1.cell? ⟨w.heap.size,4,none⟩=some (.int .i64 i):=C9 hb 4;clear hb)|((with_reducible refine(C1.out _).mono ?_);rintro e w2 ⟨v2,rfl,hr2,hb2⟩;have HR2:=hid hr2;have HB2:=hid hb2;clear hr2 hb2))
 go_ret2
 exact⟨_,rfl,HR2.out.mono (C5 HB.out).size,A7 (C5 HB.out) HB2.out⟩
theorem A8N(x:Ins)(w:World)(hok:okI x=true):Calls prog 29 #[L9 x] w fun e w'=>e= .returned (.tuple #[.int .i64 (K4 x).length,.int .i64 0])∧Below w.heap.size w w':=by
 have C0:=hid (fun w=>A0d x w hok);generalize K4 x=ys at*
 clear hok;obtain⟨o,d,s,z,i⟩:=x;unfold L9 at*
 simp only at C0⊢;go_enter func29,ntmps29;go_wp2_with((with_reducible refine(C0.out _).mono ?_);rintro e w1 ⟨v1,rfl,hr,hb⟩;have HR:=hid hr;have HB:=hid hb;clear hr hb;obtain⟨a1,n1,rfl⟩:=HR.out.shape)
 go_ret2
 exact⟨rfl,C5 HB.out⟩
structure But(B:Nat)(w w':World):Prop where
 os:w'.os=w.os
 tape:w'.tape=w.tape
 output:w'.output=w.output
 size:w.heap.size≤w'.heap.size
 block:∀k,k<w.heap.size→k≠B→w'.heap[k]? =w.heap[k]?
theorem But.refl(B:Nat)(w:World):But B w w:=⟨rfl,rfl,rfl,Nat.le_refl _,fun _ _ _=>rfl⟩
theorem But.trans{B:Nat}{w w1 w2:World}(h:But B w w1)(h':But B w1 w2):But B w w2:=
 ⟨h'.os.trans h.os,h'.tape.trans h.tape,h'.output.trans h.output,Nat.le_trans h.size h'.size,fun k hk hn=>(h'.block k (Nat.lt_of_lt_of_le hk h.size) hn).trans (h.block k hk hn)⟩
theorem But.of_below{B:Nat}{w w':World}(h:Below w.heap.size w w'):But B w w':=⟨h.os,h.tape,h.output,h.size,fun k hk _=>h.block k hk⟩
theorem But.below{B:Nat}{w w':World}(h:But B w w')(hB:B≤w.heap.size):Below B w w':=⟨h.os,h.tape,h.output,h.size,fun k hk=>h.block k (by omega) (by omega)⟩
theorem But.setCell{B:Nat}{w w':World}(h:But B w w')(o:Nat)(v:Value):But B w (w'.setCell ⟨B,o,none⟩ v):=
 ⟨h.os,h.tape,h.output,Nat.le_trans h.size (by simp[World.setCell]),fun k hk hn=>(Below.heap_setCell w' ⟨B,o,none⟩ v k hn).trans (h.block k hk hn)⟩
theorem But.drewN{B:Nat}{w w':World}(h:But B w w')(n:Nat):But B w (w'.drewN n):=⟨h.os,h.tape,h.output,h.size,h.block⟩
theorem But.drew{B:Nat}{w w':World}(h:But B w w'):But B w w'.drew:=⟨h.os,h.tape,h.output,h.size,h.block⟩
theorem But.alloc{B:Nat}{w w':World}(h:But B w w')(o:Obj):But B w (w'.alloc o):=
 ⟨h.os,h.tape,h.output,Nat.le_trans h.size (by simp),fun k hk hn=>(Below.heap_alloc w' o k (Nat.lt_of_lt_of_le hk h.size)).trans (h.block k hk hn)⟩
theorem But.cell{B:Nat}{w w':World}(h:But B w w'){b o:Nat}{v:Value}(hb:b≠B)(hc:w.cell? ⟨b,o,none⟩=some v):w'.cell? ⟨b,o,none⟩=some v:=by
 rw[←hc];exact World.cell?_of_block (w:=w) (h.block b (F9 hc) hb)
def Off(B:Nat)(v:Value):Prop:=∀b q n c,v= .slice (some ⟨b,q,none⟩) n c→0<n→b≠B
theorem Ints.but{k:IntKind}{B:Nat}{w w':World}{v:Value}{xs:List Int}(h:Ints k w v xs)(hc:But B w w')(hT:Off B v):Ints k w' v xs:=by
 obtain⟨a,c,rfl,h1,h2,h3,h4⟩:=h;refine⟨a,c,rfl,h1,h2,h3,fun i hi=>?_⟩;obtain⟨b,o,rfl,h5,h6⟩:=h4 i hi;exact⟨b,o,rfl,Nat.lt_of_lt_of_le h5 hc.size,hc.cell (hT b o _ _ rfl (by omega)) h6⟩
def Rdr(w:World)(B:Nat)(v:Value)(m n:Nat):Prop:=
 w.heap[B]? =some (.cells #[v,.int .i64 (min n m:Nat),.bool (decide (m<n))] 183)
theorem Rdr.lt{w:World}{B:Nat}{v:Value}{m n:Nat}(h:Rdr w B v m n):B<w.heap.size:=(Array.getElem?_eq_some_iff.1 h).1
theorem Rdr.c0{w:World}{B:Nat}{v:Value}{m n:Nat}(h:Rdr w B v m n):w.cell? ⟨B,0,none⟩=some v:=by simp[World.cell?,show w.heap[B]? =_ from h]
theorem Rdr.c1{w:World}{B:Nat}{v:Value}{m n:Nat}(h:Rdr w B v m n):w.cell? ⟨B,1,none⟩=some (.int .i64 (min n m:Nat)):=by simp[World.cell?,show w.heap[B]? =_ from h]
theorem Rdr.c2{w:World}{B:Nat}{v:Value}{m n:Nat}(h:Rdr w B v m n):w.cell? ⟨B,2,none⟩=some (.bool (decide (m<n))):=by simp[World.cell?,show w.heap[B]? =_ from h]
theorem Rdr.free{w:World}{B:Nat}{v:Value}{m n:Nat}(h:Rdr w B v m n)(i:Nat):w.frozen? ⟨B,i,none⟩=false:=by simp[World.frozen?,show w.heap[B]? =_ from h]
theorem Rdr.below{w w':World}{B:Nat}{v:Value}{m n:Nat}(h:Rdr w B v m n)(hb:Below w.heap.size w w'):Rdr w' B v m n:=(hb.block B h.lt).trans h
theorem Rdr.drewN{w:World}{B:Nat}{v:Value}{m n:Nat}(h:Rdr w B v m n)(k:Nat):Rdr (w.drewN k) B v m n:=h
theorem Rdr.more{w:World}{B:Nat}{v:Value}{m n:Nat}(h:Rdr w B v m n)(hn:n<m):Rdr (w.setCell ⟨B,1,none⟩ (.int .i64 ((n:Int)+1))) B v m (n+1):=by
 unfold Rdr;simp only[World.setCell,Array.getElem?_modify,show w.heap[B]? =_ from h];simp[Nat.min_eq_left (show n+1≤m by omega),decide_eq_false (show¬m<n by omega),decide_eq_false (show¬m<n+1 by omega)]
theorem Rdr.end_{w:World}{B:Nat}{v:Value}{m n:Nat}(h:Rdr w B v m n)(hn:m≤n):Rdr (w.setCell ⟨B,2,none⟩ (.bool true)) B v m (n+1):=by
 unfold Rdr;simp only[World.setCell,Array.getElem?_modify,show w.heap[B]? =_ from h];simp[Nat.min_eq_right hn,Nat.min_eq_right (show m≤n+1 by omega),decide_eq_true (show m<n+1 by omega)]
theorem A6T(v:Value)(B m n:Nat)(w:World)(hr:Rdr w B v m n)(hs:∃a c,v= .slice a m c)(hn:m≤n)(hm:m≤140737488351232):Calls prog 122 #[.pointer (some ⟨B,0,none⟩)] w fun e w'=>e= .returned (.int .u8 0)∧Rdr w' B v m (n+1)∧But B w w':=by
 obtain⟨a,c,rfl⟩:=hs;have c0:=hr.c0;have c1:=hr.c1;rw[Nat.min_eq_right hn]at c1;have c2:=hr.c2;have f2:=hr.free 2;have hlt:=hr.lt;have HR:=hid (fun k=>(hr.drewN k).end_ hn);have HB:=hid (fun k=>((But.refl B w).drewN k).setCell 2 (.bool true));have d0:decide ((m:Int)≤m)=true:=decide_eq_true (Int.le_refl _);have d1:decide ((m:Int)≥m)=true:=decide_eq_true (Int.le_refl _);clear hr hn;go_enter func122,ntmps122;go_wp2_with fail
 go_quiet(fail)
 go_wp2_with fail
 go_ret;exact⟨rfl,HR.out _,HB.out _⟩
theorem A8k(v:Value)(B m n:Nat)(x:Int)(w:World)(hr:Rdr w B v m n)(b q c:Nat)(hv:v= .slice (some ⟨b,q,none⟩) m c)(hc:w.cell? ⟨b,q+n,none⟩=some (.int .u8 x))(hb:b≠B)(hn:n<m)(hm:m≤140737488351232):Calls prog 122 #[.pointer (some ⟨B,0,none⟩)] w fun e w'=>e= .returned (.int .u8 x)∧Rdr w' B v m (n+1)∧But B w w':=by
 subst hv;have c0:=hr.c0;have c1:=hr.c1;rw[Nat.min_eq_left (by omega)]at c1;have f1:=hr.free 1;have hlt:=hr.lt;have hlb:=F9 hc;have HR:=hid (fun k=>(hr.drewN k).more hn);have HB:=hid (fun k=>((But.refl B w).drewN k).setCell 1 (.int .i64 ((n:Int)+1)));have d0:decide ((m:Int)≤n)=false:=decide_eq_false (by omega);have d1:decide ((n:Int)≥m)=false:=decide_eq_false (by omega);go_enter func122,ntmps122;go_wp2_with fail
 go_quiet(fail)
 go_wp2_with fail
 go_quiet(fail)
 go_wp2_with fail
 go_ret;exact⟨rfl,HR.out _,(HB.out _).drewN _⟩
structure RdL(w:World)(B:Nat)(v:Value)(l:List Int)(n:Nat):Prop where
 r:Rdr w B v l.length n
 l:Ints .u8 w v l
 off:Off B v
theorem RdL.stays{w w':World}{B:Nat}{v:Value}{l:List Int}{n:Nat}(h:RdL w B v l n)(hb:Below w.heap.size w w'):RdL w' B v l n:=⟨h.r.below hb,h.l.stays hb,h.off⟩
theorem C6(v:Value)(B n:Nat)(l:List Int)(w:World)(h:RdL w B v l n):Calls prog 122 #[.pointer (some ⟨B,0,none⟩)] w fun e w'=>e= .returned (.int .u8 (l.getD n 0))∧RdL w' B v l (n+1)∧But B w w':=by
 obtain⟨hr,hl,ho⟩:=h;obtain⟨a,c,e,hm1,hm⟩:=hl.shape;rcases Nat.lt_or_ge n l.length with hn|hn
 ·obtain⟨b,q,c,e,h1,h2,h3⟩:=hl.at hn;exact(A8k v B l.length n (l.getD n 0) w hr b q c e h3 (ho b q _ _ e (by omega)) hn hm).mono fun e w' h=>⟨h.1,⟨h.2.1,hl.but h.2.2 ho,ho⟩,h.2.2⟩
 ·rw[show l.getD n 0=0 by simp[List.getD,List.getElem?_eq_none hn]];exact(A6T v B l.length n w hr ⟨a,c,e⟩ hn hm).mono fun e w' h=>⟨h.1,⟨h.2.1,hl.but h.2.2 ho,ho⟩,h.2.2⟩
theorem But.box{B:Nat}{w w1:World}{cs:Array Value}{T:TypeId}(h:But B (w.alloc (.cells cs T)) w1)(hB:B<w.heap.size)(i:Nat):w1.cell? ⟨w.heap.size,i,none⟩=cs[i]? ∧w1.frozen? ⟨w.heap.size,i,none⟩=false:=by
 have e:=h.block w.heap.size (by simp) (by omega);refine⟨(World.cell?_of_block (w:=w.alloc (.cells cs T)) e).trans ?_,(World.frozen?_of_block (w:=w.alloc (.cells cs T)) e).trans ?_⟩
 ·simp[go_sem]
 ·simp[go_sem]
theorem But.setNew{B b:Nat}{w w':World}(h:But B w w')(hb:w.heap.size≤b)(o:Nat)(v:Value):But B w (w'.setCell ⟨b,o,none⟩ v):=
 ⟨h.os,h.tape,h.output,Nat.le_trans h.size (by simp[World.setCell]),fun k hk hn=>(Below.heap_setCell w' ⟨b,o,none⟩ v k (by show k≠b;omega)).trans (h.block k hk hn)⟩
theorem Rdr.setNew{w:World}{B b:Nat}{v:Value}{m n:Nat}(h:Rdr w B v m n)(hb:B≠b)(o:Nat)(u:Value):Rdr (w.setCell ⟨b,o,none⟩ u) B v m n:=(Below.heap_setCell w ⟨b,o,none⟩ u B hb).trans h
theorem E3(v:Value)(B n:Nat)(l:List Int)(w:World)(h:RdL w B v l n)(h0:0≤l.getD n 0)(h1:l.getD n 0<256):Calls prog 124 #[.pointer (some ⟨B,0,none⟩)] w fun e w'=>e= .returned (.agg #[.int .i64 (rF (l.getD n 0)),.int .i64 (mF (l.getD n 0)),.bool (l.getD n 0 / 64==2)])∧RdL w' B v l (n+1)∧But B w w':=by
 have hlt:=h.r.lt;have HL:=hid h;have HB0:Hid (But B w (w.alloc (.cells #[.int .i64 0,.int .i64 0,.bool false] 209))):=hid ((But.refl B w).alloc _);have C0:=hid (C6 v B n l (w.alloc (.cells #[.int .i64 0,.int .i64 0,.bool false] 209)) (h.stays ((Below.refl _ _).alloc (Nat.le_refl _) _)));generalize l.getD n 0=x at*
 go_enter func124,ntmps124;go_wp2_with((with_reducible refine C0.out.mono ?_);rintro e w1 ⟨rfl,hr1,hb1⟩;have HR1:=hid hr1;have HB1:=hid hb1;clear hr1;have y0:=(hb1.box hlt 0).1;have y1:=(hb1.box hlt 1).1;have y2:=(hb1.box hlt 2).1;have f0:=(hb1.box hlt 0).2;have f1:=(hb1.box hlt 1).2;have f2:=(hb1.box hlt 2).2;clear hb1;simp only[List.getElem?_toArray,List.getElem?_cons_zero,List.getElem?_cons_succ]at y0 y1 y2)
 have HB2:=((HB0.out.trans HB1.out).setNew (Nat.le_refl _) 0 (.int .i64 (x / 8%8))).setNew (Nat.le_refl _) 1 (.int .i64 (x%8))|>.setNew (Nat.le_refl _) 2 (.bool (x / 64==2))
 have hne:B≠w.heap.size:=by omega
 refine bodyPost_ret (v:=.agg #[.int .i64 (rF x),.int .i64 (mF x),.bool (x / 64==2)]) (by simp[results,results124,go_sem,rF,mF,y0,y1,y2]) rfl ⟨rfl,?_,?_⟩
 ·exact⟨((HR1.out.r.setNew hne _ _).setNew hne _ _).setNew hne _ _,HL.out.l.but HB2 HL.out.off,HL.out.off⟩
 ·exact HB2
section
variable {P : Program} {l : List Oper} {Q : Exit → Act → World → Prop} {md : Region.Mode} {S : World → Prop}
theorem O1(i:Nat){oi:Oper}{v:Value}{fuel:Nat}{listed:Array Bool}{a:Act}{w:World}(hi:(l.drop i).head? =some oi)
  (hs:Region.noSelect l.toArray=true) (hf:Region.free md l.toArray listed i=true) (hr:(Region.ready md l.toArray listed).contains i=true)
  (hQ:∀c a w,Q (.panic c) (a.put oi.dst v) w→Q (.panic c) a w) (hy:YieldsIf P l.toArray S oi v a) (hS:S w)
  (h:wpAnyH P md l.toArray Q S fuel (listed.setIfInBounds i true) (a.put oi.dst v) w):wpAnyH P md l.toArray Q S (fuel+1) listed a w:=
 wpAnyH_take (i:=i) (by rw[←hi,List.head?_drop];simp) hs hf hr hQ hy hS h
theorem I3(i:Nat){fuel:Nat}{listed:Array Bool}{a:Act}{w:World}{o:Oper}{rs:List Nat}(ho:(l.drop i).head? =some o)
  (h:∀K':Act→World→Prop,Shut (∀a w,S w→(S w→wpAnyH P md l.toArray Q S fuel (listed.setIfInBounds i true) a w)→K' a w)→if Region.wanted o (yielded l.toArray a.tmps)=true then Oper.wp P o a w K' Q else K' (a.put o.dst undef) w)
  (hs:AllReadyH P md l.toArray Q S fuel listed a w rs):AllReadyH P md l.toArray Q S fuel listed a w (i::rs):=
 AllReadyH.cons (by rw[←ho,List.head?_drop];simp) h hs
end
def MRet(x:Ins)(w:World)(e:Ending)(w':World):Prop:=∃v ok,e= .returned (.tuple #[v,.bool ok])∧ok=okI x∧(okI x=true→RowI w' w.heap.size 5 .u8 v (B5 x))∧Below w.heap.size w w'
theorem MRet.mk{x:Ins}{w w':World}{v:Value}{ok:Bool}(h1:ok=okI x)(h2:okI x=true→RowI w' w.heap.size 5 .u8 v (B5 x))(h3:Below w.heap.size w w'):MRet x w (.returned (.tuple #[v,.bool ok])) w':=⟨v,ok,rfl,h1,h2,h3⟩
section
variable {w : World}
theorem R9{ops:Array Oper}{rest:List Oper}{o:Oper}{a:Act}{Q:Exit→Act→World→Prop}(hgd:o.guard=none)(s x:Operand)
  (ho:o.op= .call {callee:=.builtin .append,args:=#[s,x],argTypes:=#[28,28]}) (base:Nat) (v:Value) (xs:List Int) (hs:a.eval s=v) (hown:RowI w base 5 .u8 v xs)
  (u:Value) (ys:List Int) (hx:a.eval x=u) (hu:Ints .u8 w u ys) (hm:0<ys.length) (hl:xs.length+ys.length≤100000) (hbase:base≤w.heap.size)
  (h:∀v' w',RowI w' base 5 .u8 v' (xs++ys)→Below base w w'→wpList prog ops Q rest (a.put o.dst v') w'):wpList prog ops Q (o::rest) a w:=by
 obtain⟨i0,hi0,hz0,hz1,hz2⟩:=info_parts J2;exact Q7 hgd s x _ ho base _ i0 1 underlying28 hi0 hz0 hz1 hz2 (by decide) v xs hs hown u ys hx hu hm hl hbase h
end
end Go.Proofs.YtajljbmeaeeknaaGreat
namespace Go.Proofs.YtajljbmeaeeknaaGreat
open Go.RowKit
set_option linter.unusedVariables false
set_option linter.unusedSimpArgs false
theorem RowI.but{w w':World}{base B:Nat}{e:TypeId}{k:IntKind}{v:Value}{xs:List Int}(h:RowI w base e k v xs)(hc:But B w w')(hB:B<base):RowI w' base e k v xs:=by
 obtain⟨h0,h1|⟨g,cap,cur,rfl,hb',hg,h2⟩⟩:=h
 ·exact⟨h0,.inl h1⟩
 ·exact⟨h0,.inr ⟨g,cap,cur,rfl,hb',by rw[hc.block g ((Array.getElem?_eq_some_iff.1 hg).1) (by omega)];exact hg,h2⟩⟩
theorem But.then_below{B base:Nat}{w w1 w':World}(h:But B w w1)(hb:Below base w1 w')(hs:w.heap.size≤base):But B w w':=
 ⟨hb.os.trans h.os,hb.tape.trans h.tape,hb.output.trans h.output,Nat.le_trans h.size hb.size,fun k hk hn=>(hb.block k (by omega)).trans (h.block k hk hn)⟩
def rdN(l:List Int)(n:Nat):Nat→List Int
 |0=>[]
 |k+1=>rdN l n k++[l.getD (n+k) 0]
theorem K8(l:List Int)(n k:Nat):(rdN l n k).length=k:=by
 induction k with
 |zero=>rfl
 |succ k ih=>simp[rdN,ih]
theorem A4T(v:Value)(B n k:Nat)(l:List Int)(w:World)(h:RdL w B v l n)(hk:k≤4)(rd:Int)(hrd:∀v1 w1,Ints .u8 w1 v1 (rdN l n k)→Calls prog 161 #[v1] w1 fun e w'=>e= .returned (.int .u32 rd)∧w1=w'):
  Calls prog 126 #[.pointer (some ⟨B,0,none⟩),.int .i64 k] w fun e w'=>e= .returned (.int .u32 rd)∧RdL w' B v l (n+k)∧But B w w':=by
 have hlt:=h.r.lt;have HK:=hid hk;have HL:=hid h;have HRD:=hid hrd;have HBW:=hid hlt;clear hrd hk h;go_enter func126,ntmps126;go_wp2_with fail
 go_loopw[5,7] (fun bv jv wr=>∃j:Nat,j≤k∧RowI wr w.heap.size 5 .u8 bv (rdN l n j)∧jv= .int .i64 j∧RdL wr B v l (n+j)∧But B w wr) (fun _ jv _=>k-(intOf jv).toNat)
 case atStart=>exact⟨0,Nat.zero_le _,RowI.nil _ _ _ _,rfl,HL.out,But.refl _ _⟩
 case round=>
  obtain⟨j,hj,hrow,rfl,hrl,hbt⟩:=hrel;have HROW:=hid hrow;have HRL:=hid hrl;have HBT:=hid hbt;clear hrow hrl hbt;by_cases hlt2:j<k
  ·have hj4:(j:Int)≤4:=(by have:=HK.out;omega)
   have d0:decide (j<k)=true:=decide_eq_true hlt2;have d1:decide ((j:Int)<k)=true:=decide_eq_true (by omega);have C0:=hid (C6 v B (n+j) l _ HRL.out);go_wp2_with(first|((with_reducible refine C0.out.mono ?_);rintro e w1 ⟨rfl,hr1,hb1⟩;have HR1:=hid hr1;have HB1:=hid hb1;clear hr1 hb1)|(at_builtin;go_must (refine R9 rfl _ _ rfl w.heap.size _ (rdN l n j) rfl ((HROW.out.but HB1.out HBW.out).below ((Below.refl _ _).alloc (Nat.le_refl _) _)) _ [l.getD (n+j) 0] rfl ((RowI.lit w1 _ [l.getD (n+j) 0] .u8 5 w1.heap.size 1 (Nat.le_refl _) rfl rfl (by simp[maxLen])).ints (by simp)) (by simp) ?c3 ?c4 ?_)))
   case c3=>rw[K8];have:=HK.out;simp;omega
   case c4=>have h1:=HBT.out.size;have h2:=HB1.out.size;simp;omega
   intro v' w' hr hb;have HW:=((HBT.out.trans HB1.out).alloc (.cells #[.int .u8 (l.getD (n+j) 0)] 5)).then_below hb (Nat.le_refl _);have HR2:=hid hr;have HB2:=hid HW;have HB3:=hid hb;clear hr hb HW;go_wp2_with fail
   go_roundw
   case rel=>exact⟨j+1,hlt2,HR2.out,by go_num,⟨(HB3.out.block B HBW.out).trans ((Below.heap_alloc w1 _ B HR1.out.r.lt).trans HR1.out.r),HL.out.l.but HB2.out HL.out.off,HL.out.off⟩,HB2.out⟩
   case measure=>simp[intOf];omega
  ·obtain rfl:j=k:=by have:=HK.out;omega
   have d0:decide (j<j)=false:=decide_eq_false (by omega);have d1:decide ((j:Int)<j)=false:=decide_eq_false (by omega);have C0:=hid (HRD.out _ _ (HROW.out.ints (by rw[K8];have:=HK.out;omega)));go_wp2_with((with_reducible refine C0.out.mono ?_);rintro e w1 ⟨rfl,rfl⟩)
   go_ret;exact⟨rfl,HRL.out,HBT.out⟩
end Go.Proofs.YtajljbmeaeeknaaGreat
namespace Go.Proofs.YtajljbmeaeeknaaGreat.Wd
def pw(n:Int):Int:=2^n.toNat
def fit(n a:Int):Bool:=decide (a<pw n)
def sgn(n a:Int):Int:=if pw (n-1)≤a then a-pw n else a
def wr(n x:Int):Int:=x%pw n
def lo(x j:Nat):Int:=((x%2^j:Nat):Int)
def has(op n a b:Int):Bool:=
 if op=4∨op=5 then decide (b≠0)else
 if op=6∨op=7 then decide (b≠0∧¬(sgn n a= -pw (n-1)∧sgn n b= -1))else
 if op=11∨op=12∨op=13 then decide (b<n)else true
theorem A6D(n a:Int):∃k,sgn n a=a+k*pw n:=by
 unfold sgn
 split
 ·exact⟨-1,by omega⟩
 ·exact⟨0,by omega⟩
theorem wr_mul(n a b:Int):wr n (sgn n a*sgn n b)=wr n (a*b):=by
 obtain⟨k,hk⟩:=A6D n a;obtain⟨l,hl⟩:=A6D n b;unfold wr;rw[hk,hl];have:(a+k*pw n)*(b+l*pw n)=a*b+(a*l+k*b+k*l*pw n)*pw n:=by
  simp only[Int.add_mul,Int.mul_add,Int.mul_assoc,Int.mul_comm,Int.mul_left_comm];omega
 rw[this,Int.add_mul_emod_self_right]
theorem mul_bd{x y m:Int}(h1: -m≤x)(h2:x≤m)(h3: -m≤y)(h4:y≤m): -(m*m)≤x*y∧x*y≤m*m:=by
 have hx:x.natAbs≤m.natAbs:=by omega
 have hy:y.natAbs≤m.natAbs:=by omega
 have h:(x*y).natAbs≤(m*m).natAbs:=by
  rw[Int.natAbs_mul,Int.natAbs_mul];exact Nat.mul_le_mul hx hy
 have hm:0≤m*m:=Int.mul_nonneg (by omega) (by omega);omega
theorem tdiv_bd{x y:Int}(h1: -2147483648≤x)(h2:x≤2147483647): -2147483648≤x.tdiv y∧x.tdiv y≤2147483648:=by
 have h:=Int.natAbs_tdiv_le_natAbs x y;omega
theorem tmod_bd{x y:Int}(h1: -2147483648≤x)(h2:x≤2147483647): -2147483648≤x.tmod y∧x.tmod y≤2147483648:=by
 have h:(x.tmod y).natAbs≤x.natAbs:=by rw[Int.natAbs_tmod];exact Nat.mod_le _ _
 omega
/-! ### lanes: digits of the base L -/
def A9y(L:Int)(d:Nat→Int):Nat→Int
 |0=>0
 |j+1=>A9y L d j+d j*L^j
def B5p(op l a b:Int)(j:Nat):Int:=wr l (if op=20 then wr l (a / pw l^j)-wr l (b / pw l^j)else wr l (a / pw l^j)+wr l (b / pw l^j))
def lanes(op n l a b:Int):Int:=A9y (pw l) (B5p op l a b) (n / l).toNat
theorem y7{t:Nat}{out z:Int}(h1:0≤out)(h2:out<2^t)(h3:0≤z)(h4:z*2^t≤4294967295)(h5:out≤4294967295):bits .or .u32 out (z*2^t)=out+z*2^t:=by
 obtain⟨o,rfl⟩:=Int.eq_ofNat_of_zero_le h1;obtain⟨y,rfl⟩:=Int.eq_ofNat_of_zero_le h3;have e:(y:Int)*2^t=((y*2^t:Nat):Int):=by rw[Int.natCast_mul,Int.natCast_pow];rfl
 have ho:o<2^t:=by
  have e3:((2^t:Nat):Int)=2^t:=by rw[Int.natCast_pow];rfl
  omega
 rw[e]at h4⊢;have hy:y*2^t≤4294967295:=Int.ofNat_le.1 h4;by_cases hy0:y=0
 ·subst hy0;rw[u32_or _ _ (by omega) (by omega) (by omega) (by omega)];simp
 ·have:2^t≤y*2^t:=Nat.le_mul_of_pos_left _ (by omega);rw[u32_or _ _ (by omega) (by omega) (by omega) (by omega)];simp only[Int.toNat_natCast];rw[Nat.or_comm,nat_join t _ _ (Nat.mul_mod_left _ _) ho];omega
end Go.Proofs.YtajljbmeaeeknaaGreat.Wd
namespace Go.Proofs.YtajljbmeaeeknaaGreat
open Go.RowKit Wd
set_option linter.unusedVariables false
set_option linter.unusedSimpArgs false
def rdJ(l:List Int):Nat→Int
 |0=>0
 |j+1=>rdJ l j+l.getD j 0*2^(8*j)
theorem R3{l:List Int}(h:Byt l)(j:Nat):0≤rdJ l j∧rdJ l j<2^(8*j):=by
 induction j with
 |zero=>simp[rdJ]
 |succ j ih=>
  have h1:=h j;have h2:(0:Int)<2^(8*j):=Int.pow_pos (by decide);have h3:(2:Int)^(8*(j+1))=2^(8*j)*256:=by rw[show 8*(j+1)=8*j+8 by omega,Int.pow_add];rfl
  have h4:0≤l.getD j 0*2^(8*j):=Int.mul_nonneg h1.1 (Int.le_of_lt h2);have h5:l.getD j 0*2^(8*j)≤255*2^(8*j):=Int.mul_le_mul_of_nonneg_right (by omega) (Int.le_of_lt h2);simp only[rdJ];omega
def BZ(j:Nat)(q:Value):Prop:=(j=0∧q= .int .i64 0)∨(j=1∧q= .int .i64 1)∨(j=2∧q= .int .i64 2)∨(j=3∧q= .int .i64 3)∨(j=4∧q= .int .i64 4)
theorem O5(l:List Int)(hb:Byt l)(hl:l.length≤4)(v:Value)(w:World)(hv:Ints .u8 w v l):Calls prog 161 #[v] w fun e w'=>e= .returned (.int .u32 (rdJ l l.length))∧w=w':=by
 have HV:=hid hv;have HLE:=hid hl;have HBY:=hid hb;obtain⟨a,c,rfl,hm1,hm⟩:=hv.shape;clear hv hl hb;go_enter func161,ntmps161;go_wp2_with fail
 go_loopw[3,8] (fun nv jv wr=>∃j:Nat,j≤l.length∧BZ j jv∧nv= .int .u32 (rdJ l j)∧w=wr) (fun _ jv _=>4-(intOf jv).toNat)
 case atStart=>exact⟨0,Nat.zero_le _,.inl ⟨rfl,rfl⟩,rfl,rfl⟩
 case round=>
  obtain⟨j,hj,hz,rfl,rfl⟩:=hrel;have HLL:Hid (rdJ l l.length=rdJ l l.length):=hid rfl;rcases hz with⟨rfl,rfl⟩|⟨rfl,rfl⟩|⟨rfl,rfl⟩|⟨rfl,rfl⟩|⟨rfl,rfl⟩
  ·have hbd:=R3 HBY.out 0;obtain⟨hb1,hb2⟩:=hbd;by_cases hlt:0<l.length
   ·have d1:decide ((0:Int)<l.length)=true:=decide_eq_true (by omega);have hx:=HV.out.at hlt;obtain⟨b,q,c',e,h1,h2,h3⟩:=hx;cases e;rw[Nat.add_zero]at h3;have hby:=HBY.out 0;obtain⟨hy0,hy1⟩:=hby;have HS:Hid (rdJ l 1=rdJ l 0+l.getD 0 0*1):=hid (by simp[rdJ]);have HJ:∀n x:Int,0≤n→n<1→0≤x→x<256→bits .or .u32 n (x)=n+x*1:=fun n x q1 q2 q3 q4=>by have:=y7 (t:=0) q1 q2 q3 (by omega) (by omega);simpa using this
    have hjj:=HJ (rdJ l 0) (l.getD 0 0) hb1 (by simpa using hb2) hy0 hy1;clear HJ;generalize rdJ l 0=n at*
    generalize l.getD 0 0=x at*
    go_wp2_with fail
    go_roundw
    case rel=>exact⟨1,hlt,by simp[BZ],by simp[HS.out],trivial⟩
    case measure=>simp[intOf]
   ·have d1:decide ((0:Int)<l.length)=false:=decide_eq_false (by omega);have HE:Hid (l.length=0):=hid (by omega);go_wp2_with fail
    go_ret;exact⟨by rw[HE.out];rfl,rfl⟩
  ·have hbd:=R3 HBY.out 1;obtain⟨hb1,hb2⟩:=hbd;by_cases hlt:1<l.length
   ·have d1:decide ((1:Int)<l.length)=true:=decide_eq_true (by omega);have hx:=HV.out.at hlt;obtain⟨b,q,c',e,h1,h2,h3⟩:=hx;cases e
    skip
    have hby:=HBY.out 1;obtain⟨hy0,hy1⟩:=hby;have HS:Hid (rdJ l 2=rdJ l 1+l.getD 1 0*256):=hid (by simp[rdJ]);have HJ:∀n x:Int,0≤n→n<256→0≤x→x<256→bits .or .u32 n (x*256)=n+x*256:=fun n x q1 q2 q3 q4=>y7 (t:=8) q1 q2 q3 (by omega) (by omega)
    have hjj:=HJ (rdJ l 1) (l.getD 1 0) hb1 (by simpa using hb2) hy0 hy1;clear HJ;generalize rdJ l 1=n at*
    generalize l.getD 1 0=x at*
    go_wp2_with fail
    go_roundw
    case rel=>exact⟨2,hlt,by simp[BZ],by simp[HS.out],trivial⟩
    case measure=>simp[intOf]
   ·have d1:decide ((1:Int)<l.length)=false:=decide_eq_false (by omega);have HE:Hid (l.length=1):=hid (by omega);go_wp2_with fail
    go_ret;exact⟨by rw[HE.out];rfl,rfl⟩
  ·have hbd:=R3 HBY.out 2;obtain⟨hb1,hb2⟩:=hbd;by_cases hlt:2<l.length
   ·have d1:decide ((2:Int)<l.length)=true:=decide_eq_true (by omega);have hx:=HV.out.at hlt;obtain⟨b,q,c',e,h1,h2,h3⟩:=hx;cases e
    skip
    have hby:=HBY.out 2;obtain⟨hy0,hy1⟩:=hby;have HS:Hid (rdJ l 3=rdJ l 2+l.getD 2 0*65536):=hid (by simp[rdJ]);have HJ:∀n x:Int,0≤n→n<65536→0≤x→x<256→bits .or .u32 n (x*65536)=n+x*65536:=fun n x q1 q2 q3 q4=>y7 (t:=16) q1 q2 q3 (by omega) (by omega)
    have hjj:=HJ (rdJ l 2) (l.getD 2 0) hb1 (by simpa using hb2) hy0 hy1;clear HJ;generalize rdJ l 2=n at*
    generalize l.getD 2 0=x at*
    go_wp2_with fail
    go_roundw
    case rel=>exact⟨3,hlt,by simp[BZ],by simp[HS.out],trivial⟩
    case measure=>simp[intOf]
   ·have d1:decide ((2:Int)<l.length)=false:=decide_eq_false (by omega);have HE:Hid (l.length=2):=hid (by omega);go_wp2_with fail
    go_ret;exact⟨by rw[HE.out];rfl,rfl⟩
  ·have hbd:=R3 HBY.out 3;obtain⟨hb1,hb2⟩:=hbd;by_cases hlt:3<l.length
   ·have d1:decide ((3:Int)<l.length)=true:=decide_eq_true (by omega);have hx:=HV.out.at hlt;obtain⟨b,q,c',e,h1,h2,h3⟩:=hx;cases e
    skip
    have hby:=HBY.out 3;obtain⟨hy0,hy1⟩:=hby;have HS:Hid (rdJ l 4=rdJ l 3+l.getD 3 0*16777216):=hid (by simp[rdJ]);have HJ:∀n x:Int,0≤n→n<16777216→0≤x→x<256→bits .or .u32 n (x*16777216)=n+x*16777216:=fun n x q1 q2 q3 q4=>y7 (t:=24) q1 q2 q3 (by omega) (by omega)
    have hjj:=HJ (rdJ l 3) (l.getD 3 0) hb1 (by simpa using hb2) hy0 hy1;clear HJ;generalize rdJ l 3=n at*
    generalize l.getD 3 0=x at*
    go_wp2_with fail
    go_roundw
    case rel=>exact⟨4,hlt,by simp[BZ],by simp[HS.out],trivial⟩
    case measure=>simp[intOf]
   ·have d1:decide ((3:Int)<l.length)=false:=decide_eq_false (by omega);have HE:Hid (l.length=3):=hid (by omega);go_wp2_with fail
    go_ret;exact⟨by rw[HE.out];rfl,rfl⟩
  ·have hbd:=R3 HBY.out 4;obtain⟨hb1,hb2⟩:=hbd;by_cases hlt:4<l.length
   ·have:=HLE.out;omega
   ·have d1:decide ((4:Int)<l.length)=false:=decide_eq_false (by omega);have HE:Hid (l.length=4):=hid (by omega);go_wp2_with fail
    go_ret;exact⟨by rw[HE.out];rfl,rfl⟩
end Go.Proofs.YtajljbmeaeeknaaGreat
namespace Go.Proofs.YtajljbmeaeeknaaGreat
open Go.RowKit
set_option linter.unusedVariables false
set_option linter.unusedSimpArgs false
theorem A6L(k:Nat):∀l:List Int,rdB l (k+1)=rdB l k+l.getD k 0*2^(8*k):=by
 induction k with
 |zero=>intro l;cases l<;>simp[rdB]
 |succ k ih=>
  intro l;cases l with
  |nil=>simp[rdB]
  |cons b r=>
   have e:(2:Int)^(8*(k+1))=2^(8*k)*256:=by rw[show 8*(k+1)=8*k+8 by omega,Int.pow_add];rfl
   rw[rdB,ih r,rdB,List.getD_cons_succ,e,Int.mul_add,←Int.mul_assoc,Int.mul_comm _ (256:Int),Int.add_assoc,Int.mul_comm 256 (r.getD k 0),Int.mul_assoc (r.getD k 0)]
theorem A8a(l:List Int)(k:Nat):rdJ l k=rdB l k:=by
 induction k with
 |zero=>simp[rdJ,rdB]
 |succ k ih=>rw[rdJ,ih,A6L]
theorem A4U{l l':List Int}(k:Nat)(h:∀i,i<k→l.getD i 0=l'.getD i 0):rdJ l k=rdJ l' k:=by
 induction k with
 |zero=>rfl
 |succ k ih=>rw[rdJ,rdJ,ih (fun i hi=>h i (by omega)),h k (by omega)]
theorem A3t(l:List Int)(n k:Nat):∀i,i<k→(rdN l n k).getD i 0=l.getD (n+i) 0:=by
 induction k with
 |zero=>intro i hi;omega
 |succ k ih=>
  intro i hi;rw[rdN];by_cases h:i<k
  ·rw[←ih i h];simp[List.getD,List.getElem?_append_left (show i<(rdN l n k).length by rw[K8];omega)]
  ·obtain rfl:i=k:=by omega
   simp[List.getD,List.getElem?_append_right (show(rdN l n i).length≤i by rw[K8];omega),K8]
theorem A0o(l:List Int)(n k:Nat):rdJ (rdN l n k) (rdN l n k).length=rdB (l.drop n) k:=by
 rw[K8,←A8a];exact A4U k fun i hi=>by rw[A3t l n k i hi];simp[List.getD,List.getElem?_drop]
theorem A0p{l:List Int}(h:Byt l)(n k:Nat):Byt (rdN l n k):=by
 intro i;by_cases hi:i<k
 ·rw[A3t l n k i hi];exact h _
 ·rw[show(rdN l n k).getD i 0=0 by simp[List.getD,List.getElem?_eq_none (show(rdN l n k).length≤i by rw[K8];omega)]];decide
theorem Z9(v:Value)(B n k:Nat)(l:List Int)(w:World)(h:RdL w B v l n)(hb:Byt l)(hk:k≤4):
  Calls prog 126 #[.pointer (some ⟨B,0,none⟩),.int .i64 k] w fun e w'=>e= .returned (.int .u32 (rdB (l.drop n) k))∧RdL w' B v l (n+k)∧But B w w':=
 A4T v B n k l w h hk _ fun v1 w1 h1=>by
  have:=O5 (rdN l n k) (A0p hb n k) (by rw[K8];omega) v1 w1 h1;rw[A0o]at this;exact this
theorem B1A{l:List Int}(h:Byt l)(n:Nat):0≤rdB (l.drop n) 4∧rdB (l.drop n) 4<4294967296:=by
 have:=R3 (A0p h n 4) 4;rw[show rdJ (rdN l n 4) 4=rdB (l.drop n) 4 by rw[←A0o l n 4,K8]]at this;exact this
theorem Q8(v:Value)(B n:Nat)(l:List Int)(w:World)(h:RdL w B v l n)(hb:Byt l):Calls prog 128 #[.pointer (some ⟨B,0,none⟩)] w fun e w'=>e= .returned (.int .i64 (G2 (rdB (l.drop n) 4)))∧RdL w' B v l (n+4)∧But B w w':=by
 have C1:=Z9 v B n 4 l w h hb (by decide);rw[show((4:Nat):Int)=4 from rfl]at C1;have C0:=hid C1;clear C1;have hbd:=B1A hb n;obtain⟨hb1,hb2⟩:=hbd;have HS:Hid (∀x:Int,0≤x→x<4294967296→IntKind.i32.wrap x=G2 x):=hid fun x h1 h2=>by
  unfold G2;simp only[IntKind.wrap_i32];split<;>omega
 have hs:=HS.out _ hb1 hb2;have HW:Hid (wrap64 (G2 (rdB (l.drop n) 4))=G2 (rdB (l.drop n) 4)):=hid (IntWalk.wrap64_in _ (by unfold G2;split<;>omega));clear h hb;go_enter func128,ntmps128;go_wp2_with((with_reducible refine C0.out.mono ?_);rintro e w1 ⟨rfl,hr1,hb1⟩;have HR1:=hid hr1;have HB1:=hid hb1;clear hr1 hb1)
 go_ret;exact⟨congrArg (fun n=>Ending.returned (.int .i64 n)) HW.out,HR1.out,HB1.out⟩
theorem B4O(w:World):Calls prog 123 #[.int .u8 1] w fun e w'=>e= .returned (.tuple #[.int .i64 7,.bool true])∧w=w':=by
 go_enter func123,ntmps123;go_wp2_with fail
 go_ret2
 exact⟨rfl,rfl⟩
theorem B4N(w:World):Calls prog 123 #[.int .u8 9] w fun e w'=>e= .returned (.tuple #[.int .i64 8,.bool true])∧w=w':=by
 go_enter func123,ntmps123;go_wp2_with fail
 go_ret2
 exact⟨rfl,rfl⟩
theorem B1r(w:World):Calls prog 123 #[.int .u8 33] w fun e w'=>e= .returned (.tuple #[.int .i64 9,.bool true])∧w=w':=by
 go_enter func123,ntmps123;go_wp2_with fail
 go_ret2
 exact⟨rfl,rfl⟩
theorem B1q(w:World):Calls prog 123 #[.int .u8 41] w fun e w'=>e= .returned (.tuple #[.int .i64 10,.bool true])∧w=w':=by
 go_enter func123,ntmps123;go_wp2_with fail
 go_ret2
 exact⟨rfl,rfl⟩
theorem B1p(w:World):Calls prog 123 #[.int .u8 49] w fun e w'=>e= .returned (.tuple #[.int .i64 11,.bool true])∧w=w':=by
 go_enter func123,ntmps123;go_wp2_with fail
 go_ret2
 exact⟨rfl,rfl⟩
theorem B1o(w:World):Calls prog 123 #[.int .u8 57] w fun e w'=>e= .returned (.tuple #[.int .i64 12,.bool true])∧w=w':=by
 go_enter func123,ntmps123;go_wp2_with fail
 go_ret2
 exact⟨rfl,rfl⟩
theorem A8j(w:World):Calls prog 123 #[.int .u8 133] w fun e w'=>e= .returned (.tuple #[.int .i64 13,.bool true])∧w=w':=by
 go_enter func123,ntmps123;go_wp2_with fail
 go_ret2
 exact⟨rfl,rfl⟩
theorem A8i(w:World):Calls prog 123 #[.int .u8 144] w fun e w'=>e= .returned (.tuple #[.int .i64 36,.bool true])∧w=w':=by
 go_enter func123,ntmps123;go_wp2_with fail
 go_ret2
 exact⟨rfl,rfl⟩
theorem A8h(w:World):Calls prog 123 #[.int .u8 153] w fun e w'=>e= .returned (.tuple #[.int .i64 28,.bool true])∧w=w':=by
 go_enter func123,ntmps123;go_wp2_with fail
 go_ret2
 exact⟨rfl,rfl⟩
theorem A8g(w:World):Calls prog 123 #[.int .u8 244] w fun e w'=>e= .returned (.tuple #[.int .i64 34,.bool true])∧w=w':=by
 go_enter func123,ntmps123;go_wp2_with fail
 go_ret2
 exact⟨rfl,rfl⟩
theorem B1n(c:Int)(w:World)(h1:(c==1)=false)(h9:(c==9)=false)(h33:(c==33)=false)(h41:(c==41)=false)(h49:(c==49)=false)(h57:(c==57)=false)(h133:(c==133)=false)(h144:(c==144)=false)(h153:(c==153)=false)(h244:(c==244)=false):Calls prog 123 #[.int .u8 c] w fun e w'=>e= .returned (.tuple #[.int .i64 0,.bool false])∧w=w':=by
 go_enter func123,ntmps123;go_wp2_with fail
 go_ret2
 exact⟨rfl,rfl⟩
theorem A3u(c:Int)(w:World)(h:0≤J1 c):Calls prog 123 #[.int .u8 c] w fun e w'=>e= .returned (.tuple #[.int .i64 (J1 c),.bool true])∧w=w':=by
 have hc:c=1∨c=9∨c=33∨c=41∨c=49∨c=57∨c=133∨c=144∨c=153∨c=244:=by unfold J1 at h;omega
 rcases hc with rfl|rfl|rfl|rfl|rfl|rfl|rfl|rfl|rfl|rfl
 ·exact B4O w
 ·exact B4N w
 ·exact B1r w
 ·exact B1q w
 ·exact B1p w
 ·exact B1o w
 ·exact A8j w
 ·exact A8i w
 ·exact A8h w
 ·exact A8g w
theorem G5(c:Int)(w:World)(h:¬0≤J1 c):Calls prog 123 #[.int .u8 c] w fun e w'=>e= .returned (.tuple #[.int .i64 0,.bool false])∧w=w':=by
 have hc:c≠1∧c≠9∧c≠33∧c≠41∧c≠49∧c≠57∧c≠133∧c≠144∧c≠153∧c≠244:=by
  refine⟨?_,?_,?_,?_,?_,?_,?_,?_,?_,?_⟩<;>(rintro rfl;exact h (by decide))
 obtain⟨h1,h9,h33,h41,h49,h57,h133,h144,h153,h244⟩:=hc;exact B1n c w (by simpa using h1) (by simpa using h9) (by simpa using h33) (by simpa using h41) (by simpa using h49) (by simpa using h57) (by simpa using h133) (by simpa using h144) (by simpa using h153) (by simpa using h244)
theorem A7z(n:Int)(h0:0≤n)(h1:n<8)(w:World):(Instr.index 246 (.agg #[.int .i64 14,.int .i64 15,.int .i64 (-1),.int .i64 (-1),.int .i64 16,.int .i64 17,.int .i64 18,.int .i64 19]) (.int .u8 n)).run prog w= .ok (.int .i64 (D1 129 n)) w:=by
 rcases(show n=0∨n=1∨n=2∨n=3∨n=4∨n=5∨n=6∨n=7 by omega)with rfl|rfl|rfl|rfl|rfl|rfl|rfl|rfl<;>kernel_rfl
theorem X9(n:Int)(w:World)(h0:0≤n)(h1:n<8):Calls prog 127 #[.int .u8 129,.int .u8 n] w fun e w'=>e= .returned (.tuple #[.int .i64 (D1 129 n),.bool (decide (0≤D1 129 n))])∧w=w':=by
 have hx:=A7z n h0 h1;generalize D1 129 n=r at*
 go_enter func127,ntmps127;go_wp2_with fail
 go_ret2
 exact⟨rfl,rfl⟩
theorem A7y(n:Int)(h0:0≤n)(h1:n<8)(w:World):(Instr.index 246 (.agg #[.int .i64 14,.int .i64 15,.int .i64 (-1),.int .i64 (-1),.int .i64 16,.int .i64 17,.int .i64 18,.int .i64 19]) (.int .u8 n)).run prog w= .ok (.int .i64 (D1 131 n)) w:=by
 rcases(show n=0∨n=1∨n=2∨n=3∨n=4∨n=5∨n=6∨n=7 by omega)with rfl|rfl|rfl|rfl|rfl|rfl|rfl|rfl<;>kernel_rfl
theorem X8(n:Int)(w:World)(h0:0≤n)(h1:n<8):Calls prog 127 #[.int .u8 131,.int .u8 n] w fun e w'=>e= .returned (.tuple #[.int .i64 (D1 131 n),.bool (decide (0≤D1 131 n))])∧w=w':=by
 have hx:=A7y n h0 h1;generalize D1 131 n=r at*
 go_enter func127,ntmps127;go_wp2_with fail
 go_ret2
 exact⟨rfl,rfl⟩
theorem A7x(n:Int)(h0:0≤n)(h1:n<8)(w:World):(Instr.index 246 (.agg #[.int .i64 (-1),.int .i64 (-1),.int .i64 (-1),.int .i64 (-1),.int .i64 21,.int .i64 22,.int .i64 (-1),.int .i64 23]) (.int .u8 n)).run prog w= .ok (.int .i64 (D1 211 n)) w:=by
 rcases(show n=0∨n=1∨n=2∨n=3∨n=4∨n=5∨n=6∨n=7 by omega)with rfl|rfl|rfl|rfl|rfl|rfl|rfl|rfl<;>kernel_rfl
theorem A0b(n:Int)(w:World)(h0:0≤n)(h1:n<8):Calls prog 127 #[.int .u8 211,.int .u8 n] w fun e w'=>e= .returned (.tuple #[.int .i64 (D1 211 n),.bool (decide (0≤D1 211 n))])∧w=w':=by
 have hx:=A7x n h0 h1;generalize D1 211 n=r at*
 go_enter func127,ntmps127;go_wp2_with fail
 go_ret2
 exact⟨rfl,rfl⟩
theorem A7w(n:Int)(h0:0≤n)(h1:n<8)(w:World):(Instr.index 246 (.agg #[.int .i64 (-1),.int .i64 (-1),.int .i64 24,.int .i64 25,.int .i64 (-1),.int .i64 (-1),.int .i64 26,.int .i64 27]) (.int .u8 n)).run prog w= .ok (.int .i64 (D1 247 n)) w:=by
 rcases(show n=0∨n=1∨n=2∨n=3∨n=4∨n=5∨n=6∨n=7 by omega)with rfl|rfl|rfl|rfl|rfl|rfl|rfl|rfl<;>kernel_rfl
theorem A0a(n:Int)(w:World)(h0:0≤n)(h1:n<8):Calls prog 127 #[.int .u8 247,.int .u8 n] w fun e w'=>e= .returned (.tuple #[.int .i64 (D1 247 n),.bool (decide (0≤D1 247 n))])∧w=w':=by
 have hx:=A7w n h0 h1;generalize D1 247 n=r at*
 go_enter func127,ntmps127;go_wp2_with fail
 go_ret2
 exact⟨rfl,rfl⟩
end Go.Proofs.YtajljbmeaeeknaaGreat
